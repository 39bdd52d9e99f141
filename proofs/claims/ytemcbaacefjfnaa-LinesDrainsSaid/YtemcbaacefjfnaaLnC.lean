/- heap.up and heap.down over the queue of package lines. -/
import Derived.Test.YtemcbaacefjfnaaLnB
import Derived.Test.YtemcbaacefjfnaaLnP
set_option linter.unusedVariables false
set_option linter.unusedSimpArgs false
namespace Go.Proofs.Ytemcbaacefjfnaa
open Go.RowKit Go.Proofs.YtemcbaacefjfnaaW.PrintWords Go.Proofs.YtemcbaacefjfnaaW.PrintLast

/-- the interface that holds the queue -/
abbrev hq (q : Nat) : Value := .iface 63 (.pointer (some ⟨q, 0, none⟩))

/-- what a walk needs of the queue at a world: its cell and its row -/
structure QW (w : World) (q g cap : Nat) (xs : List Wt) : Prop where
  ne : g ≠ q
  few : xs.length ≤ 1000000
  cell : Blk w q #[.slice (some ⟨g, 0, none⟩) xs.length cap] 65
  row : QB w g cap xs

theorem QW.swap {w w' : World} {q g cap : Nat} {xs ys : List Wt} (h : QW w q g cap xs) (hl : ys.length = xs.length) (hq : QB w' g cap ys) (hg : w.grownBy w' (some g)) : QW w' q g cap ys :=
  ⟨h.ne, by rw [hl]; exact h.few, by rw [hl]; exact (hg.block q h.cell.lt (fun e => h.ne (Option.some.inj e).symm)).trans h.cell, hq⟩
theorem QW.drewN {w : World} {q g cap : Nat} {xs : List Wt} (h : QW w q g cap xs) (n : Nat) : QW (w.drewN n) q g cap xs := ⟨h.ne, h.few, h.cell, h.row⟩
theorem grownBy_drewN (w : World) (n : Nat) (r : Option Nat) : w.grownBy (w.drewN n) r := ⟨rfl, rfl, rfl, Nat.le_refl _, fun _ _ _ => rfl⟩

theorem QW.less {w : World} {q g cap : Nat} {xs : List Wt} (h : QW w q g cap xs) (i j : Nat) (hi : i < xs.length) (hj : j < xs.length) :
    Calls Try.prog 48 #[.slice (some ⟨g, 0, none⟩) xs.length cap, .int .i64 i, .int .i64 j] w fun e w' => e = .returned (.bool (lessW (lat xs i) (lat xs j))) ∧ QW w' q g cap xs ∧ w.grownBy w' (some g) := by
  refine (less_any g cap xs.length i j (lat xs i) (lat xs j) w hi hj h.few ?_ ?_ ?_ ?_).mono ?_
  · rw [h.row.cell i 3 hi (by omega), lat_eq hi]; rfl
  · rw [h.row.cell i 4 hi (by omega), lat_eq hi]; rfl
  · rw [h.row.cell j 3 hj (by omega), lat_eq hj]; rfl
  · rw [h.row.cell j 4 hj (by omega), lat_eq hj]; rfl
  · rintro e w' ⟨rfl, m, rfl⟩
    exact ⟨rfl, h.drewN m, grownBy_drewN _ _ _⟩
theorem QW.swaps {w : World} {q g cap : Nat} {xs : List Wt} (h : QW w q g cap xs) (i j : Nat) (hi : i < xs.length) (hj : j < xs.length) :
    Calls Try.prog 49 #[.slice (some ⟨g, 0, none⟩) xs.length cap, .int .i64 i, .int .i64 j] w fun e w' => e = .returned (.tuple #[]) ∧ QW w' q g cap (sw xs i j) ∧ w.grownBy w' (some g) := by
  refine (swap_any g cap i j xs _ _ w hi hj (lat_eq hi) (lat_eq hj) h.row).mono ?_
  rintro e w' ⟨rfl, h1, h2⟩
  exact ⟨rfl, h.swap (sw_length _ _ _) h1 h2, h2⟩
theorem QW.mless {w : World} {q g cap : Nat} {xs : List Wt} (h : QW w q g cap xs) : (method 204 63 (.pointer (some ⟨q, 0, none⟩)) "Less").run Try.prog w = .ok (48, .slice (some ⟨g, 0, none⟩) xs.length cap) w := m_less _ _ _ (by rw [h.cell.cell]; rfl)
theorem QW.mswap {w : World} {q g cap : Nat} {xs : List Wt} (h : QW w q g cap xs) : (method 204 63 (.pointer (some ⟨q, 0, none⟩)) "Swap").run Try.prog w = .ok (49, .slice (some ⟨g, 0, none⟩) xs.length cap) w := m_swap _ _ _ (by rw [h.cell.cell]; rfl)
theorem QW.mlen {w : World} {q g cap : Nat} {xs : List Wt} (h : QW w q g cap xs) : (method 204 63 (.pointer (some ⟨q, 0, none⟩)) "Len").run Try.prog w = .ok (41, .slice (some ⟨g, 0, none⟩) xs.length cap) w := m_len _ _ _ (by rw [h.cell.cell]; rfl)

theorem tdiv_parent (k : Nat) : Int.tdiv ((k : Int) - 1) 2 = (((k - 1) / 2 : Nat) : Int) := by
  cases k with
  | zero => rfl
  | succ n => rw [show ((n + 1 : Nat) : Int) - 1 = (n : Int) by omega, Int.tdiv_eq_ediv_of_nonneg (by omega)]; simp

set_option maxRecDepth 100000 in
set_option maxHeartbeats 2000000 in
theorem up_any (q g cap j : Nat) (xs : List Wt) (w0 : World) (hW : QW w0 q g cap xs) (hU : UpInv xs xs.length j) :
    Calls Try.prog 46 #[hq q, .int .i64 j] w0 fun e w' => e = .returned (.tuple #[]) ∧ ∃ ys, QW w' q g cap ys ∧ ys.Perm xs ∧ HeapN ys ys.length ∧ w0.grownBy w' (some g) := by
  have H0 := Lib.hid hW
  have H1 := Lib.hid hU
  have H2 := Lib.hid hW.few
  clear hW hU
  go_enter Try.func46, Try.ntmps46
  go_wp2_with fail
  go_loopw [1] (fun i wr => ∃ (k : Nat) (ys : List Wt), i = .int .i64 k ∧ Hid (QW wr q g cap ys) ∧ Hid (ys.Perm xs) ∧ Hid (UpInv ys ys.length k) ∧ Hid (w0.grownBy wr (some g))) (fun i _ => (intOf i).toNat)
  case atStart => exact ⟨j, xs, rfl, H0, Lib.hid (List.Perm.refl _), H1, Lib.hid (grownBy_drewN _ 0 _)⟩
  case round =>
    obtain ⟨k, ys, rfl, R0, R1, R2, R3⟩ := hrel
    have hk := R2.out.1
    have hf := R0.out.few
    have tp := tdiv_parent k
    obtain ⟨p, hp⟩ : ∃ p, p = (k - 1) / 2 := ⟨_, rfl⟩
    rw [← hp] at tp
    by_cases hz : k = 0
    · subst hz
      have hp0 : p = 0 := by omega
      subst hp0
      clear hp
      go_wp2
      go_end0
      exact ⟨rfl, ys, R0.out, R1.out, up_stop R2.out (.inl rfl), R3.out⟩
    · skip
      have hpk : p < k := by omega
      have HP := Lib.hid hp
      clear hp
      have hm := R0.out.mless
      go_wp2_with fail
      refine (R0.out.less k p hk (by omega)).mono ?_
      rintro e w1 ⟨rfl, a1, a2⟩
      clear hm
      have A1 := Lib.hid a1
      have A2 := Lib.hid (R3.out.trans' a2)
      clear a1 a2
      cases hl : lessW (lat ys k) (lat ys p) with
      | false =>
        go_wp2
        go_end0
        exact ⟨rfl, ys, A1.out, R1.out, up_stop R2.out (.inr (by rw [← HP.out]; exact hl)), A2.out⟩
      | true =>
        have hm := A1.out.mswap
        go_wp2_with fail
        refine (A1.out.swaps p k (by omega) hk).mono ?_
        rintro e w2 ⟨rfl, b1, b2⟩
        clear hm
        have B1 := Lib.hid b1
        have B2 := Lib.hid (A2.out.trans' b2)
        clear b1 b2
        go_wp2
        go_roundw
        case rel =>
          refine ⟨p, sw ys p k, rfl, B1, Lib.hid ((sw_perm ys p k (by omega) hk).trans R1.out), Lib.hid ?_, B2⟩
          rw [sw_length, HP.out]
          exact up_step (Nat.le_refl _) R2.out (by omega) (by rw [← HP.out]; exact hl)
        case measure => simp [intOf]; omega

set_option maxRecDepth 100000 in
set_option maxHeartbeats 4000000 in
theorem down_any (q g cap n : Nat) (xs : List Wt) (w0 : World) (hW : QW w0 q g cap xs) (hn : n < xs.length) (hU : DownInv xs n 0) :
    Calls Try.prog 47 #[hq q, .int .i64 0, .int .i64 n] w0 fun e w' => (∃ b, e = .returned (.bool b)) ∧ ∃ ys, QW w' q g cap ys ∧ ys.Perm xs ∧ HeapN ys n ∧ (∀ d, n ≤ d → lat ys d = lat xs d) ∧ w0.grownBy w' (some g) := by
  have H0 := Lib.hid hW
  have H1 := Lib.hid hU
  clear hW hU
  go_enter Try.func47, Try.ntmps47
  go_wp2_with fail
  go_loopw [7] (fun i wr => ∃ (k : Nat) (ys : List Wt), i = .int .i64 k ∧ (k ≤ n) ∧ Hid (QW wr q g cap ys) ∧ Hid (ys.Perm xs) ∧ Hid (DownInv ys n k) ∧ Hid (∀ d, n ≤ d → lat ys d = lat xs d) ∧ Hid (w0.grownBy wr (some g))) (fun i _ => n - (intOf i).toNat)
  case atStart => exact ⟨0, xs, rfl, Nat.zero_le _, H0, Lib.hid (List.Perm.refl _), H1, Lib.hid (fun _ _ => rfl), Lib.hid (grownBy_drewN _ 0 _)⟩
  case round =>
    obtain ⟨k, ys, rfl, hk, R0, R1, R2, R5, R3⟩ := hrel
    have hf := R0.out.few
    have hlen : n < ys.length := by rw [R1.out.length_eq]; exact hn
    clear hn
    obtain ⟨c1, hc1⟩ : ∃ c1, c1 = 2 * k + 1 := ⟨_, rfl⟩
    obtain ⟨c2, hc2⟩ : ∃ c2, c2 = c1 + 1 := ⟨_, rfl⟩
    have t1 : 2 * (k : Int) + 1 = (c1 : Int) := by omega
    have t2 : (c1 : Int) + 1 = (c2 : Int) := by omega
    have l1 : k < c1 := by omega
    have l2 : c1 < c2 := by omega
    have l3 : c2 ≤ 3000000 := by omega
    by_cases h1 : n ≤ c1
    · have stop : ∀ c, 0 < c → c < n → (c - 1) / 2 = k → leW (lat ys k) (lat ys c) := by intro c _ _ _; omega
      have S := Lib.hid stop
      clear stop hc1 hc2 t2
      go_wp2
      go_ret
      exact ⟨⟨_, rfl⟩, ys, R0.out, R1.out, down_stop R2.out S.out, R5.out, R3.out⟩
    · have h1' : c1 < n := by omega
      have p1 : Hid ((c1 - 1) / 2 = k) := Lib.hid (by omega)
      have p2 : Hid ((c2 - 1) / 2 = k) := Lib.hid (by omega)
      have pk : Hid (∀ d, 0 < d → d < n → (d - 1) / 2 = k → d = c1 ∨ d = c2) := Lib.hid (by intro d _ _ _; omega)
      clear hc1 hc2 h1
      by_cases h2 : c2 < n
      · have hm := R0.out.mless
        go_wp2_with fail
        refine (R0.out.less c2 c1 (by omega) (by omega)).mono ?_
        rintro e w1 ⟨rfl, a1, a2⟩
        clear hm
        have A1 := Lib.hid a1
        have A2 := Lib.hid (R3.out.trans' a2)
        clear a1 a2
        cases hl2 : lessW (lat ys c2) (lat ys c1) with
        | true =>
          have M : Hid (∀ d, 0 < d → d < n → (d - 1) / 2 = k → leW (lat ys c2) (lat ys d)) := by
            refine Lib.hid ?_
            intro d d0 dn de
            rcases pk.out d d0 dn de with rfl | rfl
            · exact leW_of_less hl2
            · exact leW_refl _
          have hm := A1.out.mless
          go_wp2_with fail
          refine (A1.out.less c2 k (by omega) (by omega)).mono ?_
          rintro e w3 ⟨rfl, a1, a2⟩
          clear hm
          have C1 := Lib.hid a1
          have C2 := Lib.hid (A2.out.trans' a2)
          clear a1 a2
          cases hl : lessW (lat ys c2) (lat ys k) with
          | false =>
            go_wp2
            go_ret
            refine ⟨⟨_, rfl⟩, ys, C1.out, R1.out, down_stop R2.out ?_, R5.out, C2.out⟩
            intro d d0 dn de
            exact leW_trans hl (M.out d d0 dn de)
          | true =>
            have hm := C1.out.mswap
            go_wp2_with fail
            refine (C1.out.swaps k c2 (by omega) (by omega)).mono ?_
            rintro e w4 ⟨rfl, b1, b2⟩
            clear hm
            have D1 := Lib.hid b1
            have D2 := Lib.hid (C2.out.trans' b2)
            clear b1 b2
            go_wp2
            go_roundw
            case rel =>
              refine ⟨c2, sw ys k c2, rfl, by omega, D1, Lib.hid ((sw_perm ys k c2 (by omega) (by omega)).trans R1.out), Lib.hid ?_, Lib.hid ?_, D2⟩
              · exact down_step (by omega) R2.out (by omega) (by omega) p2.out hl M.out
              · intro d hd
                rw [sw_at _ _ _ _ (by omega) (by omega), if_neg (by omega), if_neg (by omega)]
                exact R5.out d hd
            case measure => simp [intOf]; omega
        | false =>
          have M : Hid (∀ d, 0 < d → d < n → (d - 1) / 2 = k → leW (lat ys c1) (lat ys d)) := by
            refine Lib.hid ?_
            intro d d0 dn de
            rcases pk.out d d0 dn de with rfl | rfl
            · exact leW_refl _
            · exact hl2
          have hm := A1.out.mless
          go_wp2_with fail
          refine (A1.out.less c1 k (by omega) (by omega)).mono ?_
          rintro e w3 ⟨rfl, a1, a2⟩
          clear hm
          have C1 := Lib.hid a1
          have C2 := Lib.hid (A2.out.trans' a2)
          clear a1 a2
          cases hl : lessW (lat ys c1) (lat ys k) with
          | false =>
            go_wp2
            go_ret
            refine ⟨⟨_, rfl⟩, ys, C1.out, R1.out, down_stop R2.out ?_, R5.out, C2.out⟩
            intro d d0 dn de
            exact leW_trans hl (M.out d d0 dn de)
          | true =>
            have hm := C1.out.mswap
            go_wp2_with fail
            refine (C1.out.swaps k c1 (by omega) (by omega)).mono ?_
            rintro e w4 ⟨rfl, b1, b2⟩
            clear hm
            have D1 := Lib.hid b1
            have D2 := Lib.hid (C2.out.trans' b2)
            clear b1 b2
            go_wp2
            go_roundw
            case rel =>
              refine ⟨c1, sw ys k c1, rfl, by omega, D1, Lib.hid ((sw_perm ys k c1 (by omega) (by omega)).trans R1.out), Lib.hid ?_, Lib.hid ?_, D2⟩
              · exact down_step (by omega) R2.out (by omega) (by omega) p1.out hl M.out
              · intro d hd
                rw [sw_at _ _ _ _ (by omega) (by omega), if_neg (by omega), if_neg (by omega)]
                exact R5.out d hd
            case measure => simp [intOf]; omega
      · have M : Hid (∀ d, 0 < d → d < n → (d - 1) / 2 = k → leW (lat ys c1) (lat ys d)) := by
          refine Lib.hid ?_
          intro d d0 dn de
          rcases pk.out d d0 dn de with rfl | rfl
          · exact leW_refl _
          · omega
        have hm := R0.out.mless
        go_wp2_with fail
        refine (R0.out.less c1 k (by omega) (by omega)).mono ?_
        rintro e w3 ⟨rfl, a1, a2⟩
        clear hm
        have C1 := Lib.hid a1
        have C2 := Lib.hid (R3.out.trans' a2)
        clear a1 a2
        cases hl : lessW (lat ys c1) (lat ys k) with
        | false =>
          go_wp2
          go_ret
          refine ⟨⟨_, rfl⟩, ys, C1.out, R1.out, down_stop R2.out ?_, R5.out, C2.out⟩
          intro d d0 dn de
          exact leW_trans hl (M.out d d0 dn de)
        | true =>
          have hm := C1.out.mswap
          go_wp2_with fail
          refine (C1.out.swaps k c1 (by omega) (by omega)).mono ?_
          rintro e w4 ⟨rfl, b1, b2⟩
          clear hm
          have D1 := Lib.hid b1
          have D2 := Lib.hid (C2.out.trans' b2)
          clear b1 b2
          go_wp2
          go_roundw
          case rel =>
            refine ⟨c1, sw ys k c1, rfl, by omega, D1, Lib.hid ((sw_perm ys k c1 (by omega) (by omega)).trans R1.out), Lib.hid ?_, Lib.hid ?_, D2⟩
            · exact down_step (by omega) R2.out (by omega) (by omega) p1.out hl M.out
            · intro d hd
              rw [sw_at _ _ _ _ (by omega) (by omega), if_neg (by omega), if_neg (by omega)]
              exact R5.out d hd
          case measure => simp [intOf]; omega

end Go.Proofs.Ytemcbaacefjfnaa
