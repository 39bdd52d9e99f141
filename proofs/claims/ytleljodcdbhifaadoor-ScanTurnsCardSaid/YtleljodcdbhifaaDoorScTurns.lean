/- The law ScanTurns, as the print tells it, answers yes. -/
import Derived.Test.YtleljodcdbhifaaDoorBa4
import Derived.Test.YtleljodcdbhifaaDoorHyTur
set_option linter.unusedVariables false
set_option linter.unusedSimpArgs false
namespace Go.Proofs.YtleljodcdbhifaaDoor
open Go.RowKit Go.Proofs.YtleljodcdbhifaaDoorW.PrintWords Go.Proofs.YtleljodcdbhifaaDoorW.PrintLast Go.Proofs.YtleljodcdbhifaaDoorW.PrintMore Hy
theorem fill_f {l : List (List S30)} (h1 : l.length ≤ 1000000) (h2 : ∀ c ∈ l, c.length ≤ 1000000) : scan_Fill.f l = some ((fillB l).1.L, (fillB l).1.T, (fillB l).1.W, (fillB l).1.H, (fillB l).1.rows, (fillB l).2) := if_pos ⟨h1, h2⟩
/-- the first points of a contour from another point on; turned around -/
def shN (c : List S30) (r n : Nat) : List S30 := (List.range n).map fun k => ptAt c (k + r)
def tuN (c : List S30) (n : Nat) : List S30 := (List.range n).map fun k => ptAt c (c.length - 1 - k)
theorem shN_succ (c : List S30) (r n : Nat) : shN c r (n + 1) = shN c r n ++ [ptAt c (n + r)] := by unfold shN; rw [List.range_succ, List.map_append]; rfl
theorem tuN_succ (c : List S30) (n : Nat) : tuN c (n + 1) = tuN c n ++ [ptAt c (c.length - 1 - n)] := by unfold tuN; rw [List.range_succ, List.map_append]; rfl
theorem shN_len (c : List S30) (r n : Nat) : (shN c r n).length = n := by simp [shN]
theorem tuN_len (c : List S30) (n : Nat) : (tuN c n).length = n := by simp [tuN]
def otN (m : List (List S30)) (i : Nat) : List (List S30) := (List.range i).map fun k => m.getD (m.length - 1 - k) []
theorem otN_succ (m : List (List S30)) (n : Nat) : otN m (n + 1) = otN m n ++ [m.getD (m.length - 1 - n) []] := by unfold otN; rw [List.range_succ, List.map_append]; rfl
theorem shN_at (c : List S30) (r : Nat) (h0 : 0 < c.length) (k : Nat) : ptAt (shN c r c.length) k = ptAt c (k + r) := by
  have hk := Nat.mod_lt k h0
  have e : ptAt (shN c r c.length) k = ptAt c (k % c.length + r) := by
    show (shN c r c.length).getD (k % (shN c r c.length).length) z30 = _
    rw [shN_len, List.getD_eq_getElem?_getD, List.getElem?_eq_getElem (by rw [shN_len]; exact hk)]
    simp [shN]
  rw [e]
  unfold ptAt
  rw [Nat.mod_add_mod]
theorem tuN_at (c : List S30) (k : Nat) (hk : k < c.length) : ptAt (tuN c c.length) k = ptAt c (c.length - 1 - k) := by
  rw [ptAt_lt _ (by rw [tuN_len]; exact hk), List.getD_eq_getElem?_getD, List.getElem?_eq_getElem (by rw [tuN_len]; exact hk)]
  simp [tuN]
theorem wcon_sh (c : List S30) (r : Nat) (x y : Int) : wcon (shN c r c.length) x y = wcon c x y := by
  rcases Nat.eq_zero_or_pos c.length with h0 | h0
  · have : c = [] := List.length_eq_zero_iff.1 h0
    subst this; rfl
  · exact wcon_shift c _ r (shN_len _ _ _) (shN_at c r h0) x y
theorem wcon_tu (c : List S30) (x y : Int) : wcon (tuN c c.length) x y = - wcon c x y := wcon_rev c _ (tuN_len _ _) (tuN_at c) x y
theorem sum_rev (l : List Int) : l.reverse.sum = l.sum := by
  induction l with
  | nil => rfl
  | cons a l ih => rw [List.reverse_cons, List.sum_append, ih, List.sum_cons, List.sum_cons, List.sum_nil]; omega
theorem otN_rev (m : List (List S30)) : otN m m.length = m.reverse := by
  apply List.ext_getElem
  · simp [otN]
  · intro k h1 h2
    have hk : k < m.length := by simpa [otN] using h1
    have hk2 : m.length - 1 - k < m.length := by omega
    simp [otN, hk2]
theorem sh_mem {c : List S30} {r : Nat} {p : S30} (h : p ∈ shN c r c.length) : p ∈ c := by
  unfold shN at h
  obtain ⟨k, hk, rfl⟩ := List.mem_map.1 h
  exact ptAt_mem _ (by have := List.mem_range.1 hk; omega)
theorem mem_sh {c : List S30} {r : Nat} {p : S30} (h : p ∈ c) : p ∈ shN c r c.length := by
  obtain ⟨k, hk, e⟩ := mem_ptAt h
  have h0 : 0 < c.length := by omega
  have e2 := shN_at c r h0 (k + r * c.length - r)
  have hle : r ≤ r * c.length := by
    have := Nat.mul_le_mul_left r h0
    omega
  rw [show k + r * c.length - r + r = k + r * c.length by omega] at e2
  have e3 : ptAt c (k + r * c.length) = ptAt c k := by unfold ptAt; rw [Nat.add_mul_mod_self_right]
  rw [← e, ← e3, ← e2]
  exact ptAt_mem _ (by rw [shN_len]; exact h0)
theorem tu_mem {c : List S30} {p : S30} (h : p ∈ tuN c c.length) : p ∈ c := by
  unfold tuN at h
  obtain ⟨k, hk, rfl⟩ := List.mem_map.1 h
  exact ptAt_mem _ (by have := List.mem_range.1 hk; omega)
theorem mem_tu {c : List S30} {p : S30} (h : p ∈ c) : p ∈ tuN c c.length := by
  obtain ⟨k, hk, e⟩ := mem_ptAt h
  have e2 := tuN_at c (c.length - 1 - k) (by omega)
  rw [show c.length - 1 - (c.length - 1 - k) = k by omega] at e2
  rw [← e, ← e2]
  exact ptAt_mem _ (by rw [tuN_len]; omega)
theorem fill_sh (m : List (List S30)) (r : Nat) : fillB (m.map fun c => shN c r c.length) = fillB m := by
  refine fillB_cov (Cov.of_sub fun p hp => ?_) (Cov.of_sub fun p hp => ?_) fun x y => ?_
  · obtain ⟨c, hc, h⟩ := pts_mem.1 hp
    obtain ⟨c', hc', rfl⟩ := List.mem_map.1 hc
    exact pts_mem.2 ⟨c', hc', sh_mem h⟩
  · obtain ⟨c, hc, h⟩ := pts_mem.1 hp
    exact pts_mem.2 ⟨_, List.mem_map.2 ⟨c, hc, rfl⟩, mem_sh h⟩
  · rw [wind_all, wind_all, List.map_map]
    have e : ((fun c => wcon c x y) ∘ fun c => shN c r c.length) = fun c => wcon c x y := funext fun c => wcon_sh c r x y
    rw [e]
theorem sum_neg (l : List (List S30)) (f : List S30 → Int) : (l.map fun c => - f c).sum = - (l.map f).sum := by
  induction l with
  | nil => rfl
  | cons a l ih => rw [List.map_cons, List.map_cons, List.sum_cons, List.sum_cons, ih]; omega
theorem fill_tu (m : List (List S30)) : fillB (m.map fun c => tuN c c.length) = fillB m := by
  refine fillB_cov (Cov.of_sub fun p hp => ?_) (Cov.of_sub fun p hp => ?_) fun x y => ?_
  · obtain ⟨c, hc, h⟩ := pts_mem.1 hp
    obtain ⟨c', hc', rfl⟩ := List.mem_map.1 hc
    exact pts_mem.2 ⟨c', hc', tu_mem h⟩
  · obtain ⟨c, hc, h⟩ := pts_mem.1 hp
    exact pts_mem.2 ⟨_, List.mem_map.2 ⟨c, hc, rfl⟩, mem_tu h⟩
  · rw [wind_all, wind_all, List.map_map]
    have e : ((fun c => wcon c x y) ∘ fun c => tuN c c.length) = fun c => - wcon c x y := funext fun c => wcon_tu c x y
    rw [e, sum_neg]
    omega
theorem fill_ot (m : List (List S30)) : fillB (otN m m.length) = fillB m := by
  rw [otN_rev]
  refine fillB_cov (Cov.of_sub fun p hp => ?_) (Cov.of_sub fun p hp => ?_) fun x y => ?_
  · obtain ⟨c, hc, h⟩ := pts_mem.1 hp
    exact pts_mem.2 ⟨c, List.mem_reverse.1 hc, h⟩
  · obtain ⟨c, hc, h⟩ := pts_mem.1 hp
    exact pts_mem.2 ⟨c, List.mem_reverse.2 hc, h⟩
  · rw [wind_all, wind_all, List.map_reverse, sum_rev]
/-- the end of the law: the bitmaps are compared -/
theorem turns_end (m : List (List S30)) (hm : Good m) (r : Nat) (by_ : Int) (k : Nat) (hk : 67 ≤ k) : abugidalaw11_ScanTurns.l0 k by_ true m (m.map fun c => shN c r c.length) (m.map fun c => tuN c c.length) (otN m m.length) (m.length : Int) = some true := by
  obtain ⟨k, rfl⟩ : ∃ q, k = q + 1 := ⟨k - 1, by omega⟩
  have hc : ∀ c ∈ m, c.length ≤ 1000000 := fun c h => by have := (hm.2 c h).1; omega
  have hl : m.length ≤ 1000000 := by have := hm.1; omega
  rw [abugidalaw11_ScanTurns.l0, if_neg (by omega), fill_f hl hc, fill_f (l := m.map fun c => shN c r c.length) (by simpa using hl) (by
    intro c h
    obtain ⟨c', h', rfl⟩ := List.mem_map.1 h
    rw [shN_len]; exact hc c' h'), fill_f (l := m.map fun c => tuN c c.length) (by simpa using hl) (by
    intro c h
    obtain ⟨c', h', rfl⟩ := List.mem_map.1 h
    rw [tuN_len]; exact hc c' h'), fill_f (l := otN m m.length) (by rw [otN_rev]; simpa using hl) (by rw [otN_rev]; intro c h; exact hc c (List.mem_reverse.1 h)), fill_sh, fill_tu, fill_ot]
  have hs := same_k (fillB m).1 (fillB m).1 (by have := fillB_rows m; omega) k (by have := fillB_rows m; omega)
  rw [sameB_refl] at hs
  simp only [Option.bind_some, if_true, hs]
theorem turns_in (m : List (List S30)) (hm : Good m) (r : Nat) (hr : r < 256) (i : Nat) (hi : i < m.length) (x7 x8 x9 : List (List S30)) (h7 : x7.length = i) (h8 : x8.length = i) (h9 : x9.length = i) (c : List S30) (hc : m.getD i [] = c) (B : Nat)
    (hout : ∀ k, B ≤ k → abugidalaw11_ScanTurns.l0 k (r : Int) true m (x7 ++ [shN c r c.length]) (x8 ++ [tuN c c.length]) (x9 ++ [m.getD (m.length - 1 - i) []]) ((i + 1 : Nat) : Int) = some true) (d : Nat) : ∀ j, j + d = c.length → ∀ k, B + 1 + d ≤ k →
    abugidalaw11_ScanTurns.l1 k (r : Int) true m x7 x8 x9 (i : Int) (c.length : Int) (shN c r j) (tuN c j) (j : Int) = some true := by
  have h3 := hm.1
  have hcm : c ∈ m := by rw [← hc, List.getD_eq_getElem?_getD, List.getElem?_eq_getElem hi]; exact List.getElem_mem hi
  have hc7 := (hm.2 c hcm).1
  have hrd : rd_L3 m (i : Int) = c := by unfold rd_L3; rw [Int.toNat_natCast]; exact hc
  induction d with
  | zero =>
    intro j hj k hk
    obtain ⟨k, rfl⟩ : ∃ q, k = q + 1 := ⟨k - 1, by omega⟩
    obtain rfl : j = c.length := by omega
    have q1 : ¬ ((c.length : Nat) : Int) < (c.length : Int) := by omega
    have q2 : x7.length < 5864062014805 := by omega
    have q3 : x8.length < 5864062014805 := by omega
    have q4 : (0 : Int) ≤ ((m.length - 1 - i : Nat) : Int) := by omega
    have q5 : ((m.length - 1 - i : Nat) : Int) < (m.length : Int) := by omega
    have q6 : x9.length < 5864062014805 := by omega
    have q7 : B ≤ k := by omega
    have ew : wrap64 (wrap64 ((m.length : Int) - 1) - (i : Int)) = ((m.length - 1 - i : Nat) : Int) := by rw [w64 (n := (m.length : Int) - 1) (by omega), w64 (by omega)]; omega
    have e3 : wrap64 ((i : Int) + 1) = ((i + 1 : Nat) : Int) := by clear ew; rw [w64 (by omega)]; omega
    have e2 : rd_L3 m ((m.length - 1 - i : Nat) : Int) = m.getD (m.length - 1 - i) [] := by unfold rd_L3; rw [Int.toNat_natCast]
    rw [abugidalaw11_ScanTurns.l1, if_neg q1, if_pos q2, if_pos q3, ew, if_pos q4, if_pos q5, if_pos q6, e2, e3]
    exact hout k q7
  | succ d ih =>
    intro j hj k hk
    obtain ⟨k, rfl⟩ : ∃ q, k = q + 1 := ⟨k - 1, by omega⟩
    have h0 : 0 < c.length := by omega
    have hl1 := shN_len c r j
    have hl2 := tuN_len c j
    have q1 : (j : Int) < (c.length : Int) := by omega
    have q2 : (0 : Int) ≤ (i : Int) := by omega
    have q3 : (i : Int) < (m.length : Int) := by omega
    have q4 : ¬ (c.length : Int) = 0 := by omega
    have q5 : (0 : Int) ≤ (((j + r) % c.length : Nat) : Int) := by omega
    have q6 : (((j + r) % c.length : Nat) : Int) < (c.length : Int) := by have := Nat.mod_lt (j + r) h0; exact Int.ofNat_lt.2 this
    have q7 : (shN c r j).length < 5864062014805 := by omega
    have q8 : (0 : Int) ≤ ((c.length - 1 - j : Nat) : Int) := by omega
    have q9 : ((c.length - 1 - j : Nat) : Int) < (c.length : Int) := by omega
    have q10 : (tuN c j).length < 5864062014805 := by omega
    have q11 : B + 1 + d ≤ k := by omega
    have q12 : j + 1 + d = c.length := by omega
    have a1 : wrap64 (r : Int) = (r : Int) := by rw [w64 (by omega)]
    have a2 : wrap64 ((j : Int) + (r : Int)) = ((j + r : Nat) : Int) := by clear a1; rw [w64 (by omega)]; omega
    have a3 : wrap64 ((c.length : Int) - 1) = (c.length : Int) - 1 := by clear a1 a2; rw [w64 (by omega)]
    have a4 : wrap64 ((c.length : Int) - 1 - (j : Int)) = ((c.length - 1 - j : Nat) : Int) := by clear a1 a2 a3; rw [w64 (by omega)]; omega
    have e5 : wrap64 ((j : Int) + 1) = ((j + 1 : Nat) : Int) := by clear a1 a2 a3 a4; rw [w64 (by omega)]; omega
    have e1 : Int.tmod (wrap64 ((j : Int) + wrap64 (r : Int))) (c.length : Int) = (((j + r) % c.length : Nat) : Int) := by
      rw [a1, a2, Int.tmod_eq_emod_of_nonneg (Int.natCast_nonneg _)]; rfl
    have e2 : wrap64 (wrap64 ((c.length : Int) - 1) - (j : Int)) = ((c.length - 1 - j : Nat) : Int) := by rw [a3, a4]
    have e3 : rd_T30 c (((j + r) % c.length : Nat) : Int) = ptAt c (j + r) := by unfold rd_T30 ptAt; rw [Int.toNat_natCast]
    have e4 : rd_T30 c ((c.length - 1 - j : Nat) : Int) = ptAt c (c.length - 1 - j) := by unfold rd_T30; rw [Int.toNat_natCast, ptAt_lt c (by clear a1 a2 a3 a4 e1 e2 e3 e5; omega)]
    rw [abugidalaw11_ScanTurns.l1, if_pos q1, if_pos q2, if_pos q3, if_neg q4, e1, if_pos q5, hrd, if_pos q6, if_pos q7, e2, if_pos q8, if_pos q9, if_pos q10, e3, e4, e5]
    have := ih (j + 1) q12 k q11
    rw [shN_succ, tuN_succ] at this
    exact this
theorem turns_out (m : List (List S30)) (hm : Good m) (r : Nat) (hr : r < 256) (d : Nat) : ∀ i, i + d = m.length → ∀ k, 67 + 10 * d ≤ k →
    abugidalaw11_ScanTurns.l0 k (r : Int) true m ((m.take i).map fun c => shN c r c.length) ((m.take i).map fun c => tuN c c.length) (otN m i) (i : Int) = some true := by
  induction d with
  | zero =>
    intro i hi k hk
    obtain rfl : i = m.length := by omega
    rw [List.take_length]
    exact turns_end m hm r _ k (by omega)
  | succ d ih =>
    intro i hi k hk
    obtain ⟨k, rfl⟩ : ∃ q, k = q + 1 := ⟨k - 1, by omega⟩
    have h3 := hm.1
    have hlt : i < m.length := by omega
    obtain ⟨c, hc⟩ : ∃ c, m.getD i [] = c := ⟨_, rfl⟩
    have hcm : c ∈ m := by rw [← hc, List.getD_eq_getElem?_getD, List.getElem?_eq_getElem hlt]; exact List.getElem_mem hlt
    have hc7 := (hm.2 c hcm).1
    have hrd : rd_L3 m (i : Int) = c := by unfold rd_L3; rw [Int.toNat_natCast]; exact hc
    rw [abugidalaw11_ScanTurns.l0, if_pos (by omega), if_pos (by omega), hrd]
    have hci : m[i] = c := by rw [← hc, List.getD_eq_getElem?_getD, List.getElem?_eq_getElem hlt]; rfl
    refine turns_in m hm r hr i hlt _ _ _ (by simp; omega) (by simp; omega) (by simp [otN]) c hc (67 + 10 * d) (fun k hk => ?_) c.length 0 (by omega) k (by omega)
    have := ih (i + 1) (by omega) k hk
    rw [List.take_succ_eq_append_getElem hlt, List.map_append, List.map_append, otN_succ, hci] at this
    exact this
theorem turns_f (l : List (List Int)) (r : Nat) (hr : r < 256) : ∃ k, abugidalaw11_ScanTurns.f k l (r : Int) = some true := by
  obtain ⟨m, hm, hk⟩ := made_f l
  refine ⟨200, ?_⟩
  unfold abugidalaw11_ScanTurns.f
  rw [show law_sanity.f = some true from rfl, Option.bind_some, hk 200 (by decide), Option.bind_some]
  have h3 := hm.1
  exact turns_out m hm r hr m.length 0 (by omega) 200 (by omega)
theorem scanTurns_walk (A : Option Addr) (c : Nat) (xs : List (List Int)) (a : Int) (w : World) (hT : Tab w) (hC : Kd.C (Kd.slice 3 (Kd.int .i64)) w A xs.length xs) (hc : xs.length ≤ c) (wf : (Lit.int .u8 a).wf = true) :
    Calls Tryd.prog 7 #[.slice A xs.length c, .int .u8 a] w fun e w' => e = .returned (.bool true) ∧ Below w.heap.size w w' := by
  have h := wf
  have h1 : 0 ≤ a ∧ a ≤ 255 := by
    have h2 : (decide (0 ≤ a) && decide (a ≤ 255)) = true := h
    simpa using h2
  obtain ⟨r, rfl⟩ : ∃ r : Nat, a = r := ⟨a.toNat, by omega⟩
  obtain ⟨k, hk⟩ := turns_f xs r (by omega)
  exact abugidalaw11_ScanTurns.calls k A c xs r true w hT rfl hC hc hk
end Go.Proofs.YtleljodcdbhifaaDoor
