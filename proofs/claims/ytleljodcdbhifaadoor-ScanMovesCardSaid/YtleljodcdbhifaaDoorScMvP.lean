/- An outline that is moved by whole pixels: its bitmap is moved. -/
import Derived.Test.YtleljodcdbhifaaDoorBa4
import Derived.Test.YtleljodcdbhifaaDoorHy23
set_option linter.unusedVariables false
set_option linter.unusedSimpArgs false
namespace Go.Proofs.YtleljodcdbhifaaDoor
open Go.RowKit Go.Proofs.YtleljodcdbhifaaDoorW.PrintWords Go.Proofs.YtleljodcdbhifaaDoorW.PrintLast Go.Proofs.YtleljodcdbhifaaDoorW.PrintMore Hy
theorem cntL_tr (x0 y0 x2 y2 x y u v : Int) : cntL (x0 + u) (y0 + v) (x2 + u) (y2 + v) (x + u) (y + v) = cntL x0 y0 x2 y2 x y := by
  unfold cntL
  rw [show y2 + v - (y0 + v) = y2 - y0 by omega, show x2 + u - (x0 + u) = x2 - x0 by omega, show y + v - (y0 + v) = y - y0 by omega, show x + u - (x0 + u) = x - x0 by omega]
  have h : (y + v < min (y0 + v) (y2 + v) ∨ max (y0 + v) (y2 + v) ≤ y + v) ↔ (y < min y0 y2 ∨ max y0 y2 ≤ y) := by omega
  by_cases hh : y < min y0 y2 ∨ max y0 y2 ≤ y
  · rw [if_pos hh, if_pos (h.2 hh)]
  · rw [if_neg hh, if_neg (fun a => hh (h.1 a))]
theorem cntC_tr (x0 y0 x1 y1 x2 y2 x y u v : Int) : cntC (x0 + u) (y0 + v) (x1 + u) (y1 + v) (x2 + u) (y2 + v) (x + u) (y + v) = cntC x0 y0 x1 y1 x2 y2 x y := by
  unfold cntC
  rw [show y0 + v - 2 * (y1 + v) + (y2 + v) = y0 - 2 * y1 + y2 by omega, show y1 + v - (y0 + v) = y1 - y0 by omega, show y0 + v - (y + v) = y0 - y by omega, show x0 + u - 2 * (x1 + u) + (x2 + u) = x0 - 2 * x1 + x2 by omega, show x1 + u - (x0 + u) = x1 - x0 by omega, show x0 + u - (x + u) = x0 - x by omega]
  have h : (max (y0 + v) (y2 + v) = y + v) = (max y0 y2 = y) := propext (by omega)
  simp only [h]
def tr (u v : Int) (p : S30) : S30 := ⟨p.f0 + u, p.f1 + v, p.f2⟩
def movedB (m : List (List S30)) (u v : Int) : List (List S30) := m.map fun c => c.map (tr u v)
theorem ptAt_map (c : List S30) (f : S30 → S30) (h : 0 < c.length) (k : Nat) : ptAt (c.map f) k = f (ptAt c k) := by
  unfold ptAt
  have hk := Nat.mod_lt k h
  rw [List.length_map, List.getD_eq_getElem?_getD, List.getD_eq_getElem?_getD, List.getElem?_map, List.getElem?_eq_getElem hk]
  rfl
theorem Lf_tr (x y u v : Int) (p n : S30) : Lf (x + u) (y + v) (tr u v p) (tr u v n) = Lf x y p n := by
  unfold Lf tr
  dsimp only
  rw [Int.mul_add, Int.mul_add, Int.mul_add, Int.mul_add, Int.mul_add, Int.mul_add, cntL_tr]
theorem Ex_tr (u v : Int) (b p : S30) : Ex (tr u v b) (tr u v p) = Ex b p + 2 * u := by
  unfold Ex tr
  dsimp only
  split <;> omega
theorem Ey_tr (u v : Int) (b p : S30) : Ey (tr u v b) (tr u v p) = Ey b p + 2 * v := by
  unfold Ey tr
  dsimp only
  split <;> omega
theorem Cf_tr (x y u v : Int) (b p n : S30) : Cf (x + u) (y + v) (tr u v b) (tr u v p) (tr u v n) = Cf x y b p n := by
  unfold Cf
  rw [Ex_tr, Ex_tr, Ey_tr, Ey_tr]
  unfold tr
  dsimp only
  rw [Int.mul_add, Int.mul_add, Int.mul_add, Int.mul_add, cntC_tr]
theorem wcon_tr (c : List S30) (x y u v : Int) : wcon (c.map (tr u v)) (x + u) (y + v) = wcon c x y := by
  unfold wcon
  rw [List.length_map]
  rcases Nat.eq_zero_or_pos c.length with h0 | h0
  · rw [h0]; rfl
  congr 1
  · exact sumN_congr fun k _ => by rw [ptAt_map c _ h0, ptAt_map c _ h0, Lf_tr]
  · exact sumN_congr fun k _ => by rw [ptAt_map c _ h0, ptAt_map c _ h0, ptAt_map c _ h0, Cf_tr]
theorem wind_tr (m : List (List S30)) (x y u v : Int) : wind (allP (movedB m u v)) (x + u) (y + v) = wind (allP m) x y := by
  rw [wind_all, wind_all]
  unfold movedB
  rw [List.map_map]
  congr 1
  exact List.map_congr_left fun c _ => wcon_tr c x y u v
theorem pts_tr (m : List (List S30)) (u v : Int) : ptsOf (movedB m u v) = (ptsOf m).map (tr u v) := by
  unfold ptsOf movedB
  rw [List.map_flatten]
theorem minF_tr (l : List Int) (u a b : Int) (h : ∀ x ∈ l, x ≤ a ∧ x + u ≤ b) (h0 : l ≠ []) : minF b (l.map (· + u)) = minF a l + u := by
  obtain ⟨x, hx⟩ := List.exists_mem_of_ne_nil _ h0
  obtain ⟨p1, p2⟩ := minF_le l a
  obtain ⟨q1, q2⟩ := minF_le (l.map (· + u)) b
  have e1 : minF b (l.map (· + u)) ≤ minF a l + u := by
    rcases minF_in l a with e | e
    · have := p2 x hx
      have := h x hx
      have := q2 (x + u) (List.mem_map.2 ⟨x, hx, rfl⟩)
      omega
    · exact q2 _ (List.mem_map.2 ⟨_, e, rfl⟩)
  have e2 : minF a l + u ≤ minF b (l.map (· + u)) := by
    rcases minF_in (l.map (· + u)) b with e | e
    · have := h x hx
      have := p2 x hx
      omega
    · obtain ⟨z, hz, e⟩ := List.mem_map.1 e
      have := p2 z hz
      omega
  omega
theorem maxF_tr (l : List Int) (u a b : Int) (h : ∀ x ∈ l, a ≤ x ∧ b ≤ x + u) (h0 : l ≠ []) : maxF b (l.map (· + u)) = maxF a l + u := by
  obtain ⟨x, hx⟩ := List.exists_mem_of_ne_nil _ h0
  obtain ⟨p1, p2⟩ := maxF_le l a
  obtain ⟨q1, q2⟩ := maxF_le (l.map (· + u)) b
  have e1 : maxF a l + u ≤ maxF b (l.map (· + u)) := by
    rcases maxF_in l a with e | e
    · have := p2 x hx
      have := h x hx
      have := q2 (x + u) (List.mem_map.2 ⟨x, hx, rfl⟩)
      omega
    · exact q2 _ (List.mem_map.2 ⟨_, e, rfl⟩)
  have e2 : maxF b (l.map (· + u)) ≤ maxF a l + u := by
    rcases maxF_in (l.map (· + u)) b with e | e
    · have := h x hx
      have := p2 x hx
      omega
    · obtain ⟨z, hz, e⟩ := List.mem_map.1 e
      have := p2 z hz
      omega
  omega
/-- a bitmap that is moved -/
def moveBm (b : Bm) (dx dy : Int) : Bm := if b.W = 0 then b else ⟨b.L + dx, b.T + dy, b.W, b.H, b.rows⟩
theorem rowN_tr (m : List (List S30)) (x0 y dx dy : Int) : ∀ n, rowN (allP (movedB m (64 * dx) (64 * dy))) (x0 + dx) (y + dy) n = rowN (allP m) x0 y n
  | 0 => rfl
  | n + 1 => by
    unfold rowN
    rw [rowN_tr m x0 y dx dy n, show 64 * (x0 + dx + n) + 32 = 64 * (x0 + n) + 32 + 64 * dx by omega, show 64 * (y + dy) + 32 = 64 * y + 32 + 64 * dy by omega, wind_tr]
def Pts (m : List (List S30)) : Prop := ∀ p ∈ ptsOf m, Pt p
theorem good_pts {m : List (List S30)} (h : Good m) : Pts m := fun p hp => by
  obtain ⟨c, hc, hpc⟩ := pts_mem.1 hp
  exact (h.2 c hc).2 p hpc
theorem pts_near {m : List (List S30)} (h : Pts m) : nearL m = true := nearL_pts.2 fun p hp => by
  have := h p hp
  unfold Pt at this
  unfold nearP near12
  omega
theorem pts_box {m : List (List S30)} (h : Pts m) (h0 : ptsOf m ≠ []) : Box m := by
  have b (f : S30 → Int) (hf : ∀ p ∈ ptsOf m, -999 ≤ f p ∧ f p ≤ 999) : -999 ≤ minF 4096 ((ptsOf m).map f) ∧ maxF (-4096) ((ptsOf m).map f) ≤ 999 := by
    obtain ⟨q, hq⟩ := List.exists_mem_of_ne_nil _ h0
    have hqf := hf q hq
    constructor
    · rcases minF_in ((ptsOf m).map f) 4096 with e | e
      · omega
      · obtain ⟨p, hp, e⟩ := List.mem_map.1 e
        have := hf p hp
        omega
    · rcases maxF_in ((ptsOf m).map f) (-4096) with e | e
      · omega
      · obtain ⟨p, hp, e⟩ := List.mem_map.1 e
        have := hf p hp
        omega
  have b0 := b (·.f0) fun p hpm => (h p hpm).1
  have b1 := b (·.f1) fun p hpm => (h p hpm).2
  refine ⟨pts_near h, h0, ?_, ?_⟩
  · unfold X1 X0; omega
  · unfold Y1 Y0; omega
theorem box_tr {m : List (List S30)} (h : Pts m) (h0 : ptsOf m ≠ []) (dx dy : Int) (hx : -39 ≤ dx ∧ dx ≤ 39) (hy : -39 ≤ dy ∧ dy ≤ 39) :
    X0 (ptsOf (movedB m (64 * dx) (64 * dy))) = X0 (ptsOf m) + dx ∧ X1 (ptsOf (movedB m (64 * dx) (64 * dy))) = X1 (ptsOf m) + dx ∧ Y0 (ptsOf (movedB m (64 * dx) (64 * dy))) = Y0 (ptsOf m) + dy ∧ Y1 (ptsOf (movedB m (64 * dx) (64 * dy))) = Y1 (ptsOf m) + dy := by
  have e0 : ((ptsOf (movedB m (64 * dx) (64 * dy))).map (·.f0)) = ((ptsOf m).map (·.f0)).map (· + 64 * dx) := by rw [pts_tr, List.map_map, List.map_map]; rfl
  have e1 : ((ptsOf (movedB m (64 * dx) (64 * dy))).map (·.f1)) = ((ptsOf m).map (·.f1)).map (· + 64 * dy) := by rw [pts_tr, List.map_map, List.map_map]; rfl
  have n0 : (ptsOf m).map (·.f0) ≠ [] := by simpa using h0
  have n1 : (ptsOf m).map (·.f1) ≠ [] := by simpa using h0
  have q0 : ∀ x ∈ (ptsOf m).map (·.f0), -999 ≤ x ∧ x ≤ 999 := fun x hx => by
    obtain ⟨p, hp, rfl⟩ := List.mem_map.1 hx
    exact (h p hp).1
  have q1 : ∀ x ∈ (ptsOf m).map (·.f1), -999 ≤ x ∧ x ≤ 999 := fun x hx => by
    obtain ⟨p, hp, rfl⟩ := List.mem_map.1 hx
    exact (h p hp).2
  unfold X0 X1 Y0 Y1
  rw [e0, e1, minF_tr _ (64 * dx) 4096 4096 (fun x hx => by have := q0 x hx; omega) n0, maxF_tr _ (64 * dx) (-4096) (-4096) (fun x hx => by have := q0 x hx; omega) n0, minF_tr _ (64 * dy) 4096 4096 (fun x hx => by have := q1 x hx; omega) n1, maxF_tr _ (64 * dy) (-4096) (-4096) (fun x hx => by have := q1 x hx; omega) n1]
  omega
theorem used_of {b : Bm} (h : okB b.L b.T b.W b.H b.rows = true) : usedOf b = orN b.rows := by
  unfold usedOf
  have := ok_right h
  unfold Bm.right at this
  rw [if_pos this]
theorem trim_tr {b : Bm} {dx dy : Int} (hu : Words b.rows) (h : okB b.L b.T b.W b.H b.rows = true) (h2 : okB (b.L + dx) (b.T + dy) b.W b.H b.rows = true) : trimB ⟨b.L + dx, b.T + dy, b.W, b.H, b.rows⟩ = moveBm (trimB b) dx dy := by
  have u1 := used_of h
  have u2 : usedOf ⟨b.L + dx, b.T + dy, b.W, b.H, b.rows⟩ = orN b.rows := used_of (b := ⟨b.L + dx, b.T + dy, b.W, b.H, b.rows⟩) h2
  by_cases h0 : orN b.rows = 0
  · unfold trimB
    rw [if_pos (by rw [u2, h0]), if_pos (by rw [u1, h0])]
    rfl
  · have hW := (ok_facts (trim_ok hu (by rw [u1]; exact h0)).1).1
    have e : trimB b = ⟨b.L + Lib.ctz 64 (orN b.rows), b.T + firstNz b.rows, Lib.bitLen (orN b.rows) - Lib.ctz 64 (orN b.rows), lastNz b.rows - firstNz b.rows + 1, cutRows b.rows⟩ := by unfold trimB; rw [if_neg (by rw [u1]; exact h0)]
    rw [e] at hW ⊢
    unfold moveBm
    rw [if_neg (by dsimp only at hW ⊢; omega)]
    unfold trimB
    rw [if_neg (by rw [u2]; exact h0)]
    dsimp only
    congr 1 <;> omega
theorem fill_tr {m : List (List S30)} (h : Pts m) (dx dy : Int) (hx : -39 ≤ dx ∧ dx ≤ 39) (hy : -39 ≤ dy ∧ dy ≤ 39) : (fillB m).2 = 0 ∧ fillB (movedB m (64 * dx) (64 * dy)) = (moveBm (fillB m).1 dx dy, 0) := by
  have hn : nearL (movedB m (64 * dx) (64 * dy)) = true := nearL_pts.2 fun p hp => by
    rw [pts_tr] at hp
    obtain ⟨q, hq, rfl⟩ := List.mem_map.1 hp
    have := h q hq
    unfold Pt at this
    unfold nearP near12 tr
    dsimp only
    omega
  by_cases h0 : ptsOf m = []
  · have e1 : fillB m = (Bm.zero, 0) := by unfold fillB; rw [pts_near h, if_neg (by decide), if_pos h0]
    have e2 : fillB (movedB m (64 * dx) (64 * dy)) = (Bm.zero, 0) := by unfold fillB; rw [hn, if_neg (by decide), if_pos (by rw [pts_tr, h0]; rfl)]
    rw [e1, e2]
    exact ⟨rfl, rfl⟩
  · have B := pts_box h h0
    obtain ⟨b1, b2, b3, b4⟩ := box_tr h h0 dx dy hx hy
    have B' : Box (movedB m (64 * dx) (64 * dy)) := ⟨hn, by rw [pts_tr]; simpa using h0, by have := B.wide; omega, by have := B.high; omega⟩
    rw [fill_box B, fill_box B']
    refine ⟨rfl, ?_⟩
    have e : rawB (movedB m (64 * dx) (64 * dy)) = ⟨(rawB m).L + dx, (rawB m).T + dy, (rawB m).W, (rawB m).H, (rawB m).rows⟩ := by
      unfold rawB
      dsimp only
      rw [b1, b2, b3, b4, show X1 (ptsOf m) + dx - (X0 (ptsOf m) + dx) = X1 (ptsOf m) - X0 (ptsOf m) by omega, show Y1 (ptsOf m) + dy - (Y0 (ptsOf m) + dy) = Y1 (ptsOf m) - Y0 (ptsOf m) by omega]
      congr 1
      unfold rowsN
      exact List.map_congr_left fun j _ => by rw [show Y0 (ptsOf m) + dy + (j : Int) = Y0 (ptsOf m) + j + dy by omega, rowN_tr]
    have r2 := (raw_ok B').1
    rw [e] at r2 ⊢
    rw [trim_tr (raw_ok B).2 (raw_ok B).1 r2]
/-! moved, as the print tells it -/
theorem moved_in (x0 : List (List S30)) (u v : Int) (hu : -2500 ≤ u ∧ u ≤ 2500) (hv : -2500 ≤ v ∧ v ≤ 2500) (x7 : List (List S30)) (i : Nat) (hi : i < x0.length) (c : List S30) (hc : x0.getD i [] = c) (hP : ∀ p ∈ c, Pt p) (hl : c.length ≤ 7) (h7 : x7.length ≤ 3) (hi3 : i ≤ 3) (B : Nat) (r : List (List S30))
    (hout : ∀ k, B ≤ k → abugidalaw11_moved.l0 k x0 u v (x7 ++ [c.map (tr u v)]) ((i + 1 : Nat) : Int) = some r) (d : Nat) : ∀ j, j + d = c.length → ∀ k, B + 1 + d ≤ k → abugidalaw11_moved.l1 k x0 u v x7 (i : Int) ((c.take j).map (tr u v)) (j : Int) = some r := by
  have hrd : rd_L3 x0 (i : Int) = c := by unfold rd_L3; rw [Int.toNat_natCast]; exact hc
  induction d with
  | zero =>
    intro j hj k hk
    obtain ⟨k, rfl⟩ : ∃ q, k = q + 1 := ⟨k - 1, by omega⟩
    obtain rfl : j = c.length := by omega
    have q1 : (0 : Int) ≤ (i : Int) := by omega
    have q2 : (i : Int) < (x0.length : Int) := by omega
    have q3 : ¬ ((c.length : Nat) : Int) < (c.length : Int) := by omega
    have q4 : x7.length < 5864062014805 := by omega
    have q5 : B ≤ k := by omega
    have e3 : wrap64 ((i : Int) + 1) = ((i + 1 : Nat) : Int) := by rw [w64 (by omega)]; omega
    rw [abugidalaw11_moved.l1, if_pos q1, if_pos q2, hrd, if_neg q3, if_pos q4, e3, List.take_length]
    exact hout k q5
  | succ d ih =>
    intro j hj k hk
    obtain ⟨k, rfl⟩ : ∃ q, k = q + 1 := ⟨k - 1, by omega⟩
    have hjl : j < c.length := by omega
    have q1 : (0 : Int) ≤ (i : Int) := by omega
    have q2 : (i : Int) < (x0.length : Int) := by omega
    have q3 : (j : Int) < (c.length : Int) := by omega
    have q4 : (0 : Int) ≤ (j : Int) := by omega
    have q5 : ((c.take j).map (tr u v)).length < 5864062014805 := by rw [List.length_map, List.length_take]; omega
    have q6 : B + 1 + d ≤ k := by omega
    have q7 : j + 1 + d = c.length := by omega
    have hp := hP _ (List.getElem_mem hjl)
    unfold Pt at hp
    have e4 : rd_T30 c (j : Int) = c[j] := by unfold rd_T30; rw [Int.toNat_natCast, List.getD_eq_getElem?_getD, List.getElem?_eq_getElem hjl]; rfl
    have w1 : wrap64 (c[j].f0 + u) = c[j].f0 + u := w64 (by omega)
    have w2 : wrap64 (c[j].f1 + v) = c[j].f1 + v := by clear w1; exact w64 (by omega)
    have w3 : wrap64 ((j : Int) + 1) = ((j + 1 : Nat) : Int) := by clear w1 w2; rw [w64 (by omega)]; omega
    rw [abugidalaw11_moved.l1, if_pos q1, if_pos q2, hrd, if_pos q3, if_pos q4, if_pos q5, e4, w1, w2, w3]
    have hh := ih (j + 1) q7 k q6
    rw [List.take_succ_eq_append_getElem hjl, List.map_append] at hh
    exact hh
theorem moved_out (x0 : List (List S30)) (hm : Good x0) (u v : Int) (hu : -2500 ≤ u ∧ u ≤ 2500) (hv : -2500 ≤ v ∧ v ≤ 2500) (d : Nat) : ∀ i, i + d = x0.length → ∀ k, 2 + 10 * d ≤ k →
    abugidalaw11_moved.l0 k x0 u v ((x0.take i).map fun c => c.map (tr u v)) (i : Int) = some (movedB x0 u v) := by
  have h3 := hm.1
  induction d with
  | zero =>
    intro i hi k hk
    obtain ⟨k, rfl⟩ : ∃ q, k = q + 1 := ⟨k - 1, by omega⟩
    obtain rfl : i = x0.length := by omega
    rw [abugidalaw11_moved.l0, if_neg (by omega), List.take_length]
    rfl
  | succ d ih =>
    intro i hi k hk
    obtain ⟨k, rfl⟩ : ∃ q, k = q + 1 := ⟨k - 1, by omega⟩
    have hlt : i < x0.length := by omega
    obtain ⟨c, hc⟩ : ∃ c, x0.getD i [] = c := ⟨_, rfl⟩
    have hci : x0[i] = c := by rw [← hc, List.getD_eq_getElem?_getD, List.getElem?_eq_getElem hlt]; rfl
    have hcm : c ∈ x0 := by rw [← hci]; exact List.getElem_mem hlt
    have hc7 := (hm.2 c hcm).1
    rw [abugidalaw11_moved.l0, if_pos (by omega)]
    refine moved_in x0 u v hu hv _ i hlt c hc (hm.2 c hcm).2 hc7 (by rw [List.length_map, List.length_take]; omega) (by omega) (2 + 10 * d) _ (fun k hk => ?_) c.length 0 (by omega) k (by omega)
    have := ih (i + 1) (by omega) k hk
    rw [List.take_succ_eq_append_getElem hlt, List.map_append, hci] at this
    exact this
theorem moved_f (m : List (List S30)) (hm : Good m) (u v : Int) (hu : -2500 ≤ u ∧ u ≤ 2500) (hv : -2500 ≤ v ∧ v ≤ 2500) : abugidalaw11_moved.f 50 m u v = some (movedB m u v) := by
  have h3 := hm.1
  exact moved_out m hm u v hu hv m.length 0 (by omega) 50 (by omega)
end Go.Proofs.YtleljodcdbhifaaDoor
