/- The law ScanMiddles, as the print tells it, answers yes. -/
import Derived.Test.YtleljodcdbhifaaDoorBa4
import Derived.Test.YtleljodcdbhifaaDoorHyMid
set_option linter.unusedVariables false
set_option linter.unusedSimpArgs false
namespace Go.Proofs.YtleljodcdbhifaaDoor
open Go.RowKit Go.Proofs.YtleljodcdbhifaaDoorW.PrintWords Go.Proofs.YtleljodcdbhifaaDoorW.PrintLast Go.Proofs.YtleljodcdbhifaaDoorW.PrintMore Hy
theorem mid_fill {l : List (List S30)} (h1 : l.length ≤ 1000000) (h2 : ∀ c ∈ l, c.length ≤ 1000000) : scan_Fill.f l = some ((fillB l).1.L, (fillB l).1.T, (fillB l).1.W, (fillB l).1.H, (fillB l).1.rows, (fillB l).2) := if_pos ⟨h1, h2⟩
/-! what is counted along a row of points: b stands before it, e behind it -/
def ws (G : S30 → S30 → S30 → Int) (b : S30) : List S30 → S30 → Int
  | [], _ => 0
  | [p], e => G b p e
  | p :: q :: r, e => G b p q + ws G p (q :: r) e
theorem ws_cons (G : S30 → S30 → S30 → Int) (b p : S30) (r : List S30) (e : S30) : ws G b (p :: r) e = G b p (r.headD e) + ws G p r e := by
  cases r with
  | nil => simp [ws]
  | cons q r => rfl
theorem ws_sum (G : S30 → S30 → S30 → Int) : ∀ (l : List S30) (b e : S30), ws G b l e = sumN (fun k => G (if k = 0 then b else l.getD (k - 1) z30) (l.getD k z30) (if k + 1 < l.length then l.getD (k + 1) z30 else e)) l.length
  | [], _, _ => rfl
  | p :: r, b, e => by
    rw [ws_cons, ws_sum G r p e, List.length_cons, sumN_head]
    congr 1
    · cases r with
      | nil => rfl
      | cons q r => simp
    · refine sumN_congr fun k hk => ?_
      congr 1
      · cases k with
        | zero => rfl
        | succ k => simp
      · by_cases h : k + 1 < r.length
        · rw [if_pos h, if_pos (by omega)]; rfl
        · rw [if_neg h, if_neg (by omega)]
def G2 (x y : Int) (b p n : S30) : Int := Lf x y p n + Cf x y b p n
theorem last_at (c : List S30) (h : c ≠ []) : ptAt c (c.length - 1) = c.getLast h := by
  have h0 := List.length_pos_iff.2 h
  rw [ptAt_lt c (by omega), List.getD_eq_getElem?_getD, List.getElem?_eq_getElem (by omega), List.getLast_eq_getElem]
  rfl
theorem wcon_ws (p : S30) (r : List S30) (x y : Int) : wcon (p :: r) x y = ws (G2 x y) ((p :: r).getLast (List.cons_ne_nil p r)) (p :: r) p := by
  rw [ws_sum]
  unfold wcon
  rw [← sumN_add]
  refine sumN_congr fun k hk => ?_
  have e1 : ptAt (p :: r) k = (p :: r).getD k z30 := ptAt_lt _ hk
  have e2 : ptAt (p :: r) (k + 1) = if k + 1 < (p :: r).length then (p :: r).getD (k + 1) z30 else p := by
    by_cases h : k + 1 < (p :: r).length
    · rw [if_pos h, ptAt_lt _ h]
    · rw [if_neg h, show k + 1 = 0 + (p :: r).length by omega, ptAt_add]; rfl
  have e3 : ptAt (p :: r) (k + (p :: r).length - 1) = if k = 0 then (p :: r).getLast (List.cons_ne_nil p r) else (p :: r).getD (k - 1) z30 := by
    by_cases h : k = 0
    · subst h
      rw [if_pos rfl, Nat.zero_add, last_at]
    · rw [if_neg h, show k + (p :: r).length - 1 = k - 1 + (p :: r).length by omega, ptAt_add, ptAt_lt _ (by omega)]
  rw [← e1, ← e2, ← e3]
  rfl
/-! points doubled; middles put in -/
def db (p : S30) : S30 := ⟨2 * p.f0, 2 * p.f1, p.f2⟩
def md (p q : S30) : S30 := ⟨p.f0 + q.f0, p.f1 + q.f1, true⟩
def mids (p q : S30) : List S30 := if (p.f2 == q.f2) = true then [md p q] else []
def insL : List S30 → S30 → List S30
  | [], _ => []
  | p :: r, e => db p :: (mids p (r.headD e) ++ insL r e)
theorem insL_head (p : S30) (r : List S30) (e : S30) : ∃ t, insL (p :: r) e = db p :: t := ⟨_, rfl⟩
/-- what stands before a point behind which middles are put in -/
def pre (b p : S30) : S30 := if (b.f2 == p.f2) = true then md b p else db b
theorem Ex_db (b p : S30) (h : p.f2 = false) : Ex (pre b p) (db p) = Ex (db b) (db p) ∧ Ey (pre b p) (db p) = Ey (db b) (db p) := by
  unfold pre Ex Ey
  rw [h]
  cases hb : b.f2
  · simp [db, md, hb]; omega
  · simp [db, md, hb]
/-- one point with the middle behind it -/
theorem step_db (x y : Int) (b p q : S30) : G2 x y (pre b p) (db p) ((mids p q ++ [db q]).headD (db q)) + ws (G2 x y) (db p) (mids p q) (db q) = G2 x y (db b) (db p) (db q) := by
  unfold mids
  cases hp : p.f2 <;> cases hq : q.f2
  · -- both off
    rw [if_pos (by rfl)]
    obtain ⟨e1, e2⟩ := Ex_db b p hp
    have e3 : Ex (md p q) (db p) = Ex (db q) (db p) := by simp [Ex, md, db, hq]; omega
    have e4 : Ey (md p q) (db p) = Ey (db q) (db p) := by simp [Ey, md, db, hq]; omega
    simp only [List.singleton_append, List.headD_cons, ws, G2, Lf, Cf]
    rw [e1, e2, e3, e4]
    simp [db, md, hp, hq]
  · rw [if_neg (by decide)]
    obtain ⟨e1, e2⟩ := Ex_db b p hp
    simp only [List.nil_append, List.headD_cons, ws, G2, Cf]
    rw [e1, e2, Int.add_zero]
  · rw [if_neg (by decide)]
    simp [ws, G2, Lf, Cf, db, hp, hq]
  · rw [if_pos (by rfl)]
    have e := cntL_mid (x0 := 2 * (2 * p.f0)) (y0 := 2 * (2 * p.f1)) (xm := 2 * (p.f0 + q.f0)) (ym := 2 * (p.f1 + q.f1)) (x2 := 2 * (2 * q.f0)) (y2 := 2 * (2 * q.f1)) (x := 2 * x) (y := 2 * y) (by omega) (by omega)
    simp [ws, G2, Lf, Cf, db, md, hp, hq]
    exact e
theorem ws_append (G : S30 → S30 → S30 → Int) (a t : List S30) (b z e : S30) : ws G b (a ++ z :: t) e = ws G b a z + ws G (a.getLastD b) (z :: t) e := by
  induction a generalizing b with
  | nil => simp [ws]
  | cons p a ih =>
    rw [List.cons_append, ws_cons, ws_cons, ih p]
    have e1 : (a ++ z :: t).headD e = a.headD z := by cases a <;> rfl
    have e2 : (p :: a).getLastD b = a.getLastD p := by cases a <;> simp [List.getLastD]
    rw [e1, e2]
    omega
theorem ws_ins (x y : Int) : ∀ (r : List S30) (b p e : S30), ws (G2 x y) (pre b p) (insL (p :: r) e) (db e) = ws (G2 x y) (db b) ((p :: r).map db) (db e)
  | [], b, p, e => by
    have h := step_db x y b p e
    have e1 : insL [p] e = db p :: mids p e := by simp [insL]
    rw [e1, ws_cons]
    have e2 : ([p].map db) = [db p] := rfl
    rw [e2]
    have e3 : (mids p e ++ [db e]).headD (db e) = (mids p e).headD (db e) := by unfold mids; split <;> rfl
    rw [e3] at h
    exact h
  | q :: r, b, p, e => by
    have h := step_db x y b p q
    have ih := ws_ins x y r p q e
    obtain ⟨t, ht⟩ := insL_head q r e
    have e1 : insL (p :: q :: r) e = db p :: (mids p q ++ db q :: t) := by rw [← ht]; rfl
    rw [e1, ws_cons, ws_append]
    rw [ht] at ih
    have e2 : (mids p q ++ db q :: t).headD (db e) = (mids p q ++ [db q]).headD (db q) := by unfold mids; split <;> rfl
    have e3 : (mids p q).getLastD (db p) = pre p q := by unfold mids pre; split <;> rfl
    rw [e2, e3, ih]
    have e4 : (p :: q :: r).map db = db p :: (q :: r).map db := rfl
    rw [e4, ws_cons]
    have e5 : ((q :: r).map db).headD (db e) = db q := rfl
    rw [e5]
    omega
theorem lastD_app (z : S30) (t : List S30) : ∀ (a : List S30) (d : S30), (a ++ z :: t).getLastD d = t.getLastD z
  | [], d => by rw [List.nil_append, List.getLastD_cons]
  | p :: a, d => by rw [List.cons_append, List.getLastD_cons, lastD_app z t a p]
theorem getLast_ins : ∀ (r : List S30) (p e : S30), (insL (p :: r) e).getLastD (db p) = pre ((p :: r).getLast (List.cons_ne_nil p r)) e
  | [], p, e => by
    have e1 : insL [p] e = db p :: mids p e := by simp [insL]
    rw [e1]
    unfold mids pre
    split <;> simp_all [List.getLastD]
  | q :: r, p, e => by
    have ih := getLast_ins r q e
    obtain ⟨t, ht⟩ := insL_head q r e
    have e1 : insL (p :: q :: r) e = db p :: (mids p q ++ db q :: t) := by rw [← ht]; rfl
    rw [ht] at ih
    rw [e1]
    have e2 : (db p :: (mids p q ++ db q :: t)).getLastD (db p) = (db q :: t).getLastD (db q) := by
      rw [List.getLastD_cons, lastD_app, List.getLastD_cons]
    rw [e2, ih, List.getLast_cons (List.cons_ne_nil q r)]
/-- a contour with its middles -/
def insC (c : List S30) : List S30 := insL c (c.headD z30)
theorem wcon_ins (c : List S30) (x y : Int) : wcon (insC c) x y = wcon (c.map db) x y := by
  cases c with
  | nil => rfl
  | cons p r =>
    have h1 := ws_ins x y r ((p :: r).getLast (List.cons_ne_nil p r)) p p
    have h2 := getLast_ins r p p
    unfold insC
    rw [List.headD_cons]
    obtain ⟨t, ht⟩ := insL_head p r p
    rw [ht] at h1 h2 ⊢
    rw [wcon_ws, List.map_cons, wcon_ws]
    have e1 : (db p :: t).getLast (List.cons_ne_nil _ t) = (db p :: t).getLastD (db p) := by rw [List.getLast_eq_getLastD, List.getLastD_cons]
    have e2 : (db p :: r.map db).getLast (List.cons_ne_nil _ _) = db ((p :: r).getLast (List.cons_ne_nil p r)) := by
      have := List.getLast_map (f := db) (l := p :: r) (by simp)
      simpa using this
    rw [e1, e2, h2]
    exact h1
/-- the middles, by places -/
def insN (c : List S30) (n : Nat) : List S30 := (List.range n).flatMap fun k => db (ptAt c k) :: mids (ptAt c k) (ptAt c (k + 1))
theorem insN_succ (c : List S30) (n : Nat) : insN c (n + 1) = insN c n ++ (db (ptAt c n) :: mids (ptAt c n) (ptAt c (n + 1))) := by unfold insN; rw [List.range_succ, List.flatMap_append]; simp
theorem insL_range : ∀ (l : List S30) (e : S30) (f : Nat → S30), (∀ k, k < l.length → f k = l.getD k z30) → f l.length = e → insL l e = (List.range l.length).flatMap fun k => db (f k) :: mids (f k) (f (k + 1))
  | [], _, _, _, _ => rfl
  | p :: r, e, f, h, he => by
    have ih := insL_range r e (fun k => f (k + 1)) (fun k hk => by have := h (k + 1) (by rw [List.length_cons]; omega); simpa using this) he
    rw [List.length_cons, List.range_succ_eq_map, List.flatMap_cons, List.flatMap_map]
    have h0 : f 0 = p := by have := h 0 (by rw [List.length_cons]; omega); simpa using this
    have h1 : f 1 = r.headD e := by
      cases r with
      | nil => exact he
      | cons q r => have := h 1 (by simp); simpa using this
    rw [h0, h1]
    show db p :: (mids p (r.headD e) ++ insL r e) = _
    rw [ih]
    rfl
theorem insC_N (c : List S30) : insC c = insN c c.length := by
  cases c with
  | nil => rfl
  | cons p r =>
    refine insL_range (p :: r) p (ptAt (p :: r)) (fun k hk => ptAt_lt _ hk) ?_
    have := ptAt_add (p :: r) 0
    rw [Nat.zero_add] at this
    rw [this]; rfl
theorem dbN (c : List S30) : c.map db = (List.range c.length).map fun k => db (ptAt c k) := by
  apply List.ext_getElem
  · simp
  · intro k h1 h2
    have hk : k < c.length := by simpa using h1
    simp [ptAt_lt c hk, hk]
theorem ins_pt {c : List S30} {t : S30} (h : t ∈ insN c c.length) : ∃ p q, p ∈ c ∧ q ∈ c ∧ (t = db p ∨ t = md p q) := by
  unfold insN at h
  obtain ⟨k, hk, ht⟩ := List.mem_flatMap.1 h
  have h0 : 0 < c.length := by have := List.mem_range.1 hk; omega
  refine ⟨ptAt c k, ptAt c (k + 1), ptAt_mem k h0, ptAt_mem (k + 1) h0, ?_⟩
  rcases List.mem_cons.1 ht with rfl | ht
  · exact .inl rfl
  · unfold mids at ht
    split at ht
    · exact .inr (List.mem_singleton.1 ht)
    · cases ht
theorem db_ins {c : List S30} {p : S30} (h : p ∈ c) : db p ∈ insN c c.length := by
  obtain ⟨k, hk, rfl⟩ := mem_ptAt h
  unfold insN
  exact List.mem_flatMap.2 ⟨k, List.mem_range.2 hk, List.mem_cons_self⟩
theorem two {a b : Int} : (2 * a ≤ a + b ∨ 2 * b ≤ a + b) ∧ (a + b ≤ 2 * a ∨ a + b ≤ 2 * b) := by omega
theorem fill_mid (m : List (List S30)) : fillB (m.map fun c => insN c c.length) = fillB (m.map fun c => c.map db) := by
  have hsub : ∀ p ∈ ptsOf (m.map fun c => c.map db), p ∈ ptsOf (m.map fun c => insN c c.length) := by
    intro p hp
    obtain ⟨c, hc, h⟩ := pts_mem.1 hp
    obtain ⟨c', hc', rfl⟩ := List.mem_map.1 hc
    obtain ⟨q, hq, rfl⟩ := List.mem_map.1 h
    exact pts_mem.2 ⟨_, List.mem_map.2 ⟨c', hc', rfl⟩, db_ins hq⟩
  refine fillB_cov (fun t ht => ?_) (Cov.of_sub hsub) fun x y => ?_
  · obtain ⟨c, hc, h⟩ := pts_mem.1 ht
    obtain ⟨c', hc', rfl⟩ := List.mem_map.1 hc
    obtain ⟨p, q, hp, hq, e⟩ := ins_pt h
    have mp : db p ∈ ptsOf (m.map fun c => c.map db) := pts_mem.2 ⟨_, List.mem_map.2 ⟨c', hc', rfl⟩, List.mem_map.2 ⟨p, hp, rfl⟩⟩
    have mq : db q ∈ ptsOf (m.map fun c => c.map db) := pts_mem.2 ⟨_, List.mem_map.2 ⟨c', hc', rfl⟩, List.mem_map.2 ⟨q, hq, rfl⟩⟩
    rcases e with rfl | rfl
    · exact ⟨⟨_, mp, Int.le_refl _⟩, ⟨_, mp, Int.le_refl _⟩, ⟨_, mp, Int.le_refl _⟩, ⟨_, mp, Int.le_refl _⟩⟩
    · have t0 := two (a := p.f0) (b := q.f0)
      have t1 := two (a := p.f1) (b := q.f1)
      refine ⟨?_, ?_, ?_, ?_⟩
      · rcases t0.1 with h | h
        · exact ⟨_, mp, h⟩
        · exact ⟨_, mq, h⟩
      · rcases t0.2 with h | h
        · exact ⟨_, mp, h⟩
        · exact ⟨_, mq, h⟩
      · rcases t1.1 with h | h
        · exact ⟨_, mp, h⟩
        · exact ⟨_, mq, h⟩
      · rcases t1.2 with h | h
        · exact ⟨_, mp, h⟩
        · exact ⟨_, mq, h⟩
  · rw [wind_all, wind_all, List.map_map, List.map_map]
    have e : ((fun c => wcon c x y) ∘ fun c => insN c c.length) = (fun c => wcon c x y) ∘ fun c => c.map db := funext fun c => by
      show wcon (insN c c.length) x y = wcon (c.map db) x y
      rw [← insC_N, wcon_ins]
    rw [e]
def dbF (c : List S30) (n : Nat) : List S30 := (List.range n).map fun k => db (ptAt c k)
theorem dbF_succ (c : List S30) (n : Nat) : dbF c (n + 1) = dbF c n ++ [db (ptAt c n)] := by unfold dbF; rw [List.range_succ, List.map_append]; rfl
theorem dbF_len (c : List S30) (n : Nat) : (dbF c n).length = n := by simp [dbF]
theorem mids_len (p q : S30) : (mids p q).length ≤ 1 := by unfold mids; split <;> simp
theorem insN_len (c : List S30) : ∀ n, (insN c n).length ≤ 2 * n
  | 0 => Nat.le_refl _
  | n + 1 => by
    have h := insN_len c n
    have h2 := mids_len (ptAt c n) (ptAt c (n + 1))
    rw [insN_succ, List.length_append, List.length_cons]
    omega
theorem mids_end (m : List (List S30)) (hm : Good m) (k : Nat) (hk : 67 ≤ k) : abugidalaw11_ScanMiddles.l0 k true m (m.map fun c => c.map db) (m.map fun c => insN c c.length) (m.length : Int) = some true := by
  obtain ⟨k, rfl⟩ : ∃ q, k = q + 1 := ⟨k - 1, by omega⟩
  have h3 := hm.1
  rw [abugidalaw11_ScanMiddles.l0, if_neg (by omega), mid_fill (l := m.map fun c => c.map db) (by rw [List.length_map]; omega) (by
    intro c h
    obtain ⟨c', h', rfl⟩ := List.mem_map.1 h
    have := (hm.2 c' h').1
    rw [List.length_map]; omega), mid_fill (l := m.map fun c => insN c c.length) (by rw [List.length_map]; omega) (by
    intro c h
    obtain ⟨c', h', rfl⟩ := List.mem_map.1 h
    have := (hm.2 c' h').1
    have := insN_len c' c'.length
    omega), fill_mid]
  have hs := same_k (fillB (m.map fun c => c.map db)).1 (fillB (m.map fun c => c.map db)).1 (by have := fillB_rows (m.map fun c => c.map db); omega) k (by have := fillB_rows (m.map fun c => c.map db); omega)
  rw [sameB_refl] at hs
  simp only [Option.bind_some, if_true, hs]
theorem mids_in (m : List (List S30)) (hm : Good m) (i : Nat) (hi : i < m.length) (x5 x6 : List (List S30)) (h5 : x5.length = i) (h6 : x6.length = i) (c : List S30) (hc : m.getD i [] = c) (B : Nat)
    (hout : ∀ k, B ≤ k → abugidalaw11_ScanMiddles.l0 k true m (x5 ++ [dbF c c.length]) (x6 ++ [insN c c.length]) ((i + 1 : Nat) : Int) = some true) (d : Nat) : ∀ j, j + d = c.length → ∀ k, B + 1 + d ≤ k →
    abugidalaw11_ScanMiddles.l1 k true m x5 x6 (i : Int) (dbF c j) (insN c j) (c.length : Int) (j : Int) = some true := by
  have h3 := hm.1
  have hcm : c ∈ m := by rw [← hc, List.getD_eq_getElem?_getD, List.getElem?_eq_getElem hi]; exact List.getElem_mem hi
  have hc7 := (hm.2 c hcm).1
  have hcP := (hm.2 c hcm).2
  have hrd : rd_L3 m (i : Int) = c := by unfold rd_L3; rw [Int.toNat_natCast]; exact hc
  induction d with
  | zero =>
    intro j hj k hk
    obtain ⟨k, rfl⟩ : ∃ q, k = q + 1 := ⟨k - 1, by omega⟩
    obtain rfl : j = c.length := by omega
    have q1 : ¬ ((c.length : Nat) : Int) < (c.length : Int) := by omega
    have q2 : x5.length < 5864062014805 := by omega
    have q3 : x6.length < 5864062014805 := by omega
    have q7 : B ≤ k := by omega
    have e3 : wrap64 ((i : Int) + 1) = ((i + 1 : Nat) : Int) := by rw [w64 (by omega)]; omega
    rw [abugidalaw11_ScanMiddles.l1, if_neg q1, if_pos q2, if_pos q3, e3]
    exact hout k q7
  | succ d ih =>
    intro j hj k hk
    obtain ⟨k, rfl⟩ : ∃ q, k = q + 1 := ⟨k - 1, by omega⟩
    have h0 : 0 < c.length := by omega
    have hl1 := dbF_len c j
    have hl2 := insN_len c j
    have q1 : (j : Int) < (c.length : Int) := by omega
    have q2 : (0 : Int) ≤ (i : Int) := by omega
    have q3 : (i : Int) < (m.length : Int) := by omega
    have q4 : (0 : Int) ≤ (j : Int) := by omega
    have q5 : ¬ (c.length : Int) = 0 := by omega
    have q6 : (0 : Int) ≤ (((j + 1) % c.length : Nat) : Int) := by omega
    have q7 : (((j + 1) % c.length : Nat) : Int) < (c.length : Int) := by have := Nat.mod_lt (j + 1) h0; exact Int.ofNat_lt.2 this
    have q8 : (dbF c j).length < 5864062014805 := by omega
    have q9 : (insN c j).length < 5864062014805 := by omega
    have q10 : (insN c j ++ [db (ptAt c j)]).length < 5864062014805 := by rw [List.length_append, List.length_singleton]; omega
    have q11 : B + 1 + d ≤ k := by omega
    have q12 : j + 1 + d = c.length := by omega
    have hp := hcP _ (ptAt_mem j h0)
    have hq := hcP _ (ptAt_mem (j + 1) h0)
    unfold Pt at hp hq
    have a1 : wrap64 ((j : Int) + 1) = ((j + 1 : Nat) : Int) := by rw [w64 (by omega)]; omega
    have e1 : Int.tmod (wrap64 ((j : Int) + 1)) (c.length : Int) = (((j + 1) % c.length : Nat) : Int) := by
      rw [a1, Int.tmod_eq_emod_of_nonneg (Int.natCast_nonneg _)]; rfl
    have e3 : rd_T30 c (((j + 1) % c.length : Nat) : Int) = ptAt c (j + 1) := by unfold rd_T30 ptAt; rw [Int.toNat_natCast]
    have e4 : rd_T30 c (j : Int) = ptAt c j := by unfold rd_T30; rw [Int.toNat_natCast, ptAt_lt c (by clear a1 e1 e3; omega)]
    have w1 : wrap64 (2 * (ptAt c j).f0) = 2 * (ptAt c j).f0 := by clear a1 e1 e3 e4; exact w64 (by omega)
    have w2 : wrap64 (2 * (ptAt c j).f1) = 2 * (ptAt c j).f1 := by clear a1 e1 e3 e4 w1; exact w64 (by omega)
    have w3 : wrap64 ((ptAt c j).f0 + (ptAt c (j + 1)).f0) = (ptAt c j).f0 + (ptAt c (j + 1)).f0 := by clear a1 e1 e3 e4 w1 w2; exact w64 (by omega)
    have w4 : wrap64 ((ptAt c j).f1 + (ptAt c (j + 1)).f1) = (ptAt c j).f1 + (ptAt c (j + 1)).f1 := by clear a1 e1 e3 e4 w1 w2 w3; exact w64 (by omega)
    rw [abugidalaw11_ScanMiddles.l1, if_pos q1, if_pos q2, if_pos q3, if_pos q4, hrd, if_pos q1, if_neg q5, e1, if_pos q6, if_pos q7, if_pos q8, e3, e4, w1, w2, w3, w4, Option.bind_some, if_pos q9, Option.bind_some, a1]
    have hh := ih (j + 1) q12 k q11
    rw [dbF_succ, insN_succ] at hh
    by_cases hb : ((ptAt c j).f2 == (ptAt c (j + 1)).f2) = true
    · have q10' : (insN c j ++ [(⟨2 * (ptAt c j).f0, 2 * (ptAt c j).f1, (ptAt c j).f2⟩ : S30)]).length < 5864062014805 := q10
      rw [if_pos hb, if_pos q10']
      unfold mids at hh
      rw [if_pos hb] at hh
      have e : insN c j ++ [(⟨2 * (ptAt c j).f0, 2 * (ptAt c j).f1, (ptAt c j).f2⟩ : S30)] ++ [(⟨(ptAt c j).f0 + (ptAt c (j + 1)).f0, (ptAt c j).f1 + (ptAt c (j + 1)).f1, true⟩ : S30)] = insN c j ++ (db (ptAt c j) :: [md (ptAt c j) (ptAt c (j + 1))]) := by
        rw [List.append_assoc]; rfl
      rw [e]
      exact hh
    · rw [if_neg hb]
      unfold mids at hh
      rw [if_neg hb] at hh
      exact hh
theorem mids_out (m : List (List S30)) (hm : Good m) (d : Nat) : ∀ i, i + d = m.length → ∀ k, 67 + 10 * d ≤ k →
    abugidalaw11_ScanMiddles.l0 k true m ((m.take i).map fun c => c.map db) ((m.take i).map fun c => insN c c.length) (i : Int) = some true := by
  induction d with
  | zero =>
    intro i hi k hk
    obtain rfl : i = m.length := by omega
    rw [List.take_length]
    exact mids_end m hm k (by omega)
  | succ d ih =>
    intro i hi k hk
    obtain ⟨k, rfl⟩ : ∃ q, k = q + 1 := ⟨k - 1, by omega⟩
    have h3 := hm.1
    have hlt : i < m.length := by omega
    obtain ⟨c, hc⟩ : ∃ c, m.getD i [] = c := ⟨_, rfl⟩
    have hcm : c ∈ m := by rw [← hc, List.getD_eq_getElem?_getD, List.getElem?_eq_getElem hlt]; exact List.getElem_mem hlt
    have hc7 := (hm.2 c hcm).1
    have hrd : rd_L3 m (i : Int) = c := by unfold rd_L3; rw [Int.toNat_natCast]; exact hc
    rw [abugidalaw11_ScanMiddles.l0, if_pos (by omega), if_pos (by omega), hrd]
    have hci : m[i] = c := by rw [← hc, List.getD_eq_getElem?_getD, List.getElem?_eq_getElem hlt]; rfl
    refine mids_in m hm i hlt _ _ (by simp; omega) (by simp; omega) c hc (67 + 10 * d) (fun k hk => ?_) c.length 0 (by omega) k (by omega)
    have := ih (i + 1) (by omega) k hk
    rw [List.take_succ_eq_append_getElem hlt, List.map_append, List.map_append, hci] at this
    have e : c.map db = dbF c c.length := dbN c
    simp only [List.map_cons, List.map_nil, e] at this
    exact this
theorem mids_f (l : List (List Int)) : ∃ k, abugidalaw11_ScanMiddles.f k l = some true := by
  obtain ⟨m, hm, hk⟩ := made_f l
  refine ⟨200, ?_⟩
  unfold abugidalaw11_ScanMiddles.f
  rw [show law_sanity.f = some true from rfl, Option.bind_some, hk 200 (by decide), Option.bind_some]
  have h3 := hm.1
  exact mids_out m hm m.length 0 (by omega) 200 (by omega)
theorem scanMiddles_walk (A : Option Addr) (c : Nat) (xs : List (List Int)) (w : World) (hT : Tab w) (hC : Kd.C (Kd.slice 3 (Kd.int .i64)) w A xs.length xs) (hc : xs.length ≤ c) :
    Calls Tryd.prog 8 #[.slice A xs.length c] w fun e w' => e = .returned (.bool true) ∧ Below w.heap.size w w' := by
  obtain ⟨k, hk⟩ := mids_f xs
  exact abugidalaw11_ScanMiddles.calls k A c xs true w hT rfl hC hc hk
end Go.Proofs.YtleljodcdbhifaaDoor
