/- The walk of LinesDrains. -/
import Derived.Test.YtemcbaacefjfnaaLnDrM
import Derived.Test.YtemcbaacefjfnaaLnPlays
import Derived.Test.YtemcbaacefjfnaaLnRdC
set_option linter.unusedVariables false
set_option linter.unusedSimpArgs false
namespace Go.Proofs.Ytemcbaacefjfnaa
open Go.RowKit Go.Proofs.YtemcbaacefjfnaaW.PrintWords Go.Proofs.YtemcbaacefjfnaaW.PrintLast

theorem run_mapUpdate_op {P : Program} {a : Act} {oi : Oper} {t : TypeId} {m x v : Nat} {p y u : Value} {w w1 : World} (ho : oi.op = Op.mapUpdate t (.tmp m) (.tmp x) (.tmp v)) (e1 : a.tmps[m]? = some p) (e2 : a.tmps[x]? = some y) (e3 : a.tmps[v]? = some u) (h : (Instr.mapUpdate t p y u).run P w = .ok () w1) : (execOp a.eval oi).run P w = .ok .skip w1 := by
  unfold execOp
  rw [ho]
  simp only [eval_of e1, eval_of e2, eval_of e3, Sem.run_bind, Sem.run_pure, Result.andThen_ok, h]
theorem sra_cells {w : World} {ao : Option Addr} {l c : Nat} {sc : List Tb} (h : SRA w (.slice ao l c) sc) : l = sc.length ∧ ∀ k, k < sc.length → ∃ a, ao = some a ∧ a.block < w.heap.size ∧ w.cell? (a.add (k * 3)) = some (.bool (tbAt sc k).lost) ∧ w.cell? (a.add (k * 3 + 1)) = some (.int .i64 (tbAt sc k).cop) ∧ w.cell? (a.add (k * 3 + 2)) = some (.int .i64 (tbAt sc k).del) := by
  rcases h with ⟨e, e2⟩ | ⟨a, c', e, h1, h2⟩
  · cases e
    subst e2
    exact ⟨rfl, fun k hk => absurd hk (by simp)⟩
  · cases e
    refine ⟨rfl, fun k hk => ⟨a, rfl, h1 (by rintro rfl; simp at hk), ?_, ?_, ?_⟩⟩
    · exact h2 (k * 3 + 0) _ (by rw [flatT_get _ _ _ hk (by decide)]; simp [tbAt, List.getElem?_eq_getElem hk, Tb.cells])
    · exact h2 (k * 3 + 1) _ (by rw [flatT_get _ _ _ hk (by decide)]; simp [tbAt, List.getElem?_eq_getElem hk, Tb.cells])
    · exact h2 (k * 3 + 2) _ (by rw [flatT_get _ _ _ hk (by decide)]; simp [tbAt, List.getElem?_eq_getElem hk, Tb.cells])
theorem tbAt_none {sc : List Tb} {k : Nat} (h : ¬ k < sc.length) : tbAt sc k = ⟨false, 1, 0⟩ := by simp [tbAt, List.getElem?_eq_none (Nat.le_of_not_lt h)]
/-- between two messages -/
def D1 (s0 B la : Nat) (sc : List Tb) (w : World) (k : Nat) (m : List Wt) (last : Int) (N : Nat) : Prop :=
  DrS m k last ∧ ∃ (A : Nat → Prop) (V : Nat → Value) (n : Nat), (∀ g, g < s0 → A g) ∧ (∀ g, A g → g < w.heap.size) ∧ A B ∧ LW w A la 2 k sc m ∧ MapR w B n V ∧ n ≤ N ∧ (∀ j, RowD w (fun g => A g ∧ g ≠ B) (V j) (rowM m j)) ∧ ∀ j, k ≤ j → V j = .slice none 0 0
theorem D1.mono {s0 B la k N N' : Nat} {sc : List Tb} {w : World} {m : List Wt} {last : Int} (h : D1 s0 B la sc w k m last N) (hN : N ≤ N') : D1 s0 B la sc w k m last N' := by
  obtain ⟨h1, A, V, n, x1, x2, x3, x4, x5, x6, x7⟩ := h
  exact ⟨h1, A, V, n, x1, x2, x3, x4, x5, Nat.le_trans x6 hN, x7⟩
theorem next_dr (A : Nat → Prop) (l sent : Nat) (n : Int) (scr : List Tb) (m : List Wt) (txt : ByteArray) (u : Int) (j : Nat) (w0 : World) (hL : LW w0 A l n sent scr m) (h0 : m ≠ []) (hx : best m = ⟨0, 1, txt, u, j⟩) :
    Calls Try.prog 20 #[.pointer (some ⟨l, 0, none⟩)] w0 fun e w' => e = .returned (.tuple #[.agg #[.int .i64 0, .int .i64 1, .string txt], .int .i64 u, .bool true]) ∧ LW w' A l n sent scr (m.erase (best m)) ∧ Touch w0 w' (fun k => ¬ A k) := by
  refine (lw_next A l sent n scr m w0 hL h0).mono ?_
  rintro e w1 ⟨rfl, a1, a2⟩
  exact ⟨by rw [hx], a1, a2⟩
/-- while a message is noted -/
def DI (s0 s B g12 la : Nat) (sc : List Tb) (k : Nat) (m mm : List Wt) (f : Nat → Int) (w : World) (i : Nat) : Prop :=
  Blk w g12 #[.bool (tbAt sc k).lost, .int .i64 (tbAt sc k).cop, .int .i64 (tbAt sc k).del] 43 ∧ ∃ (A : Nat → Prop) (V : Nat → Value) (n : Nat), (∀ g, g < s0 → A g) ∧ (∀ g, A g → g < w.heap.size) ∧ A B ∧ LW w A la 2 (k + 1) sc mm ∧ MapR w B n V ∧ n ≤ 10 * k + i ∧
    (∀ j, j ≠ k → RowD w (fun g => A g ∧ g ≠ B ∧ g < s) (V j) (rowM m j)) ∧ (∀ j, k < j → V j = .slice none 0 0) ∧ w.ownsRow 0 3 1 (V k) i (ints i f) ∧ ∀ g, (V k).ownBlock = some g → A g ∧ g ≠ B ∧ s ≤ g
theorem di_end {s0 s B g12 la k i : Nat} {sc : List Tb} {m mm : List Wt} {f : Nat → Int} {w : World} {d : Int} (hs : DrS m k 0) (hmm : mm = m ++ sendL 2 k sc d 0 1 (txB k)) (hdue : dueL sc k d = (List.range i).map f) (hi : i ≤ 9) (h : DI s0 s B g12 la sc k m mm f w i) : D1 s0 B la sc w (k + 1) mm 0 (10 * (k + 1)) ∧ mm.length = m.length + i := by
  obtain ⟨_, A, V, n, x1, x2, x3, x4, x5, x6, x7, x8, x9, x10⟩ := h
  refine ⟨⟨by rw [hmm]; exact hs.send sc d, A, V, n, x1, x2, x3, x4, x5, by omega, fun j => ?_, fun j hj => x8 j (by omega)⟩, ?_⟩
  · by_cases e : j = k
    · subst e
      rw [hmm, rowM_step hs, if_pos rfl, hdue]
      exact RowD.of_own x9 (fun g hg => ⟨(x10 g hg).1, (x10 g hg).2.1⟩)
    · rw [hmm, rowM_step hs, if_neg e]
      exact (x7 j e).mono (fun g _ hg => ⟨hg.1, hg.2.1⟩)
  · rw [hmm, sendL_dr, hdue]
    simp
theorem d1_next {s0 B la k n c' j : Nat} {sc : List Tb} {m : List Wt} {A : Nat → Prop} {VV : Nat → Value} {u : Int} {l : List Int} {w w' : World} {nv : Value}
    (x1 : ∀ g, g < s0 → A g) (x2 : ∀ g, A g → g < w.heap.size) (x3 : A B) (x5 : n ≤ 1000 - (c' + 1)) (x7 : ∀ i, k ≤ i → VV i = .slice none 0 0) (hj : j < k) (hc : c' + 1 ≤ 400)
    (hL : LW w A la 2 k sc (m.erase (best m))) (hR : ∀ i, RowD w (fun g => A g ∧ g ≠ B) (VV i) (rowM m i)) (h4 : DrS (m.erase (best m)) k u) (h2 : rowM (m.erase (best m)) j = l) (h3 : ∀ i, i ≠ j → rowM (m.erase (best m)) i = rowM m i)
    (hN : RowD w (fun g => A g ∧ g ≠ B) nv l) (hM : MapR w' B (n + 1) (fun i => if i = j then nv else VV i)) (t : Touch w w' (fun g => g = B)) : D1 s0 B la sc w' k (m.erase (best m)) u (1000 - c') := by
  refine ⟨h4, A, _, n + 1, x1, fun g h => Nat.lt_of_lt_of_le (x2 g h) t.size, x3, hL.touch t (fun i h1 _ e => h1 (by rw [e]; exact x3)), hM, by omega, fun i => ?_, fun i hi => ?_⟩
  · show RowD w' _ (if i = j then nv else VV i) _
    by_cases e : i = j
    · subst e
      rw [if_pos rfl, h2]
      exact hN.touch t (fun g h => h.2)
    · rw [if_neg e, h3 i e]
      exact (hR i).touch t (fun g h => h.2)
  · show (if i = j then nv else VV i) = _
    rw [if_neg (by omega)]
    exact x7 i hi
def lnDr.T18 : Bool × List (List Nat × List Nat) := (true, [([], []), ([], []), ([], []), ([], []), ([2, 3], [2, 3]), ([], []), ([], []), ([6], [6]), ([7], [7]), ([5, 8], [5, 8]), ([], []), ([9, 10], [9, 10]), ([11], [11]), ([4, 12, 8], [4, 12]), ([0, 1, 13, 13, 0, 1, 2, 3, 4, 5, 6, 7, 8, 9, 10, 11, 12, 13], [0, 1, 13])])
def lnDr.B18 : List Nat := [0, 0, 0, 0, 12, 0, 0, 64, 192, 480, 0, 2016, 4064, 8188, 16383]
theorem lnDr.tab18 : rtab .any (opsOf Try.f4 18) = lnDr.T18 := by kernel_rfl
theorem lnDr.bits18 : waitsOk lnDr.T18.2 lnDr.B18 = true := by kernel_rfl
def lnDr.T25 : Bool × List (List Nat × List Nat) := (true, [([], []), ([0], [0]), ([1], [1]), ([2], [2]), ([2], [2]), ([3, 4, 2], [2, 3, 4]), ([2, 5], [2, 5]), ([6, 2], [6]), ([7], [7]), ([8, 7], [7, 8]), ([9, 7], [7, 9]), ([7, 10], [7, 10]), ([11, 7], [11]), ([12], [12]), ([13, 12], [12, 13]), ([14, 12], [12, 14]), ([12], [12]), ([15, 16, 12], [12, 15, 16]), ([12, 17], [12, 17]), ([18, 12], [18]), ([19], [19]), ([19], [19]), ([21, 19], [19, 21]), ([22, 19, 19], [19, 22]), ([20, 23, 19], [19, 20, 23]), ([19, 24], [19, 24])])
def lnDr.B25 : List Nat := [0, 1, 3, 7, 7, 31, 63, 127, 255, 511, 1023, 2047, 4095, 8191, 16383, 32767, 8191, 131071, 262143, 524287, 1048575, 1048575, 3145727, 7340031, 16777215, 33554431]
theorem lnDr.tab25 : rtab .any (opsOf Try.f4 25) = lnDr.T25 := by kernel_rfl
theorem lnDr.bits25 : waitsOk lnDr.T25.2 lnDr.B25 = true := by kernel_rfl
def lnDr.T27 : Bool × List (List Nat × List Nat) := (true, [([], []), ([], []), ([1], [1]), ([], []), ([3], [3]), ([0, 2, 4, 0, 1, 2, 3, 4], [0, 2, 4])])
def lnDr.B27 : List Nat := [0, 0, 2, 0, 8, 31]
theorem lnDr.tab27 : rtab .any (opsOf Try.f4 27) = lnDr.T27 := by kernel_rfl
theorem lnDr.bits27 : waitsOk lnDr.T27.2 lnDr.B27 = true := by kernel_rfl

set_option maxRecDepth 100000 in
set_option maxHeartbeats 8000000 in
theorem linesDrains_walk (vo : Option Addr) (vl vc : Nat) (scr : List Tb) (ao : Option Addr) (len c : Nat) (z : Nat → Int) (w0 : World)
    (hS : SRA w0 (.slice vo vl vc) scr) (hvl : vl = scr.length) (hvc : vl ≤ vc) (hvm : vl ≤ maxLen)
    (hV : ∀ i, i < len → ∃ a, ao = some a ∧ a.block < w0.heap.size ∧ w0.cell? (a.add i) = some (.int .i64 (z i))) (hl : len ≤ maxLen) :
    Calls Try.prog 4 #[.slice vo vl vc, .slice ao len c] w0 fun e w' => e = .returned (.bool true) ∧ Below w0.heap.size w0 w' := by
  have V := Lib.hid hV
  have VL := Lib.hid (And.intro hvl hvc)
  have S0 := Lib.hid hS
  clear hV hvl hvc hS
  have hmm := @run_makeMap Try.prog
  go_enter Try.func4, Try.ntmps4
  go_wp2_with fail
  refine (sanity_any _).mono ?_
  rintro e w1 ⟨rfl, b1⟩
  have H1 := Lib.hid b1
  obtain ⟨so, sl, hsh, hss⟩ : ∃ so sl, (∀ w, Calls Try.prog 12 #[.slice vo vl vc] w fun e w' => e = .returned (.slice so sl vc) ∧ w = w') ∧ SRA w0 (.slice so sl vc) (scr.take 40) := by
    rcases S0.out with ⟨h, h2⟩ | ⟨a, c', h, h3, h4⟩
    · cases h
      subst h2
      exact ⟨none, 0, fun w => short_nil w, .inl ⟨rfl, rfl⟩⟩
    · cases h
      refine ⟨some a, min scr.length 40, fun w => short_some a _ vc VL.out.2 w, .inr ⟨a, vc, by simp [Nat.min_comm], fun e => h3 (fun e2 => e (by rw [e2]; rfl)), ?_⟩⟩
      intro j u hu
      have e : flatT scr = flatT (scr.take 40) ++ flatT (scr.drop 40) := by simp only [flatT]; rw [← List.flatMap_append, List.take_append_drop]
      exact h4 _ _ (by rw [e, List.getElem?_append_left (List.getElem?_eq_some_iff.1 hu).1]; exact hu)
  have hf : (scr.take 40).length ≤ 1000 := by simp; omega
  generalize scr.take 40 = sc at *
  have SH := Lib.hid hsh
  have SC := Lib.hid (sra_cells hss)
  have SS := Lib.hid (show SRA w1 (.slice so sl vc) sc from hss.touch (Touch.of_below (s := fun _ => False) H1.out) (fun _ _ => id))
  have HF := Lib.hid hf
  obtain rfl : sl = sc.length := SC.out.1
  clear hsh hss hf b1 S0 VL
  go_wp2_with fail
  refine (SH.out _).mono ?_
  rintro e w' ⟨rfl, rfl⟩
  go_wp2_with fail
  refine (lw_sra 2 _ sc w1 SS.out HF.out).mono ?_
  rintro e w3 ⟨la, rfl, a1, a2⟩
  obtain ⟨B, hB⟩ : ∃ B, B = w3.heap.size := ⟨_, rfl⟩
  have H3 := bthen' H1.out a2
  have NB := Aside0.mk (show w0.heap.size ≤ B by rw [hB]; exact H3.size)
  have H4 := Lib.hid (balloc H3 (.map #[] 0))
  have D4 : Hid (D1 w0.heap.size B la sc (w3.alloc (.map #[] 0)) 0 [] 0 (10 * 0)) := Lib.hid (by
    refine ⟨DrS.nil 0 0, fun i => i < w0.heap.size ∨ i = B, _, 0, fun g h => .inl h, ?_, .inr rfl, ?_, by rw [hB]; exact MapR.made w3, by omega, fun j => .inl ⟨rfl, rfl⟩, fun j _ => rfl⟩
    · rintro g (h | rfl)
      · have := H3.size; simp; omega
      · simp; omega
    · refine (a1.mono ?_).quiet (balloc (Below.refl _ w3) _)
      rintro i hi (h | h)
      · exact Nat.lt_of_lt_of_le h H1.out.size
      · omega)
  have HFL : Hid (sc.length ≤ 1000) := HF
  clear a1 a2 H3 H1 SS SH
  go_wp2_with fail
  rw [← hB]
  clear hB hmm
  go_loopw [9, 8] (fun kv cv wr => ∃ (k : Nat) (m : List Wt) (c : Nat), kv = .int .i64 k ∧ cv = .int .i64 c ∧ k ≤ 40 ∧ c = m.length ∧ c ≤ 9 * k ∧ Hid (D1 w0.heap.size B la sc wr k m 0 (10 * k)) ∧ Hid (Below w0.heap.size w0 wr)) (fun kv _ _ => 40 - (intOf kv).toNat)
  case atStart => exact ⟨0, [], 0, rfl, rfl, by omega, rfl, by omega, D4, H4⟩
  case round =>
    clear D4 H4
    generalize wr = wo at *
    obtain ⟨k, m, cn, rfl, rfl, hk, hcm, hc9, D, H⟩ := hrel
    by_cases hc : k < len ∧ k < 40
    · obtain ⟨h1, h2⟩ := hc
      obtain ⟨ad, rfl, hab, t0⟩ := V.out k h1
      have hb : (ad.add k).block = ad.block := addr_block ad k
      have c0 : wo.cell? (ad.add k) = some (.int .i64 (z k)) := (H.out.cell (by rw [hb]; exact hab)).trans t0
      have ed : decide (k < len) = true := by simpa using h1
      have ed2 : decide ((k : Int) < 40) = true := by simp; omega
      have y1 : (0 : Int) ≤ (k : Int) := by omega
      have y2 : (k : Int) < (len : Int) := by omega
      have z1 := Aside0.mk h2
      have ZC := Aside0.mk (And.intro hcm hc9)
      clear hab t0 hb hcm hc9
      go_wp2_with fail
      refine (rmod_any _ _ _ (by decide) (by decide)).mono ?_
      rintro e w' ⟨rfl, rfl⟩
      have hd0 : 0 ≤ z k % 1000 := Int.emod_nonneg _ (by decide)
      have hd1 : z k % 1000 < 1000 := Int.emod_lt_of_pos _ (by decide)
      generalize z k % 1000 = d at *
      have ZD := Aside0.mk (And.intro hd0 hd1)
      clear c0 hd0 hd1 ed
      have wr8 : IntKind.u8.wrap (k : Int) = (k : Int) := IntWalk.u8_in _ (by omega)
      have cz : (wo.alloc (.cells #[.int .u8 (k : Int)] 5)).cell? ⟨wo.heap.size, 0, none⟩ = some (.int .u8 (k : Int)) := (Blk.new wo #[.int .u8 (k : Int)] 5 rfl).cell 0
      have cv := conv_one k wo.heap.size _ (by omega) cz
      obtain ⟨hD1, A, VV, n, d1, d2, d3, d4, d5, d6, d7, dn⟩ := D.out
      have VN := Lib.hid dn
      have b5 := balloc (Below.refl _ wo) (.cells #[.int .u8 (k : Int)] 5)
      have e5 := Touch.of_below (s := fun _ => False) b5
      have L5 := Lib.hid (d4.quiet b5)
      have X5 := Lib.hid (And.intro d1 (And.intro (show ∀ g, A g → g < (wo.alloc (.cells #[.int .u8 (k : Int)] 5)).heap.size from fun g h => Nat.lt_of_lt_of_le (d2 g h) b5.size) (And.intro d3 (And.intro (d5.touch e5 id) (And.intro d6 (show ∀ j, RowD (wo.alloc (.cells #[.int .u8 (k : Int)] 5)) (fun g => A g ∧ g ≠ B) (VV j) (rowM m j) from fun j => (d7 j).touch e5 (fun _ _ => id)))))))
      have DS := Lib.hid hD1
      have H5 := Lib.hid (balloc H.out (.cells #[.int .u8 (k : Int)] 5))
      clear D H d1 d2 d3 d4 d5 d6 d7 dn b5 e5 hD1 cz
      go_wp2_with fail
      generalize wo.alloc (.cells #[.int .u8 (k : Int)] 5) = w5 at *
      refine (told_any _ w5).mono ?_
      rintro e w6 ⟨rfl, b6⟩
      have L6 := Lib.hid (L5.out.quiet b6)
      have H6 := Lib.hid (bthen' H5.out b6)
      have X6 : Hid ((∀ g, g < w0.heap.size → A g) ∧ (∀ g, A g → g < w6.heap.size) ∧ A B ∧ MapR w6 B n VV ∧ n ≤ 10 * k ∧ ∀ j, RowD w6 (fun g => A g ∧ g ≠ B) (VV j) (rowM m j)) := Lib.hid (by
        obtain ⟨x1, x2, x3, x4, x5, x6⟩ := X5.out
        have e6 := Touch.of_below (s := fun _ => False) b6
        exact ⟨x1, fun g h => Nat.lt_of_lt_of_le (x2 g h) b6.size, x3, x4.touch e6 id, x5, fun j => (x6 j).touch e6 (fun _ _ => id)⟩)
      clear L5 H5 X5 b6 cv wr8
      go_wp2_with fail
      refine (lw_send A la k 2 sc m d 0 1 (txB k) w6 L6.out (by omega) (by have := ZC.out; omega) HF.out X6.out.2.1).mono ?_
      rintro e w7 ⟨rfl, a1, a2⟩
      obtain ⟨mm, hmm⟩ : ∃ mm, mm = m ++ sendL 2 k sc d 0 1 (txB k) := ⟨_, rfl⟩
      rw [← hmm] at a1
      have MM := Lib.hid hmm
      obtain ⟨b12, hb12⟩ : ∃ b12, b12 = w7.heap.size := ⟨_, rfl⟩
      have e7 := balloc (Below.refl _ w7) (.cells #[.bool false, .int .i64 1, .int .i64 0] 43)
      have t7 := Touch.of_below (s := fun _ => False) e7
      have H8 := Lib.hid (bthen' (H6.out.trans (a2.below H6.out.size (fun i h => Nat.le_of_not_lt (fun h2 => h (X6.out.1 i (Nat.lt_of_not_le (fun h3 => by omega))))))) e7)
      have L8 := Lib.hid ((a1.mono (A' := fun g => A g ∨ g = b12) (by rintro g hg (h | h); exact h; omega)).quiet e7)
      have X8 : Hid ((∀ g, g < w0.heap.size → A g) ∧ (∀ g, A g → g < b12) ∧ A B ∧ MapR (w7.alloc (.cells #[.bool false, .int .i64 1, .int .i64 0] 43)) B n VV ∧ n ≤ 10 * k ∧ ∀ j, RowD (w7.alloc (.cells #[.bool false, .int .i64 1, .int .i64 0] 43)) (fun g => A g ∧ g ≠ B) (VV j) (rowM m j)) := Lib.hid (by
        obtain ⟨x1, x2, x3, x4, x5, x6⟩ := X6.out
        exact ⟨x1, fun g h => by rw [hb12]; exact Nat.lt_of_lt_of_le (x2 g h) a2.size, x3, (x4.touch a2 (fun h => h x3)).touch t7 id, x5, fun j => ((x6 j).touch a2 (fun g h h2 => h2 h.1)).touch t7 (fun _ _ => id)⟩)
      have B8 := Lib.hid (Blk.new w7 #[.bool false, .int .i64 1, .int .i64 0] 43 rfl)
      have Z8 := Aside0.mk (show b12 < (w7.alloc (.cells #[.bool false, .int .i64 1, .int .i64 0] 43)).heap.size by rw [hb12]; simp)
      have N8 := Aside0.mk (show w0.heap.size ≤ b12 by rw [hb12]; exact Nat.le_trans H6.out.size a2.size)
      clear a1 a2 e7 t7 L6 X6 H6 hmm
      go_upto_region 13 with fail
      generalize World.alloc w7 (.cells #[.bool false, .int .i64 1, .int .i64 0] 43) = w8 at *
      rw [← hb12] at B8 ⊢
      clear hb12
      have y1 : (0 : Int) ≤ (k : Int) := by omega
      have q0 : w8.cell? ⟨b12, 0, none⟩ = some (.bool false) := B8.out.cell 0
      have q1 : w8.cell? ⟨b12, 1, none⟩ = some (.int .i64 1) := B8.out.cell 1
      have q2 : w8.cell? ⟨b12, 2, none⟩ = some (.int .i64 0) := B8.out.cell 2
      have f0 := B8.out.frozen 0
      have f1 := B8.out.frozen 1
      have f2 := B8.out.frozen 2
      by_cases hks : k < sc.length
      obtain ⟨ax, rfl, hsb, s0, s1, s2⟩ := SC.out.2 k hks
      have hsb2 : (ax.add (k * 3)).block < w0.heap.size := by rw [addr_block]; exact hsb
      rw [add_field _ _ 1 (by omega)] at s1
      rw [add_field _ _ 2 (by omega)] at s2
      have o0 : w8.cell? (ax.add (k * 3)) = some (.bool (tbAt sc k).lost) := (H8.out.cell hsb2).trans s0
      have o1 : w8.cell? ⟨(ax.add (k * 3)).block, (ax.add (k * 3)).off + 1, none⟩ = some (.int .i64 (tbAt sc k).cop) := (H8.out.cell (show (⟨(ax.add (k * 3)).block, (ax.add (k * 3)).off + 1, none⟩ : Addr).block < w0.heap.size from hsb2)).trans s1
      have o2 : w8.cell? ⟨(ax.add (k * 3)).block, (ax.add (k * 3)).off + 2, none⟩ = some (.int .i64 (tbAt sc k).del) := (H8.out.cell (show (⟨(ax.add (k * 3)).block, (ax.add (k * 3)).off + 2, none⟩ : Addr).block < w0.heap.size from hsb2)).trans s2
      have dk : decide ((k : Int) < (sc.length : Int)) = true := by simp; omega
      have y2 : (k : Int) < (sc.length : Int) := by omega
      clear s0 s1 s2 hsb hsb2
      go_upto_region 15 with fail
      obtain ⟨wx, hwx, TX, BX⟩ : ∃ wx, wx = ((w8.setCell ⟨b12, 0, none⟩ (.bool (tbAt sc k).lost)).setCell ⟨b12, 1, none⟩ (.int .i64 (tbAt sc k).cop)).setCell ⟨b12, 2, none⟩ (.int .i64 (tbAt sc k).del) ∧ Hid (Touch w8 wx (fun g => g = b12)) ∧ Hid (Blk wx b12 #[.bool (tbAt sc k).lost, .int .i64 (tbAt sc k).cop, .int .i64 (tbAt sc k).del] 43) :=
        ⟨_, rfl, Lib.hid (((Touch.setCell w8 b12 0 (.bool (tbAt sc k).lost) (fun g => g = b12) rfl).trans (Touch.setCell _ b12 1 (.int .i64 (tbAt sc k).cop) (fun g => g = b12) rfl)).trans (Touch.setCell _ b12 2 (.int .i64 (tbAt sc k).del) (fun g => g = b12) rfl)), Lib.hid (((B8.out.put 0 (.bool (tbAt sc k).lost) rfl).put 1 (.int .i64 (tbAt sc k).cop) rfl).put 2 (.int .i64 (tbAt sc k).del) rfl)⟩
      rw [← hwx]
      clear hwx
      clear o0 o1 o2 dk y2
      rotate_left
      have dk : decide (k < sc.length) = false := by simpa using hks
      go_upto_region 15 with fail
      obtain ⟨wx, hwx, TX, BX⟩ : ∃ wx, wx = w8 ∧ Hid (Touch w8 wx (fun g => g = b12)) ∧ Hid (Blk wx b12 #[.bool (tbAt sc k).lost, .int .i64 (tbAt sc k).cop, .int .i64 (tbAt sc k).del] 43) :=
        ⟨_, rfl, Lib.hid (Touch.refl w8 _), Lib.hid (by rw [tbAt_none hks]; exact B8.out)⟩
      rw [← hwx]
      clear hwx
      clear dk
      rotate_left
      all_goals
        clear q0 q1 q2 f0 f1 f2 y1 hks
        obtain ⟨f, hf⟩ : ∃ f : Nat → Int, f = fun (i : Nat) => firstOf (tbAt sc k) d + (i : Int) := ⟨_, rfl⟩
        have HFF := Lib.hid hf
        clear hf
        have DX : Hid (∃ s, b12 < s ∧ B < s ∧ w0.heap.size ≤ s ∧ s ≤ wx.heap.size ∧ DI w0.heap.size s B b12 la sc k m mm f wx 0) := Lib.hid (by
          obtain ⟨x1, x2, x3, x4, x5, x6⟩ := X8.out
          have hbs := x2 B x3
          refine ⟨wx.heap.size, BX.out.lt, by have := BX.out.lt; omega, by have := BX.out.lt; have := N8.out; omega, Nat.le_refl _, BX.out, fun g => A g ∨ g = b12, VV, n, fun g h => .inl (x1 g h), (by rintro g (h | rfl); (have := x2 g h; have := BX.out.lt; omega); exact BX.out.lt), .inl x3, L8.out.touch TX.out (fun i h1 h2 e => h1 (.inr e)), x4.touch TX.out (by omega), by omega, fun j hj => ((x6 j).touch TX.out (fun g h e => by have := x2 g h.1; omega)).mono (fun g h1 h2 => ⟨.inl h2.1, h2.2, h1⟩), fun j hj => VN.out j (by omega), by rw [VN.out k (Nat.le_refl _)]; exact World.ownsRow_nil wx 0 _ _, fun g e => by rw [VN.out k (Nat.le_refl _)] at e; cases e⟩)
        have NE := Aside0.mk (show b12 ≠ B by have := X8.out.2.1 B X8.out.2.2.1; omega)
        have HX := Lib.hid (H8.out.trans (TX.out.below H8.out.size (fun g e => by have := N8.out; omega)))
        have hC : clampI (tbAt sc k).cop 1 9 = (copiesOf (tbAt sc k) : Int) := by unfold copiesOf clampI; omega
        have hC1 : 1 ≤ copiesOf (tbAt sc k) := by unfold copiesOf clampI; omega
        have hC9 : copiesOf (tbAt sc k) ≤ 9 := by unfold copiesOf clampI; omega
        generalize hCe : copiesOf (tbAt sc k) = C at *
        have CE := Lib.hid hCe
        have KC := Aside0.mk (And.intro hC1 hC9)
        have CL := Lib.hid hC
        clear TX BX B8 X8 L8 H8 Z8 N8 VN hCe hC1 hC9 hC
        go_wp2_with fail
        go_loopw [13, 8] (fun iv cv wr => ∃ (i cc : Nat), iv = .int .i64 i ∧ cv = .int .i64 cc ∧ i ≤ C ∧ cc = cn + i ∧ ((tbAt sc k).lost = true → i = 0) ∧ Hid (∃ s, b12 < s ∧ B < s ∧ w0.heap.size ≤ s ∧ s ≤ wr.heap.size ∧ DI w0.heap.size s B b12 la sc k m mm f wr i) ∧ Hid (Below w0.heap.size w0 wr)) (fun iv _ _ => C - (intOf iv).toNat)
        case atStart => exact ⟨0, cn, rfl, rfl, by omega, by omega, fun _ => rfl, DX, HX⟩
        case round =>
          clear DX HX
          generalize wr = wq at *
          obtain ⟨i, cc, rfl, rfl, hi, hcc, hlo, D, H⟩ := hrel
          obtain ⟨s, g1, g2, g3, g4, gD⟩ := D.out
          have G4 := Aside0.mk g4
          have DD := Lib.hid gD
          have n0 : wq.cell? ⟨b12, 0, none⟩ = some (.bool (tbAt sc k).lost) := gD.1.cell 0
          have n1 : wq.cell? ⟨b12, 1, none⟩ = some (.int .i64 (tbAt sc k).cop) := gD.1.cell 1
          have GS := Aside0.mk (And.intro g1 (And.intro g2 g3))
          have IC := Aside0.mk (And.intro hi (And.intro hcc hlo))
          clear D g1 g2 g3 g4 gD hi hcc hlo
          go_wp2_with fail
          refine (rclamp_any _ _ _ _).mono ?_
          rintro e w' ⟨rfl, rfl⟩
          rw [CL.out]
          have hx : (i < C ∧ (tbAt sc k).lost = false) ∨ ((¬ i < C) ∨ (i < C ∧ (tbAt sc k).lost = true)) := by
            cases (tbAt sc k).lost <;> simp <;> omega
          rcases hx with ⟨hiC, hlo⟩ | hx
          · rw [hlo] at n0
            have dC : decide ((i : Int) < (C : Int)) = true := by simp; omega
            obtain ⟨q0, A', V', n', x1, x2, x3, x4, x5, x6, x7, x8, x9, x10⟩ := DD.out
            have T3 := Aside0.mk q0
            have L3 := Aside0.mk x4
            have M3 := Aside0.mk x5
            have R3 := Aside0.mk x7
            have H3 := Aside0.mk H.out
            obtain ⟨vk, hvk⟩ : ∃ vk, vk = V' k := ⟨_, rfl⟩
            have HVk := Aside0.mk hvk
            rw [← hvk] at x9 x10
            have O3 := Aside0.mk x9
            have OV := Aside0.mk x10
            obtain ⟨hs, hhs⟩ : ∃ hs, hs = wq.heap.size := ⟨_, rfl⟩
            rw [← hhs] at x2
            have AX := Aside0.mk (And.intro x1 (And.intro x2 (And.intro x3 (And.intro x6 x8))))
            have SZ3 := Aside0.mk (show hs ≤ wq.heap.size by omega)
            have SS3 := Aside0.mk (show s ≤ hs by rw [hhs]; exact G4.out)
            have SH3 := Aside0.mk (show b12 < hs by rw [hhs]; exact q0.lt)
            have hfi : f i = firstOf (tbAt sc k) d + (i : Int) := by rw [HFF.out]
            have hfo : d + clampI (tbAt sc k).del 0 1048576 = firstOf (tbAt sc k) d := by have := ZD.out; unfold firstOf clampI; omega
            have w1_ : IntKind.i64.wrap (d + clampI (tbAt sc k).del 0 1048576) = firstOf (tbAt sc k) d := by
              rw [hfo]; exact IntWalk.i64_in _ (by have := ZD.out; unfold firstOf clampI; omega)
            have w2_ : IntKind.i64.wrap (firstOf (tbAt sc k) d + (i : Int)) = f i := by
              rw [hfi]; exact IntWalk.i64_in _ (by have := ZD.out; have := IC.out.1; have := KC.out.2; unfold firstOf clampI; omega)
            have W1 := Aside0.mk w1_
            have W2 := Aside0.mk w2_
            generalize firstOf (tbAt sc k) d = F0 at *
            clear q0 x1 x2 x3 x4 x5 x6 x7 x8 x9 x10 hvk hhs hfi hfo w1_ w2_ DD H n1
            go_wp2_with fail
            refine start_ (n := 15) (S := fun w' => True) (ds := []) #[false, false, false, false, false, false, false, false, false, false, false, false, false, false, false] (by kernel_rfl) rfl rfl trivial (fun hHeld => ?_)
            refine with_tabW lnDr.tab18 lnDr.bits18 (fun HT_ HW_ => ?_)
            have L : Aside0 (LW wq.drew A' la 2 (k + 1) sc mm) := ⟨L3.out.quiet (bdrew (Below.refl _ wq))⟩
            have H : Aside0 (Below w0.heap.size w0 wq.drew) := ⟨bdrew H3.out⟩
            have T : Aside0 (Blk wq.drew b12 #[.bool (tbAt sc k).lost, .int .i64 (tbAt sc k).cop, .int .i64 (tbAt sc k).del] 43) := ⟨T3.out⟩
            have M : Aside0 (MapR wq.drew B n' V') := ⟨M3.out⟩
            have R : Aside0 (∀ j, j ≠ k → RowD wq.drew (fun g => A' g ∧ g ≠ B ∧ g < s) (V' j) (rowM m j)) := ⟨R3.out⟩
            have O : Aside0 (wq.drew.ownsRow 0 3 1 vk i (ints i f)) := ⟨O3.out⟩
            have SZ : Aside0 (hs ≤ wq.drew.heap.size) := ⟨SZ3.out⟩
            clear L3 H3 T3 M3 R3 O3 SZ3
            generalize wq.drew = w1' at *
            refine inv_at [0, 1, 2, 3, 4, 5, 6, 7, 8, 9, 10, 11, 12, 13, 14] (fun a0_ b a w' => ∃ (gb : Nat) (vn : Value) (m12_ : Value), a = putSel a0_ b [(0, 73, .map (some B)), (1, 74, .string (txB k)), (2, 75, .map (some B)), (3, 76, .string (txB k)), (4, 77, vk), (5, 78, .int .i64 d), (6, 79, .pointer (some ⟨b12, 2, none⟩)), (7, 80, .int .i64 (tbAt sc k).del), (8, 81, .int .i64 (clampI (tbAt sc k).del 0 1048576)), (9, 82, .int .i64 F0), (10, 83, .int .i64 (i : Int)), (11, 84, .int .i64 (f i)), (12, 85, m12_), (13, 86, vn)] ∧ (b 13 = false → LW w' A' la 2 (k + 1) sc mm) ∧ (Below w0.heap.size w0 w') ∧ (Blk w' b12 #[.bool (tbAt sc k).lost, .int .i64 (tbAt sc k).cop, .int .i64 (tbAt sc k).del] 43) ∧ (b 14 = false → MapR w' B n' V') ∧ (∀ j, j ≠ k → RowD w' (fun g => A' g ∧ g ≠ B ∧ g < s) (V' j) (rowM m j)) ∧ (b 13 = false → w'.ownsRow 0 3 1 vk i (ints i f)) ∧ (b 12 = true → b 13 = false → Blk w' gb #[.int .i64 (f i)] 3) ∧ (hs ≤ w'.heap.size) ∧ (b 13 = true → LW w' (fun g => A' g ∨ vn.ownBlock = some g) la 2 (k + 1) sc mm) ∧ (b 13 = true → w'.ownsRow 0 3 1 vn (i + 1) (ints (i + 1) f)) ∧ (b 13 = true → ∀ g, vn.ownBlock = some g → g ≠ B ∧ s ≤ g ∧ g < w'.heap.size) ∧ (b 14 = true → MapR w' B (n' + 1) (fun j => if j = k then vn else V' j)) ∧ (b 12 = true → (m12_ : Value) = .slice (some ⟨gb, 0, none⟩) 1 1)) HT_.out HW_.out (by kernel_rfl) (by kernel_rfl) ?_ ?_ ?_
            · exact ⟨0, undef, .bool false, by simp only [putSel, Bool.false_eq_true, if_false], fun _ => L.out, H.out, T.out, fun _ => M.out, R.out, fun _ => O.out, fun h_ => absurd h_ (by decide), SZ.out, fun h_ => absurd h_ (by decide), fun h_ => absurd h_ (by decide), fun h_ => absurd h_ (by decide), fun h_ => absurd h_ (by decide), fun h_ => absurd h_ (by decide)⟩
            · skip
              clear H L M O R SZ T
              refine steps_cons ?_ ?_
              · rintro b a w' ⟨gb, vn, m12_, ha, Q_L, Q_H, Q_T, Q_M, Q_R, Q_O, Q_Z, Q_SZ, Q_L9, Q_O9, Q_F9, Q_M9, Q_X12_⟩ hb_ hon hoff
                refine ⟨_, rfl, fun K hK => ?_⟩
                have e7 : a.tmps[7]? = some (.map (some B)) := by rw [ha]; exact (putSel_off rfl).trans rfl
                replace ha := Aside0.mk ha
                have H := Aside0.mk Q_H
                have T := Aside0.mk Q_T
                have M := Aside0.mk (Q_M (hoff 14 (by kernel_rfl)))
                have R := Aside0.mk Q_R
                have SZ := Aside0.mk Q_SZ
                refine value_ (w1 := w') (v := .map (some B)) (by rfl) rfl ?_ ?_
                · go_simp
                  (try simp only [i64_w])
                  try rfl
                refine hK.out _ _ ⟨gb, vn, m12_, (by rw [ha.out]; exact putSel_upk 0 hb_ rfl rfl rfl), Q_L, Q_H, Q_T, Q_M, Q_R, Q_O, Q_Z, Q_SZ, Q_L9, Q_O9, Q_F9, fun h0_ => absurd ((hoff 14 (by kernel_rfl)).symm.trans h0_) (by decide), Q_X12_⟩
              refine steps_cons ?_ ?_
              · rintro b a w' ⟨gb, vn, m12_, ha, Q_L, Q_H, Q_T, Q_M, Q_R, Q_O, Q_Z, Q_SZ, Q_L9, Q_O9, Q_F9, Q_M9, Q_X12_⟩ hb_ hon hoff
                refine ⟨_, rfl, fun K hK => ?_⟩
                have e11 : a.tmps[11]? = some (.string (txB k)) := by rw [ha]; exact (putSel_off rfl).trans rfl
                replace ha := Aside0.mk ha
                have H := Aside0.mk Q_H
                have T := Aside0.mk Q_T
                have M := Aside0.mk (Q_M (hoff 14 (by kernel_rfl)))
                have R := Aside0.mk Q_R
                have SZ := Aside0.mk Q_SZ
                refine value_ (w1 := w') (v := .string (txB k)) (by rfl) rfl ?_ ?_
                · go_simp
                  (try simp only [i64_w])
                  try rfl
                refine hK.out _ _ ⟨gb, vn, m12_, (by rw [ha.out]; exact putSel_upk 1 hb_ rfl rfl rfl), Q_L, Q_H, Q_T, Q_M, Q_R, Q_O, Q_Z, Q_SZ, Q_L9, Q_O9, Q_F9, fun h0_ => absurd ((hoff 14 (by kernel_rfl)).symm.trans h0_) (by decide), Q_X12_⟩
              refine steps_cons ?_ ?_
              · rintro b a w' ⟨gb, vn, m12_, ha, Q_L, Q_H, Q_T, Q_M, Q_R, Q_O, Q_Z, Q_SZ, Q_L9, Q_O9, Q_F9, Q_M9, Q_X12_⟩ hb_ hon hoff
                refine ⟨_, rfl, fun K hK => ?_⟩
                have e7 : a.tmps[7]? = some (.map (some B)) := by rw [ha]; exact (putSel_off rfl).trans rfl
                replace ha := Aside0.mk ha
                have L := Aside0.mk (Q_L (hoff 13 (by kernel_rfl)))
                have H := Aside0.mk Q_H
                have T := Aside0.mk Q_T
                have M := Aside0.mk (Q_M (hoff 14 (by kernel_rfl)))
                have R := Aside0.mk Q_R
                have O := Aside0.mk (Q_O (hoff 13 (by kernel_rfl)))
                have SZ := Aside0.mk Q_SZ
                refine value_ (w1 := w') (v := .map (some B)) (by rfl) rfl ?_ ?_
                · go_simp
                  (try simp only [i64_w])
                  try rfl
                refine hK.out _ _ ⟨gb, vn, m12_, (by rw [ha.out]; exact putSel_upk 2 hb_ rfl rfl rfl), Q_L, Q_H, Q_T, Q_M, Q_R, Q_O, Q_Z, Q_SZ, fun h0_ => absurd ((hoff 13 (by kernel_rfl)).symm.trans h0_) (by decide), fun h0_ => absurd ((hoff 13 (by kernel_rfl)).symm.trans h0_) (by decide), fun h0_ => absurd ((hoff 13 (by kernel_rfl)).symm.trans h0_) (by decide), fun h0_ => absurd ((hoff 14 (by kernel_rfl)).symm.trans h0_) (by decide), Q_X12_⟩
              refine steps_cons ?_ ?_
              · rintro b a w' ⟨gb, vn, m12_, ha, Q_L, Q_H, Q_T, Q_M, Q_R, Q_O, Q_Z, Q_SZ, Q_L9, Q_O9, Q_F9, Q_M9, Q_X12_⟩ hb_ hon hoff
                refine ⟨_, rfl, fun K hK => ?_⟩
                have e11 : a.tmps[11]? = some (.string (txB k)) := by rw [ha]; exact (putSel_off rfl).trans rfl
                replace ha := Aside0.mk ha
                have L := Aside0.mk (Q_L (hoff 13 (by kernel_rfl)))
                have H := Aside0.mk Q_H
                have T := Aside0.mk Q_T
                have M := Aside0.mk (Q_M (hoff 14 (by kernel_rfl)))
                have R := Aside0.mk Q_R
                have O := Aside0.mk (Q_O (hoff 13 (by kernel_rfl)))
                have SZ := Aside0.mk Q_SZ
                refine value_ (w1 := w') (v := .string (txB k)) (by rfl) rfl ?_ ?_
                · go_simp
                  (try simp only [i64_w])
                  try rfl
                refine hK.out _ _ ⟨gb, vn, m12_, (by rw [ha.out]; exact putSel_upk 3 hb_ rfl rfl rfl), Q_L, Q_H, Q_T, Q_M, Q_R, Q_O, Q_Z, Q_SZ, fun h0_ => absurd ((hoff 13 (by kernel_rfl)).symm.trans h0_) (by decide), fun h0_ => absurd ((hoff 13 (by kernel_rfl)).symm.trans h0_) (by decide), fun h0_ => absurd ((hoff 13 (by kernel_rfl)).symm.trans h0_) (by decide), fun h0_ => absurd ((hoff 14 (by kernel_rfl)).symm.trans h0_) (by decide), Q_X12_⟩
              refine steps_cons ?_ ?_
              · rintro b a w' ⟨gb, vn, m12_, ha, Q_L, Q_H, Q_T, Q_M, Q_R, Q_O, Q_Z, Q_SZ, Q_L9, Q_O9, Q_F9, Q_M9, Q_X12_⟩ hb_ hon hoff
                refine ⟨_, rfl, fun K hK => ?_⟩
                have e75 : a.tmps[75]? = some (.map (some B)) := by rw [ha]; exact putSel_on (e := (2, 75, .map (some B))) 2 rfl rfl (hon 2 (by kernel_rfl)) rfl
                have e76 : a.tmps[76]? = some (.string (txB k)) := by rw [ha]; exact putSel_on (e := (3, 76, .string (txB k))) 3 rfl rfl (hon 3 (by kernel_rfl)) rfl
                replace ha := Aside0.mk ha
                have L := Aside0.mk (Q_L (hoff 13 (by kernel_rfl)))
                have H := Aside0.mk Q_H
                have T := Aside0.mk Q_T
                have M := Aside0.mk (Q_M (hoff 14 (by kernel_rfl)))
                have R := Aside0.mk Q_R
                have O := Aside0.mk (Q_O (hoff 13 (by kernel_rfl)))
                have SZ := Aside0.mk Q_SZ
                have c0 : (Instr.lookup 38 (.map (some B)) (.string (txB k)) false).run Try.prog w' = .ok vk w' := by rw [HVk.out]; exact M.out.look k (by have := z1.out; omega)
                refine value_ (w1 := w') (v := vk) (by rfl) rfl ?_ ?_
                · go_simp
                  (try simp only [i64_w])
                  try rfl
                refine hK.out _ _ ⟨gb, vn, m12_, (by rw [ha.out]; exact putSel_upk 4 hb_ rfl rfl rfl), Q_L, Q_H, Q_T, Q_M, Q_R, Q_O, Q_Z, Q_SZ, fun h0_ => absurd ((hoff 13 (by kernel_rfl)).symm.trans h0_) (by decide), fun h0_ => absurd ((hoff 13 (by kernel_rfl)).symm.trans h0_) (by decide), fun h0_ => absurd ((hoff 13 (by kernel_rfl)).symm.trans h0_) (by decide), fun h0_ => absurd ((hoff 14 (by kernel_rfl)).symm.trans h0_) (by decide), Q_X12_⟩
              refine steps_cons ?_ ?_
              · rintro b a w' ⟨gb, vn, m12_, ha, Q_L, Q_H, Q_T, Q_M, Q_R, Q_O, Q_Z, Q_SZ, Q_L9, Q_O9, Q_F9, Q_M9, Q_X12_⟩ hb_ hon hoff
                refine ⟨_, rfl, fun K hK => ?_⟩
                have e10 : a.tmps[10]? = some (.int .i64 d) := by rw [ha]; exact (putSel_off rfl).trans rfl
                replace ha := Aside0.mk ha
                have L := Aside0.mk (Q_L (hoff 13 (by kernel_rfl)))
                have H := Aside0.mk Q_H
                have T := Aside0.mk Q_T
                have M := Aside0.mk (Q_M (hoff 14 (by kernel_rfl)))
                have R := Aside0.mk Q_R
                have O := Aside0.mk (Q_O (hoff 13 (by kernel_rfl)))
                have SZ := Aside0.mk Q_SZ
                refine value_ (w1 := w') (v := .int .i64 d) (by rfl) rfl ?_ ?_
                · go_simp
                  (try simp only [i64_w])
                  try rfl
                refine hK.out _ _ ⟨gb, vn, m12_, (by rw [ha.out]; exact putSel_upk 5 hb_ rfl rfl rfl), Q_L, Q_H, Q_T, Q_M, Q_R, Q_O, fun h0_ _ => absurd ((hoff 12 (by kernel_rfl)).symm.trans h0_) (by decide), Q_SZ, fun h0_ => absurd ((hoff 13 (by kernel_rfl)).symm.trans h0_) (by decide), fun h0_ => absurd ((hoff 13 (by kernel_rfl)).symm.trans h0_) (by decide), fun h0_ => absurd ((hoff 13 (by kernel_rfl)).symm.trans h0_) (by decide), fun h0_ => absurd ((hoff 14 (by kernel_rfl)).symm.trans h0_) (by decide), fun h0_ => absurd ((hoff 12 (by kernel_rfl)).symm.trans h0_) (by decide)⟩
              refine steps_cons ?_ ?_
              · rintro b a w' ⟨gb, vn, m12_, ha, Q_L, Q_H, Q_T, Q_M, Q_R, Q_O, Q_Z, Q_SZ, Q_L9, Q_O9, Q_F9, Q_M9, Q_X12_⟩ hb_ hon hoff
                refine ⟨_, rfl, fun K hK => ?_⟩
                have e12 : a.tmps[12]? = some (.pointer (some ⟨b12, 0, none⟩)) := by rw [ha]; exact (putSel_off rfl).trans rfl
                replace ha := Aside0.mk ha
                have L := Aside0.mk (Q_L (hoff 13 (by kernel_rfl)))
                have H := Aside0.mk Q_H
                have T := Aside0.mk Q_T
                have M := Aside0.mk (Q_M (hoff 14 (by kernel_rfl)))
                have R := Aside0.mk Q_R
                have O := Aside0.mk (Q_O (hoff 13 (by kernel_rfl)))
                have SZ := Aside0.mk Q_SZ
                refine value_ (w1 := w') (v := .pointer (some ⟨b12, 2, none⟩)) (by rfl) rfl ?_ ?_
                · go_simp
                  (try simp only [i64_w])
                  try rfl
                refine hK.out _ _ ⟨gb, vn, m12_, (by rw [ha.out]; exact putSel_upk 6 hb_ rfl rfl rfl), Q_L, Q_H, Q_T, Q_M, Q_R, Q_O, fun h0_ _ => absurd ((hoff 12 (by kernel_rfl)).symm.trans h0_) (by decide), Q_SZ, fun h0_ => absurd ((hoff 13 (by kernel_rfl)).symm.trans h0_) (by decide), fun h0_ => absurd ((hoff 13 (by kernel_rfl)).symm.trans h0_) (by decide), fun h0_ => absurd ((hoff 13 (by kernel_rfl)).symm.trans h0_) (by decide), fun h0_ => absurd ((hoff 14 (by kernel_rfl)).symm.trans h0_) (by decide), fun h0_ => absurd ((hoff 12 (by kernel_rfl)).symm.trans h0_) (by decide)⟩
              refine steps_cons ?_ ?_
              · rintro b a w' ⟨gb, vn, m12_, ha, Q_L, Q_H, Q_T, Q_M, Q_R, Q_O, Q_Z, Q_SZ, Q_L9, Q_O9, Q_F9, Q_M9, Q_X12_⟩ hb_ hon hoff
                refine ⟨_, rfl, fun K hK => ?_⟩
                have e79 : a.tmps[79]? = some (.pointer (some ⟨b12, 2, none⟩)) := by rw [ha]; exact putSel_on (e := (6, 79, .pointer (some ⟨b12, 2, none⟩))) 6 rfl rfl (hon 6 (by kernel_rfl)) rfl
                replace ha := Aside0.mk ha
                have L := Aside0.mk (Q_L (hoff 13 (by kernel_rfl)))
                have H := Aside0.mk Q_H
                have T := Aside0.mk Q_T
                have M := Aside0.mk (Q_M (hoff 14 (by kernel_rfl)))
                have R := Aside0.mk Q_R
                have O := Aside0.mk (Q_O (hoff 13 (by kernel_rfl)))
                have SZ := Aside0.mk Q_SZ
                have c0 : w'.cell? ⟨b12, 2, none⟩ = some (.int .i64 (tbAt sc k).del) := T.out.cell 2
                refine value_ (w1 := w') (v := .int .i64 (tbAt sc k).del) (by rfl) rfl ?_ ?_
                · go_simp
                  (try simp only [i64_w])
                  try rfl
                refine hK.out _ _ ⟨gb, vn, m12_, (by rw [ha.out]; exact putSel_upk 7 hb_ rfl rfl rfl), Q_L, Q_H, Q_T, Q_M, Q_R, Q_O, fun h0_ _ => absurd ((hoff 12 (by kernel_rfl)).symm.trans h0_) (by decide), Q_SZ, fun h0_ => absurd ((hoff 13 (by kernel_rfl)).symm.trans h0_) (by decide), fun h0_ => absurd ((hoff 13 (by kernel_rfl)).symm.trans h0_) (by decide), fun h0_ => absurd ((hoff 13 (by kernel_rfl)).symm.trans h0_) (by decide), fun h0_ => absurd ((hoff 14 (by kernel_rfl)).symm.trans h0_) (by decide), fun h0_ => absurd ((hoff 12 (by kernel_rfl)).symm.trans h0_) (by decide)⟩
              refine steps_cons ?_ ?_
              · rintro b a w' ⟨gb, vn, m12_, ha, Q_L, Q_H, Q_T, Q_M, Q_R, Q_O, Q_Z, Q_SZ, Q_L9, Q_O9, Q_F9, Q_M9, Q_X12_⟩ hb_ hon hoff
                refine ⟨_, rfl, fun K hK => ?_⟩
                have e80 : a.tmps[80]? = some (.int .i64 (tbAt sc k).del) := by rw [ha]; exact putSel_on (e := (7, 80, .int .i64 (tbAt sc k).del)) 7 rfl rfl (hon 7 (by kernel_rfl)) rfl
                replace ha := Aside0.mk ha
                have L := Aside0.mk (Q_L (hoff 13 (by kernel_rfl)))
                have H := Aside0.mk Q_H
                have T := Aside0.mk Q_T
                have M := Aside0.mk (Q_M (hoff 14 (by kernel_rfl)))
                have R := Aside0.mk Q_R
                have O := Aside0.mk (Q_O (hoff 13 (by kernel_rfl)))
                have SZ := Aside0.mk Q_SZ
                have c0 := rclamp_any (tbAt sc k).del 0 1048576 w'
                refine call_ 19 #[.int .i64 (tbAt sc k).del, .int .i64 0, .int .i64 1048576] (by rfl) rfl ?_ ?_
                · go_simp
                refine (rclamp_any (tbAt sc k).del 0 1048576 w').mono ?_
                rintro e w2 ⟨rfl, rfl⟩
                refine ⟨_, rfl, ?_⟩
                refine hK.out _ _ ⟨gb, vn, m12_, (by rw [ha.out]; exact putSel_upk 8 hb_ rfl rfl rfl), fun _ => L.out, H.out, T.out, fun _ => M.out, R.out, fun _ => O.out, fun h0_ _ => absurd ((hoff 12 (by kernel_rfl)).symm.trans h0_) (by decide), SZ.out, fun h0_ => absurd ((hoff 13 (by kernel_rfl)).symm.trans h0_) (by decide), fun h0_ => absurd ((hoff 13 (by kernel_rfl)).symm.trans h0_) (by decide), fun h0_ => absurd ((hoff 13 (by kernel_rfl)).symm.trans h0_) (by decide), fun h0_ => absurd ((hoff 14 (by kernel_rfl)).symm.trans h0_) (by decide), fun h0_ => absurd ((hoff 12 (by kernel_rfl)).symm.trans h0_) (by decide)⟩
              refine steps_cons ?_ ?_
              · rintro b a w' ⟨gb, vn, m12_, ha, Q_L, Q_H, Q_T, Q_M, Q_R, Q_O, Q_Z, Q_SZ, Q_L9, Q_O9, Q_F9, Q_M9, Q_X12_⟩ hb_ hon hoff
                refine ⟨_, rfl, fun K hK => ?_⟩
                have e78 : a.tmps[78]? = some (.int .i64 d) := by rw [ha]; exact putSel_on (e := (5, 78, .int .i64 d)) 5 rfl rfl (hon 5 (by kernel_rfl)) rfl
                have e81 : a.tmps[81]? = some (.int .i64 (clampI (tbAt sc k).del 0 1048576)) := by rw [ha]; exact putSel_on (e := (8, 81, .int .i64 (clampI (tbAt sc k).del 0 1048576))) 8 rfl rfl (hon 8 (by kernel_rfl)) rfl
                replace ha := Aside0.mk ha
                have L := Aside0.mk (Q_L (hoff 13 (by kernel_rfl)))
                have H := Aside0.mk Q_H
                have T := Aside0.mk Q_T
                have M := Aside0.mk (Q_M (hoff 14 (by kernel_rfl)))
                have R := Aside0.mk Q_R
                have O := Aside0.mk (Q_O (hoff 13 (by kernel_rfl)))
                have SZ := Aside0.mk Q_SZ
                have c0 := W1.out
                refine value_ (w1 := w') (v := .int .i64 F0) (by rfl) rfl ?_ ?_
                · go_simp
                  (try simp only [i64_w])
                  try rfl
                refine hK.out _ _ ⟨gb, vn, m12_, (by rw [ha.out]; exact putSel_upk 9 hb_ rfl rfl rfl), Q_L, Q_H, Q_T, Q_M, Q_R, Q_O, fun h0_ _ => absurd ((hoff 12 (by kernel_rfl)).symm.trans h0_) (by decide), Q_SZ, fun h0_ => absurd ((hoff 13 (by kernel_rfl)).symm.trans h0_) (by decide), fun h0_ => absurd ((hoff 13 (by kernel_rfl)).symm.trans h0_) (by decide), fun h0_ => absurd ((hoff 13 (by kernel_rfl)).symm.trans h0_) (by decide), fun h0_ => absurd ((hoff 14 (by kernel_rfl)).symm.trans h0_) (by decide), fun h0_ => absurd ((hoff 12 (by kernel_rfl)).symm.trans h0_) (by decide)⟩
              refine steps_cons ?_ ?_
              · rintro b a w' ⟨gb, vn, m12_, ha, Q_L, Q_H, Q_T, Q_M, Q_R, Q_O, Q_Z, Q_SZ, Q_L9, Q_O9, Q_F9, Q_M9, Q_X12_⟩ hb_ hon hoff
                refine ⟨_, rfl, fun K hK => ?_⟩
                have e13 : a.tmps[13]? = some (.int .i64 (i : Int)) := by rw [ha]; exact (putSel_off rfl).trans rfl
                replace ha := Aside0.mk ha
                have L := Aside0.mk (Q_L (hoff 13 (by kernel_rfl)))
                have H := Aside0.mk Q_H
                have T := Aside0.mk Q_T
                have M := Aside0.mk (Q_M (hoff 14 (by kernel_rfl)))
                have R := Aside0.mk Q_R
                have O := Aside0.mk (Q_O (hoff 13 (by kernel_rfl)))
                have SZ := Aside0.mk Q_SZ
                refine value_ (w1 := w') (v := .int .i64 (i : Int)) (by rfl) rfl ?_ ?_
                · go_simp
                  (try simp only [i64_w])
                  try rfl
                refine hK.out _ _ ⟨gb, vn, m12_, (by rw [ha.out]; exact putSel_upk 10 hb_ rfl rfl rfl), Q_L, Q_H, Q_T, Q_M, Q_R, Q_O, fun h0_ _ => absurd ((hoff 12 (by kernel_rfl)).symm.trans h0_) (by decide), Q_SZ, fun h0_ => absurd ((hoff 13 (by kernel_rfl)).symm.trans h0_) (by decide), fun h0_ => absurd ((hoff 13 (by kernel_rfl)).symm.trans h0_) (by decide), fun h0_ => absurd ((hoff 13 (by kernel_rfl)).symm.trans h0_) (by decide), fun h0_ => absurd ((hoff 14 (by kernel_rfl)).symm.trans h0_) (by decide), fun h0_ => absurd ((hoff 12 (by kernel_rfl)).symm.trans h0_) (by decide)⟩
              refine steps_cons ?_ ?_
              · rintro b a w' ⟨gb, vn, m12_, ha, Q_L, Q_H, Q_T, Q_M, Q_R, Q_O, Q_Z, Q_SZ, Q_L9, Q_O9, Q_F9, Q_M9, Q_X12_⟩ hb_ hon hoff
                refine ⟨_, rfl, fun K hK => ?_⟩
                have e82 : a.tmps[82]? = some (.int .i64 F0) := by rw [ha]; exact putSel_on (e := (9, 82, .int .i64 F0)) 9 rfl rfl (hon 9 (by kernel_rfl)) rfl
                have e83 : a.tmps[83]? = some (.int .i64 (i : Int)) := by rw [ha]; exact putSel_on (e := (10, 83, .int .i64 (i : Int))) 10 rfl rfl (hon 10 (by kernel_rfl)) rfl
                replace ha := Aside0.mk ha
                have L := Aside0.mk (Q_L (hoff 13 (by kernel_rfl)))
                have H := Aside0.mk Q_H
                have T := Aside0.mk Q_T
                have M := Aside0.mk (Q_M (hoff 14 (by kernel_rfl)))
                have R := Aside0.mk Q_R
                have O := Aside0.mk (Q_O (hoff 13 (by kernel_rfl)))
                have SZ := Aside0.mk Q_SZ
                have c0 := W2.out
                refine value_ (w1 := w') (v := .int .i64 (f i)) (by rfl) rfl ?_ ?_
                · go_simp
                  (try simp only [i64_w])
                  try rfl
                refine hK.out _ _ ⟨gb, vn, m12_, (by rw [ha.out]; exact putSel_upk 11 hb_ rfl rfl rfl), Q_L, Q_H, Q_T, Q_M, Q_R, Q_O, fun h0_ _ => absurd ((hoff 12 (by kernel_rfl)).symm.trans h0_) (by decide), Q_SZ, fun h0_ => absurd ((hoff 13 (by kernel_rfl)).symm.trans h0_) (by decide), fun h0_ => absurd ((hoff 13 (by kernel_rfl)).symm.trans h0_) (by decide), fun h0_ => absurd ((hoff 13 (by kernel_rfl)).symm.trans h0_) (by decide), fun h0_ => absurd ((hoff 14 (by kernel_rfl)).symm.trans h0_) (by decide), fun h0_ => absurd ((hoff 12 (by kernel_rfl)).symm.trans h0_) (by decide)⟩
              refine steps_cons ?_ ?_
              · rintro b a w' ⟨gb, vn, m12_, ha, Q_L, Q_H, Q_T, Q_M, Q_R, Q_O, Q_Z, Q_SZ, Q_L9, Q_O9, Q_F9, Q_M9, Q_X12_⟩ hb_ hon hoff
                refine ⟨_, rfl, fun K hK => ?_⟩
                have e84 : a.tmps[84]? = some (.int .i64 (f i)) := by rw [ha]; exact putSel_on (e := (11, 84, .int .i64 (f i))) 11 rfl rfl (hon 11 (by kernel_rfl)) rfl
                replace ha := Aside0.mk ha
                have L := Aside0.mk (Q_L (hoff 13 (by kernel_rfl)))
                have H := Aside0.mk Q_H
                have T := Aside0.mk Q_T
                have M := Aside0.mk (Q_M (hoff 14 (by kernel_rfl)))
                have R := Aside0.mk Q_R
                have O := Aside0.mk (Q_O (hoff 13 (by kernel_rfl)))
                have SZ := Aside0.mk Q_SZ
                refine value_ (w1 := w'.alloc (.cells #[.int .i64 (f i)] 3)) (v := .slice (some ⟨w'.heap.size, 0, none⟩) 1 1) (by rfl) rfl ?_ ?_
                · go_simp
                refine hK.out _ _ ⟨w'.heap.size, vn, (.slice (some ⟨w'.heap.size, 0, none⟩) 1 1), (by rw [ha.out]; exact putSel_upk 12 hb_ rfl rfl rfl), fun _ => L.out.quiet (balloc (Below.refl _ w') _), balloc H.out _, T.out.alloc _, fun _ => M.out.touch (Touch.alloc w' _ (fun _ => False)) id, fun j hj => (R.out j hj).touch (Touch.alloc w' _ (fun _ => False)) (fun _ _ => id), fun _ => O.out.alloc _, fun _ _ => Blk.new w' _ _ rfl, (by have := SZ.out; simp; omega), fun h0_ => absurd ((hoff 13 (by kernel_rfl)).symm.trans h0_) (by decide), fun h0_ => absurd ((hoff 13 (by kernel_rfl)).symm.trans h0_) (by decide), fun h0_ => absurd ((hoff 13 (by kernel_rfl)).symm.trans h0_) (by decide), fun h0_ => absurd ((hoff 14 (by kernel_rfl)).symm.trans h0_) (by decide), fun _ => rfl⟩
              refine steps_cons ?_ ?_
              · rintro b a w' ⟨gb, vn, m12_, ha, Q_L, Q_H, Q_T, Q_M, Q_R, Q_O, Q_Z, Q_SZ, Q_L9, Q_O9, Q_F9, Q_M9, Q_X12_⟩ hb_ hon hoff
                refine ⟨_, rfl, fun K hK => ?_⟩
                have e77 : a.tmps[77]? = some (vk) := by rw [ha]; exact putSel_on (e := (4, 77, vk)) 4 rfl rfl (hon 4 (by kernel_rfl)) rfl
                have e85 : a.tmps[85]? = some (m12_) := by rw [ha]; exact putSel_on (e := (12, 85, m12_)) 12 rfl rfl (hon 12 (by kernel_rfl)) rfl
                rw [Q_X12_ (hon 12 (by kernel_rfl))] at e85
                replace ha := Aside0.mk ha
                have L := Aside0.mk (Q_L hb_)
                have H := Aside0.mk Q_H
                have T := Aside0.mk Q_T
                have M := Aside0.mk (Q_M (hoff 14 (by kernel_rfl)))
                have R := Aside0.mk Q_R
                have O := Aside0.mk (Q_O hb_)
                have Z := Aside0.mk (Q_Z (hon 12 (by kernel_rfl)) hb_)
                have SZ := Aside0.mk Q_SZ
                obtain ⟨vv, w2, hr, o1, o2, o3⟩ := append_fresh (P := Try.prog) w' Try.underlying37 infoI rfl (by decide) vk i (ints i f) O.out [.int .i64 (f i)] rfl gb Z.out (by intro u hu; simp at hu; subst hu; rfl) (by have := IC.out.1; have := KC.out.2; omega) (by decide)
                have o1' : w2.ownsRow 0 3 1 vv (i + 1) (ints (i + 1) f) := by rw [show ints (i + 1) f = ints i f ++ [.int .i64 (f i)] by unfold ints; rw [List.range_succ, List.map_append]; rfl]; exact o1
                have hO2 : ∀ g, vv.ownBlock = some g → (vk.ownBlock = some g ∨ w'.heap.size ≤ g) := by
                  intro g hg
                  rcases o3 with e | ⟨g', e, e2⟩
                  · exact .inl (e ▸ hg)
                  · rw [hg] at e; cases e; exact .inr e2
                have tt := Touch.of_grownBy o2
                refine value_ (w1 := w2) (v := vv) (by rfl) rfl ?_ ?_
                · exact run_append_op (by rfl) e77 e85 hr
                refine hK.out _ _ ⟨gb, vv, m12_, (by rw [ha.out]; exact putSel_upk 13 hb_ rfl rfl rfl), fun h0_ => absurd ((up_self b 13).symm.trans h0_) (by decide), H.out.trans (tt.below H.out.size (fun g e => Nat.le_trans GS.out.2.2 (OV.out g e).2.2)), tt.blk T.out (fun e => by have := (OV.out _ e).2.2; have := GS.out.1; omega), fun _ => M.out.touch tt (fun e => (OV.out _ e).2.1 rfl), fun j hj => (R.out j hj).touch tt (fun g hg e => by have := (OV.out g e).2.2; have := hg.2.2; omega), fun h0_ => absurd ((up_self b 13).symm.trans h0_) (by decide), fun _ h1_ => absurd ((up_self b 13).symm.trans h1_) (by decide), (Nat.le_trans SZ.out tt.size), fun _ => (L.out.mono (A' := fun g => A' g ∨ vv.ownBlock = some g) (fun g hg h => by rcases h with h | h; exact h; rcases hO2 g h with e | e; exact (OV.out g e).1; omega)).touch tt (fun g h1 h2 e => h1 (.inl (OV.out g e).1)), fun _ => o1', fun _ => fun g hg => ⟨by rcases hO2 g hg with e | e; exact (OV.out g e).2.1; have := SZ.out; have := AX.out.2.1 B AX.out.2.2.1; omega, by rcases hO2 g hg with e | e; exact (OV.out g e).2.2; have := SZ.out; have := SS3.out; omega, (o1'.lt g hg).2⟩, fun h0_ => absurd ((hoff 14 (by kernel_rfl)).symm.trans h0_) (by decide), Q_X12_⟩
              refine steps_cons ?_ ?_
              · rintro b a w' ⟨gb, vn, m12_, ha, Q_L, Q_H, Q_T, Q_M, Q_R, Q_O, Q_Z, Q_SZ, Q_L9, Q_O9, Q_F9, Q_M9, Q_X12_⟩ hb_ hon hoff
                refine ⟨_, rfl, fun K hK => ?_⟩
                have e73 : a.tmps[73]? = some (.map (some B)) := by rw [ha]; exact putSel_on (e := (0, 73, .map (some B))) 0 rfl rfl (hon 0 (by kernel_rfl)) rfl
                have e74 : a.tmps[74]? = some (.string (txB k)) := by rw [ha]; exact putSel_on (e := (1, 74, .string (txB k))) 1 rfl rfl (hon 1 (by kernel_rfl)) rfl
                have e86 : a.tmps[86]? = some (vn) := by rw [ha]; exact putSel_on (e := (13, 86, vn)) 13 rfl rfl (hon 13 (by kernel_rfl)) rfl
                replace ha := Aside0.mk ha
                have H := Aside0.mk Q_H
                have T := Aside0.mk Q_T
                have M := Aside0.mk (Q_M hb_)
                have R := Aside0.mk Q_R
                have SZ := Aside0.mk Q_SZ
                have L9 := Aside0.mk (Q_L9 (hon 13 (by kernel_rfl)))
                have O9 := Aside0.mk (Q_O9 (hon 13 (by kernel_rfl)))
                have F9 := Aside0.mk (Q_F9 (hon 13 (by kernel_rfl)))
                obtain ⟨w2, hr, p1, p2⟩ := M.out.put k (by have := z1.out; omega) vn (by have := AX.out.2.2.2.1; have := IC.out.1; have := KC.out.2; have := z1.out; simp only [maxLen]; omega)
                have tt := Touch.of_grownBy p2
                refine skip_ (w1 := w2) (by rfl) rfl ?_ ?_
                · exact run_mapUpdate_op (by rfl) e73 e74 e86 hr
                refine hK.out _ _ ⟨gb, vn, m12_, (by rw [ha.out]; exact putSel_none (v := undef) rfl), fun h0_ => absurd ((hon 13 (by kernel_rfl)).symm.trans h0_) (by decide), H.out.trans (tt.below H.out.size (fun g e => by cases e; exact NB.out)), tt.blk T.out (fun e => by cases e; exact NE.out rfl), fun h0_ => absurd ((up_self b 14).symm.trans h0_) (by decide), fun j hj => (R.out j hj).touch tt (fun g hg e => by cases e; exact hg.2.1 rfl), fun h0_ => absurd ((hon 13 (by kernel_rfl)).symm.trans h0_) (by decide), fun _ h1_ => absurd ((hon 13 (by kernel_rfl)).symm.trans h1_) (by decide), (Nat.le_trans SZ.out tt.size), fun _ => L9.out.touch tt (fun g h1 h2 e => by cases e; exact h1 (.inl AX.out.2.2.1)), fun _ => ownsRow_touch O9.out tt (fun g e e2 => by cases e2; exact (F9.out _ e).1 rfl), fun _ => fun g e => ⟨(F9.out g e).1, (F9.out g e).2.1, Nat.lt_of_lt_of_le (F9.out g e).2.2 tt.size⟩, fun _ => p1, Q_X12_⟩
              exact steps_nil
            · rintro b a w' hall ⟨gb, vn, m12_, ha, Q_L, Q_H, Q_T, Q_M, Q_R, Q_O, Q_Z, Q_SZ, Q_L9, Q_O9, Q_F9, Q_M9, Q_X12_⟩
              clear H L M O R SZ T
              have hb0_ := hall 0 (by kernel_rfl)
              have hb1_ := hall 1 (by kernel_rfl)
              have hb2_ := hall 2 (by kernel_rfl)
              have hb3_ := hall 3 (by kernel_rfl)
              have hb4_ := hall 4 (by kernel_rfl)
              have hb5_ := hall 5 (by kernel_rfl)
              have hb6_ := hall 6 (by kernel_rfl)
              have hb7_ := hall 7 (by kernel_rfl)
              have hb8_ := hall 8 (by kernel_rfl)
              have hb9_ := hall 9 (by kernel_rfl)
              have hb10_ := hall 10 (by kernel_rfl)
              have hb11_ := hall 11 (by kernel_rfl)
              have hb12_ := hall 12 (by kernel_rfl)
              have hb13_ := hall 13 (by kernel_rfl)
              have hb14_ := hall 14 (by kernel_rfl)
              subst ha
              obtain rfl := Q_X12_ hb12_
              simp only [putSel, hb0_, hb1_, hb2_, hb3_, hb4_, hb5_, hb6_, hb7_, hb8_, hb9_, hb10_, hb11_, hb12_, hb13_, hb14_, if_true, Act.put, List.setIfInBounds_toArray, List.set_cons_zero, List.set_cons_succ]
              clear Q_L
              have H := Aside0.mk Q_H
              clear Q_H
              have T := Aside0.mk Q_T
              clear Q_T
              clear Q_M
              have R := Aside0.mk Q_R
              clear Q_R
              clear Q_O
              clear Q_Z
              have SZ := Aside0.mk Q_SZ
              clear Q_SZ
              have L9 := Aside0.mk (Q_L9 hb13_)
              clear Q_L9
              have O9 := Aside0.mk (Q_O9 hb13_)
              clear Q_O9
              have F9 := Aside0.mk (Q_F9 hb13_)
              clear Q_F9
              have M9 := Aside0.mk (Q_M9 hb14_)
              clear Q_M9
              clear hall hb0_ hb1_ hb2_ hb3_ hb4_ hb5_ hb6_ hb7_ hb8_ hb9_ hb10_ hb11_ hb12_ hb13_ hb14_
              have DX := Lib.hid (show ∃ s, b12 < s ∧ B < s ∧ w0.heap.size ≤ s ∧ s ≤ w'.heap.size ∧ DI w0.heap.size s B b12 la sc k m mm f w' (i + 1) from
                ⟨s, GS.out.1, GS.out.2.1, GS.out.2.2, Nat.le_trans SS3.out SZ.out, T.out, fun g => A' g ∨ vn.ownBlock = some g, (fun j => if j = k then vn else V' j), n' + 1, fun g h => .inl (AX.out.1 g h),
                  fun g h => by rcases h with h | h; exact Nat.lt_of_lt_of_le (AX.out.2.1 g h) SZ.out; exact (F9.out g h).2.2, .inl AX.out.2.2.1, L9.out, M9.out, by have := AX.out.2.2.2.1; omega,
                  fun j hj => by
                    show RowD w' _ (if j = k then vn else V' j) _
                    rw [if_neg hj]
                    exact (R.out j hj).mono (fun g _ hg => ⟨.inl hg.1, hg.2⟩),
                  fun j hj => by
                    show (if j = k then vn else V' j) = _
                    rw [if_neg (by omega)]
                    exact AX.out.2.2.2.2 j hj,
                  by
                    show w'.ownsRow 0 3 1 (if k = k then vn else V' k) (i + 1) (ints (i + 1) f)
                    rw [if_pos rfl]
                    exact O9.out,
                  fun g hg => by
                    replace hg : (if k = k then vn else V' k).ownBlock = some g := hg
                    rw [if_pos rfl] at hg
                    exact ⟨.inr hg, (F9.out g hg).1, (F9.out g hg).2.1⟩⟩)
              have HX := Lib.hid H.out
              have y3 : (cc : Int) ≤ 1000 := by have := IC.out.2.1; have := IC.out.1; have := KC.out.2; have := ZC.out.2; have := z1.out; omega
              have y4 : (0 : Int) ≤ (cc : Int) := by omega
              have y5 : (i : Int) ≤ 1000 := by have := IC.out.1; have := KC.out.2; omega
              have y6 : (0 : Int) ≤ (i : Int) := by omega
              clear T R L9 O9 F9 M9 H
              go_wp2_with fail
              go_roundw
              case rel => first | exact ⟨i + 1, cc + 1, rfl, rfl, hiC, by have := IC.out.2.1; omega, (fun h => by rw [hlo] at h; cases h), DX, HX⟩ | exact ⟨i + 1, by omega, cc + 1, by omega, hiC, by have := IC.out.2.1; omega, DX⟩
              case measure => simp [intOf]; omega
          · have hdue : dueL sc k d = (List.range i).map f := by
              rw [HFF.out]
              unfold dueL
              rw [CE.out]
              have h1 := IC.out.1
              have h2 := IC.out.2.2
              have h3 := KC.out.1
              by_cases hl : (tbAt sc k).lost = true
              · have := h2 hl
                subst this
                rw [if_pos hl]; rfl
              · rw [if_neg hl]
                have : i = C := by
                  rcases hx with h | ⟨_, h⟩
                  · omega
                  · exact absurd h hl
                rw [this]
            obtain ⟨e1, e2⟩ := di_end DS.out MM.out hdue (by have := KC.out.2; have := IC.out.1; omega) DD.out
            have D9 := Lib.hid e1
            have E9 := Lib.hid e2
            clear DD hdue e1 e2
            rcases hx with h | ⟨h, hlo⟩
            · have dC : decide ((i : Int) < (C : Int)) = false := by simp; omega
              go_wp2_with fail
              go_roundw
              case rel => exact ⟨k + 1, mm, cc, rfl, rfl, by have := z1.out; omega, by have := E9.out; have := IC.out.2.1; have := ZC.out.1; omega, by have := E9.out; have := IC.out.2.1; have := IC.out.1; have := KC.out.2; have := ZC.out.2; omega, D9, H⟩
              case measure => have := z1.out; simp [intOf]; omega
            · have dC : decide ((i : Int) < (C : Int)) = true := by simp; omega
              rw [hlo] at n0
              go_wp2_with fail
              go_roundw
              case rel => exact ⟨k + 1, mm, cc, rfl, rfl, by have := z1.out; omega, by have := E9.out; have := IC.out.2.1; have := ZC.out.1; omega, by have := E9.out; have := IC.out.2.1; have := IC.out.1; have := KC.out.2; have := ZC.out.2; omega, D9, H⟩
              case measure => have := z1.out; simp [intOf]; omega
    · have hx : (¬ k < len) ∨ (k < len ∧ ¬ k < 40) := by omega
      have D0 := Lib.hid (D.out.mono (show 10 * k ≤ 1000 - cn by omega))
      have cle : cn ≤ 400 := by omega
      clear hc D hc9
      rcases hx with q | ⟨q, q2⟩
      all_goals
        (try have ed : decide (k < len) = false := by simpa using q)
        (try have ed : decide (k < len) = true := by simpa using q)
        (try have ed2 : decide ((k : Int) < 40) = false := by simpa using q2)
        go_wp2_with fail
        go_loopw [8, 14] (fun cv lv wr => ∃ (m : List Wt) (last : Int) (c : Nat), cv = .int .i64 c ∧ lv = .int .i64 last ∧ c = m.length ∧ c ≤ 400 ∧ Hid (D1 w0.heap.size B la sc wr k m last (1000 - c)) ∧ Hid (Below w0.heap.size w0 wr)) (fun cv _ _ => (intOf cv).toNat)
        case atStart => exact ⟨m, 0, cn, rfl, rfl, hcm, cle, D0, H⟩
        case round =>
          clear D0 H hcm cle
          generalize wr = wq at *
          obtain ⟨m, last, cc, rfl, rfl, hcc, hc4, D, H⟩ := hrel
          by_cases hne : m = []
          · subst hne
            obtain rfl : cc = 0 := hcc
            obtain ⟨hD1, A, VV, n, d1, d2, d3, d4, d5, d6, d7, dn⟩ := D.out
            have L1 := Lib.hid d4
            clear D hD1 d1 d2 d3 d4 d5 d6 d7 dn
            go_wp2_with fail
            refine (lw_none A la k 2 sc _ L1.out).mono ?_
            rintro e w5 ⟨rfl, a1, a2⟩
            have H5 := Lib.hid (balloc (bthen' H.out a2) (.cells #[.int .i64 0, .int .i64 0, .string ⟨#[]⟩] 31))
            clear a1 a2 H L1
            go_wp2_with fail
            go_ret
            exact ⟨rfl, H5.out⟩
          · obtain ⟨hD1, A, VV, n, d1, d2, d3, d4, d5, d6, d7, dn⟩ := D.out
            obtain ⟨j, l, hj, hb, hla, e1, e2, e3, e4⟩ := hD1.next d4.1.1 hne
            obtain ⟨u, hu⟩ : ∃ u, u = (best m).due := ⟨_, rfl⟩
            rw [← hu] at hb hla e1 e4
            have hlen : (m.erase (best m)).length = m.length - 1 := List.length_erase_of_mem (best_mem hne)
            obtain ⟨c', hc'⟩ : ∃ c', cc = c' + 1 := ⟨cc - 1, by have : 0 < m.length := List.length_pos_iff.2 hne; omega⟩
            subst hc'
            have L1 := Lib.hid d4
            have HB := Lib.hid (And.intro hne hb)
            have E4 := Lib.hid (And.intro e4 (And.intro (show c' = (m.erase (best m)).length by omega) (And.intro e2 e3)))
            have R0 := d7 j
            rw [e1] at R0
            obtain ⟨g, off, cap, hVj, r1, r2, r3, r4, r5⟩ : ∃ g off cap, VV j = .slice (some ⟨g, off, none⟩) (l.length + 1) cap ∧ l.length + 1 ≤ cap ∧ cap ≤ maxLen ∧ (A g ∧ g ≠ B) ∧ g < wq.heap.size ∧ ∀ (i : Nat) (x : Int), (u :: l)[i]? = some x → wq.cell? ⟨g, off + i, none⟩ = some (.int .i64 x) := by
              rcases R0 with ⟨_, h⟩ | ⟨g, off, cap, h1, h2, h3, h4, h5, h6⟩
              · cases h
              · exact ⟨g, off, cap, h1, h2, h3, h4, h5, h6⟩
            have XX := Lib.hid (And.intro d1 (And.intro d2 (And.intro d3 (And.intro d5 (And.intro d6 (And.intro d7 dn))))))
            have RR := Lib.hid (And.intro r3 (And.intro r4 r5))
            have hla0 : decide (u < last) = false := by simp; omega
            have y1 : (0 : Int) < ((c' + 1 : Nat) : Int) := by omega
            have CP := Aside0.mk (And.intro r1 r2)
            have J0 := Aside0.mk (show j < 256 by omega)
            have JK := Aside0.mk hj
            clear D hD1 d1 d2 d3 d4 d5 d6 d7 dn hb e1 e2 e3 e4 hu hlen R0 r1 r2 r3 r4 r5 hne hcc hla
            go_wp2_with fail
            refine (next_dr A la k 2 sc m (txB j) u j _ L1.out HB.out.1 HB.out.2).mono ?_
            rintro e w5 ⟨rfl, a1, a2⟩
            have e6 := balloc (Below.refl _ w5) (.cells #[.int .i64 0, .int .i64 1, .string (txB j)] 31)
            have t6 := Touch.of_below (s := fun _ => False) e6
            have B6 := Lib.hid (Blk.new w5 #[.int .i64 0, .int .i64 1, .string (txB j)] 31 rfl)
            have cT : (w5.alloc (.cells #[.int .i64 0, .int .i64 1, .string (txB j)] 31)).cell? ⟨w5.heap.size, 2, none⟩ = some (.string (txB j)) := B6.out.cell 2
            have L6 := Lib.hid (a1.quiet e6)
            have H6 : Hid (Below w0.heap.size w0 (w5.alloc (.cells #[.int .i64 0, .int .i64 1, .string (txB j)] 31))) := Lib.hid (bthen' (H.out.trans (a2.below H.out.size (fun i h => Nat.le_of_not_lt (fun h2 => h (XX.out.1 i h2))))) e6)
            have X6 : Hid ((∀ g, g < w0.heap.size → A g) ∧ (∀ g, A g → g < (w5.alloc (.cells #[.int .i64 0, .int .i64 1, .string (txB j)] 31)).heap.size) ∧ A B ∧ MapR (w5.alloc (.cells #[.int .i64 0, .int .i64 1, .string (txB j)] 31)) B n VV ∧ n ≤ 1000 - (c' + 1) ∧ (∀ i, RowD (w5.alloc (.cells #[.int .i64 0, .int .i64 1, .string (txB j)] 31)) (fun g => A g ∧ g ≠ B) (VV i) (rowM m i)) ∧ ∀ i, k ≤ i → VV i = .slice none 0 0) := Lib.hid (by
              obtain ⟨x1, x2, x3, x4, x5, x6, x7⟩ := XX.out
              exact ⟨x1, fun g h => Nat.lt_of_lt_of_le (x2 g h) (Nat.le_trans a2.size e6.size), x3, (x4.touch a2 (fun h => h x3)).touch t6 id, x5, fun i => ((x6 i).touch a2 (fun g h h2 => h2 h.1)).touch t6 (fun _ _ => id), x7⟩)
            have R6 : Hid ((A g ∧ g ≠ B) ∧ g < (w5.alloc (.cells #[.int .i64 0, .int .i64 1, .string (txB j)] 31)).heap.size ∧ ∀ (i : Nat) (x : Int), (u :: l)[i]? = some x → (w5.alloc (.cells #[.int .i64 0, .int .i64 1, .string (txB j)] 31)).cell? ⟨g, off + i, none⟩ = some (.int .i64 x)) := Lib.hid (by
              obtain ⟨x1, x2, x3⟩ := RR.out
              refine ⟨x1, Nat.lt_of_lt_of_le x2 (Nat.le_trans a2.size e6.size), fun i x hi => ?_⟩
              rw [← x3 i x hi]
              unfold World.cell?
              rw [t6.block g (Nat.lt_of_lt_of_le x2 a2.size) id, a2.block g x2 (fun h => h x1.1)])
            have hlk : (Instr.lookup 38 (.map (some B)) (.string (txB j)) false).run Try.prog (w5.alloc (.cells #[.int .i64 0, .int .i64 1, .string (txB j)] 31)) = .ok (.slice (some ⟨g, off, none⟩) (l.length + 1) cap) (w5.alloc (.cells #[.int .i64 0, .int .i64 1, .string (txB j)] 31)) := by rw [← hVj]; exact X6.out.2.2.2.1.look j J0.out
            have VJ := Lib.hid hVj
            clear a1 a2 e6 t6 L1 H XX RR hVj y1
            go_wp2_with fail
            obtain ⟨g15, hg⟩ : ∃ g15, g15 = w5.heap.size := ⟨_, rfl⟩
            rw [← hg] at B6 ⊢
            clear cT hlk
            generalize w5.alloc (.cells #[.int .i64 0, .int .i64 1, .string (txB j)] 31) = w6 at *
            clear hg
            have HLA := Aside0.mk hla0
            have B3 := Aside0.mk B6.out
            have R3 := Aside0.mk R6.out
            clear hla0
            refine start_ (n := 26) (S := fun w' => True) (ds := []) #[false, false, false, false, false, false, false, false, false, false, false, false, false, false, false, false, false, false, false, false, false, false, false, false, false, false] (by kernel_rfl) rfl rfl trivial (fun hHeld => ?_)
            refine with_tabW lnDr.tab25 lnDr.bits25 (fun HT_ HW_ => ?_)
            have E : Aside0 (Below w6.heap.size w6 w6.drew) := ⟨bdrew (Below.refl _ w6)⟩
            obtain ⟨w1', hw1'⟩ : ∃ w1', w1' = w6.drew := ⟨_, rfl⟩
            rw [← hw1'] at E ⊢
            clear hw1'
            refine inv_at [0, 1, 2, 3, 4, 5, 6, 7, 8, 9, 10, 11, 12, 13, 14, 15, 16, 17, 18, 19, 20, 21, 22, 23, 24, 25] (fun a0_ b a w' => a = putSel a0_ b [(0, 103, .bool true), (1, 104, .bool false), (2, 105, .bool false), (3, 106, .int .i64 u), (4, 107, .int .i64 last), (5, 108, .bool false), (6, 109, .bool false), (7, 110, .bool false), (8, 111, .slice (some ⟨g, off, none⟩) (l.length + 1) cap), (9, 112, .int .i64 ((l.length + 1 : Nat) : Int)), (10, 113, .bool false), (11, 114, .bool false), (12, 115, .bool false), (13, 116, .slice (some ⟨g, off, none⟩) (l.length + 1) cap), (14, 117, .pointer (some ⟨g, off, none⟩)), (15, 118, .int .i64 u), (16, 119, .int .i64 u), (17, 120, .bool false), (18, 121, .bool false), (19, 122, .bool false), (20, 123, .agg #[.int .i64 0, .int .i64 1, .string (txB j)]), (21, 124, .pointer (some ⟨g15, 2, none⟩)), (22, 125, .string (txB j)), (23, 126, .agg #[.int .i64 0, .int .i64 1, .string (txB j)]), (24, 127, .bool false), (25, 128, .bool false)] ∧ (Below w6.heap.size w6 w')) HT_.out HW_.out (by kernel_rfl) (by kernel_rfl) ?_ ?_ ?_
            · exact ⟨by simp only [putSel, Bool.false_eq_true, if_false], E.out⟩
            · skip
              clear E
              refine steps_cons ?_ ?_
              · rintro b a w' ⟨ha, Q_E⟩ hb_ hon hoff
                refine ⟨_, rfl, fun K hK => ?_⟩
                have e17 : a.tmps[17]? = some (.bool true) := by rw [ha]; exact (putSel_off rfl).trans rfl
                replace ha := Aside0.mk ha
                have E := Aside0.mk Q_E
                refine value_ (w1 := w') (v := .bool true) (by rfl) rfl ?_ ?_
                · go_simp
                  (try simp only [i64_w])
                  try rfl
                refine hK.out _ _ ⟨(by rw [ha.out]; exact putSel_upk 0 hb_ rfl rfl rfl), Q_E⟩
              refine steps_cons ?_ ?_
              · rintro b a w' ⟨ha, Q_E⟩ hb_ hon hoff
                refine ⟨_, rfl, fun K hK => ?_⟩
                have e103 : a.tmps[103]? = some (.bool true) := by rw [ha]; exact putSel_on (e := (0, 103, .bool true)) 0 rfl rfl (hon 0 (by kernel_rfl)) rfl
                replace ha := Aside0.mk ha
                have E := Aside0.mk Q_E
                refine value_ (w1 := w') (v := .bool false) (by rfl) rfl ?_ ?_
                · go_simp
                  (try simp only [i64_w])
                  try rfl
                refine hK.out _ _ ⟨(by rw [ha.out]; exact putSel_upk 1 hb_ rfl rfl rfl), Q_E⟩
              refine steps_cons ?_ ?_
              · rintro b a w' ⟨ha, Q_E⟩ hb_ hon hoff
                refine ⟨_, rfl, fun K hK => ?_⟩
                have e104 : a.tmps[104]? = some (.bool false) := by rw [ha]; exact putSel_on (e := (1, 104, .bool false)) 1 rfl rfl (hon 1 (by kernel_rfl)) rfl
                replace ha := Aside0.mk ha
                have E := Aside0.mk Q_E
                refine value_ (w1 := w') (v := .bool false) (by rfl) rfl ?_ ?_
                · go_simp
                  (try simp only [i64_w])
                  try rfl
                refine hK.out _ _ ⟨(by rw [ha.out]; exact putSel_upk 2 hb_ rfl rfl rfl), Q_E⟩
              refine steps_cons ?_ ?_
              · rintro b a w' ⟨ha, Q_E⟩ hb_ hon hoff
                refine ⟨_, rfl, fun K hK => ?_⟩
                have e16 : a.tmps[16]? = some (.int .i64 u) := by rw [ha]; exact (putSel_off rfl).trans rfl
                have e105 : a.tmps[105]? = some (.bool false) := by rw [ha]; exact putSel_on (e := (2, 105, .bool false)) 2 rfl rfl (hon 2 (by kernel_rfl)) rfl
                replace ha := Aside0.mk ha
                have E := Aside0.mk Q_E
                refine value_ (w1 := w') (v := .int .i64 u) (wanted_on rfl rfl rfl (e105.trans (by first | rfl | (simp [*]; done)))) rfl ?_ ?_
                · go_simp
                  (try simp only [i64_w])
                  try rfl
                refine hK.out _ _ ⟨(by rw [ha.out]; exact putSel_upk 3 hb_ rfl rfl rfl), Q_E⟩
              refine steps_cons ?_ ?_
              · rintro b a w' ⟨ha, Q_E⟩ hb_ hon hoff
                refine ⟨_, rfl, fun K hK => ?_⟩
                have e14 : a.tmps[14]? = some (.int .i64 last) := by rw [ha]; exact (putSel_off rfl).trans rfl
                have e105 : a.tmps[105]? = some (.bool false) := by rw [ha]; exact putSel_on (e := (2, 105, .bool false)) 2 rfl rfl (hon 2 (by kernel_rfl)) rfl
                replace ha := Aside0.mk ha
                have E := Aside0.mk Q_E
                refine value_ (w1 := w') (v := .int .i64 last) (wanted_on rfl rfl rfl (e105.trans (by first | rfl | (simp [*]; done)))) rfl ?_ ?_
                · go_simp
                  (try simp only [i64_w])
                  try rfl
                refine hK.out _ _ ⟨(by rw [ha.out]; exact putSel_upk 4 hb_ rfl rfl rfl), Q_E⟩
              refine steps_cons ?_ ?_
              · rintro b a w' ⟨ha, Q_E⟩ hb_ hon hoff
                refine ⟨_, rfl, fun K hK => ?_⟩
                have e106 : a.tmps[106]? = some (.int .i64 u) := by rw [ha]; exact putSel_on (e := (3, 106, .int .i64 u)) 3 rfl rfl (hon 3 (by kernel_rfl)) rfl
                have e107 : a.tmps[107]? = some (.int .i64 last) := by rw [ha]; exact putSel_on (e := (4, 107, .int .i64 last)) 4 rfl rfl (hon 4 (by kernel_rfl)) rfl
                have e105 : a.tmps[105]? = some (.bool false) := by rw [ha]; exact putSel_on (e := (2, 105, .bool false)) 2 rfl rfl (hon 2 (by kernel_rfl)) rfl
                replace ha := Aside0.mk ha
                have E := Aside0.mk Q_E
                have c0 := HLA.out
                refine value_ (w1 := w') (v := .bool false) (wanted_on rfl rfl rfl (e105.trans (by first | rfl | (simp [*]; done)))) rfl ?_ ?_
                · go_simp
                  (try simp only [i64_w])
                  try rfl
                refine hK.out _ _ ⟨(by rw [ha.out]; exact putSel_upk 5 hb_ rfl rfl rfl), Q_E⟩
              refine steps_cons ?_ ?_
              · rintro b a w' ⟨ha, Q_E⟩ hb_ hon hoff
                refine ⟨_, rfl, fun K hK => ?_⟩
                have e105 : a.tmps[105]? = some (.bool false) := by rw [ha]; exact putSel_on (e := (2, 105, .bool false)) 2 rfl rfl (hon 2 (by kernel_rfl)) rfl
                have e108 : a.tmps[108]? = some (.bool false) := by rw [ha]; exact putSel_on (e := (5, 108, .bool false)) 5 rfl rfl (hon 5 (by kernel_rfl)) rfl
                replace ha := Aside0.mk ha
                have E := Aside0.mk Q_E
                refine value_ (w1 := w') (v := .bool false) (by rfl) rfl ?_ ?_
                · go_simp
                  (try simp only [i64_w])
                  try rfl
                refine hK.out _ _ ⟨(by rw [ha.out]; exact putSel_upk 6 hb_ rfl rfl rfl), Q_E⟩
              refine steps_cons ?_ ?_
              · rintro b a w' ⟨ha, Q_E⟩ hb_ hon hoff
                refine ⟨_, rfl, fun K hK => ?_⟩
                have e109 : a.tmps[109]? = some (.bool false) := by rw [ha]; exact putSel_on (e := (6, 109, .bool false)) 6 rfl rfl (hon 6 (by kernel_rfl)) rfl
                replace ha := Aside0.mk ha
                have E := Aside0.mk Q_E
                refine value_ (w1 := w') (v := .bool false) (by rfl) rfl ?_ ?_
                · go_simp
                  (try simp only [i64_w])
                  try rfl
                refine hK.out _ _ ⟨(by rw [ha.out]; exact putSel_upk 7 hb_ rfl rfl rfl), Q_E⟩
              refine steps_cons ?_ ?_
              · rintro b a w' ⟨ha, Q_E⟩ hb_ hon hoff
                refine ⟨_, rfl, fun K hK => ?_⟩
                have e18 : a.tmps[18]? = some (.slice (some ⟨g, off, none⟩) (l.length + 1) cap) := by rw [ha]; exact (putSel_off rfl).trans rfl
                have e110 : a.tmps[110]? = some (.bool false) := by rw [ha]; exact putSel_on (e := (7, 110, .bool false)) 7 rfl rfl (hon 7 (by kernel_rfl)) rfl
                replace ha := Aside0.mk ha
                have E := Aside0.mk Q_E
                refine value_ (w1 := w') (v := .slice (some ⟨g, off, none⟩) (l.length + 1) cap) (wanted_on rfl rfl rfl (e110.trans (by first | rfl | (simp [*]; done)))) rfl ?_ ?_
                · go_simp
                  (try simp only [i64_w])
                  try rfl
                refine hK.out _ _ ⟨(by rw [ha.out]; exact putSel_upk 8 hb_ rfl rfl rfl), Q_E⟩
              refine steps_cons ?_ ?_
              · rintro b a w' ⟨ha, Q_E⟩ hb_ hon hoff
                refine ⟨_, rfl, fun K hK => ?_⟩
                have e111 : a.tmps[111]? = some (.slice (some ⟨g, off, none⟩) (l.length + 1) cap) := by rw [ha]; exact putSel_on (e := (8, 111, .slice (some ⟨g, off, none⟩) (l.length + 1) cap)) 8 rfl rfl (hon 8 (by kernel_rfl)) rfl
                have e110 : a.tmps[110]? = some (.bool false) := by rw [ha]; exact putSel_on (e := (7, 110, .bool false)) 7 rfl rfl (hon 7 (by kernel_rfl)) rfl
                replace ha := Aside0.mk ha
                have E := Aside0.mk Q_E
                refine value_ (w1 := w') (v := .int .i64 ((l.length + 1 : Nat) : Int)) (wanted_on rfl rfl rfl (e110.trans (by first | rfl | (simp [*]; done)))) rfl ?_ ?_
                · go_simp
                  (try simp only [i64_w])
                  try rfl
                refine hK.out _ _ ⟨(by rw [ha.out]; exact putSel_upk 9 hb_ rfl rfl rfl), Q_E⟩
              refine steps_cons ?_ ?_
              · rintro b a w' ⟨ha, Q_E⟩ hb_ hon hoff
                refine ⟨_, rfl, fun K hK => ?_⟩
                have e112 : a.tmps[112]? = some (.int .i64 ((l.length + 1 : Nat) : Int)) := by rw [ha]; exact putSel_on (e := (9, 112, .int .i64 ((l.length + 1 : Nat) : Int))) 9 rfl rfl (hon 9 (by kernel_rfl)) rfl
                have e110 : a.tmps[110]? = some (.bool false) := by rw [ha]; exact putSel_on (e := (7, 110, .bool false)) 7 rfl rfl (hon 7 (by kernel_rfl)) rfl
                replace ha := Aside0.mk ha
                have E := Aside0.mk Q_E
                have c0 : (0 : Int) < ((l.length + 1 : Nat) : Int) := by omega
                have c1 : ¬ ((l.length : Int) + 1 = 0) := by omega
                refine value_ (w1 := w') (v := .bool false) (wanted_on rfl rfl rfl (e110.trans (by first | rfl | (simp [*]; done)))) rfl ?_ ?_
                · go_simp
                  (try simp only [i64_w])
                  try rfl
                refine hK.out _ _ ⟨(by rw [ha.out]; exact putSel_upk 10 hb_ rfl rfl rfl), Q_E⟩
              refine steps_cons ?_ ?_
              · rintro b a w' ⟨ha, Q_E⟩ hb_ hon hoff
                refine ⟨_, rfl, fun K hK => ?_⟩
                have e110 : a.tmps[110]? = some (.bool false) := by rw [ha]; exact putSel_on (e := (7, 110, .bool false)) 7 rfl rfl (hon 7 (by kernel_rfl)) rfl
                have e113 : a.tmps[113]? = some (.bool false) := by rw [ha]; exact putSel_on (e := (10, 113, .bool false)) 10 rfl rfl (hon 10 (by kernel_rfl)) rfl
                replace ha := Aside0.mk ha
                have E := Aside0.mk Q_E
                refine value_ (w1 := w') (v := .bool false) (by rfl) rfl ?_ ?_
                · go_simp
                  (try simp only [i64_w])
                  try rfl
                refine hK.out _ _ ⟨(by rw [ha.out]; exact putSel_upk 11 hb_ rfl rfl rfl), Q_E⟩
              refine steps_cons ?_ ?_
              · rintro b a w' ⟨ha, Q_E⟩ hb_ hon hoff
                refine ⟨_, rfl, fun K hK => ?_⟩
                have e114 : a.tmps[114]? = some (.bool false) := by rw [ha]; exact putSel_on (e := (11, 114, .bool false)) 11 rfl rfl (hon 11 (by kernel_rfl)) rfl
                replace ha := Aside0.mk ha
                have E := Aside0.mk Q_E
                refine value_ (w1 := w') (v := .bool false) (by rfl) rfl ?_ ?_
                · go_simp
                  (try simp only [i64_w])
                  try rfl
                refine hK.out _ _ ⟨(by rw [ha.out]; exact putSel_upk 12 hb_ rfl rfl rfl), Q_E⟩
              refine steps_cons ?_ ?_
              · rintro b a w' ⟨ha, Q_E⟩ hb_ hon hoff
                refine ⟨_, rfl, fun K hK => ?_⟩
                have e18 : a.tmps[18]? = some (.slice (some ⟨g, off, none⟩) (l.length + 1) cap) := by rw [ha]; exact (putSel_off rfl).trans rfl
                have e115 : a.tmps[115]? = some (.bool false) := by rw [ha]; exact putSel_on (e := (12, 115, .bool false)) 12 rfl rfl (hon 12 (by kernel_rfl)) rfl
                replace ha := Aside0.mk ha
                have E := Aside0.mk Q_E
                refine value_ (w1 := w') (v := .slice (some ⟨g, off, none⟩) (l.length + 1) cap) (wanted_on rfl rfl rfl (e115.trans (by first | rfl | (simp [*]; done)))) rfl ?_ ?_
                · go_simp
                  (try simp only [i64_w])
                  try rfl
                refine hK.out _ _ ⟨(by rw [ha.out]; exact putSel_upk 13 hb_ rfl rfl rfl), Q_E⟩
              refine steps_cons ?_ ?_
              · rintro b a w' ⟨ha, Q_E⟩ hb_ hon hoff
                refine ⟨_, rfl, fun K hK => ?_⟩
                have e116 : a.tmps[116]? = some (.slice (some ⟨g, off, none⟩) (l.length + 1) cap) := by rw [ha]; exact putSel_on (e := (13, 116, .slice (some ⟨g, off, none⟩) (l.length + 1) cap)) 13 rfl rfl (hon 13 (by kernel_rfl)) rfl
                have e115 : a.tmps[115]? = some (.bool false) := by rw [ha]; exact putSel_on (e := (12, 115, .bool false)) 12 rfl rfl (hon 12 (by kernel_rfl)) rfl
                replace ha := Aside0.mk ha
                have E := Aside0.mk Q_E
                have c0 : (0 : Int) < ((l.length + 1 : Nat) : Int) := by omega
                refine value_ (w1 := w') (v := .pointer (some ⟨g, off, none⟩)) (wanted_on rfl rfl rfl (e115.trans (by first | rfl | (simp [*]; done)))) rfl ?_ ?_
                · go_simp
                  (try simp only [i64_w])
                  try rfl
                refine hK.out _ _ ⟨(by rw [ha.out]; exact putSel_upk 14 hb_ rfl rfl rfl), Q_E⟩
              refine steps_cons ?_ ?_
              · rintro b a w' ⟨ha, Q_E⟩ hb_ hon hoff
                refine ⟨_, rfl, fun K hK => ?_⟩
                have e117 : a.tmps[117]? = some (.pointer (some ⟨g, off, none⟩)) := by rw [ha]; exact putSel_on (e := (14, 117, .pointer (some ⟨g, off, none⟩))) 14 rfl rfl (hon 14 (by kernel_rfl)) rfl
                have e115 : a.tmps[115]? = some (.bool false) := by rw [ha]; exact putSel_on (e := (12, 115, .bool false)) 12 rfl rfl (hon 12 (by kernel_rfl)) rfl
                replace ha := Aside0.mk ha
                have E := Aside0.mk Q_E
                have c0 : w'.cell? ⟨g, off, none⟩ = some (.int .i64 u) := (E.out.cell (show (⟨g, off, none⟩ : Addr).block < w6.heap.size from R3.out.2.1)).trans (R3.out.2.2 0 u rfl)
                refine value_ (w1 := w') (v := .int .i64 u) (wanted_on rfl rfl rfl (e115.trans (by first | rfl | (simp [*]; done)))) rfl ?_ ?_
                · go_simp
                  (try simp only [i64_w])
                  try rfl
                refine hK.out _ _ ⟨(by rw [ha.out]; exact putSel_upk 15 hb_ rfl rfl rfl), Q_E⟩
              refine steps_cons ?_ ?_
              · rintro b a w' ⟨ha, Q_E⟩ hb_ hon hoff
                refine ⟨_, rfl, fun K hK => ?_⟩
                have e16 : a.tmps[16]? = some (.int .i64 u) := by rw [ha]; exact (putSel_off rfl).trans rfl
                have e115 : a.tmps[115]? = some (.bool false) := by rw [ha]; exact putSel_on (e := (12, 115, .bool false)) 12 rfl rfl (hon 12 (by kernel_rfl)) rfl
                replace ha := Aside0.mk ha
                have E := Aside0.mk Q_E
                refine value_ (w1 := w') (v := .int .i64 u) (wanted_on rfl rfl rfl (e115.trans (by first | rfl | (simp [*]; done)))) rfl ?_ ?_
                · go_simp
                  (try simp only [i64_w])
                  try rfl
                refine hK.out _ _ ⟨(by rw [ha.out]; exact putSel_upk 16 hb_ rfl rfl rfl), Q_E⟩
              refine steps_cons ?_ ?_
              · rintro b a w' ⟨ha, Q_E⟩ hb_ hon hoff
                refine ⟨_, rfl, fun K hK => ?_⟩
                have e118 : a.tmps[118]? = some (.int .i64 u) := by rw [ha]; exact putSel_on (e := (15, 118, .int .i64 u)) 15 rfl rfl (hon 15 (by kernel_rfl)) rfl
                have e119 : a.tmps[119]? = some (.int .i64 u) := by rw [ha]; exact putSel_on (e := (16, 119, .int .i64 u)) 16 rfl rfl (hon 16 (by kernel_rfl)) rfl
                have e115 : a.tmps[115]? = some (.bool false) := by rw [ha]; exact putSel_on (e := (12, 115, .bool false)) 12 rfl rfl (hon 12 (by kernel_rfl)) rfl
                replace ha := Aside0.mk ha
                have E := Aside0.mk Q_E
                refine value_ (w1 := w') (v := .bool false) (wanted_on rfl rfl rfl (e115.trans (by first | rfl | (simp [*]; done)))) rfl ?_ ?_
                · go_simp
                  (try simp only [i64_w])
                  try rfl
                refine hK.out _ _ ⟨(by rw [ha.out]; exact putSel_upk 17 hb_ rfl rfl rfl), Q_E⟩
              refine steps_cons ?_ ?_
              · rintro b a w' ⟨ha, Q_E⟩ hb_ hon hoff
                refine ⟨_, rfl, fun K hK => ?_⟩
                have e115 : a.tmps[115]? = some (.bool false) := by rw [ha]; exact putSel_on (e := (12, 115, .bool false)) 12 rfl rfl (hon 12 (by kernel_rfl)) rfl
                have e120 : a.tmps[120]? = some (.bool false) := by rw [ha]; exact putSel_on (e := (17, 120, .bool false)) 17 rfl rfl (hon 17 (by kernel_rfl)) rfl
                replace ha := Aside0.mk ha
                have E := Aside0.mk Q_E
                refine value_ (w1 := w') (v := .bool false) (by rfl) rfl ?_ ?_
                · go_simp
                  (try simp only [i64_w])
                  try rfl
                refine hK.out _ _ ⟨(by rw [ha.out]; exact putSel_upk 18 hb_ rfl rfl rfl), Q_E⟩
              refine steps_cons ?_ ?_
              · rintro b a w' ⟨ha, Q_E⟩ hb_ hon hoff
                refine ⟨_, rfl, fun K hK => ?_⟩
                have e121 : a.tmps[121]? = some (.bool false) := by rw [ha]; exact putSel_on (e := (18, 121, .bool false)) 18 rfl rfl (hon 18 (by kernel_rfl)) rfl
                replace ha := Aside0.mk ha
                have E := Aside0.mk Q_E
                refine value_ (w1 := w') (v := .bool false) (by rfl) rfl ?_ ?_
                · go_simp
                  (try simp only [i64_w])
                  try rfl
                refine hK.out _ _ ⟨(by rw [ha.out]; exact putSel_upk 19 hb_ rfl rfl rfl), Q_E⟩
              refine steps_cons ?_ ?_
              · rintro b a w' ⟨ha, Q_E⟩ hb_ hon hoff
                refine ⟨_, rfl, fun K hK => ?_⟩
                have e15 : a.tmps[15]? = some (.pointer (some ⟨g15, 0, none⟩)) := by rw [ha]; exact (putSel_off rfl).trans rfl
                have e122 : a.tmps[122]? = some (.bool false) := by rw [ha]; exact putSel_on (e := (19, 122, .bool false)) 19 rfl rfl (hon 19 (by kernel_rfl)) rfl
                replace ha := Aside0.mk ha
                have E := Aside0.mk Q_E
                have c0 : w'.cell? ⟨g15, 0, none⟩ = some (.int .i64 0) := (E.out.cell (show (⟨g15, 0, none⟩ : Addr).block < w6.heap.size from B3.out.lt)).trans (B3.out.cell 0)
                have c1 : w'.cell? ⟨g15, 1, none⟩ = some (.int .i64 1) := (E.out.cell (show (⟨g15, 1, none⟩ : Addr).block < w6.heap.size from B3.out.lt)).trans (B3.out.cell 1)
                have c2 : w'.cell? ⟨g15, 2, none⟩ = some (.string (txB j)) := (E.out.cell (show (⟨g15, 2, none⟩ : Addr).block < w6.heap.size from B3.out.lt)).trans (B3.out.cell 2)
                refine value_ (w1 := w') (v := .agg #[.int .i64 0, .int .i64 1, .string (txB j)]) (wanted_on rfl rfl rfl (e122.trans (by first | rfl | (simp [*]; done)))) rfl ?_ ?_
                · go_simp
                  (try simp only [i64_w])
                  try rfl
                refine hK.out _ _ ⟨(by rw [ha.out]; exact putSel_upk 20 hb_ rfl rfl rfl), Q_E⟩
              refine steps_cons ?_ ?_
              · rintro b a w' ⟨ha, Q_E⟩ hb_ hon hoff
                refine ⟨_, rfl, fun K hK => ?_⟩
                have e15 : a.tmps[15]? = some (.pointer (some ⟨g15, 0, none⟩)) := by rw [ha]; exact (putSel_off rfl).trans rfl
                have e122 : a.tmps[122]? = some (.bool false) := by rw [ha]; exact putSel_on (e := (19, 122, .bool false)) 19 rfl rfl (hon 19 (by kernel_rfl)) rfl
                replace ha := Aside0.mk ha
                have E := Aside0.mk Q_E
                refine value_ (w1 := w') (v := .pointer (some ⟨g15, 2, none⟩)) (wanted_on rfl rfl rfl (e122.trans (by first | rfl | (simp [*]; done)))) rfl ?_ ?_
                · go_simp
                  (try simp only [i64_w])
                  try rfl
                refine hK.out _ _ ⟨(by rw [ha.out]; exact putSel_upk 21 hb_ rfl rfl rfl), Q_E⟩
              refine steps_cons ?_ ?_
              · rintro b a w' ⟨ha, Q_E⟩ hb_ hon hoff
                refine ⟨_, rfl, fun K hK => ?_⟩
                have e124 : a.tmps[124]? = some (.pointer (some ⟨g15, 2, none⟩)) := by rw [ha]; exact putSel_on (e := (21, 124, .pointer (some ⟨g15, 2, none⟩))) 21 rfl rfl (hon 21 (by kernel_rfl)) rfl
                have e122 : a.tmps[122]? = some (.bool false) := by rw [ha]; exact putSel_on (e := (19, 122, .bool false)) 19 rfl rfl (hon 19 (by kernel_rfl)) rfl
                replace ha := Aside0.mk ha
                have E := Aside0.mk Q_E
                have c2 : w'.cell? ⟨g15, 2, none⟩ = some (.string (txB j)) := (E.out.cell (show (⟨g15, 2, none⟩ : Addr).block < w6.heap.size from B3.out.lt)).trans (B3.out.cell 2)
                refine value_ (w1 := w') (v := .string (txB j)) (wanted_on rfl rfl rfl (e122.trans (by first | rfl | (simp [*]; done)))) rfl ?_ ?_
                · go_simp
                  (try simp only [i64_w])
                  try rfl
                refine hK.out _ _ ⟨(by rw [ha.out]; exact putSel_upk 22 hb_ rfl rfl rfl), Q_E⟩
              refine steps_cons ?_ ?_
              · rintro b a w' ⟨ha, Q_E⟩ hb_ hon hoff
                refine ⟨_, rfl, fun K hK => ?_⟩
                have e125 : a.tmps[125]? = some (.string (txB j)) := by rw [ha]; exact putSel_on (e := (22, 125, .string (txB j))) 22 rfl rfl (hon 22 (by kernel_rfl)) rfl
                have e122 : a.tmps[122]? = some (.bool false) := by rw [ha]; exact putSel_on (e := (19, 122, .bool false)) 19 rfl rfl (hon 19 (by kernel_rfl)) rfl
                replace ha := Aside0.mk ha
                have E := Aside0.mk Q_E
                refine call_ 18 #[.string (txB j)] (wanted_on rfl rfl rfl (e122.trans rfl)) rfl ?_ ?_
                · go_simp
                refine (told_any _ w').mono ?_
                rintro e w2 ⟨rfl, a1⟩
                refine ⟨_, rfl, ?_⟩
                refine hK.out _ _ ⟨(by rw [ha.out]; exact putSel_upk 23 hb_ rfl rfl rfl), bthen' E.out a1⟩
              refine steps_cons ?_ ?_
              · rintro b a w' ⟨ha, Q_E⟩ hb_ hon hoff
                refine ⟨_, rfl, fun K hK => ?_⟩
                have e123 : a.tmps[123]? = some (.agg #[.int .i64 0, .int .i64 1, .string (txB j)]) := by rw [ha]; exact putSel_on (e := (20, 123, .agg #[.int .i64 0, .int .i64 1, .string (txB j)])) 20 rfl rfl (hon 20 (by kernel_rfl)) rfl
                have e126 : a.tmps[126]? = some (.agg #[.int .i64 0, .int .i64 1, .string (txB j)]) := by rw [ha]; exact putSel_on (e := (23, 126, .agg #[.int .i64 0, .int .i64 1, .string (txB j)])) 23 rfl rfl (hon 23 (by kernel_rfl)) rfl
                have e122 : a.tmps[122]? = some (.bool false) := by rw [ha]; exact putSel_on (e := (19, 122, .bool false)) 19 rfl rfl (hon 19 (by kernel_rfl)) rfl
                replace ha := Aside0.mk ha
                have E := Aside0.mk Q_E
                refine value_ (w1 := w') (v := .bool false) (wanted_on rfl rfl rfl (e122.trans (by first | rfl | (simp [*]; done)))) rfl ?_ ?_
                · go_simp
                  (try simp only [i64_w])
                  try rfl
                refine hK.out _ _ ⟨(by rw [ha.out]; exact putSel_upk 24 hb_ rfl rfl rfl), Q_E⟩
              refine steps_cons ?_ ?_
              · rintro b a w' ⟨ha, Q_E⟩ hb_ hon hoff
                refine ⟨_, rfl, fun K hK => ?_⟩
                have e122 : a.tmps[122]? = some (.bool false) := by rw [ha]; exact putSel_on (e := (19, 122, .bool false)) 19 rfl rfl (hon 19 (by kernel_rfl)) rfl
                have e127 : a.tmps[127]? = some (.bool false) := by rw [ha]; exact putSel_on (e := (24, 127, .bool false)) 24 rfl rfl (hon 24 (by kernel_rfl)) rfl
                replace ha := Aside0.mk ha
                have E := Aside0.mk Q_E
                refine value_ (w1 := w') (v := .bool false) (by rfl) rfl ?_ ?_
                · go_simp
                  (try simp only [i64_w])
                  try rfl
                refine hK.out _ _ ⟨(by rw [ha.out]; exact putSel_upk 25 hb_ rfl rfl rfl), Q_E⟩
              exact steps_nil
            · rintro b a w' hall ⟨ha, Q_E⟩
              clear E
              have hb0_ := hall 0 (by kernel_rfl)
              have hb1_ := hall 1 (by kernel_rfl)
              have hb2_ := hall 2 (by kernel_rfl)
              have hb3_ := hall 3 (by kernel_rfl)
              have hb4_ := hall 4 (by kernel_rfl)
              have hb5_ := hall 5 (by kernel_rfl)
              have hb6_ := hall 6 (by kernel_rfl)
              have hb7_ := hall 7 (by kernel_rfl)
              have hb8_ := hall 8 (by kernel_rfl)
              have hb9_ := hall 9 (by kernel_rfl)
              have hb10_ := hall 10 (by kernel_rfl)
              have hb11_ := hall 11 (by kernel_rfl)
              have hb12_ := hall 12 (by kernel_rfl)
              have hb13_ := hall 13 (by kernel_rfl)
              have hb14_ := hall 14 (by kernel_rfl)
              have hb15_ := hall 15 (by kernel_rfl)
              have hb16_ := hall 16 (by kernel_rfl)
              have hb17_ := hall 17 (by kernel_rfl)
              have hb18_ := hall 18 (by kernel_rfl)
              have hb19_ := hall 19 (by kernel_rfl)
              have hb20_ := hall 20 (by kernel_rfl)
              have hb21_ := hall 21 (by kernel_rfl)
              have hb22_ := hall 22 (by kernel_rfl)
              have hb23_ := hall 23 (by kernel_rfl)
              have hb24_ := hall 24 (by kernel_rfl)
              have hb25_ := hall 25 (by kernel_rfl)
              subst ha
              simp only [putSel, hb0_, hb1_, hb2_, hb3_, hb4_, hb5_, hb6_, hb7_, hb8_, hb9_, hb10_, hb11_, hb12_, hb13_, hb14_, hb15_, hb16_, hb17_, hb18_, hb19_, hb20_, hb21_, hb22_, hb23_, hb24_, hb25_, if_true, Act.put, List.setIfInBounds_toArray, List.set_cons_zero, List.set_cons_succ]
              have E := Aside0.mk Q_E
              clear Q_E
              clear hall hb0_ hb1_ hb2_ hb3_ hb4_ hb5_ hb6_ hb7_ hb8_ hb9_ hb10_ hb11_ hb12_ hb13_ hb14_ hb15_ hb16_ hb17_ hb18_ hb19_ hb20_ hb21_ hb22_ hb23_ hb24_ hb25_
              have E7 := Aside0.mk E.out
              clear E
              generalize w' = w7 at *
              have M7 := Lib.hid (show Touch w6 w7 (fun _ => False) from Touch.of_below E7.out)
              have RX := Lib.hid (And.intro (L6.out.quiet E7.out) (And.intro (bthen' H6.out E7.out) (And.intro (X6.out.2.2.2.1.touch M7.out id) (show ∀ i, RowD w7 (fun g => A g ∧ g ≠ B) (VV i) (rowM m i) from fun i => (X6.out.2.2.2.2.2.1 i).touch M7.out (fun _ _ => id)))))
              have B7 := Aside0.mk (M7.out.blk B3.out id)
              have R7 := Aside0.mk (show ∀ (i : Nat) (x : Int), (u :: l)[i]? = some x → w7.cell? ⟨g, off + i, none⟩ = some (.int .i64 x) from fun i x hi => (E7.out.cell (show (⟨g, off + i, none⟩ : Addr).block < w6.heap.size from R3.out.2.1)).trans (R3.out.2.2 i x hi))
              have X7 := Aside0.mk (And.intro X6.out.1 (And.intro (show ∀ g, A g → g < w7.heap.size from fun g h => Nat.lt_of_lt_of_le (X6.out.2.1 g h) M7.out.size) (And.intro X6.out.2.2.1 (And.intro X6.out.2.2.2.2.1 X6.out.2.2.2.2.2.2))))
              have G7 := Aside0.mk (And.intro R3.out.1 (Nat.lt_of_lt_of_le R3.out.2.1 M7.out.size))
              clear R3 B3 E7 M7 L6 H6 X6 B6 R6
              have JL := Aside0.mk hc4
              clear hc4
              go_wp2_with fail
              by_cases hcap : cap = 1
              · have hl0 : l = [] := by have := CP.out.1; exact List.length_eq_zero_iff.1 (by omega)
                have hl1 : l.length = 0 := by rw [hl0]; rfl
                rw [hl1, hcap]
                have HC := Aside0.mk (And.intro hcap hl0)
                clear hcap hl0 hl1
                have CQ := Aside0.mk trivial
                refine start_ (n := 6) (S := fun w' => True) (ds := []) #[false, false, false, false, false, false] (by kernel_rfl) rfl rfl trivial (fun hHeld => ?_)
                refine with_tabW lnDr.tab27 lnDr.bits27 (fun HT_ HW_ => ?_)
                obtain ⟨wd, hwd⟩ : ∃ wd, wd = w7.drew := ⟨_, rfl⟩
                have L8 := Aside0.mk (show LW wd A la 2 k sc (m.erase (best m)) by rw [hwd]; exact RX.out.1.quiet (bdrew (Below.refl _ w7)))
                have H8 := Aside0.mk (show Below w0.heap.size w0 wd by rw [hwd]; exact bdrew RX.out.2.1)
                have M8 := Aside0.mk (show MapR wd B n VV by rw [hwd]; exact RX.out.2.2.1)
                have R8 := Aside0.mk (show ∀ i, RowD wd (fun g => A g ∧ g ≠ B) (VV i) (rowM m i) by rw [hwd]; exact RX.out.2.2.2)
                have B8 := Aside0.mk (show Blk wd g15 #[.int .i64 0, .int .i64 1, .string (txB j)] 31 by rw [hwd]; exact B7.out)
                have S8 := Aside0.mk (show wd.heap.size = w7.heap.size by rw [hwd]; rfl)
                have N8 := Aside0.mk (show RowD wd (fun g => A g ∧ g ≠ B) (.slice (some ⟨g, off, none⟩) 0 0) l by rw [hwd]; exact (show RowD w7 (fun g => A g ∧ g ≠ B) (.slice (some ⟨g, off, none⟩) 0 0) l from .inr ⟨g, off, 0, by rw [HC.out.2]; rfl, by rw [HC.out.2]; exact Nat.le_refl _, by decide, G7.out.1, G7.out.2, by rw [HC.out.2]; intro i x hi; simp at hi⟩))
                have W : Aside0 (wd = wd) := ⟨rfl⟩
                rw [← hwd]
                clear hwd
                refine inv_at [0, 1, 2, 3, 4, 5] (fun a0_ b a w' => a = putSel a0_ b [(0, 129, .map (some B)), (1, 130, .pointer (some ⟨g15, 2, none⟩)), (2, 131, .string (txB j)), (3, 132, .slice (some ⟨g, off, none⟩) (0 + 1) 1), (4, 133, .slice (some ⟨g, off, none⟩) 0 0)] ∧ (b 5 = false → w' = wd) ∧ (b 5 = true → MapR w' B (n + 1) (fun i => if i = j then .slice (some ⟨g, off, none⟩) 0 0 else VV i) ∧ Touch wd w' (fun g => g = B))) HT_.out HW_.out (by kernel_rfl) (by kernel_rfl) ?_ ?_ ?_
                · exact ⟨by simp only [putSel, Bool.false_eq_true, if_false], fun _ => W.out, fun h_ => absurd h_ (by decide)⟩
                · skip
                  clear W
                  refine steps_cons ?_ ?_
                  · rintro b a w' ⟨ha, Q_W, Q_E9⟩ hb_ hon hoff
                    refine ⟨_, rfl, fun K hK => ?_⟩
                    have e7 : a.tmps[7]? = some (.map (some B)) := by rw [ha]; exact (putSel_off rfl).trans rfl
                    replace ha := Aside0.mk ha
                    have W := Aside0.mk (Q_W (hoff 5 (by kernel_rfl)))
                    refine value_ (w1 := w') (v := .map (some B)) (by rfl) rfl ?_ ?_
                    · go_simp
                      (try simp only [i64_w])
                      try rfl
                    refine hK.out _ _ ⟨(by rw [ha.out]; exact putSel_upk 0 hb_ rfl rfl rfl), Q_W, fun h0_ => absurd ((hoff 5 (by kernel_rfl)).symm.trans h0_) (by decide)⟩
                  refine steps_cons ?_ ?_
                  · rintro b a w' ⟨ha, Q_W, Q_E9⟩ hb_ hon hoff
                    refine ⟨_, rfl, fun K hK => ?_⟩
                    have e15 : a.tmps[15]? = some (.pointer (some ⟨g15, 0, none⟩)) := by rw [ha]; exact (putSel_off rfl).trans rfl
                    replace ha := Aside0.mk ha
                    have W := Aside0.mk (Q_W (hoff 5 (by kernel_rfl)))
                    refine value_ (w1 := w') (v := .pointer (some ⟨g15, 2, none⟩)) (by rfl) rfl ?_ ?_
                    · go_simp
                      (try simp only [i64_w])
                      try rfl
                    refine hK.out _ _ ⟨(by rw [ha.out]; exact putSel_upk 1 hb_ rfl rfl rfl), Q_W, fun h0_ => absurd ((hoff 5 (by kernel_rfl)).symm.trans h0_) (by decide)⟩
                  refine steps_cons ?_ ?_
                  · rintro b a w' ⟨ha, Q_W, Q_E9⟩ hb_ hon hoff
                    refine ⟨_, rfl, fun K hK => ?_⟩
                    have e130 : a.tmps[130]? = some (.pointer (some ⟨g15, 2, none⟩)) := by rw [ha]; exact putSel_on (e := (1, 130, .pointer (some ⟨g15, 2, none⟩))) 1 rfl rfl (hon 1 (by kernel_rfl)) rfl
                    replace ha := Aside0.mk ha
                    have W := Aside0.mk (Q_W (hoff 5 (by kernel_rfl)))
                    have c2 : w'.cell? ⟨g15, 2, none⟩ = some (.string (txB j)) := by rw [W.out]; exact B8.out.cell 2
                    refine value_ (w1 := w') (v := .string (txB j)) (by rfl) rfl ?_ ?_
                    · go_simp
                      (try simp only [i64_w])
                      try rfl
                    refine hK.out _ _ ⟨(by rw [ha.out]; exact putSel_upk 2 hb_ rfl rfl rfl), Q_W, fun h0_ => absurd ((hoff 5 (by kernel_rfl)).symm.trans h0_) (by decide)⟩
                  refine steps_cons ?_ ?_
                  · rintro b a w' ⟨ha, Q_W, Q_E9⟩ hb_ hon hoff
                    refine ⟨_, rfl, fun K hK => ?_⟩
                    have e18 : a.tmps[18]? = some (.slice (some ⟨g, off, none⟩) (0 + 1) 1) := by rw [ha]; exact (putSel_off rfl).trans rfl
                    replace ha := Aside0.mk ha
                    have W := Aside0.mk (Q_W (hoff 5 (by kernel_rfl)))
                    refine value_ (w1 := w') (v := .slice (some ⟨g, off, none⟩) (0 + 1) 1) (by rfl) rfl ?_ ?_
                    · go_simp
                      (try simp only [i64_w])
                      try rfl
                    refine hK.out _ _ ⟨(by rw [ha.out]; exact putSel_upk 3 hb_ rfl rfl rfl), Q_W, fun h0_ => absurd ((hoff 5 (by kernel_rfl)).symm.trans h0_) (by decide)⟩
                  refine steps_cons ?_ ?_
                  · rintro b a w' ⟨ha, Q_W, Q_E9⟩ hb_ hon hoff
                    refine ⟨_, rfl, fun K hK => ?_⟩
                    have e132 : a.tmps[132]? = some (.slice (some ⟨g, off, none⟩) (0 + 1) 1) := by rw [ha]; exact putSel_on (e := (3, 132, .slice (some ⟨g, off, none⟩) (0 + 1) 1)) 3 rfl rfl (hon 3 (by kernel_rfl)) rfl
                    replace ha := Aside0.mk ha
                    have W := Aside0.mk (Q_W (hoff 5 (by kernel_rfl)))
                    have c1 : ¬ ((l.length : Int) + 1 < 1) := by omega
                    have c2 := CQ.out
                    refine value_ (w1 := w') (v := .slice (some ⟨g, off, none⟩) 0 0) (by rfl) rfl ?_ ?_
                    · go_simp
                      (try simp only [i64_w])
                      try rfl
                    refine hK.out _ _ ⟨(by rw [ha.out]; exact putSel_upk 4 hb_ rfl rfl rfl), Q_W, fun h0_ => absurd ((hoff 5 (by kernel_rfl)).symm.trans h0_) (by decide)⟩
                  refine steps_cons ?_ ?_
                  · rintro b a w' ⟨ha, Q_W, Q_E9⟩ hb_ hon hoff
                    refine ⟨_, rfl, fun K hK => ?_⟩
                    have e129 : a.tmps[129]? = some (.map (some B)) := by rw [ha]; exact putSel_on (e := (0, 129, .map (some B))) 0 rfl rfl (hon 0 (by kernel_rfl)) rfl
                    have e131 : a.tmps[131]? = some (.string (txB j)) := by rw [ha]; exact putSel_on (e := (2, 131, .string (txB j))) 2 rfl rfl (hon 2 (by kernel_rfl)) rfl
                    have e133 : a.tmps[133]? = some (.slice (some ⟨g, off, none⟩) 0 0) := by rw [ha]; exact putSel_on (e := (4, 133, .slice (some ⟨g, off, none⟩) 0 0)) 4 rfl rfl (hon 4 (by kernel_rfl)) rfl
                    replace ha := Aside0.mk ha
                    have W := Aside0.mk (Q_W hb_)
                    have hW := W.out
                    subst hW
                    obtain ⟨w2, hr, p1, p2⟩ := M8.out.put j J0.out (.slice (some ⟨g, off, none⟩) 0 0) (by have := X7.out.2.2.2.1; simp only [maxLen]; omega)
                    refine skip_ (w1 := w2) (by rfl) rfl ?_ ?_
                    · exact run_mapUpdate_op (by rfl) e129 e131 e133 hr
                    refine hK.out _ _ ⟨(by rw [ha.out]; exact putSel_none (v := undef) rfl), fun h0_ => absurd ((up_self b 5).symm.trans h0_) (by decide), fun _ => ⟨p1, (Touch.of_grownBy p2).weaken (fun g _ h => by cases h; rfl)⟩⟩
                  exact steps_nil
                · rintro b a w' hall ⟨ha, Q_W, Q_E9⟩
                  clear W
                  have hb0_ := hall 0 (by kernel_rfl)
                  have hb1_ := hall 1 (by kernel_rfl)
                  have hb2_ := hall 2 (by kernel_rfl)
                  have hb3_ := hall 3 (by kernel_rfl)
                  have hb4_ := hall 4 (by kernel_rfl)
                  have hb5_ := hall 5 (by kernel_rfl)
                  subst ha
                  simp only [putSel, hb0_, hb1_, hb2_, hb3_, hb4_, hb5_, if_true, Act.put, List.setIfInBounds_toArray, List.set_cons_zero, List.set_cons_succ]
                  clear Q_W
                  have E9 := Aside0.mk (Q_E9 hb5_)
                  clear Q_E9
                  clear hall hb0_ hb1_ hb2_ hb3_ hb4_ hb5_
                  have HX := Lib.hid (H8.out.trans (E9.out.2.below H8.out.size (fun g e => by rw [e]; exact NB.out)))
                  have D9 := Lib.hid (d1_next X7.out.1 (fun g h => by rw [S8.out]; exact X7.out.2.1 g h) X7.out.2.2.1 X7.out.2.2.2.1 X7.out.2.2.2.2 JK.out JL.out L8.out R8.out E4.out.1 E4.out.2.2.1 E4.out.2.2.2 N8.out E9.out.1 E9.out.2)
                  have y1 : (0 : Int) ≤ (c' : Int) := by omega
                  have y2 : (c' : Int) ≤ 1000 := by have := JL.out; omega
                  clear E9
                  go_wp2_with fail
                  go_roundw
                  case rel => exact ⟨m.erase (best m), u, c', (by first | rfl | (simp; done) | (congr 1; omega)), rfl, E4.out.2.1, by have := JL.out; omega, D9, HX⟩
                  case measure => have := JL.out; first | (simp [intOf]; done) | (simp [intOf]; omega)
              · have HC := Aside0.mk hcap
                clear hcap
                have CQ := Aside0.mk (show ¬ cap = 1 from HC.out)
                refine start_ (n := 6) (S := fun w' => True) (ds := []) #[false, false, false, false, false, false] (by kernel_rfl) rfl rfl trivial (fun hHeld => ?_)
                refine with_tabW lnDr.tab27 lnDr.bits27 (fun HT_ HW_ => ?_)
                obtain ⟨wd, hwd⟩ : ∃ wd, wd = w7.drew := ⟨_, rfl⟩
                have L8 := Aside0.mk (show LW wd A la 2 k sc (m.erase (best m)) by rw [hwd]; exact RX.out.1.quiet (bdrew (Below.refl _ w7)))
                have H8 := Aside0.mk (show Below w0.heap.size w0 wd by rw [hwd]; exact bdrew RX.out.2.1)
                have M8 := Aside0.mk (show MapR wd B n VV by rw [hwd]; exact RX.out.2.2.1)
                have R8 := Aside0.mk (show ∀ i, RowD wd (fun g => A g ∧ g ≠ B) (VV i) (rowM m i) by rw [hwd]; exact RX.out.2.2.2)
                have B8 := Aside0.mk (show Blk wd g15 #[.int .i64 0, .int .i64 1, .string (txB j)] 31 by rw [hwd]; exact B7.out)
                have S8 := Aside0.mk (show wd.heap.size = w7.heap.size by rw [hwd]; rfl)
                have N8 := Aside0.mk (show RowD wd (fun g => A g ∧ g ≠ B) (.slice (some ⟨g, off + 1, none⟩) l.length (cap - 1)) l by rw [hwd]; exact (show RowD w7 (fun g => A g ∧ g ≠ B) (.slice (some ⟨g, off + 1, none⟩) l.length (cap - 1)) l from .inr ⟨g, off + 1, cap - 1, rfl, by have := CP.out.1; omega, by have := CP.out.2; omega, G7.out.1, G7.out.2, fun i x hi => by rw [Nat.add_assoc, Nat.add_comm 1 i]; exact R7.out (i + 1) x hi⟩))
                have W : Aside0 (wd = wd) := ⟨rfl⟩
                rw [← hwd]
                clear hwd
                refine inv_at [0, 1, 2, 3, 4, 5] (fun a0_ b a w' => a = putSel a0_ b [(0, 129, .map (some B)), (1, 130, .pointer (some ⟨g15, 2, none⟩)), (2, 131, .string (txB j)), (3, 132, .slice (some ⟨g, off, none⟩) (l.length + 1) cap), (4, 133, .slice (some ⟨g, off + 1, none⟩) l.length (cap - 1))] ∧ (b 5 = false → w' = wd) ∧ (b 5 = true → MapR w' B (n + 1) (fun i => if i = j then .slice (some ⟨g, off + 1, none⟩) l.length (cap - 1) else VV i) ∧ Touch wd w' (fun g => g = B))) HT_.out HW_.out (by kernel_rfl) (by kernel_rfl) ?_ ?_ ?_
                · exact ⟨by simp only [putSel, Bool.false_eq_true, if_false], fun _ => W.out, fun h_ => absurd h_ (by decide)⟩
                · skip
                  clear W
                  refine steps_cons ?_ ?_
                  · rintro b a w' ⟨ha, Q_W, Q_E9⟩ hb_ hon hoff
                    refine ⟨_, rfl, fun K hK => ?_⟩
                    have e7 : a.tmps[7]? = some (.map (some B)) := by rw [ha]; exact (putSel_off rfl).trans rfl
                    replace ha := Aside0.mk ha
                    have W := Aside0.mk (Q_W (hoff 5 (by kernel_rfl)))
                    refine value_ (w1 := w') (v := .map (some B)) (by rfl) rfl ?_ ?_
                    · go_simp
                      (try simp only [i64_w])
                      try rfl
                    refine hK.out _ _ ⟨(by rw [ha.out]; exact putSel_upk 0 hb_ rfl rfl rfl), Q_W, fun h0_ => absurd ((hoff 5 (by kernel_rfl)).symm.trans h0_) (by decide)⟩
                  refine steps_cons ?_ ?_
                  · rintro b a w' ⟨ha, Q_W, Q_E9⟩ hb_ hon hoff
                    refine ⟨_, rfl, fun K hK => ?_⟩
                    have e15 : a.tmps[15]? = some (.pointer (some ⟨g15, 0, none⟩)) := by rw [ha]; exact (putSel_off rfl).trans rfl
                    replace ha := Aside0.mk ha
                    have W := Aside0.mk (Q_W (hoff 5 (by kernel_rfl)))
                    refine value_ (w1 := w') (v := .pointer (some ⟨g15, 2, none⟩)) (by rfl) rfl ?_ ?_
                    · go_simp
                      (try simp only [i64_w])
                      try rfl
                    refine hK.out _ _ ⟨(by rw [ha.out]; exact putSel_upk 1 hb_ rfl rfl rfl), Q_W, fun h0_ => absurd ((hoff 5 (by kernel_rfl)).symm.trans h0_) (by decide)⟩
                  refine steps_cons ?_ ?_
                  · rintro b a w' ⟨ha, Q_W, Q_E9⟩ hb_ hon hoff
                    refine ⟨_, rfl, fun K hK => ?_⟩
                    have e130 : a.tmps[130]? = some (.pointer (some ⟨g15, 2, none⟩)) := by rw [ha]; exact putSel_on (e := (1, 130, .pointer (some ⟨g15, 2, none⟩))) 1 rfl rfl (hon 1 (by kernel_rfl)) rfl
                    replace ha := Aside0.mk ha
                    have W := Aside0.mk (Q_W (hoff 5 (by kernel_rfl)))
                    have c2 : w'.cell? ⟨g15, 2, none⟩ = some (.string (txB j)) := by rw [W.out]; exact B8.out.cell 2
                    refine value_ (w1 := w') (v := .string (txB j)) (by rfl) rfl ?_ ?_
                    · go_simp
                      (try simp only [i64_w])
                      try rfl
                    refine hK.out _ _ ⟨(by rw [ha.out]; exact putSel_upk 2 hb_ rfl rfl rfl), Q_W, fun h0_ => absurd ((hoff 5 (by kernel_rfl)).symm.trans h0_) (by decide)⟩
                  refine steps_cons ?_ ?_
                  · rintro b a w' ⟨ha, Q_W, Q_E9⟩ hb_ hon hoff
                    refine ⟨_, rfl, fun K hK => ?_⟩
                    have e18 : a.tmps[18]? = some (.slice (some ⟨g, off, none⟩) (l.length + 1) cap) := by rw [ha]; exact (putSel_off rfl).trans rfl
                    replace ha := Aside0.mk ha
                    have W := Aside0.mk (Q_W (hoff 5 (by kernel_rfl)))
                    refine value_ (w1 := w') (v := .slice (some ⟨g, off, none⟩) (l.length + 1) cap) (by rfl) rfl ?_ ?_
                    · go_simp
                      (try simp only [i64_w])
                      try rfl
                    refine hK.out _ _ ⟨(by rw [ha.out]; exact putSel_upk 3 hb_ rfl rfl rfl), Q_W, fun h0_ => absurd ((hoff 5 (by kernel_rfl)).symm.trans h0_) (by decide)⟩
                  refine steps_cons ?_ ?_
                  · rintro b a w' ⟨ha, Q_W, Q_E9⟩ hb_ hon hoff
                    refine ⟨_, rfl, fun K hK => ?_⟩
                    have e132 : a.tmps[132]? = some (.slice (some ⟨g, off, none⟩) (l.length + 1) cap) := by rw [ha]; exact putSel_on (e := (3, 132, .slice (some ⟨g, off, none⟩) (l.length + 1) cap)) 3 rfl rfl (hon 3 (by kernel_rfl)) rfl
                    replace ha := Aside0.mk ha
                    have W := Aside0.mk (Q_W (hoff 5 (by kernel_rfl)))
                    have c1 : ¬ ((l.length : Int) + 1 < 1) := by omega
                    have c2 := CQ.out
                    refine value_ (w1 := w') (v := .slice (some ⟨g, off + 1, none⟩) l.length (cap - 1)) (by rfl) rfl ?_ ?_
                    · go_simp
                      (try simp only [i64_w])
                      try rfl
                    refine hK.out _ _ ⟨(by rw [ha.out]; exact putSel_upk 4 hb_ rfl rfl rfl), Q_W, fun h0_ => absurd ((hoff 5 (by kernel_rfl)).symm.trans h0_) (by decide)⟩
                  refine steps_cons ?_ ?_
                  · rintro b a w' ⟨ha, Q_W, Q_E9⟩ hb_ hon hoff
                    refine ⟨_, rfl, fun K hK => ?_⟩
                    have e129 : a.tmps[129]? = some (.map (some B)) := by rw [ha]; exact putSel_on (e := (0, 129, .map (some B))) 0 rfl rfl (hon 0 (by kernel_rfl)) rfl
                    have e131 : a.tmps[131]? = some (.string (txB j)) := by rw [ha]; exact putSel_on (e := (2, 131, .string (txB j))) 2 rfl rfl (hon 2 (by kernel_rfl)) rfl
                    have e133 : a.tmps[133]? = some (.slice (some ⟨g, off + 1, none⟩) l.length (cap - 1)) := by rw [ha]; exact putSel_on (e := (4, 133, .slice (some ⟨g, off + 1, none⟩) l.length (cap - 1))) 4 rfl rfl (hon 4 (by kernel_rfl)) rfl
                    replace ha := Aside0.mk ha
                    have W := Aside0.mk (Q_W hb_)
                    have hW := W.out
                    subst hW
                    obtain ⟨w2, hr, p1, p2⟩ := M8.out.put j J0.out (.slice (some ⟨g, off + 1, none⟩) l.length (cap - 1)) (by have := X7.out.2.2.2.1; simp only [maxLen]; omega)
                    refine skip_ (w1 := w2) (by rfl) rfl ?_ ?_
                    · exact run_mapUpdate_op (by rfl) e129 e131 e133 hr
                    refine hK.out _ _ ⟨(by rw [ha.out]; exact putSel_none (v := undef) rfl), fun h0_ => absurd ((up_self b 5).symm.trans h0_) (by decide), fun _ => ⟨p1, (Touch.of_grownBy p2).weaken (fun g _ h => by cases h; rfl)⟩⟩
                  exact steps_nil
                · rintro b a w' hall ⟨ha, Q_W, Q_E9⟩
                  clear W
                  have hb0_ := hall 0 (by kernel_rfl)
                  have hb1_ := hall 1 (by kernel_rfl)
                  have hb2_ := hall 2 (by kernel_rfl)
                  have hb3_ := hall 3 (by kernel_rfl)
                  have hb4_ := hall 4 (by kernel_rfl)
                  have hb5_ := hall 5 (by kernel_rfl)
                  subst ha
                  simp only [putSel, hb0_, hb1_, hb2_, hb3_, hb4_, hb5_, if_true, Act.put, List.setIfInBounds_toArray, List.set_cons_zero, List.set_cons_succ]
                  clear Q_W
                  have E9 := Aside0.mk (Q_E9 hb5_)
                  clear Q_E9
                  clear hall hb0_ hb1_ hb2_ hb3_ hb4_ hb5_
                  have HX := Lib.hid (H8.out.trans (E9.out.2.below H8.out.size (fun g e => by rw [e]; exact NB.out)))
                  have D9 := Lib.hid (d1_next X7.out.1 (fun g h => by rw [S8.out]; exact X7.out.2.1 g h) X7.out.2.2.1 X7.out.2.2.2.1 X7.out.2.2.2.2 JK.out JL.out L8.out R8.out E4.out.1 E4.out.2.2.1 E4.out.2.2.2 N8.out E9.out.1 E9.out.2)
                  have y1 : (0 : Int) ≤ (c' : Int) := by omega
                  have y2 : (c' : Int) ≤ 1000 := by have := JL.out; omega
                  clear E9
                  go_wp2_with fail
                  go_roundw
                  case rel => exact ⟨m.erase (best m), u, c', (by first | rfl | (simp; done) | (congr 1; omega)), rfl, E4.out.2.1, by have := JL.out; omega, D9, HX⟩
                  case measure => have := JL.out; first | (simp [intOf]; done) | (simp [intOf]; omega)

end Go.Proofs.Ytemcbaacefjfnaa
