/- heap.Pop; put, take. -/
import Derived.Test.YtemcbaacefjfnaaLnE
set_option linter.unusedVariables false
set_option linter.unusedSimpArgs false
namespace Go.Proofs.Ytemcbaacefjfnaa
open Go.RowKit Go.Proofs.YtemcbaacefjfnaaW.PrintWords Go.Proofs.YtemcbaacefjfnaaW.PrintLast

theorem lat_mem {xs : List Wt} {z : Wt} (h : z ∈ xs) : ∃ k, k < xs.length ∧ lat xs k = z := by
  obtain ⟨k, hk, e⟩ := List.getElem_of_mem h
  exact ⟨k, hk, (lat_eq hk).symm.trans e⟩
theorem last_split {ys : List Wt} {n : Nat} (h : ys.length = n + 1) : ∃ y0, ys = y0 ++ [lat ys n] ∧ y0.length = n := by
  refine ⟨ys.take n, ?_, by simp [h]⟩
  rw [← lat_eq (show n < ys.length by omega)]
  have := List.take_append_getElem (l := ys) (i := n) (by omega)
  rw [this, List.take_of_length_le (by omega)]

set_option maxRecDepth 100000 in
set_option maxHeartbeats 2000000 in
theorem heappop_any (q : Nat) (s : Option Nat) (m : List Wt) (w0 : World) (hQ : QH w0 q s m) (h0 : m ≠ []) :
    Calls Try.prog 45 #[hq q] w0 fun e w' => ∃ y m', e = .returned (.iface 72 y.agg) ∧ QH w' q s m' ∧ (y :: m').Perm m ∧ (∀ z, z ∈ m' → leW y z) ∧ Touch w0 w' (fun k => k = q ∨ s = some k) := by
  obtain ⟨xs, hX, hH, hP⟩ := hQ
  have hpos : 0 < xs.length := by
    rw [hP.length_eq]; exact List.length_pos_iff.2 h0
  obtain ⟨g, cap, rfl, hW⟩ := hX.qw hpos
  obtain ⟨n, hn⟩ : ∃ n, xs.length = n + 1 := ⟨xs.length - 1, by omega⟩
  have hf := hW.few
  rw [hn] at hf
  have W := Lib.hid hW
  have H := Lib.hid hH
  have P := Lib.hid hP
  have L := Lib.hid hn
  have hm := hW.mlen
  rw [hn] at hm
  clear hX hH hP h0 hW hpos hn
  go_enter Try.func45, Try.ntmps45
  go_wp2_with fail
  refine (len_any (some ⟨g, 0, none⟩) (n + 1) cap w0).mono ?_
  rintro e w1 ⟨rfl, rfl⟩
  clear hm
  have hm := W.out.mswap
  go_wp2_with fail
  refine (W.out.swaps 0 n (by rw [L.out]; omega) (by rw [L.out]; omega)).mono ?_
  rintro e w1 ⟨rfl, a1, a2⟩
  clear hm
  have A1 := Lib.hid a1
  have A2 := Lib.hid a2
  clear a1 a2
  go_wp2_with fail
  refine (down_any q g cap n (sw xs 0 n) w1 A1.out (by rw [sw_length, L.out]; omega) (down_begin (by rw [L.out]; omega) H.out)).mono ?_
  rintro e w2 ⟨⟨bb, rfl⟩, ys, b1, b2, b3, b4, b5⟩
  have hyl : ys.length = n + 1 := by rw [b2.length_eq, sw_length, L.out]
  obtain ⟨y0, hy, hy0⟩ := last_split hyl
  have hlast : lat ys n = lat xs 0 := by
    rw [b4 n (Nat.le_refl _), sw_at _ _ _ _ (by rw [L.out]; omega) (by rw [L.out]; omega), if_pos rfl]
  have hheap : HeapN y0 y0.length := by
    intro k k0 kn
    have := b3 k k0 (by omega)
    rw [hy, lat_append_left (by omega), lat_append_left (by omega)] at this
    exact this
  have hperm : (lat xs 0 :: y0).Perm xs := by
    refine List.Perm.trans ?_ (b2.trans (sw_perm xs 0 n (by rw [L.out]; omega) (by rw [L.out]; omega)))
    rw [← hlast]
    have h2 := (List.perm_append_singleton (lat ys n) y0).symm
    rw [← hy] at h2
    exact h2
  have hmin : ∀ z, z ∈ y0 → leW (lat xs 0) z := by
    intro z hz
    obtain ⟨k, hk, e⟩ := lat_mem (hperm.subset (List.mem_cons_of_mem _ hz))
    rw [← e]
    exact heap_min H.out k hk
  rw [hlast] at hy
  generalize lat xs 0 = y at *
  subst hy
  have B1 := Lib.hid b1
  have R := Lib.hid (And.intro hheap (And.intro hperm (And.intro hmin b5)))
  clear b1 b2 b3 b4 b5 hyl hlast hheap hperm hmin
  have hm := m_pop q w2
  go_wp2_with fail
  refine (pop_any q g cap y0 y w2 B1.out).mono ?_
  rintro e w3 ⟨rfl, c1, c2⟩
  have C := Lib.hid (And.intro c1 c2)
  clear c1 c2 hm
  go_wp2
  go_ret
  obtain ⟨c1, c2⟩ := C.out
  obtain ⟨d1, d2, d3, d4⟩ := R.out
  refine ⟨y, y0, rfl, ⟨y0, c1, d1, List.Perm.refl _⟩, d2.trans P.out, d3, ?_⟩
  exact (((Touch.of_grownBy A2.out).trans (Touch.of_grownBy d4)).weaken (fun _ _ e => .inr e)).trans c2

set_option maxRecDepth 100000 in
set_option maxHeartbeats 2000000 in
theorem put_any (q gl : Nat) (s : Option Nat) (m : List Wt) (x : Wt) (w0 : World) (hQ : QH w0 q s m) (hf : m.length < 1000000) (hX : Blk w0 gl #[.int .i64 x.src, .int .i64 x.dst, .string x.txt, .int .i64 x.due, .int .i64 x.num] 72) :
    Calls Try.prog 42 #[.pointer (some ⟨q, 0, none⟩), .slice (some ⟨gl, 0, none⟩) 1 1] w0 fun e w' => e = .returned (.tuple #[]) ∧ ∃ s', QH w' q s' (x :: m) ∧ Fresh w0 s s' ∧ Touch w0 w' (fun k => k = q ∨ s = some k) := by
  have Q := Lib.hid hQ
  have X := Lib.hid hX
  clear hQ hX
  go_enter Try.func42, Try.ntmps42
  go_wp2_with fail
  go_loopw [8] (fun i wr => ∃ k : Nat, i = .int .i64 k ∧ ((k = 0 ∧ wr = w0) ∨ (k = 1 ∧ Hid (∃ s', QH wr q s' (x :: m) ∧ Fresh w0 s s' ∧ Touch w0 wr (fun k => k = q ∨ s = some k))))) (fun i _ => (1 - intOf i).toNat)
  case atStart => exact ⟨0, rfl, .inl ⟨rfl, rfl⟩⟩
  case round =>
    obtain ⟨k, rfl, ⟨rfl, rfl⟩ | ⟨rfl, R⟩⟩ := hrel
    · have c0 : wr.cell? ⟨gl, 0, none⟩ = some (.int .i64 x.src) := X.out.cell 0
      have c1 : wr.cell? ⟨gl, 1, none⟩ = some (.int .i64 x.dst) := X.out.cell 1
      have c2 : wr.cell? ⟨gl, 2, none⟩ = some (.string x.txt) := X.out.cell 2
      have c3 : wr.cell? ⟨gl, 3, none⟩ = some (.int .i64 x.due) := X.out.cell 3
      have c4 : wr.cell? ⟨gl, 4, none⟩ = some (.int .i64 x.num) := X.out.cell 4
      have T1 := Touch.alloc wr (.cells #[.int .i64 x.src, .int .i64 x.dst, .string x.txt, .int .i64 x.due, .int .i64 x.num] 72) (fun k => k = q ∨ s = some k)
      have Q1 := Lib.hid (Q.out.touch (Touch.alloc wr (.cells #[.int .i64 x.src, .int .i64 x.dst, .string x.txt, .int .i64 x.due, .int .i64 x.num] 72) (fun _ => False)) id (fun _ _ => id))
      have T := Lib.hid T1
      clear T1
      go_wp2_with fail
      refine (heappush_any q s m x _ Q1.out hf).mono ?_
      rintro e w1 ⟨rfl, s1, a1, a2, a3⟩
      have R : Hid (∃ s', QH w1 q s' (x :: m) ∧ Fresh wr s s' ∧ Touch wr w1 (fun k => k = q ∨ s = some k)) := Lib.hid ⟨s1, a1, a2.older T.out.size, T.out.trans a3⟩
      clear a1 a2 a3
      go_wp2
      go_roundw
      case rel => exact ⟨1, rfl, .inr ⟨rfl, R⟩⟩
      case measure => simp [intOf]
    · go_wp2
      go_end0
      exact ⟨rfl, R.out⟩

theorem run_ta (v : Value) (w : World) : (Instr.typeAssert (.iface 72 v) 20 72 false).run Try.prog w = .ok v w := by kernel_rfl

set_option maxRecDepth 100000 in
set_option maxHeartbeats 2000000 in
theorem take_none (q : Nat) (s : Option Nat) (w0 : World) (hQ : QH w0 q s []) :
    Calls Try.prog 43 #[.pointer (some ⟨q, 0, none⟩)] w0 fun e w' => e = .returned (.tuple #[.agg #[.int .i64 0, .int .i64 0, .string ⟨#[]⟩, .int .i64 0, .int .i64 0], .bool false]) ∧ Below w0.heap.size w0 w' := by
  obtain ⟨xs, ⟨v, hv, hC, hO, hs, hfew⟩, hH, hP⟩ := hQ
  have e := hP.eq_nil
  subst e
  have hlen : ∃ ao c, v = .slice ao 0 c := by
    rcases hO.2 with ⟨rfl, _⟩ | ⟨g, cap, cur, rfl, _⟩
    · exact ⟨none, 0, rfl⟩
    · exact ⟨_, _, rfl⟩
  obtain ⟨ao, c, rfl⟩ := hlen
  have C1 := hC.alloc (.cells #[.int .i64 0, .int .i64 0, .string ⟨#[]⟩, .int .i64 0, .int .i64 0] 72)
  have cq : (w0.alloc (.cells #[.int .i64 0, .int .i64 0, .string ⟨#[]⟩, .int .i64 0, .int .i64 0] 72)).cell? ⟨q, 0, none⟩ = some (.slice ao 0 c) := C1.cell 0
  have B : Blk (w0.alloc (.cells #[.int .i64 0, .int .i64 0, .string ⟨#[]⟩, .int .i64 0, .int .i64 0] 72)) w0.heap.size #[.int .i64 0, .int .i64 0, .string ⟨#[]⟩, .int .i64 0, .int .i64 0] 72 := Blk.new w0 _ _ rfl
  clear hO hs hfew hH hP hC hv C1
  have B1 := Lib.hid B
  clear B
  go_enter Try.func43, Try.ntmps43
  go_wp2
  refine bodyPost_ret (res_ct rfl _ _ w0.heap.size 72 #[.int .i64 0, .int .i64 0, .string ⟨#[]⟩, .int .i64 0, .int .i64 0] _ rfl B1.out rfl Try.underlying72 (by kernel_rfl)) rfl ?_
  exact ⟨rfl, balloc (Below.refl _ _) _⟩

set_option maxRecDepth 100000 in
set_option maxHeartbeats 2000000 in
theorem take_some (q : Nat) (s : Option Nat) (m : List Wt) (w0 : World) (hQ : QH w0 q s m) (h0 : m ≠ []) :
    Calls Try.prog 43 #[.pointer (some ⟨q, 0, none⟩)] w0 fun e w' => ∃ y m', e = .returned (.tuple #[y.agg, .bool true]) ∧ QH w' q s m' ∧ (y :: m').Perm m ∧ (∀ z, z ∈ m' → leW y z) ∧ Touch w0 w' (fun k => k = q ∨ s = some k) := by
  have Q0 := Lib.hid hQ
  have Q1 := Lib.hid (hQ.touch (Touch.alloc w0 (.cells #[.int .i64 0, .int .i64 0, .string ⟨#[]⟩, .int .i64 0, .int .i64 0] 72) (fun _ => False)) id (fun _ _ => id))
  obtain ⟨xs, ⟨v, hv, hC, hO, hs, hfew⟩, hH, hP⟩ := hQ
  have hlen : ∃ ao n c, 0 < n ∧ n ≤ 1000000 ∧ v = .slice ao n c := by
    have hpos : 0 < xs.length := by rw [hP.length_eq]; exact List.length_pos_iff.2 h0
    rcases hO.2 with ⟨rfl, h⟩ | ⟨g, cap, cur, rfl, _⟩
    · omega
    · exact ⟨_, _, _, hpos, hfew, rfl⟩
  obtain ⟨ao, n, c, hn, hn2, rfl⟩ := hlen
  have C1 := hC.alloc (.cells #[.int .i64 0, .int .i64 0, .string ⟨#[]⟩, .int .i64 0, .int .i64 0] 72)
  have cq : (w0.alloc (.cells #[.int .i64 0, .int .i64 0, .string ⟨#[]⟩, .int .i64 0, .int .i64 0] 72)).cell? ⟨q, 0, none⟩ = some (.slice ao n c) := C1.cell 0
  have B : Blk (w0.alloc (.cells #[.int .i64 0, .int .i64 0, .string ⟨#[]⟩, .int .i64 0, .int .i64 0] 72)) w0.heap.size #[.int .i64 0, .int .i64 0, .string ⟨#[]⟩, .int .i64 0, .int .i64 0] 72 := Blk.new w0 _ _ rfl
  clear hO hs hfew hH hP hC hv C1
  have B1 := Lib.hid B
  have T1 := Lib.hid (Touch.alloc w0 (.cells #[.int .i64 0, .int .i64 0, .string ⟨#[]⟩, .int .i64 0, .int .i64 0] 72) (fun k => k = q ∨ s = some k))
  have hlt := Lib.hid Q0.out.lt
  have N0 := Lib.hid h0
  clear B h0 Q0
  go_enter Try.func43, Try.ntmps43
  go_wp2_with fail
  refine (heappop_any q s m _ Q1.out N0.out).mono ?_
  rintro e w1 ⟨y, m', rfl, a1, a2, a3, a4⟩
  have hne : ¬ (w0.heap.size = q ∨ s = some w0.heap.size) := by
    rintro (e | e)
    · have := hlt.out.1; omega
    · have := hlt.out.2 _ e; omega
  have B2 := a4.blk B1.out hne
  have c0 : w1.cell? ⟨w0.heap.size, 0, none⟩ = some (.int .i64 0) := B2.cell 0
  have c1 : w1.cell? ⟨w0.heap.size, 1, none⟩ = some (.int .i64 0) := B2.cell 1
  have c2 : w1.cell? ⟨w0.heap.size, 2, none⟩ = some (.string ⟨#[]⟩) := B2.cell 2
  have c3 : w1.cell? ⟨w0.heap.size, 3, none⟩ = some (.int .i64 0) := B2.cell 3
  have c4 : w1.cell? ⟨w0.heap.size, 4, none⟩ = some (.int .i64 0) := B2.cell 4
  have f0 := B2.frozen 0
  have f1 := B2.frozen 1
  have f2 := B2.frozen 2
  have f3 := B2.frozen 3
  have f4 := B2.frozen 4
  let W := ((((w1.setCell ⟨w0.heap.size, 0, none⟩ (.int .i64 y.src)).setCell ⟨w0.heap.size, 1, none⟩ (.int .i64 y.dst)).setCell ⟨w0.heap.size, 2, none⟩ (.string y.txt)).setCell ⟨w0.heap.size, 3, none⟩ (.int .i64 y.due)).setCell ⟨w0.heap.size, 4, none⟩ (.int .i64 y.num)
  have B3 : Blk W w0.heap.size #[.int .i64 y.src, .int .i64 y.dst, .string y.txt, .int .i64 y.due, .int .i64 y.num] 72 := ((((B2.put 0 (.int .i64 y.src) rfl).put 1 (.int .i64 y.dst) rfl).put 2 (.string y.txt) rfl).put 3 (.int .i64 y.due) rfl).put 4 (.int .i64 y.num) rfl
  have T3 : Touch w1 W (fun k => k = w0.heap.size) := ((((Touch.setCell w1 w0.heap.size 0 (.int .i64 y.src) (fun k => k = w0.heap.size) rfl).trans (Touch.setCell _ w0.heap.size 1 (.int .i64 y.dst) _ rfl)).trans (Touch.setCell _ w0.heap.size 2 (.string y.txt) _ rfl)).trans (Touch.setCell _ w0.heap.size 3 (.int .i64 y.due) _ rfl)).trans (Touch.setCell _ w0.heap.size 4 (.int .i64 y.num) _ rfl)
  have R : Hid (QH W q s m' ∧ (y :: m').Perm m ∧ (∀ z, z ∈ m' → leW y z) ∧ Touch w0 W (fun k => k = q ∨ s = some k)) := by
    refine Lib.hid ⟨a1.touch T3 (fun e => hne (.inl e.symm)) (fun g e1 e2 => hne (.inr (e2 ▸ e1))), a2, a3, (T1.out.trans a4).then T3 ?_⟩
    intro i hi e
    omega
  have B4 := Lib.hid B3
  clear a1 a2 a3 a4 B2 B3 T3 hne
  go_wp2_with fail
  rw [run_ta]
  go_wp2
  refine bodyPost_ret (res_ct rfl _ _ w0.heap.size 72 #[.int .i64 y.src, .int .i64 y.dst, .string y.txt, .int .i64 y.due, .int .i64 y.num] _ rfl B4.out rfl Try.underlying72 (by kernel_rfl)) rfl ?_
  exact ⟨y, m', rfl, R.out⟩

end Go.Proofs.Ytemcbaacefjfnaa
