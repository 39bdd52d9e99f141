/- append of a part of a row to a row of one's own; the first least of a list. -/
import Derived.Test.YtemcbaacefjfnaaLnRf
import Derived.Test.YtemcbaacefjfnaaLnNoP
set_option linter.unusedVariables false
set_option linter.unusedSimpArgs false
namespace Go.Proofs.Ytemcbaacefjfnaa
open Go.RowKit Go.Proofs.YtemcbaacefjfnaaW.PrintWords Go.Proofs.YtemcbaacefjfnaaW.PrintLast

theorem append_many {P : Program} (w : World) {t e : TypeId} {z : Value} {size bytes : Nat} (ht : P.underlying t = some (.slice e)) (hinfo : (P.info? e).map (fun i => (i.zero, i.size, i.bytes)) = some (some z, size, bytes)) (hzs : z.cells.size = size) (hsz : 0 < size)
    (v : Value) (n : Nat) (xs : List Value) (hown : w.ownsRow 0 e size v n xs) (a : Addr) (m c : Nat) (news : List Value) (hl : news.length = m * size) (hnews : ∀ j u, news[j]? = some u → w.cell? (a.add j) = some u) (h1 : ∀ u ∈ news, u.oneCell' = true) (hf : n + m < 1000000) (hbytes : bytes ≤ 1000000) :
    ∃ v' w', (Builtin.append_ #[t, t] t #[v, .slice (some a) m c]).run P w = .ok v' w' ∧ w'.ownsRow 0 e size v' (n + m) (xs ++ news) ∧ w.grownBy w' v.ownBlock ∧ Fresh w v.ownBlock v'.ownBlock := by
  obtain ⟨i, hi, hz, hs, hby⟩ := info_parts hinfo
  have hbb : (n + m) * bytes ≤ 140737488355328 := by
    have : (n + m) * bytes ≤ 1000000 * 1000000 := Nat.mul_le_mul (by omega) hbytes
    omega
  obtain ⟨v', w', hr, h2, h3, h4⟩ := run_append_own (P := P) w 0 t t e i _ size bytes ht hi hz hs hby hzs hsz v n xs hown a m c news hl hnews h1 (by simp only [maxLen]; omega) hbb (Nat.zero_le _)
  refine ⟨v', w', hr, h2, h3, ?_⟩
  have hl1 : news.length = m * i.size := by rw [hs]; exact hl
  rcases hown.2 with ⟨rfl, rfl⟩ | ⟨g, cap, cur, rfl, hbg, hg, hnc, hcm, hcs, htake⟩
  · by_cases hm : m = 0
    · rw [h4.2 ⟨rfl, hm⟩]; exact .inl rfl
    · have hr2 := run_append_nil (P := P) w t t e i _ ht hi hz a m c news hl1 hnews (by omega) (by omega) (by rw [hby]; rw [Nat.zero_add] at hbb; omega)
      rw [hr2] at hr
      cases hr
      exact .inr ⟨_, rfl, Nat.le_refl _⟩
  · by_cases hroom : n + m ≤ cap
    · have hfit : n * i.size + news.length ≤ cur.size := by
        rw [hl1, hs, hcs, ← Nat.add_mul]; exact Nat.mul_le_mul_right _ hroom
      have hr2 := run_append_room (P := P) w t t e i ht hi g n cap cur hg a m c news hl1 hnews h1 hroom hfit
      rw [hr2] at hr
      cases hr
      exact .inl rfl
    · have hr2 := run_append_grow (P := P) w t t e i _ ht hi hz ⟨g, 0, none⟩ n cap xs (by rw [hown.1, hs]) (hown.cells (g := g) rfl) a m c news hl1 hnews (by omega) (by omega) (by rw [hby]; exact growslice_fits (by omega) hbb)
      rw [hr2] at hr
      cases hr
      exact .inr ⟨_, rfl, Nat.le_refl _⟩

/-- where the first least time stands, among the first k -/
def minI (m : List Wt) : Nat → Nat
  | 0 => 0
  | k + 1 => if (m.getD k default).due < (m.getD (minI m k) default).due then k else minI m k
theorem minI_lt (m : List Wt) (k : Nat) (h : 0 < k) : minI m k < k := by
  induction k with
  | zero => omega
  | succ k ih =>
    rw [minI]
    split
    · omega
    · rcases Nat.eq_zero_or_pos k with h0 | h0
      · subst h0; simp [minI]
      · have := ih h0; omega
theorem minI_one (m : List Wt) : minI m 1 = 0 := by simp [minI]
theorem minI_le (m : List Wt) (k : Nat) : ∀ i, i < k → (m.getD (minI m k) default).due ≤ (m.getD i default).due ∧ (i < minI m k → (m.getD (minI m k) default).due < (m.getD i default).due) := by
  induction k with
  | zero => intro i hi; omega
  | succ k ih =>
    intro i hi
    rw [minI]
    split
    · rename_i h
      rcases Nat.lt_or_ge i k with h1 | h1
      · have := (ih i h1).1
        exact ⟨by omega, fun _ => by omega⟩
      · obtain rfl : i = k := by omega
        exact ⟨Int.le_refl _, fun h => by omega⟩
    · rename_i h
      rcases Nat.lt_or_ge i k with h1 | h1
      · exact ih i h1
      · obtain rfl : i = k := by omega
        refine ⟨by omega, fun h2 => ?_⟩
        rcases Nat.eq_zero_or_pos i with h0 | h0
        · subst h0; simp [minI] at h2
        · have := minI_lt m i h0; omega

/-- the numbers don't become less along the list -/
def Ord (m : List Wt) : Prop := m.Pairwise fun a b => a.num ≤ b.num
theorem Ord.nil : Ord [] := List.Pairwise.nil
theorem Ord.erase {m : List Wt} (h : Ord m) (y : Wt) : Ord (m.erase y) := List.Pairwise.sublist List.erase_sublist h
theorem Ord.send {m : List Wt} {sent : Nat} (h : Ord m) (hg : Good m sent) (n : Int) (scr : List Tb) (due a b : Int) (txt : ByteArray) : Ord (m ++ sendL n sent scr due a b txt) := by
  unfold Ord at *
  rw [List.pairwise_append]
  refine ⟨h, ?_, ?_⟩
  · unfold sendL
    split
    · exact List.Pairwise.nil
    · rw [List.pairwise_map]
      exact List.Pairwise.imp (fun _ => Int.le_refl _) (List.nodup_range (n := copiesOf (tbAt scr sent)))
  · intro x hx y hy
    obtain ⟨j, _, rfl⟩ := sendL_mem hy
    have := hg.2 x hx
    simp only
    omega
theorem first_best {m : List Wt} (hA : Apart m) (hO : Ord m) (h0 : m ≠ []) : minI m m.length < m.length ∧ m.getD (minI m m.length) default = best m ∧ m.eraseIdx (minI m m.length) = m.erase (best m) := by
  have hlen : 0 < m.length := List.length_pos_iff.2 h0
  have hlt := minI_lt m m.length hlen
  have hget : m.getD (minI m m.length) default = m[minI m m.length] := by simp [List.getD, List.getElem?_eq_getElem hlt]
  have hb : best m = m[minI m m.length] := by
    refine best_eq hA (List.getElem_mem hlt) ?_
    intro z hz
    obtain ⟨i, hi, rfl⟩ := List.getElem_of_mem hz
    have hz2 : m.getD i default = m[i] := by simp [List.getD, List.getElem?_eq_getElem hi]
    obtain ⟨h1, h2⟩ := minI_le m m.length i hi
    rw [hget, hz2] at h1 h2
    rw [leW_iff]
    rcases Nat.lt_trichotomy i (minI m m.length) with h | h | h
    · have := h2 h; omega
    · subst h; omega
    · have h3 : m[minI m m.length].num ≤ m[i].num := (List.pairwise_iff_getElem.1 hO) _ _ hlt hi h
      omega
  have hnd : m.Nodup := List.Pairwise.imp (fun h e => h (by rw [e]; exact ⟨rfl, rfl⟩)) hA
  refine ⟨hlt, hget.trans hb.symm, ?_⟩
  rw [hb, List.erase_eq_eraseIdx_of_idxOf (i := minI m m.length)]
  exact hnd.idxOf_getElem _ hlt

end Go.Proofs.Ytemcbaacefjfnaa
