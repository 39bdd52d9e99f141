/- append to a row of one's own: the row stays where it is, or is new. -/
import Derived.Test.YtemcbaacefjfnaaLnM
set_option linter.unusedVariables false
set_option linter.unusedSimpArgs false
namespace Go.Proofs.Ytemcbaacefjfnaa
open Go.RowKit Go.Proofs.YtemcbaacefjfnaaW.PrintWords Go.Proofs.YtemcbaacefjfnaaW.PrintLast

theorem append_fresh {P : Program} (w : World) {t e : TypeId} {z : Value} {size bytes : Nat} (ht : P.underlying t = some (.slice e)) (hinfo : (P.info? e).map (fun i => (i.zero, i.size, i.bytes)) = some (some z, size, bytes)) (hzs : z.cells.size = size) (hsz : 0 < size)
    (v : Value) (n : Nat) (xs : List Value) (hown : w.ownsRow 0 e size v n xs) (news : List Value) (hl : news.length = size) (gb : Nat) (hb : Blk w gb news.toArray e) (h1 : ∀ u ∈ news, u.oneCell' = true) (hf : n < 1000000) (hbytes : bytes ≤ 1000000) :
    ∃ v' w', (Builtin.append_ #[t, t] t #[v, .slice (some ⟨gb, 0, none⟩) 1 1]).run P w = .ok v' w' ∧ w'.ownsRow 0 e size v' (n + 1) (xs ++ news) ∧ w.grownBy w' v.ownBlock ∧ Fresh w v.ownBlock v'.ownBlock := by
  obtain ⟨i, hi, hz, hs, hby⟩ := info_parts hinfo
  have hnews : ∀ j u, news[j]? = some u → w.cell? ((⟨gb, 0, none⟩ : Addr).add j) = some u := by
    intro j u hu
    rw [cell_add, hb.cell]
    simpa using hu
  have hbb : (n + 1) * bytes ≤ 140737488355328 := by
    have : (n + 1) * bytes ≤ 1000000 * 1000000 := Nat.mul_le_mul (by omega) hbytes
    omega
  obtain ⟨v', w', hr, h2, h3, _⟩ := run_append_own (P := P) w 0 t t e i _ size bytes ht hi hz hs hby hzs hsz v n xs hown ⟨gb, 0, none⟩ 1 1 news (by omega) hnews h1 (by simp only [maxLen]; omega) hbb (Nat.zero_le _)
  refine ⟨v', w', hr, h2, h3, ?_⟩
  have hl1 : news.length = 1 * i.size := by omega
  rcases hown.2 with ⟨rfl, rfl⟩ | ⟨g, cap, cur, rfl, hbg, hg, hnc, hcm, hcs, htake⟩
  · have hr2 := run_append_nil (P := P) w t t e i _ ht hi hz ⟨gb, 0, none⟩ 1 1 news hl1 hnews (by decide) (by decide) (by rw [hby]; omega)
    rw [hr2] at hr
    cases hr
    exact .inr ⟨_, rfl, Nat.le_refl _⟩
  · by_cases hroom : n + 1 ≤ cap
    · have hfit : n * i.size + news.length ≤ cur.size := by
        rw [hl1, hs, hcs, ← Nat.add_mul]; exact Nat.mul_le_mul_right _ hroom
      have hr2 := run_append_room (P := P) w t t e i ht hi g n cap cur hg ⟨gb, 0, none⟩ 1 1 news hl1 hnews h1 hroom hfit
      rw [hr2] at hr
      cases hr
      exact .inl rfl
    · have hr2 := run_append_grow (P := P) w t t e i _ ht hi hz ⟨g, 0, none⟩ n cap xs (by rw [hown.1, hs]) (hown.cells (g := g) rfl) ⟨gb, 0, none⟩ 1 1 news hl1 hnews (by omega) (by omega) (by rw [hby]; exact growslice_fits (by omega) hbb)
      rw [hr2] at hr
      cases hr
      exact .inr ⟨_, rfl, Nat.le_refl _⟩

end Go.Proofs.Ytemcbaacefjfnaa
