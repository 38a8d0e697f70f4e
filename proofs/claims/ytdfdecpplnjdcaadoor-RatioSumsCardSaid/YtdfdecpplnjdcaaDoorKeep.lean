/- The reader of numbers (shapesearchkeep.Src): each of its functions answers, in the range that it names. -/
import Derived.Test.YtdfdecpplnjdcaaDoorHx9
import Derived.Test.YtdfdecpplnjdcaaDoorHx10
import Derived.Test.YtdfdecpplnjdcaaDoorBase
namespace Go.Proofs.YtdfdecpplnjdcaaDoor.Keep
open Go.RowKit Go.Proofs.YtdfdecpplnjdcaaDoor.Hp Go.Proofs.YtdfdecpplnjdcaaDoorW.PrintWords Go.Proofs.YtdfdecpplnjdcaaDoorW.PrintLast Go.Proofs.YtdfdecpplnjdcaaDoorW.PrintMore
open Go.Proofs.YtdfdecpplnjdcaaDoor.Base

/-- A reader that stands within its list of at most 2000 numbers. -/
def Src (L : List Int) (i : Int) : Prop := 0 ≤ i ∧ i ≤ (L.length : Int) ∧ L.length ≤ 2000 ∧ ∀ x ∈ L, -9223372036854775808 ≤ x ∧ x ≤ 9223372036854775807

theorem new_ok (l : List Int) (h : ∀ x ∈ l, (Lit.int .i64 x).wf = true) : ∃ L, shapesearchkeep_New.f l = some (L, 0) ∧ Src L 0 := by
  have hm : mn (l.length : Int) 2000 ≤ (l.length : Int) ∧ 0 ≤ mn (l.length : Int) 2000 ∧ mn (l.length : Int) 2000 ≤ 2000 := by
    unfold mn; split <;> omega
  refine ⟨l.take (mn (l.length : Int) 2000).toNat, ?_, by omega, by simp, ?_, ?_⟩
  · unfold shapesearchkeep_New.f; rw [if_pos hm.2.1, if_pos hm.1]
  · rw [List.length_take]; omega
  · intro x hx; exact wf_i64 (h x (List.mem_of_mem_take hx))

theorem raw_ok {L : List Int} {i : Int} (h : Src L i) : ∃ v j, shapesearchkeep_Src_Raw.f L i = some (v, j) ∧ Src L j ∧ -9223372036854775808 ≤ v ∧ v ≤ 9223372036854775807 := by
  obtain ⟨h0, h1, h2, h3⟩ := h
  unfold shapesearchkeep_Src_Raw.f
  by_cases c : i ≥ (L.length : Int)
  · rw [if_pos c]; exact ⟨0, i, rfl, ⟨h0, h1, h2, h3⟩, by omega, by omega⟩
  · rw [if_neg c, w64 (n := i + 1) (by omega) (by omega), w64 (n := i + 1 - 1) (by omega) (by omega), if_pos (by omega), if_pos (by omega)]
    exact ⟨_, _, rfl, ⟨by omega, by omega, h2, h3⟩, (h3 _ (rd_mem (by omega) (by omega))).1, (h3 _ (rd_mem (by omega) (by omega))).2⟩

theorem mod_ok (a b : Int) (hb : 1 ≤ b) (hb2 : b ≤ 9223372036854775807) : ∃ r, shapesearchkeep_Mod.f a b = some r ∧ 0 ≤ r ∧ r < b := by
  have h := tmod_pos (a := a) (b := b) (by omega)
  unfold shapesearchkeep_Mod.f
  rw [if_neg (by omega), if_neg (by omega)]
  by_cases c : Int.tmod a b < 0
  · rw [if_pos c, w64 (by omega) (by omega)]; exact ⟨_, rfl, by omega, by omega⟩
  · rw [if_neg c]; exact ⟨_, rfl, by omega, by omega⟩

theorem n_ok {L : List Int} {i : Int} (h : Src L i) (n : Int) (hn : 1 ≤ n) (hn2 : n ≤ 9223372036854775807) : ∃ r j, shapesearchkeep_Src_N.f L i n = some (r, j) ∧ Src L j ∧ 0 ≤ r ∧ r < n := by
  obtain ⟨v, j, e, hj, _, _⟩ := raw_ok h
  obtain ⟨r, er, h0, h1⟩ := mod_ok v n hn hn2
  refine ⟨r, j, ?_, hj, h0, h1⟩
  unfold shapesearchkeep_Src_N.f
  rw [e]; simp only [Option.bind_some]; rw [er]; rfl


theorem pick_ok {L : List Int} {i : Int} (h : Src L i) (l : List Int) (hl : l ≠ []) (hl2 : l.length ≤ 1000000) : ∃ r j, shapesearchkeep_Src_Pick.f L i l = some (r, j) ∧ Src L j ∧ r ∈ l := by
  have hp : 0 < l.length := List.length_pos_iff.2 hl
  obtain ⟨r, j, e, hj, h3, h4⟩ := n_ok h (l.length : Int) (by omega) (by omega)
  unfold shapesearchkeep_Src_Pick.f
  rw [e]; simp only [Option.bind_some]; rw [if_pos h3, if_pos h4]
  exact ⟨_, _, rfl, hj, rd_mem h3 h4⟩



theorem smp_snoc {l : List Int} (h : Smp l) {x : Int} (h0 : -1000 ≤ x) (h1 : x ≤ 1000) : Smp (l ++ [x]) := by
  intro y hy
  rcases List.mem_append.1 hy with hy | hy
  · exact h y hy
  · rw [List.mem_singleton.1 hy]; exact ⟨h0, h1⟩


end Go.Proofs.YtdfdecpplnjdcaaDoor.Keep
