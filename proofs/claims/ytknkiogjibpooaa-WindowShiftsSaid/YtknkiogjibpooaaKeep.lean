/- The reader of numbers (shapesearchkeep.Src): each of its functions answers, in the range that it names. -/
import Derived.Test.YtknkiogjibpooaaHx2
import Derived.Test.YtknkiogjibpooaaHx3
import Derived.Test.YtknkiogjibpooaaHx4
import Derived.Test.YtknkiogjibpooaaHx14
import Derived.Test.YtknkiogjibpooaaBase
namespace Go.Proofs.Ytknkiogjibpooaa.Keep
open Go.RowKit Go.Proofs.Ytknkiogjibpooaa.Hp Go.Proofs.YtknkiogjibpooaaW.PrintWords Go.Proofs.YtknkiogjibpooaaW.PrintLast Go.Proofs.YtknkiogjibpooaaW.PrintMore
open Go.Proofs.Ytknkiogjibpooaa.Base

/-- A reader that stands within its list of at most 2000 numbers. -/
def Src (L : List Int) (i : Int) : Prop := 0 ≤ i ∧ i ≤ (L.length : Int) ∧ L.length ≤ 2000 ∧ ∀ x ∈ L, -9223372036854775808 ≤ x ∧ x ≤ 9223372036854775807

theorem new_ok (l : List Int) (h : ∀ x ∈ l, (Lit.int .i64 x).wf = true) : ∃ L, shapesearchkeep_New.f l = some (L, 0) ∧ Src L 0 := by
  have hm : mn (l.length : Int) 2000 ≤ (l.length : Int) ∧ 0 ≤ mn (l.length : Int) 2000 ∧ mn (l.length : Int) 2000 ≤ 2000 := by
    unfold mn; split <;> omega
  refine ⟨l.take (mn (l.length : Int) 2000).toNat, ?_, by omega, by simp, ?_, ?_⟩
  · unfold shapesearchkeep_New.f; rw [if_pos hm.2.1, if_pos hm.1]
  · rw [List.length_take]; omega
  · intro x hx; exact wf_i64 (h x (List.mem_of_mem_take hx))

theorem raw_ok {L : List Int} {i : Int} (h : Src L i) : ∃ v j, shapesearchkeep_Src_Raw.f L i = some (v, j) ∧ Src L j ∧ -9223372036854775808 ≤ v ∧ v ≤ 9223372036854775807 := by
  obtain ⟨h0, h1, h2, h3⟩ := h
  unfold shapesearchkeep_Src_Raw.f
  by_cases c : i ≥ (L.length : Int)
  · rw [if_pos c]; exact ⟨0, i, rfl, ⟨h0, h1, h2, h3⟩, by omega, by omega⟩
  · rw [if_neg c, w64 (n := i + 1) (by omega) (by omega), w64 (n := i + 1 - 1) (by omega) (by omega), if_pos (by omega), if_pos (by omega)]
    exact ⟨_, _, rfl, ⟨by omega, by omega, h2, h3⟩, (h3 _ (rd_mem (by omega) (by omega))).1, (h3 _ (rd_mem (by omega) (by omega))).2⟩

theorem mod_ok (a b : Int) (hb : 1 ≤ b) (hb2 : b ≤ 9223372036854775807) : ∃ r, shapesearchkeep_Mod.f a b = some r ∧ 0 ≤ r ∧ r < b := by
  have h := tmod_pos (a := a) (b := b) (by omega)
  unfold shapesearchkeep_Mod.f
  rw [if_neg (by omega), if_neg (by omega)]
  by_cases c : Int.tmod a b < 0
  · rw [if_pos c, w64 (by omega) (by omega)]; exact ⟨_, rfl, by omega, by omega⟩
  · rw [if_neg c]; exact ⟨_, rfl, by omega, by omega⟩

theorem n_ok {L : List Int} {i : Int} (h : Src L i) (n : Int) (hn : 1 ≤ n) (hn2 : n ≤ 9223372036854775807) : ∃ r j, shapesearchkeep_Src_N.f L i n = some (r, j) ∧ Src L j ∧ 0 ≤ r ∧ r < n := by
  obtain ⟨v, j, e, hj, _, _⟩ := raw_ok h
  obtain ⟨r, er, h0, h1⟩ := mod_ok v n hn hn2
  refine ⟨r, j, ?_, hj, h0, h1⟩
  unfold shapesearchkeep_Src_N.f
  rw [e]; simp only [Option.bind_some]; rw [er]; rfl

theorem range_ok {L : List Int} {i : Int} (h : Src L i) (lo hi : Int) (hl : lo ≤ hi) (h1 : -4611686018427387904 ≤ lo) (h2 : hi ≤ 4611686018427387000) : ∃ r j, shapesearchkeep_Src_Range.f L i lo hi = some (r, j) ∧ Src L j ∧ lo ≤ r ∧ r ≤ hi := by
  unfold shapesearchkeep_Src_Range.f
  rw [w64 (n := hi - lo) (by omega) (by omega), w64 (n := hi - lo + 1) (by omega) (by omega)]
  obtain ⟨r, j, e, hj, h3, h4⟩ := n_ok h (hi - lo + 1) (by omega) (by omega)
  rw [e]; simp only [Option.bind_some]; rw [w64 (by omega) (by omega)]
  exact ⟨_, _, rfl, hj, by omega, by omega⟩

theorem pick_ok {L : List Int} {i : Int} (h : Src L i) (l : List Int) (hl : l ≠ []) (hl2 : l.length ≤ 1000000) : ∃ r j, shapesearchkeep_Src_Pick.f L i l = some (r, j) ∧ Src L j ∧ r ∈ l := by
  have hp : 0 < l.length := List.length_pos_iff.2 hl
  obtain ⟨r, j, e, hj, h3, h4⟩ := n_ok h (l.length : Int) (by omega) (by omega)
  unfold shapesearchkeep_Src_Pick.f
  rw [e]; simp only [Option.bind_some]; rw [if_pos h3, if_pos h4]
  exact ⟨_, _, rfl, hj, rd_mem h3 h4⟩

theorem length_ok {L : List Int} {i : Int} (h : Src L i) : ∃ r j, shapesearchkeep_Src_Length.f L i = some (r, j) ∧ Src L j ∧ 2 ≤ r ∧ r ≤ 32 := by
  obtain ⟨r, j, e, hj, h3, h4⟩ := n_ok h 8 (by omega) (by omega)
  unfold shapesearchkeep_Src_Length.f
  rw [e]; simp only [Option.bind_some]
  by_cases c : r = 7
  · rw [if_pos c]
    obtain ⟨r, j, e, hj, h3, h4⟩ := range_ok hj 13 32 (by omega) (by omega) (by omega)
    rw [e]; exact ⟨_, _, rfl, hj, by omega, by omega⟩
  · rw [if_neg c]
    obtain ⟨r, j, e, hj, h3, h4⟩ := range_ok hj 2 12 (by omega) (by omega) (by omega)
    rw [e]; exact ⟨_, _, rfl, hj, by omega, by omega⟩

theorem clip_ok (x : Int) : ∃ r, shapesearchkeep_clip.f x = some r ∧ -1000 ≤ r ∧ r ≤ 1000 := by
  refine ⟨_, rfl, ?_, ?_⟩ <;> (unfold mn mx; split <;> split <;> omega)

theorem smp_snoc {l : List Int} (h : Smp l) {x : Int} (h0 : -1000 ≤ x) (h1 : x ≤ 1000) : Smp (l ++ [x]) := by
  intro y hy
  rcases List.mem_append.1 hy with hy | hy
  · exact h y hy
  · rw [List.mem_singleton.1 hy]; exact ⟨h0, h1⟩

/-- One round of List's loop: a sample more. -/
theorem list_loop (kind size : Int) (hs0 : 1 ≤ size) (hs1 : size ≤ 1000) (n : Int) (hn : n ≤ 100000) (L : List Int) : ∀ (d : Nat) (x : Int) (out : List Int) (i j : Int), n - i = d → 0 ≤ i → i = (out.length : Int) → Smp out → -1000 ≤ x → x ≤ 1000 → Src L j →
    ∃ r j', Src L j' ∧ (r.length : Int) = n ∧ Smp r ∧ ∃ K, ∀ k, K ≤ k → shapesearchkeep_Src_List.l0 k n kind size x out i L j = some (r, j') := by
  intro d
  induction d with
  | zero =>
    intro x out i j hd hi he hs hx0 hx1 hj
    refine ⟨out, j, hj, by omega, hs, 1, fun k hk => ?_⟩
    obtain ⟨k, rfl, hk'⟩ := succ_of hk
    simp only [shapesearchkeep_Src_List.l0]; rw [if_neg (by omega)]
  | succ d ih =>
    intro x out i j hd hi he hs hx0 hx1 hj
    have hw : wrap64 (i + 1) = i + 1 := w64 (by omega) (by omega)
    have hlen : out.length < 17592186044416 := by omega
    have hneg : wrap64 (-size) = -size := w64 (by omega) (by omega)
    have next : ∀ (x' v : Int) (j2 : Int), -1000 ≤ v → v ≤ 1000 → -1000 ≤ x' → x' ≤ 1000 → Src L j2 → ∃ r j', Src L j' ∧ (r.length : Int) = n ∧ Smp r ∧ ∃ K, ∀ k, K ≤ k → shapesearchkeep_Src_List.l0 k n kind size x' (out ++ [v]) (i + 1) L j2 = some (r, j') := by
      intro x' v j2 hv0 hv1 hx0 hx1 hj2
      exact ih x' (out ++ [v]) (i + 1) j2 (by omega) (by omega) (by simp; omega) (smp_snoc hs hv0 hv1) hx0 hx1 hj2
    obtain ⟨a1, j1, e1, hj1, ha1, hb1⟩ := range_ok hj (-size) size (by omega) (by omega) (by omega)
    have step : ∀ (b : Bool), (∃ r j', Src L j' ∧ (r.length : Int) = n ∧ Smp r ∧ ∃ K, ∀ k, K ≤ k → shapesearchkeep_Src_List.j2 k n kind size x out i kind b L j = some (r, j')) := by
      intro b
      cases b with
      | true =>
        obtain ⟨r, j', h1, h2, h3, K, hK⟩ := next x a1 j1 (by omega) (by omega) hx0 hx1 hj1
        refine ⟨r, j', h1, h2, h3, K + 1, fun k hk => ?_⟩
        obtain ⟨k, rfl, hk'⟩ := succ_of hk
        simp only [shapesearchkeep_Src_List.j2]
        rw [if_pos (by trivial), hneg, e1]; simp only [Option.bind_some]; rw [if_pos hlen, hw]; exact hK k hk'
      | false =>
        have step3 : ∀ (b : Bool), (∃ r j', Src L j' ∧ (r.length : Int) = n ∧ Smp r ∧ ∃ K, ∀ k, K ≤ k → shapesearchkeep_Src_List.j3 k n kind size x out i kind b L j = some (r, j')) := by
          intro b
          cases b with
          | true =>
            obtain ⟨c, ec, hc0, hc1⟩ := clip_ok (wrap64 (x + a1))
            obtain ⟨r, j', h1, h2, h3, K, hK⟩ := next c c j1 hc0 hc1 hc0 hc1 hj1
            refine ⟨r, j', h1, h2, h3, K + 1, fun k hk => ?_⟩
            obtain ⟨k, rfl, hk'⟩ := succ_of hk
            simp only [shapesearchkeep_Src_List.j3]
            rw [if_pos (by trivial), hneg, e1]; simp only [Option.bind_some]; rw [ec]; simp only [Option.bind_some]; rw [if_pos hlen, hw]; exact hK k hk'
          | false =>
            by_cases c4 : kind = 4
            · obtain ⟨a2, j2, e2, hj2, ha2, hb2⟩ := n_ok hj 4 (by omega) (by omega)
              by_cases c0 : a2 = 0
              · obtain ⟨a3, j3, e3, hj3, ha3, hb3⟩ := range_ok hj2 (-size) size (by omega) (by omega) (by omega)
                obtain ⟨r, j', h1, h2, h3, K, hK⟩ := next a3 a3 j3 (by omega) (by omega) (by omega) (by omega) hj3
                refine ⟨r, j', h1, h2, h3, K + 1, fun k hk => ?_⟩
                obtain ⟨k, rfl, hk'⟩ := succ_of hk
                simp only [shapesearchkeep_Src_List.j3]
                rw [if_neg (by simp), if_pos c4, e2]; simp only [Option.bind_some]; rw [if_pos c0, hneg, e3]; simp only [Option.bind_some]; rw [if_pos hlen, hw]; exact hK k hk'
              · obtain ⟨r, j', h1, h2, h3, K, hK⟩ := next x x j2 hx0 hx1 hx0 hx1 hj2
                refine ⟨r, j', h1, h2, h3, K + 1, fun k hk => ?_⟩
                obtain ⟨k, rfl, hk'⟩ := succ_of hk
                simp only [shapesearchkeep_Src_List.j3]
                rw [if_neg (by simp), if_pos c4, e2]; simp only [Option.bind_some]; rw [if_neg c0, if_pos hlen, hw]; exact hK k hk'
            · obtain ⟨a2, j2, e2, hj2, ha2⟩ := pick_ok hj [-1000, 1000, 1000, 0] (by simp) (by simp)
              have ha : -1000 ≤ a2 ∧ a2 ≤ 1000 := by simp at ha2; omega
              obtain ⟨r, j', h1, h2, h3, K, hK⟩ := next x a2 j2 ha.1 ha.2 hx0 hx1 hj2
              refine ⟨r, j', h1, h2, h3, K + 1, fun k hk => ?_⟩
              obtain ⟨k, rfl, hk'⟩ := succ_of hk
              simp only [shapesearchkeep_Src_List.j3]
              rw [if_neg (by simp), if_neg c4, e2]; simp only [Option.bind_some]; rw [if_pos hlen, hw]; exact hK k hk'
        by_cases c2 : kind = 2
        · obtain ⟨r, j', h1, h2, h3, K, hK⟩ := step3 (kind == 2)
          refine ⟨r, j', h1, h2, h3, K + 1, fun k hk => ?_⟩
          obtain ⟨k, rfl, hk'⟩ := succ_of hk
          simp only [shapesearchkeep_Src_List.j2]; rw [if_neg (by simp), if_pos c2]; exact hK k hk'
        · obtain ⟨r, j', h1, h2, h3, K, hK⟩ := step3 (kind == 3)
          refine ⟨r, j', h1, h2, h3, K + 1, fun k hk => ?_⟩
          obtain ⟨k, rfl, hk'⟩ := succ_of hk
          simp only [shapesearchkeep_Src_List.j2]; rw [if_neg (by simp), if_neg c2]; exact hK k hk'
    by_cases c0 : kind = 0
    · obtain ⟨r, j', h1, h2, h3, K, hK⟩ := step (kind == 0)
      refine ⟨r, j', h1, h2, h3, K + 1, fun k hk => ?_⟩
      obtain ⟨k, rfl, hk'⟩ := succ_of hk
      simp only [shapesearchkeep_Src_List.l0]; rw [if_pos (by omega), if_pos c0]; exact hK k hk'
    · obtain ⟨r, j', h1, h2, h3, K, hK⟩ := step (kind == 1)
      refine ⟨r, j', h1, h2, h3, K + 1, fun k hk => ?_⟩
      obtain ⟨k, rfl, hk'⟩ := succ_of hk
      simp only [shapesearchkeep_Src_List.l0]; rw [if_pos (by omega), if_neg c0]; exact hK k hk'

/-- n samples. -/
theorem list_ok {L : List Int} {i : Int} (h : Src L i) (n : Int) (h0 : 0 ≤ n) (h1 : n ≤ 100000) : ∃ r j, (∃ K, ∀ k, K ≤ k → shapesearchkeep_Src_List.f k L i n = some (r, j)) ∧ Src L j ∧ (r.length : Int) = n ∧ Smp r := by
  obtain ⟨kind, j1, e1, hj1, hk0, hk1⟩ := n_ok h 6 (by omega) (by omega)
  obtain ⟨size, j2, e2, hj2, hs⟩ := pick_ok hj1 [1, 3, 10, 100, 1000] (by simp) (by simp)
  have hs' : 1 ≤ size ∧ size ≤ 1000 := by simp at hs; omega
  obtain ⟨t, j3, e3, hj3, ht0, ht1⟩ := n_ok hj2 3 (by omega) (by omega)
  have go : ∀ x j, -1000 ≤ x → x ≤ 1000 → Src L j → ∃ r j', Src L j' ∧ (r.length : Int) = n ∧ Smp r ∧ ∃ K, ∀ k, K ≤ k → shapesearchkeep_Src_List.j0 k n kind size x L j = some (r, j') := by
    intro x j hx0 hx1 hj
    obtain ⟨r, j', h1, h2, h3, K, hK⟩ := list_loop kind size hs'.1 hs'.2 n h1 L n.toNat x [] 0 j (by omega) (by omega) (by simp) (by intro y hy; cases hy) hx0 hx1 hj
    refine ⟨r, j', h1, h2, h3, K + 1, fun k hk => ?_⟩
    obtain ⟨k, rfl, hk'⟩ := succ_of hk
    simp only [shapesearchkeep_Src_List.j0]; exact hK k hk'
  by_cases c : t = 0
  · obtain ⟨x, j4, e4, hj4, hx0, hx1⟩ := range_ok hj3 (-1000) 1000 (by omega) (by omega) (by omega)
    obtain ⟨r, j', h1, h2, h3, K, hK⟩ := go x j4 hx0 hx1 hj4
    refine ⟨r, j', ⟨K, fun k hk => ?_⟩, h1, h2, h3⟩
    show shapesearchkeep_Src_List.f k L i n = _
    unfold shapesearchkeep_Src_List.f
    rw [e1]; simp only [Option.bind_some]; rw [e2]; simp only [Option.bind_some]; rw [e3]; simp only [Option.bind_some]; rw [if_pos c, e4]; simp only [Option.bind_some]; exact hK k hk
  · obtain ⟨r, j', h1, h2, h3, K, hK⟩ := go 0 j3 (by omega) (by omega) hj3
    refine ⟨r, j', ⟨K, fun k hk => ?_⟩, h1, h2, h3⟩
    show shapesearchkeep_Src_List.f k L i n = _
    unfold shapesearchkeep_Src_List.f
    rw [e1]; simp only [Option.bind_some]; rw [e2]; simp only [Option.bind_some]; rw [e3]; simp only [Option.bind_some]; rw [if_neg c]; exact hK k hk

end Go.Proofs.Ytknkiogjibpooaa.Keep
