/- The reader of numbers (shapesearchkeep.Src): each of its functions answers, in the range that it names. -/
import Derived.Test.YtadniiehehiblaaDoorVg0
import Derived.Test.YtadniiehehiblaaDoorVBase
set_option linter.unusedVariables false
namespace Go.Proofs.YtadniiehehiblaaDoor.V
open Go.VI

/-- A reader that stands within its list of at most 2000 numbers. -/
def Src (L : List Int) (i : Int) : Prop := 0 ≤ i ∧ i ≤ (L.length : Int) ∧ L.length ≤ 2000 ∧ ∀ x ∈ L, I64 x

theorem new_ok (l : List Int) (h : ∀ x ∈ l, I64 x) : Ok (keep_New.F ((l, ()), ())) (fun r => Src r.2.1.1 r.2.1.2.1) := by
  show Ok (keep_New l) _
  unfold keep_New keep_New.f
  have hm := mn_le (l.length : Int) 2000
  refine .guard (by omega) (.guard (by omega) (.some ?_))
  refine ⟨by simp, by simp, ?_, fun x hx => h x (List.mem_of_mem_take (List.mem_of_mem_drop hx))⟩
  simp only [List.length_drop, List.length_take]; omega

theorem raw_ok {L : List Int} {i : Int} (h : Src L i) : Ok (keep_Src_Raw.F (((), ()), ((L, (i, ())), ()))) (fun r => Src r.2.1.1 r.2.1.2.1 ∧ I64 r.1.1) := by
  show Ok (keep_Src_Raw L i) _
  unfold keep_Src_Raw keep_Src_Raw.f
  obtain ⟨h0, h1, h2, h3⟩ := h
  refine .cond (fun c => .some ⟨⟨h0, h1, h2, h3⟩, by dsimp only; unfold I64; omega⟩) fun c => ?_
  simp (disch := omega) only [w64]
  exact .guard (by omega) (.guard (by omega) (.some ⟨⟨by dsimp only; omega, by dsimp only; omega, h2, h3⟩, h3 _ (getD_int (by omega) (by omega))⟩))

theorem mod_ok (a b : Int) (hb : 1 ≤ b) (hb2 : b ≤ 9223372036854775807) : Ok (keep_Mod.F ((a, (b, ())), ())) (fun r => 0 ≤ r.1.1 ∧ r.1.1 < b) := by
  show Ok (keep_Mod a b) _
  unfold keep_Mod keep_Mod.f
  have h := tmod_pos (a := a) (b := b) (by omega)
  refine .cond (fun c => by omega) fun c => ?_
  rw [show (!decide (b = 0)) = true by simp; omega]
  refine .cond (fun c => .some ?_) fun c => .some ⟨?_, ?_⟩
  · simp (disch := omega) only [w64]; omega
  · exact Int.not_lt.1 c
  · exact h.2

theorem n_ok {L : List Int} {i : Int} (h : Src L i) (n : Int) (hn : 1 ≤ n ∧ n ≤ 9223372036854775807) : Ok (keep_Src_N.F (((), (n, ())), ((L, (i, ())), ()))) (fun r => Src r.2.1.1 r.2.1.2.1 ∧ 0 ≤ r.1.1 ∧ r.1.1 < n) := by
  show Ok (keep_Src_N n L i) _
  unfold keep_Src_N keep_Src_N.f
  exact .bind (raw_ok h) fun y ⟨k1, k2⟩ => .bind (mod_ok _ _ hn.1 hn.2) fun z ⟨k3, k4⟩ => .some ⟨k1, k3, k4⟩

theorem range_ok {L : List Int} {i : Int} (h : Src L i) (lo hi : Int) (hl : lo ≤ hi ∧ -4611686018427387904 ≤ lo ∧ hi ≤ 4611686018427387000) : Ok (keep_Src_Range.F (((), (lo, (hi, ()))), ((L, (i, ())), ()))) (fun r => Src r.2.1.1 r.2.1.2.1 ∧ lo ≤ r.1.1 ∧ r.1.1 ≤ hi) := by
  show Ok (keep_Src_Range lo hi L i) _
  unfold keep_Src_Range keep_Src_Range.f
  simp (disch := omega) only [w64]
  refine .bind (n_ok h _ (by omega)) fun y ⟨k1, k2, k3⟩ => .some ⟨k1, ?_⟩
  simp (disch := omega) only [w64]; omega

theorem pick_ok {L : List Int} {i : Int} (h : Src L i) (l : List Int) (hl : 0 < l.length ∧ l.length ≤ 1000000) : Ok (keep_Src_Pick.F (((), (l, ())), ((L, (i, ())), ()))) (fun r => Src r.2.1.1 r.2.1.2.1 ∧ r.1.1 ∈ l) := by
  show Ok (keep_Src_Pick l L i) _
  unfold keep_Src_Pick keep_Src_Pick.f
  refine .bind (n_ok h _ (by omega)) fun y ⟨k1, k2, k3⟩ => .guard k2 (.guard k3 (.some ⟨k1, getD_int k2 k3⟩))

theorem length_ok {L : List Int} {i : Int} (h : Src L i) : Ok (keep_Src_Length.F (((), ()), ((L, (i, ())), ()))) (fun r => Src r.2.1.1 r.2.1.2.1 ∧ 2 ≤ r.1.1 ∧ r.1.1 ≤ 32) := by
  show Ok (keep_Src_Length L i) _
  unfold keep_Src_Length keep_Src_Length.f
  refine .bind (n_ok h _ (by omega)) fun y ⟨k1, k2, k3⟩ => .bool (fun c => ?_) fun c => ?_
  · exact .bind (range_ok k1 _ _ (by omega)) fun z ⟨h1, h2, h3⟩ => .some ⟨h1, by dsimp only; omega, by dsimp only; omega⟩
  · exact .bind (range_ok k1 _ _ (by omega)) fun z ⟨h1, h2, h3⟩ => .some ⟨h1, by dsimp only; omega, by dsimp only; omega⟩


end Go.Proofs.YtadniiehehiblaaDoor.V
