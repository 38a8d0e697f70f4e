/- The law UnitGrows, as plain mathematics. -/
import Derived.Test.YthbphpmiandmbaaDoorVg1
import Derived.Test.YthbphpmiandmbaaDoorVBase
import Derived.Test.YthbphpmiandmbaaDoorVKeep
import Derived.Test.YthbphpmiandmbaaDoorVUnit
set_option linter.unusedVariables false
namespace Go.Proofs.YthbphpmiandmbaaDoor.V
open Go.VI
def Made (nm : ByteArray) (m a v : Int) : Prop := nm ∈ Names ∧ (1 ≤ m ∧ m ≤ 1000000) ∧ (-1000000000 ≤ a ∧ a ≤ 1000000000) ∧ (1 ≤ v ∧ v ≤ 1000000)
theorem in3 {x a b c : Int} (h : x ∈ [a, b, c]) : x = a ∨ x = b ∨ x = c := by simpa using h
theorem made_ok (l : List Int) (hl : ∀ x ∈ l, I64 x) : Ok (law04_made.F ((l, ()), ())) (fun r => Made r.1.2.1.1 r.1.2.1.2.1 r.1.2.1.2.2.1 r.1.2.1.2.2.2.1 ∧ (-1000000000 ≤ r.1.1.1 ∧ r.1.1.1 ≤ 1000000000) ∧ (0 ≤ r.1.1.2.1 ∧ r.1.1.2.1 ≤ 6)) := by
  rw [law04_made.F_eq, law04_made.f]
  refine .bind (new_ok l hl) fun y0 s0 => ?_
  refine .bind (pick_ok s0 _ (by decide)) fun y1 ⟨s1, m1⟩ => ?_
  refine .bind (pick_ok s1 _ (by decide)) fun y2 ⟨s2, m2⟩ => ?_
  have i1 := in3 m1
  have i2 := in3 m2
  rw [w64 (n := 0 - y1.1.1) (by omega)]
  refine .bind (range_ok s2 _ _ (by omega)) fun y3 ⟨s3, a3, b3⟩ => ?_
  refine .bind (n_ok s3 7 (by omega)) fun y4 ⟨s4, a4, b4⟩ => ?_
  refine .bind (text_ok s4 _ (by decide)) fun y5 ⟨s5, m5⟩ => ?_
  refine .bind (pick_ok s5 _ (by decide)) fun y6 ⟨s6, m6⟩ => ?_
  have i6 := in3 m6
  refine .bind (range_ok s6 _ _ (by omega)) fun y7 ⟨s7, a7, b7⟩ => ?_
  refine .bind (pick_ok s7 _ (by decide)) fun y8 ⟨s8, m8⟩ => ?_
  have i8 := in3 m8
  refine .bind (range_ok s8 _ _ (by omega)) fun y9 ⟨s9, a9, b9⟩ => ?_
  refine .bind (pick_ok s9 _ (by decide)) fun y10 ⟨s10, m10⟩ => ?_
  have i10 := in3 m10
  refine .bind (range_ok s10 _ _ (by omega)) fun y11 ⟨s11, a11, b11⟩ => ?_
  refine .some ⟨⟨?_, ?_, ?_, ?_⟩, ?_, ?_⟩
  · have : y5.1.1 ∈ [NmC, NmRaw, NmAl] := m5
    have hs : ∀ z ∈ [NmC, NmRaw, NmAl], z ∈ Names := by intro z hz; unfold Names; simp only [List.mem_cons, List.not_mem_nil, or_false] at hz ⊢; rcases hz with h | h | h <;> simp [h]
    exact hs _ this
  all_goals (dsimp only; omega)

theorem sample_scale (a b : Int) (hb : 0 < b) : sample (100 * a) (100 * b) = sample a b := by
  have h := sample_spec (a := a) (b := b) hb
  rw [sample_iff (by omega)]
  have e : 2 * (100 * b) * sample a b = 100 * (2 * b * sample a b) := by
    rw [← Int.mul_assoc 100 (2 * b), show 2 * (100 * b) = 100 * (2 * b) by omega]
  rw [e]
  generalize 2 * b * sample a b = p at h
  omega
theorem sample_mono {a a' b : Int} (hb : 0 < b) (h : a ≤ a') : sample a b ≤ sample a' b := by
  unfold sample
  exact Int.ediv_le_ediv (by omega) (by omega)

/-- What a conversion hands back. -/
def conv (s : Int) : Int × Int × Unit := if -1000 ≤ s ∧ s ≤ 1000 then (s, 0, ()) else (0, 12, ())
theorem UnitGrows_pure (a b : Int) (l : List Int) (h1 : -32768 ≤ a ∧ a ≤ 32767) (h2 : -32768 ≤ b ∧ b ≤ 32767) (h3 : ∀ x ∈ l, I64 x) :
    law04_UnitGrows.F ((a, b, l, ()), ()) = some ((true, ()), ()) := by
  refine Ok.eq ?_
  rw [law04_UnitGrows.F_eq, law04_UnitGrows.f, w64 (n := a) (by omega), w64 (n := b) (by omega)]
  have hmn := mn_le a b
  have hmx := mx_ge a b
  generalize mn a b = lo at hmn
  generalize mx a b = hi at hmx
  rw [w64 (n := 100 * lo) (by omega)]
  refine .bind (made_ok l h3) ?_
  rintro ⟨⟨⟨dg, pl, _⟩, ⟨nm, m, s, v, _⟩, _⟩, _⟩ ⟨⟨hn, hm, ha, hv⟩, _, _⟩
  dsimp only at hn hm ha hv ⊢
  have e1 := conv_ok hn (d := lo) (p := 1) (T := 10) (m := m) (a := s) (v := v) (by omega) (by omega) rfl hm ha hv
  have e2 := conv_ok hn (d := hi) (p := 1) (T := 10) (m := m) (a := s) (v := v) (by omega) (by omega) rfl hm ha hv
  have e3 := conv_ok hn (d := 100 * lo) (p := 3) (T := 1000) (m := m) (a := s) (v := v) (by omega) (by omega) rfl hm ha hv
  rw [show (100 * lo) * m + s * 1000 = 100 * (lo * m + s * 10) by rw [Int.mul_assoc]; omega, show v * 1000 = 100 * (v * 10) by omega, sample_scale _ _ (by omega)] at e3
  have hmono := sample_mono (a := lo * m + s * 10) (a' := hi * m + s * 10) (b := v * 10) (by omega) (by
    have := Int.mul_le_mul_of_nonneg_right (show lo ≤ hi by omega) (show 0 ≤ m by omega)
    omega)
  generalize sample (lo * m + s * 10) (v * 10) = x at e1 e3 hmono
  generalize sample (hi * m + s * 10) (v * 10) = y at e2 hmono
  rw [show unit_Convert.F (((lo, (1, ())), ((nm, (m, (s, (v, ())))), ())), ()) = some (conv x, ()) from e1]
  refine .bind (.some rfl) ?_
  rintro _ rfl
  rw [show unit_Convert.F (((hi, (1, ())), ((nm, (m, (s, (v, ())))), ())), ()) = some (conv y, ()) from e2]
  refine .bind (.some rfl) ?_
  rintro _ rfl
  rw [show unit_Convert.F (((100 * lo, (3, ())), ((nm, (m, (s, (v, ())))), ())), ()) = some (conv x, ()) from e3]
  refine .bind (.some rfl) ?_
  rintro _ rfl
  have hL : ∀ (f e y1 : Int), e = 0 ∨ e = 12 → law04_UnitGrows.L0 (((conv x).1, (e, (y1, (f, ((conv x).1, (e, ())))))), ()) = some (Sum.inl (((conv x).1, (e, (y1, (f, (false, ()))))), ())) := by
    intro f e y1 he
    rw [law04_UnitGrows.L0_eq, law04_UnitGrows.f0, nt rfl, nt rfl]
    rcases he with rfl | rfl <;> rfl
  have hc : ∀ z, (conv z).2.1 = 0 ∧ (conv z).1 = z ∨ (conv z).2.1 = 12 := by
    intro z
    unfold conv
    split
    · exact .inl ⟨rfl, rfl⟩
    · exact .inr rfl
  have hx := hc x
  have hy := hc y
  dsimp only
  rw [hL _ _ _ (hx.imp (·.1) id)]
  refine .bind (.some rfl) ?_
  rintro _ rfl
  simp only [Sum.elim_inl, cond_false]
  generalize conv x = cx at hx
  generalize conv y = cy at hy
  obtain ⟨x1, ex, _⟩ := cx
  obtain ⟨y1, ey, _⟩ := cy
  dsimp only at hx hy ⊢
  have aw : ∀ (Q : ((Bool × Unit) × Unit) → Prop), Q ((true, ()), ()) → Ok ((law04_awake.F ((), ())).bind fun y => some ((y.1.1, ()), ())) Q := by
    intro Q hQ
    rw [awake_ok]; exact .some hQ
  rcases hx with ⟨rfl, rfl⟩ | rfl
  · rw [nt rfl]
    rcases hy with ⟨rfl, rfl⟩ | rfl
    · rw [nt rfl, dt hmono]; exact aw _ rfl
    · exact aw _ rfl
  · exact aw _ rfl
theorem UnitGrows_true (x : law04_UnitGrows.sh.X) (h : dsWf law04_UnitGrows.sh.ds x.1) : law04_UnitGrows.F x = some ((true, ()), ()) := by
  obtain ⟨⟨a, b, l, _⟩, _⟩ := x
  obtain ⟨h1, h2, h3, _⟩ := h
  exact UnitGrows_pure a b l (wf_i16 h1) (wf_i16 h2) (wf_ints h3)
end Go.Proofs.YthbphpmiandmbaaDoor.V
