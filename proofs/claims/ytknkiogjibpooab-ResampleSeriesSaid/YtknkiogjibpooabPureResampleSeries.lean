/- The law ResampleSeries, as plain mathematics: it is true for every input. -/
import Derived.Test.YtknkiogjibpooabVg2
import Derived.Test.YtknkiogjibpooabVRes3
set_option linter.unusedVariables false
set_option linter.unusedSimpArgs false
namespace Go.Proofs.Ytknkiogjibpooab.V
open Go.VI

theorem series_loop {l : List (Int × Int)} {f s c r h : Int} (g : GV f s c r h) (h0 : chk l = 0) {vs : List Int} (hv : App l f s c r h vs) (from_ count : Int) : ∀ (k i : Nat), ((i + k : Nat) : Int) = c →
    Ok (law08_ResampleSeries.L1 ((from_, (count, (l, ((), ((), (c, ((i : Int), ()))))))), ((f, (s, (c, (r, (h, ()))))), ((f, (s, ((), ()))), (vs, ())))))
      (fun y => y = Sum.inl ((from_, (count, (l, ((), ((), ()))))), ((f, (s, (c, (r, (h, ()))))), ((f, (s, ((), ()))), (vs, ()))))) := by
  intro k
  induction k with
  | zero =>
    intro i hi
    rw [law08_ResampleSeries.L1_eq, law08_ResampleSeries.f1]
    exact .cond (fun c => by omega) fun c => .some rfl
  | succ k ih =>
    intro i hi
    rw [law08_ResampleSeries.L1_eq, law08_ResampleSeries.f1]
    have hg := g
    unfold GV at hg
    have hm := GV.mul g (i := i) (by omega) (by omega)
    refine .cond (fun k1 => ?_) fun k1 => by omega
    rw [w64 (n := (i : Int) * s) (by omega), w64 (n := f + i * s) (by omega)]
    refine .bind (at_ok l f s c r h (f + i * s)) fun y hy => ?_
    rcases hy with ⟨n, _⟩ | ⟨_, v, hV, rfl⟩
    · exact absurd ⟨h0, g, by omega, by omega⟩ n
    · obtain ⟨v', h1, h2⟩ := hv.2 i (by omega)
      have := hV.one h1
      subst this
      refine .bind (P := fun y => y = Sum.inl ((from_, (count, (l, ((), ((), (c, ((i : Int), (false, ())))))))), ((f, (s, (c, (r, (h, ()))))), ((f, (s, ((), ()))), (vs, ()))))) ?_ ?_
      · rw [law08_ResampleSeries.L2_eq, law08_ResampleSeries.f2, Int.toNat_natCast]
        have hlen := hv.1
        cases v with
        | none =>
          simp only [Option.getD_none] at h2
          simp only [res, Option.isSome_none, Bool.not_false, cond_true]
          refine .guard (by omega) (.guard (by omega) ?_)
          rw [h2]
          exact .some rfl
        | some z =>
          simp only [Option.getD_some] at h2
          simp only [res, Option.isSome_some, Bool.not_true, cond_false, cond_true, Option.getD_some]
          refine .guard (by omega) (.guard (by omega) (.some ?_))
          rw [h2]
          simp
      rintro y rfl
      simp only [Sum.elim_inl, cond_false]
      rw [w64 (by omega), show ((i : Int) + 1) = ((i + 1 : Nat) : Int) by omega]
      exact .bind (ih (i + 1) (by omega)) fun y hy => .some hy
theorem ResampleSeries_true (x : law08_ResampleSeries.sh.X) (h : dsWf law08_ResampleSeries.sh.ds x.1) : law08_ResampleSeries.F x = some ((true, ()), ()) := by
  obtain ⟨⟨l, from_, count, _⟩, _⟩ := x
  obtain ⟨hl, hf, hc, _⟩ := h
  have hl := wf_ints hl
  have hf := wf_u8 hf
  have hc := wf_u8 hc
  rw [law08_ResampleSeries.F_eq, law08_ResampleSeries.f]
  refine Ok.eq (.bind (new_ok l hl) fun y0 k0 => .bind (ascending_ok k0 _ (by omega)) fun y1 ⟨k1, n1, r1, a1⟩ => .bind (grid_ok k1 _ (by omega) fun x hx => by have := r1 x hx; omega) fun y2 ⟨k2, g2, _⟩ => ?_)
  generalize y1.2.2.1 = l at *
  obtain ⟨⟨⟨f, s, c, r, h, _⟩, _⟩, _⟩ := y2
  dsimp only at *
  have g := g2.gv
  have h0 := chk_ok (by omega) r1 a1
  refine .bind (apply_ok l f s c r h) fun y3 k3 => ?_
  rcases k3 with ⟨n, rfl⟩ | ⟨p, q, rfl⟩ | ⟨p, q, vs, hv, rfl⟩
  · exact absurd g n
  · exact absurd h0 q
  have hlen := hv.1
  have g2' := g2
  obtain ⟨g3, g4, g5, g6, g7, g8, g9⟩ := g2'
  refine .bind (P := fun y => y = Sum.inl ((from_, (count, (l, ((), ((), (false, ())))))), ((f, (s, (c, (r, (h, ()))))), ((f, (s, ((), ()))), (vs, ()))))) ?_ ?_
  · rw [law08_ResampleSeries.L0_eq, law08_ResampleSeries.f0]
    dsimp only
    rw [nt rfl, nt hlen, nt rfl, nt rfl]
    exact .some rfl
  rintro y rfl
  simp only [Sum.elim_inl, cond_false]
  rw [hlen]
  obtain ⟨m, hm⟩ : ∃ m : Nat, c = m := ⟨c.toNat, by omega⟩
  refine .bind (series_loop g h0 hv from_ count m 0 (by omega)) fun y hy => ?_
  subst hy
  simp only [Sum.elim_inl]
  rw [w64 (n := from_) (by omega), w64 (n := count) (by omega), w64 (n := c + 1) (by omega)]
  refine .bind (mod_ok from_ (c + 1) (by omega) (by omega)) fun y4 ⟨k40, k41⟩ => ?_
  rw [w64 (n := c - y4.1.1) (by omega), w64 (n := c - y4.1.1 + 1) (by omega)]
  refine .bind (mod_ok count (c - y4.1.1 + 1) (by omega) (by omega)) fun y5 ⟨k50, k51⟩ => ?_
  generalize y4.1.1 = k at *
  generalize y5.1.1 = n at *
  have hks := mul_bd (a := k) (b := s) (A := 19) (B := 9) (by omega) (by omega) (by omega) (by omega)
  rw [w64 (n := k * s) (by omega), w64 (n := f + k * s) (by omega)]
  have gp := g2.part (k := k) (n := n) (by omega) (by omega)
  refine .bind (apply_ok l (f + k * s) s n r h) fun y6 k6 => ?_
  rcases k6 with ⟨nn, rfl⟩ | ⟨p', q', rfl⟩ | ⟨p', q', vs', hv', rfl⟩
  · exact absurd gp nn
  · exact absurd h0 q'
  have e : vs' = (vs.take (k + n).toNat).drop k.toNat := by
    refine hv'.one ⟨by rw [List.length_drop, List.length_take]; omega, fun i hi => ?_⟩
    obtain ⟨v, h1, h2⟩ := hv.2 (k.toNat + i) (by omega)
    refine ⟨v, ?_, ?_⟩
    · have : f + k * s + i * s = f + ((k.toNat + i : Nat) : Int) * s := by
        rw [show ((k.toNat + i : Nat) : Int) = k + i by omega, Int.add_mul]; omega
      rw [this]; exact h1
    · rw [getD_cut (by omega)]; exact h2
  rw [w64 (n := k + n) (by omega)]
  dsimp only
  rw [bt rfl]
  refine .guard (by omega) (.guard (by omega) (.guard (by omega) ?_))
  rw [e, ints_eq _ _ (by rw [List.length_drop, List.length_take]; omega), dt rfl]
  simp only [Option.bind_some, cond_true]
  rw [awake_eq]
  exact .some rfl
end Go.Proofs.Ytknkiogjibpooab.V
