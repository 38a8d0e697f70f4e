/- The reader of numbers: lists of samples and what is near them. -/
import Derived.Test.YtadniiehehiblaaDoorVg0
import Derived.Test.YtadniiehehiblaaDoorVBase
import Derived.Test.YtadniiehehiblaaDoorVKeep
import Derived.Test.YtadniiehehiblaaDoorVEuc
set_option linter.unusedVariables false
set_option linter.unusedSimpArgs false
namespace Go.Proofs.YtadniiehehiblaaDoor.V
open Go.VI
/-- Samples. -/
def Rg (l : List Int) : Prop := ∀ v ∈ l, -1000 ≤ v ∧ v ≤ 1000
theorem Rg.app {l : List Int} (h : Rg l) {v : Int} (hv : -1000 ≤ v ∧ v ≤ 1000) : Rg (l ++ [v]) := fun u hu => by
  rcases List.mem_append.1 hu with hu | hu
  · exact h u hu
  · rw [List.mem_singleton.1 hu]; exact hv
theorem Rg.set {l : List Int} (h : Rg l) {v : Int} (hv : -1000 ≤ v ∧ v ≤ 1000) (i : Nat) : Rg (l.set i v) := fun u hu => by
  rcases List.mem_or_eq_of_mem_set hu with hu | hu
  · exact h u hu
  · rw [hu]; exact hv
theorem Rg.get {l : List Int} (h : Rg l) {i : Nat} (hi : i < l.length) : -1000 ≤ l.getD i 0 ∧ l.getD i 0 ≤ 1000 := h _ (getD_mem hi)
theorem bsf {α : Type} (o : Option α) : (o.bind fun y => some y) = o := by cases o <;> rfl
theorem clip_ok (v : Int) : Ok (keep_clip.F ((v, ()), ())) (fun r => -1000 ≤ r.1.1 ∧ r.1.1 ≤ 1000) := by
  rw [keep_clip.F_eq, keep_clip.f]
  have h1 := mx_ge v (-1000)
  have h2 := mn_le (mx v (-1000)) 1000
  exact .some ⟨by dsimp only; omega, by dsimp only; omega⟩
theorem list_loop (n : Nat) (hn : n ≤ 1000) (kind size : Int) (hs : 1 ≤ size ∧ size ≤ 1000) : ∀ (k i : Nat) (L : List Int) (j x : Int) (o : List Int), i + k = n → Src L j → Rg o → o.length = i → -1000 ≤ x ∧ x ≤ 1000 →
    Ok (keep_Src_List.L1 (((), (n : Int), kind, size, x, (), (i : Int), ()), ((L, j, ()), o, ()))) (fun r => ∃ L' j' o', r = Sum.inl (((), ()), ((L', j', ()), o', ())) ∧ Src L' j' ∧ Rg o' ∧ o'.length = n) := by
  intro k
  induction k with
  | zero =>
    intro i L j x o h hL ho hl hx
    rw [keep_Src_List.L1_eq, keep_Src_List.f1, df (by omega)]
    exact .some ⟨L, j, o, rfl, hL, ho, by omega⟩
  | succ k ih =>
    intro i L j x o h hL ho hl hx
    have ei : Go.IntKind.wrap .i64 ((i : Int) + 1) = ((i + 1 : Nat) : Int) := by rw [w64 (by omega)]; omega
    have es : Go.IntKind.wrap .i64 ((0 : Int) - size) = 0 - size := w64 (by omega)
    have go : ∀ (L' : List Int) (j' x' v : Int), Src L' j' → -1000 ≤ x' ∧ x' ≤ 1000 → -1000 ≤ v ∧ v ≤ 1000 →
        Ok (keep_Src_List.L1 (((), (n : Int), kind, size, x', (), ((i + 1 : Nat) : Int), ()), ((L', j', ()), o ++ [v], ()))) (fun r => ∃ L' j' o', r = Sum.inl (((), ()), ((L', j', ()), o', ())) ∧ Src L' j' ∧ Rg o' ∧ o'.length = n) := fun L' j' x' v h1 h2 h3 =>
      ih (i + 1) L' j' x' _ (by omega) h1 (ho.app h3) (by rw [List.length_append]; simp; omega) h2
    have hgd : ∀ v : Int, (o.length + [v].length) * 8 ≤ 140737488355328 := fun v => by simp only [List.length_singleton]; omega
    rw [keep_Src_List.L1_eq, keep_Src_List.f1, dt (by omega), show keep_Src_List.L2 (((), ((n : Int), (kind, (size, (x, ((), ((i : Int), (kind, ((kind == 0), ()))))))))), ((L, (j, ())), (o, ()))) =
      some (Sum.inl (((), ((n : Int), (kind, (size, (x, ((), ((i : Int), (kind, ((bif kind == 0 then true else kind == 1), ()))))))))), ((L, (j, ())), (o, ())))) from by rw [show keep_Src_List.L2 _ = _ from keep_Src_List.L2_eq .., keep_Src_List.f2]; cases (kind == 0) <;> rfl]
    simp only [cond_true, Option.bind_some, Sum.elim_inl]
    rw [ei, es]
    refine .bool (fun _ => ?_) fun _ => ?_
    · refine .bind (range_ok hL _ _ (by omega)) fun y hy => ?_
      rw [dt (hgd _), bsf]
      exact go _ _ _ _ hy.1 hx (by omega)
    · rw [show keep_Src_List.L3 (((), ((n : Int), (kind, (size, (x, ((), ((i : Int), (kind, ((kind == 2), ()))))))))), ((L, (j, ())), (o, ()))) =
        some (Sum.inl (((), ((n : Int), (kind, (size, (x, ((), ((i : Int), (kind, ((bif kind == 2 then true else kind == 3), ()))))))))), ((L, (j, ())), (o, ())))) from by rw [show keep_Src_List.L3 _ = _ from keep_Src_List.L3_eq .., keep_Src_List.f3]; cases (kind == 2) <;> rfl]
      simp only [cond_true, Option.bind_some, Sum.elim_inl]
      rw [ei, es]
      refine .bool (fun _ => ?_) fun _ => .bool (fun _ => ?_) fun _ => ?_
      · refine .bind (range_ok hL _ _ (by omega)) fun y hy => .bind (clip_ok _) fun z hz => ?_
        rw [dt (hgd _), bsf]
        exact go _ _ _ _ hy.1 hz hz
      · refine .bind (n_ok hL _ (by omega)) fun y hy => .bool (fun _ => ?_) fun _ => ?_
        · refine .bind (range_ok hy.1 _ _ (by omega)) fun z hz => ?_
          rw [dt (hgd _), bsf]
          exact go _ _ _ _ hz.1 (by omega) (by omega)
        · rw [dt (hgd _), bsf]
          exact go _ _ _ _ hy.1 hx hx
      · refine .bind (pick_ok hL _ (by simp)) fun y hy => ?_
        have : -1000 ≤ y.1.1 ∧ y.1.1 ≤ 1000 := by
          have := hy.2
          simp only [List.mem_cons, List.not_mem_nil, or_false] at this
          omega
        rw [dt (hgd _), bsf]
        exact go _ _ _ _ hy.1 hx this
theorem list_ok {L : List Int} {i : Int} (h : Src L i) (n : Nat) (hn : n ≤ 1000) : Ok (keep_Src_List.F (((), (n : Int), ()), ((L, i, ()), ()))) (fun r => Src r.2.1.1 r.2.1.2.1 ∧ Rg r.2.2.1 ∧ r.2.2.1.length = n) := by
  rw [keep_Src_List.F_eq, keep_Src_List.f]
  refine .bind (n_ok h _ (by omega)) fun y0 h0 => .bind (pick_ok h0.1 _ (by simp)) fun y1 h1 => .bind (n_ok h1.1 _ (by omega)) fun y2 h2 => ?_
  have hs : 1 ≤ y1.1.1 ∧ y1.1.1 ≤ 1000 := by
    have := h1.2
    simp only [List.mem_cons, List.not_mem_nil, or_false] at this
    omega
  have l0 : Ok (keep_Src_List.L0 (((), ((n : Int), (y0.1.1, (y1.1.1, (0, ((y2.1.1 == 0), ())))))), ((y2.2.1.1, (y2.2.1.2.1, ())), ()))) (fun r => ∃ L' j' x', r = Sum.inl (((), ((n : Int), (y0.1.1, (y1.1.1, (x', ()))))), ((L', (j', ())), ())) ∧ Src L' j' ∧ -1000 ≤ x' ∧ x' ≤ 1000) := by
    rw [show keep_Src_List.L0 _ = _ from keep_Src_List.L0_eq .., keep_Src_List.f0]
    refine .bool (fun _ => ?_) fun _ => .some ⟨_, _, 0, rfl, h2.1, by omega, by omega⟩
    exact .bind (range_ok h2.1 _ _ (by omega)) fun z hz => .some ⟨_, _, _, rfl, hz.1, hz.2⟩
  refine .bind l0 fun y3 h3 => ?_
  obtain ⟨L', j', x', rfl, h3, h4⟩ := h3
  simp only [Sum.elim_inl]
  refine .bind (list_loop n hn y0.1.1 y1.1.1 hs n 0 L' j' x' [] (by omega) h3 (fun v hv => by cases hv) rfl h4) fun y5 h5 => ?_
  obtain ⟨L2, j2, o2, rfl, h5, h6, h7⟩ := h5
  exact .some ⟨h5, h6, h7⟩
theorem near_loop {x : List Int} (hx : Rg x) (hl : x.length ≤ 1000) (kind by_ f : Int) (hb : -1000000 ≤ by_ ∧ by_ ≤ 1000000) (hf : 0 ≤ f ∧ f ≤ 1000) : ∀ (k i : Nat) (L : List Int) (j : Int) (o : List Int), i + k = x.length → Src L j → Rg o → o.length = x.length →
    Ok (keep_Src_Near.L0 (((), x, kind, by_, f, (), (x.length : Int), (i : Int), ()), ((L, j, ()), o, ()))) (fun r => ∃ L' j' o', r = Sum.inl (((), ()), ((L', j', ()), o', ())) ∧ Src L' j' ∧ Rg o' ∧ o'.length = x.length) := by
  intro k
  induction k with
  | zero =>
    intro i L j o h hL ho hl'
    rw [keep_Src_Near.L0_eq, keep_Src_Near.f0, df (by omega)]
    exact .some ⟨L, j, o, rfl, hL, ho, hl'⟩
  | succ k ih =>
    intro i L j o h hL ho hl'
    have hg := ho.get (i := i) (by omega)
    have hm := mul_abs (a := o.getD i 0) (A := 1000) (b := f) (B := 1000) (by omega) (by omega) (by omega) (by omega) (by omega)
    have ei : Go.IntKind.wrap .i64 ((i : Int) + 1) = ((i + 1 : Nat) : Int) := by rw [w64 (by omega)]; omega
    have go : ∀ (L' : List Int) (j' v : Int), Src L' j' → -1000 ≤ v ∧ v ≤ 1000 →
        Ok (keep_Src_Near.L0 (((), x, kind, by_, f, (), (x.length : Int), ((i + 1 : Nat) : Int), ()), ((L', j', ()), o.set i v, ()))) (fun r => ∃ L' j' o', r = Sum.inl (((), ()), ((L', j', ()), o', ())) ∧ Src L' j' ∧ Rg o' ∧ o'.length = x.length) := fun L' j' v h1 h2 =>
      ih (i + 1) L' j' _ (by omega) h1 (ho.set h2 i) (by rw [List.length_set]; exact hl')
    rw [keep_Src_Near.L0_eq, keep_Src_Near.f0, dt (by omega), dt (by omega : (0 : Int) ≤ (i : Int)), dt (by omega : (i : Int) < (o.length : Int)), ei, Int.toNat_natCast]
    simp only [cond_true, bsf]
    refine .bool (fun _ => ?_) fun _ => .bool (fun _ => ?_) fun _ => .bool (fun _ => ?_) fun _ => .bool (fun _ => ?_) fun _ => .bool (fun _ => ?_) fun _ => .bool (fun _ => ?_) fun _ => ?_
    · exact .bind (range_ok hL _ _ (by omega)) fun y hy => .bind (clip_ok _) fun z hz => go _ _ _ hy.1 hz
    · exact .bind (clip_ok _) fun z hz => go _ _ _ hL hz
    · exact .bind (clip_ok _) fun z hz => go _ _ _ hL hz
    · rw [w64 (n := (x.length : Int) - 1) (by omega), w64 (n := (x.length : Int) - 1 - i) (by omega), dt (by omega), dt (by omega)]
      exact go _ _ _ hL (hx.get (by omega))
    · refine .bind (range_ok hL _ _ (by omega)) fun y hy => .bind (mod_ok _ _ (by omega) (by omega)) fun z hz => ?_
      rw [dt hz.1, dt hz.2]
      exact go _ _ _ hy.1 (hx.get (by omega))
    · exact .bind (clip_ok _) fun z hz => go _ _ _ hL hz
    · exact ih (i + 1) L j o (by omega) hL ho hl'
theorem nearl_ok {L : List Int} {i : Int} (h : Src L i) {x : List Int} (hx : Rg x) (hl : x.length ≤ 1000) : Ok (keep_Src_Near.F (((), x, ()), ((L, i, ()), ()))) (fun r => Src r.2.1.1 r.2.1.2.1 ∧ Rg r.2.2.1 ∧ r.2.2.1.length = x.length) := by
  rw [keep_Src_Near.F_eq, keep_Src_Near.f]
  refine .bind (n_ok h _ (by omega)) fun y0 h0 => .bind (range_ok h0.1 _ _ (by omega)) fun y1 h1 => .bind (range_ok h1.1 _ _ (by omega)) fun y2 h2 => ?_
  rw [dt (by simp; omega), List.nil_append]
  refine .bind (near_loop hx hl y0.1.1 y1.1.1 y2.1.1 (by omega) (by omega) x.length 0 _ _ x (by omega) h2.1 hx rfl) fun y4 h4 => ?_
  obtain ⟨L', j', o', rfl, h5, h6, h7⟩ := h4
  exact .some ⟨h5, h6, h7⟩
/-- Two windows of equal length. -/
theorem pair_ok {L : List Int} {i : Int} (h : Src L i) : Ok (keep_Src_Pair.F (((), ()), ((L, i, ()), ()))) (fun r => Src r.2.1.1 r.2.1.2.1 ∧ Wn r.1.1 ∧ Wn r.2.2.1 ∧ r.2.2.1.length = r.1.1.length) := by
  rw [keep_Src_Pair.F_eq, keep_Src_Pair.f]
  refine .bind (length_ok h) ?_
  rintro ⟨⟨n, _⟩, ⟨L1, i1, _⟩, _⟩ ⟨h0, h0', h0''⟩
  dsimp only at h0 h0' h0'' ⊢
  obtain ⟨m, rfl⟩ : ∃ m : Nat, n = m := ⟨n.toNat, by omega⟩
  refine .bind (list_ok h0 m (by omega)) ?_
  rintro ⟨_, ⟨L2, i2, _⟩, x, _⟩ ⟨h1, hr, hl⟩
  dsimp only at h1 hr hl ⊢
  have hw : Wn x := ⟨by omega, by omega, hr⟩
  refine .bind (n_ok h1 _ (by omega)) fun y2 h2 => .bool (fun _ => ?_) fun _ => ?_
  · exact .bind (list_ok h2.1 x.length (by omega)) fun y hy => .some ⟨hy.1, hw, ⟨by dsimp only; omega, by dsimp only; omega, hy.2.1⟩, hy.2.2⟩
  · exact .bind (nearl_ok h2.1 hr (by omega)) fun y hy => .some ⟨hy.1, hw, ⟨by dsimp only; omega, by dsimp only; omega, hy.2.1⟩, hy.2.2⟩
end Go.Proofs.YtadniiehehiblaaDoor.V
