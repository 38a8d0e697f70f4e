/- Windows: the law's loops. -/
import Derived.Test.YtknkiogjibpooaaVg3
import Derived.Test.YtknkiogjibpooaaVBase
import Derived.Test.YtknkiogjibpooaaVKeep
import Derived.Test.YtknkiogjibpooaaVWin
import Derived.Test.YtknkiogjibpooaaVWin2
import Derived.Test.YtknkiogjibpooaaVWin3
set_option linter.unusedVariables false
namespace Go.Proofs.Ytknkiogjibpooaa.V
open Go.VI
theorem loop_it {E : Env} {live : List Nat} {outs : List (Nat × List Nat)} {lp : Bool} {body : IR} {sh : Sh} {es : List (Ex × Sh)} {step : (sh.X → Option (sumX es)) → sh.X → Option (sumX es)}
    (H : ∀ L x, (roundK E sh live outs lp body es L x).run _ some = step L x) (k : Nat) {x : sh.X} {y : sumX es} (h : iter step k x = some y) : loop step x = some y := by
  have he : step = fun L x => (roundK E sh live outs lp body es L x).run _ some := funext fun L => funext fun x => (H L x).symm
  subst he
  exact (loop_iff (round_tail E sh live outs lp body es)).2 ⟨k, h⟩
theorem sums_len {l : List Int} {e : Int} {s q : List Int} (h : Sums l e s q) : s.length ≤ 2001 ∧ q.length ≤ 2001 := by
  rcases h with ⟨a, rfl, rfl, rfl⟩ | ⟨a, b, rfl, rfl, rfl⟩ | ⟨a, b, rfl, rfl, rfl⟩
  · simp
  · simp
  · rw [tab_len, tab_len]; omega
theorem sums_I64 {l : List Int} {e : Int} {s q : List Int} (h : Sums l e s q) : (∀ x ∈ s, I64 x) ∧ ∀ x ∈ q, I64 x := by
  rcases h with ⟨a, rfl, rfl, rfl⟩ | ⟨a, b, rfl, rfl, rfl⟩ | ⟨a, b, rfl, rfl, rfl⟩
  · simp
  · simp
  · refine ⟨fun x hx => ?_, fun x hx => ?_⟩
    · obtain ⟨k, hk, rfl⟩ := List.mem_map.1 hx
      rw [List.mem_range] at hk
      have := psum_id (l := l) (n := k) fun j hj => b j (by omega)
      unfold I64; omega
    · obtain ⟨k, hk, rfl⟩ := List.mem_map.1 hx
      rw [List.mem_range] at hk
      have := psum_sq (l := l) (n := k) fun j hj => b j (by omega)
      unfold I64; omega
theorem awake11 : law11_awake.F ((), ()) = some ((true, ()), ()) := by
  obtain ⟨e, s, q, S, he⟩ := of_ok [3, -1, 2]
  have hS : e = 0 ∧ s = [0, 3, 2, 4] ∧ q = [0, 9, 10, 14] := by
    rcases S with ⟨a, _⟩ | ⟨a, b, _⟩ | ⟨a, b, rfl, rfl, rfl⟩
    · simp at a
    · exact absurd (fun j hj => by
        have : j < 3 := hj
        match j, this with
        | 0, _ | 1, _ | 2, _ => decide
        | n + 3, h => omega) b
    · exact ⟨rfl, by decide, by decide⟩
  obtain ⟨rfl, rfl, rfl⟩ := hS
  have hv : window_valid.L1 (((), 4, 1, ()), (([0, 3, 2, 4], [0, 9, 10, 14], ()), ())) = some (Sum.inl ((), ())) :=
    loop_it (E := (window_valid.E window_sample.F window_valid.L0 window_valid.L1)) (sh := window_valid.s1) (es := window_valid.x1) (lp := true) (H := fun L x => window_valid.eq1 window_sample.F window_valid.L0 window_valid.L1 L x) 6 (by kernel_rfl)
  have e1 : window_valid.F ((([0, 3, 2, 4], ([0, 9, 10, 14], ())), ()), ()) = some ((true, ()), ()) := by
    have : window_valid.F ((([0, 3, 2, 4], ([0, 9, 10, 14], ())), ()), ()) = (window_valid.L1 (((), 4, 1, ()), (([0, 3, 2, 4], [0, 9, 10, 14], ()), ()))).bind fun y3 => Sum.elim (fun a4 => some ((Bool.true, ()), ())) (fun b4 => Sum.elim (fun a5 => some ((a5.1.1, ()), ())) (fun b5 => Empty.elim b5) b4) y3 := by
      show _ = (_ : Option _)
      kernel_rfl
    rw [this, hv]; rfl
  have e2 : window_Stats.F ((([0, 3, 2, 4], ([0, 9, 10, 14], ())), (1, (2, ()))), ()) = some (((2, 1, 5, ()), 0, ()), ()) := by
    rw [window_Stats.F_eq, window_Stats.f, e1]
    show _ = (_ : Option _)
    kernel_rfl
  have e3 : keep_Ints.F (([0, 3, 2, 4], ([0, 3, 2, 4], ())), ()) = some ((true, ()), ()) := by
    rw [ints_eq _ _ (by decide)]; rfl
  rw [law11_awake.F_eq, law11_awake.f, he]
  simp only [Option.bind_some]
  rw [e2]
  simp only [Option.bind_some]
  rw [law11_awake.L0_eq, law11_awake.f0, e3]
  show _ = (_ : Option _)
  kernel_rfl
/-- One list: the program's sums are the document's. -/
theorem wa_L3 (from_ m : Int) (y z : List Int) (v67 v68 : Int) (a b : List Int) (c d e : Int) (L : List Int) (j : Int) (o3 : List (List Int)) (o4 : List Int) (h4 : o4.length ≤ 1000) : ∀ (k : Nat) (i : Int), i + k = (o4.length : Int) → 0 ≤ i →
    law11_WindowAnswers.L3 ((from_, m, (), (), (), y, z, (), v67, v68, (), (o4.length : Int), i, ()), ((a, b, ()), (c, d, e, ()), (L, j, ()), o3, o4, ())) = some (Sum.inl ((from_, m, (), (), (), y, (), v67, v68, ()), ((a, b, ()), (c, d, e, ()), (L, j, ()), o3, ())))
  | 0, i, h, h0 => by
    rw [law11_WindowAnswers.L3_eq, law11_WindowAnswers.f3, df (by omega)]; rfl
  | k + 1, i, h, h0 => by
    have ih := wa_L3 from_ m y z v67 v68 a b c d e L j o3 o4 h4 k (i + 1) (by omega) (by omega)
    obtain ⟨ee, r, e1, e2, e3⟩ := slide_ok z (o4.getD i.toNat 0)
    rw [law11_WindowAnswers.L3_eq, law11_WindowAnswers.f3, dt (by omega : i < (o4.length : Int)), dt h0]
    simp only [cond_true]
    rw [show window_Slide.F ((z, (o4.getD i.toNat 0, ())), ()) = _ from e1]
    simp only [Option.bind_some]
    rw [show ref11_Slide.F ((z, (o4.getD i.toNat 0, ())), ()) = _ from e2]
    simp only [Option.bind_some]
    rw [show law11_slides.F ((r, (r, ())), ()) = _ from slides_ok r e3]
    simp only [Option.bind_some, Bool.not_true, cond_false]
    rw [nt rfl, w64 (n := i + 1) (by omega)]
    simp only [cond_false]
    rw [ih]; rfl
theorem wa_L1 (from_ m : Int) (y : List Int) (a b : List Int) (c d e : Int) (o3 : List (List Int)) (h3 : o3.length ≤ 1000) : ∀ (k : Nat) (i : Int) (L : List Int) (j : Int), i + k = (o3.length : Int) → 0 ≤ i → Src L j →
    Ok (law11_WindowAnswers.L1 ((from_, m, (), (), (), y, (), (o3.length : Int), i, ()), ((a, b, ()), (c, d, e, ()), (L, j, ()), o3, ()))) fun r => ∃ L' j', Src L' j' ∧ r = Sum.inl ((from_, m, (), (), (), y, ()), ((a, b, ()), (c, d, e, ()), (L', j', ()), ()))
  | 0, i, L, j, h, h0, hs => by
    rw [law11_WindowAnswers.L1_eq, law11_WindowAnswers.f1, df (by omega)]; exact .some ⟨L, j, hs, rfl⟩
  | k + 1, i, L, j, h, h0, hs => by
    obtain ⟨e1, s1, q1, S1, he1⟩ := of_ok (o3.getD i.toNat [])
    obtain ⟨e2, s2, q2, S2, he2⟩ := rof_ok (o3.getD i.toNat [])
    obtain ⟨rfl, rfl, rfl⟩ := S1.one S2
    have hl := sums_len S1
    rw [law11_WindowAnswers.L1_eq, law11_WindowAnswers.f1, dt (by omega : i < (o3.length : Int)), dt h0]
    simp only [cond_true]
    rw [he1]
    simp only [Option.bind_some]
    rw [he2]
    simp only [Option.bind_some]
    rw [law11_WindowAnswers.L2_eq, law11_WindowAnswers.f2, show ref11_Same.F (((s1, (q1, ())), ((s1, (q1, ())), ())), ()) = _ from same_ok s1 q1 (by omega) (by omega) s1 q1, dt ⟨rfl, rfl⟩, nt rfl]
    simp only [Option.bind_some, Bool.not_true, cond_false, Sum.elim_inl]
    refine .bind (range_ok hs 0 12 (by omega)) ?_
    rintro ⟨⟨rr, _⟩, ⟨L', j', _⟩, _⟩ ⟨k1, k2, k3⟩
    dsimp only at k1 k2 k3 ⊢
    have h3 := wa_L3 from_ m y (o3.getD i.toNat []) (o3.length : Int) i a b c d e L' j' o3 [m, rr] (by simp) 2 0 (by simp) (by omega)
    rw [show law11_WindowAnswers.L3 ((from_, (m, ((), ((), ((), (y, (o3.getD i.toNat [], ((), ((o3.length : Int), (i, ((), ((([m, rr].length : Nat) : Int), ((0:Int), ()))))))))))))), ((a, (b, ())), ((c, (d, (e, ()))), ((L', (j', ())), (o3, ([m, rr], ())))))) = _ from h3]
    simp only [Option.bind_some, Sum.elim_inl]
    rw [w64 (n := i + 1) (by omega)]
    refine .bind (wa_L1 from_ m y a b c d e o3 (by omega) k (i + 1) L' j' (by omega) (by omega) k1) fun r hr => ?_
    exact .some hr
def Good (p : List Int × List Int) : Prop := (∀ x ∈ p.1, I64 x) ∧ (∀ x ∈ p.2, I64 x) ∧ p.1.length ≤ 1000000 ∧ p.2.length ≤ 1000000
theorem wa_L5 (from_ m : Int) (v156 v157 : Int) (a b c : Int) (L : List Int) (j : Int) (s q : List Int) (o3 : List (List Int × List Int)) (o4 : List (Int × Int)) (hg : Good (s, q)) (h4 : o4.length ≤ 1000) (hI : ∀ p ∈ o4, I64 p.1 ∧ I64 p.2) : ∀ (k : Nat) (i : Int), i + k = (o4.length : Int) → 0 ≤ i →
    law11_WindowAnswers.L5 ((from_, m, (), (), (), (), v156, v157, (), (o4.length : Int), i, ()), ((a, b, c, ()), (L, j, ()), (s, q, ()), o3, o4, ())) = some (Sum.inl ((from_, m, (), (), (), v156, v157, ()), ((a, b, c, ()), (L, j, ()), o3, ())))
  | 0, i, h, h0 => by
    rw [law11_WindowAnswers.L5_eq, law11_WindowAnswers.f5, df (by omega)]; rfl
  | k + 1, i, h, h0 => by
    have ih := wa_L5 from_ m v156 v157 a b c L j s q o3 o4 hg h4 hI k (i + 1) (by omega) (by omega)
    have hp := hI _ (getD_int (l := o4) (d := (0, 0)) h0 (by omega))
    obtain ⟨⟨r1, r2, r3⟩, ee, e1, e2⟩ := stats_ok s q hg.1 hg.2.1 ⟨hg.2.2.1, hg.2.2.2⟩ _ _ hp.1 hp.2
    rw [law11_WindowAnswers.L5_eq, law11_WindowAnswers.f5, dt (by omega : i < (o4.length : Int)), dt h0]
    simp only [cond_true]
    rw [show window_Stats.F (((s, (q, ())), ((o4.getD i.toNat (0, 0)).1, ((o4.getD i.toNat (0, 0)).2, ()))), ()) = _ from e1]
    simp only [Option.bind_some]
    rw [show ref11_Stats.F (((s, (q, ())), ((o4.getD i.toNat (0, 0)).1, ((o4.getD i.toNat (0, 0)).2, ()))), ()) = _ from e2]
    simp only [Option.bind_some]
    rw [bt rfl, bt rfl, bt rfl, nt rfl, w64 (n := i + 1) (by omega)]
    simp only [Bool.and_true, Bool.not_true, cond_false]
    rw [ih]; rfl
theorem wa_L4 (from_ m : Int) (hf : I64 from_) (hm : I64 m) (a b c : Int) (o2 : List (List Int × List Int)) (h2 : o2.length ≤ 1000) (hg : ∀ p ∈ o2, Good p) : ∀ (k : Nat) (i : Int) (L : List Int) (j : Int), i + k = (o2.length : Int) → 0 ≤ i → Src L j →
    Ok (law11_WindowAnswers.L4 ((from_, m, (), (), (), (o2.length : Int), i, ()), ((a, b, c, ()), (L, j, ()), o2, ()))) fun r => ∃ L' j', Src L' j' ∧ r = Sum.inl (((), (), ()), ((a, b, c, ()), (L', j', ()), ()))
  | 0, i, L, j, h, h0, hs => by
    rw [law11_WindowAnswers.L4_eq, law11_WindowAnswers.f4, df (by omega)]; exact .some ⟨L, j, hs, rfl⟩
  | k + 1, i, L, j, h, h0, hs => by
    have hp := hg _ (getD_int (l := o2) (d := ([], [])) h0 (by omega))
    rw [law11_WindowAnswers.L4_eq, law11_WindowAnswers.f4, dt (by omega : i < (o2.length : Int)), dt h0]
    simp only [cond_true]
    refine .bind (range_ok hs (-1) 30 (by omega)) ?_
    rintro ⟨⟨r1, _⟩, ⟨L1, j1, _⟩, _⟩ ⟨k1, k2, k3⟩
    dsimp only at k1 k2 k3 ⊢
    refine .bind (range_ok k1 0 12 (by omega)) ?_
    rintro ⟨⟨r2, _⟩, ⟨L2, j2, _⟩, _⟩ ⟨m1, m2, m3⟩
    dsimp only at m1 m2 m3 ⊢
    have h5 := wa_L5 from_ m (o2.length : Int) i a b c L2 j2 (o2.getD i.toNat ([], [])).1 (o2.getD i.toNat ([], [])).2 o2 [(from_, m), (r1, r2)] hp (by simp) (by
      intro p hp
      simp only [List.mem_cons, List.not_mem_nil, or_false] at hp
      rcases hp with rfl | rfl
      · exact ⟨hf, hm⟩
      · unfold I64; dsimp only; omega) 2 0 (by simp) (by omega)
    rw [show law11_WindowAnswers.L5 ((from_, (m, ((), ((), ((), ((), ((o2.length : Int), (i, ((), ((([(from_, m), (r1, r2)].length : Nat) : Int), ((0:Int), ()))))))))))), ((a, (b, (c, ()))), ((L2, (j2, ())), (((o2.getD i.toNat ([], [])).1, ((o2.getD i.toNat ([], [])).2, ())), (o2, ([(from_, m), (r1, r2)], ())))))) = _ from h5]
    simp only [Option.bind_some, Sum.elim_inl]
    rw [w64 (n := i + 1) (by omega)]
    refine .bind (wa_L4 from_ m hf hm a b c o2 h2 hg k (i + 1) L2 j2 (by omega) (by omega) m1) fun r hr => ?_
    exact .some hr
end Go.Proofs.Ytknkiogjibpooaa.V
