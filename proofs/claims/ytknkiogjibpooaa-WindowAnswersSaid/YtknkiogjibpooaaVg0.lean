import Derived.Test.YtknkiogjibpooaaVgEnv
set_option linter.unusedVariables false
set_option maxRecDepth 100000
namespace Go.Proofs.Ytknkiogjibpooaa.V
open Go.VI
/-! window_sample -/
def window_sample.f (v : Int) : Option ((Bool × Unit) × (Unit)) :=
  (bif (decide (v ≥ (-(1000:Int)))) then
   (some (((decide (v ≤ (1000:Int))), ()), ()))
  else
   (some ((Bool.false, ()), ())))
theorem window_sample.eq (x : ((Int × Unit) × (Unit))) : (bodyO (window_sample.E) (mk window_sample.hs window_sample.c []) Go.Proofs.Try.f29.results.toList window_sample.sh window_sample.osh x).run _ some = window_sample.f x.1.1 := by
  show _ = (_ : Option _)
  kernel_rfl
noncomputable def window_sample (v : Int) : Option ((Bool × Unit) × (Unit)) := window_sample.f v
noncomputable def window_sample.F (x : ((Int × Unit) × (Unit))) : Option ((Bool × Unit) × (Unit)) := window_sample x.1.1
theorem window_sample.F_eq (v : Int) : window_sample.F ((v, ()), ()) = window_sample.f v := rfl
theorem window_sample.ok {tabs : List (Nat × Go.Obj)} (ht : TabsOk tabs) : FOK Go.Proofs.Try.prog tabs 29 (FE.of [true] false window_sample.sh window_sample.osh window_sample.F) := by
  refine fn_keeps (E := (window_sample.E)) (c := window_sample.c) (fn := Go.Proofs.Try.f29) (hs := window_sample.hs) (by kernel_rfl) Go.Proofs.Try.func29 ⟨by kernel_rfl, by kernel_rfl, tb, by kernel_rfl, by kernel_rfl, by kernel_rfl, by kernel_rfl, by kernel_rfl⟩ ⟨fun g ks fe h => ?_, gt_ok ht⟩ ?_ (fun x => window_sample.eq x)
  · cases h
  · exact known_at 0 (by kernel_rfl) fun i hi => absurd hi (Nat.not_lt_zero i)

/-! window_Of_1 -/
def window_Of_1.f (a : Int) (v : Int) : Option ((Int × Unit) × (Unit)) :=
  (some (((Go.IntKind.wrap Go.IntKind.i64 (a + v)), ()), ()))
theorem window_Of_1.eq (x : ((Int × Int × Unit) × (Unit))) : (bodyO (window_Of_1.E) (mk window_Of_1.hs window_Of_1.c []) Go.Proofs.Try.f31.results.toList window_Of_1.sh window_Of_1.osh x).run _ some = window_Of_1.f x.1.1 x.1.2.1 := by
  show _ = (_ : Option _)
  kernel_rfl
noncomputable def window_Of_1 (a : Int) (v : Int) : Option ((Int × Unit) × (Unit)) := window_Of_1.f a v
noncomputable def window_Of_1.F (x : ((Int × Int × Unit) × (Unit))) : Option ((Int × Unit) × (Unit)) := window_Of_1 x.1.1 x.1.2.1
theorem window_Of_1.F_eq (a : Int) (v : Int) : window_Of_1.F ((a, v, ()), ()) = window_Of_1.f a v := rfl
theorem window_Of_1.ok {tabs : List (Nat × Go.Obj)} (ht : TabsOk tabs) : FOK Go.Proofs.Try.prog tabs 31 (FE.of [true, true] false window_Of_1.sh window_Of_1.osh window_Of_1.F) := by
  refine fn_keeps (E := (window_Of_1.E)) (c := window_Of_1.c) (fn := Go.Proofs.Try.f31) (hs := window_Of_1.hs) (by kernel_rfl) Go.Proofs.Try.func31 ⟨by kernel_rfl, by kernel_rfl, tb, by kernel_rfl, by kernel_rfl, by kernel_rfl, by kernel_rfl, by kernel_rfl⟩ ⟨fun g ks fe h => ?_, gt_ok ht⟩ ?_ (fun x => window_Of_1.eq x)
  · cases h
  · exact known_at 0 (by kernel_rfl) fun i hi => absurd hi (Nat.not_lt_zero i)

/-! window_fold -/
def window_fold.f0 (g_window_Of_1 : ((Int × Int × Unit) × (Unit)) → Option ((Int × Unit) × (Unit))) (L : ((Unit × Unit × (List Int) × Int × Int × Unit) × ((List Int) × Unit)) → Option (((Unit × Unit) × ((List Int) × Unit)) ⊕ Empty)) (v12 : (List Int)) (v13 : Int) (v14 : Int) (o0 : List Int) : Option (((Unit × Unit) × ((List Int) × Unit)) ⊕ Empty) :=
  (bif (decide (v14 < v13)) then
   (bif (decide ((0:Int) ≤ v14)) then
    (bif (decide (v14 < (((List.length v12) : Nat) : Int))) then
     (bif (decide ((0:Int) ≤ (Go.IntKind.wrap Go.IntKind.i64 ((((List.length o0) : Nat) : Int) - (1:Int))))) then
      (bif (decide ((Go.IntKind.wrap Go.IntKind.i64 ((((List.length o0) : Nat) : Int) - (1:Int))) < (((List.length o0) : Nat) : Int))) then
       (Option.bind (g_window_Of_1 (((List.getD o0 (Int.toNat (Go.IntKind.wrap Go.IntKind.i64 ((((List.length o0) : Nat) : Int) - (1:Int)))) (0:Int)), ((List.getD v12 (Int.toNat v14) (0:Int)), ())), ())) (fun y5 =>
       (bif (decide ((((List.length o0) + (List.length [y5.1.1])) * (8:Nat)) ≤ (140737488355328:Nat))) then
        (Option.bind (L (((), ((), (v12, (v13, ((Go.IntKind.wrap Go.IntKind.i64 (v14 + (1:Int))), ()))))), ((o0 ++ [y5.1.1]), ()))) (fun y7 =>
        (some y7)))
       else
        none)))
      else
       none)
     else
      none)
    else
     none)
   else
    none)
  else
   (some (Sum.inl (((), ()), (o0, ())))))
theorem window_fold.eq0 (g_window_Of_1 : window_Of_1.sh.X → Option window_Of_1.osh.X) (l0 : window_fold.s0.X → Option (sumX window_fold.x0)) (L : ((Unit × Unit × (List Int) × Int × Int × Unit) × ((List Int) × Unit)) → Option (((Unit × Unit) × ((List Int) × Unit)) ⊕ Empty)) (x : ((Unit × Unit × (List Int) × Int × Int × Unit) × ((List Int) × Unit))) : (roundK (window_fold.E g_window_Of_1 l0) window_fold.s0 [2, 7, 12, 13, 14] [(2, [7])] true (((mk window_fold.hs window_fold.c []).atoms.getD 0 .bad).body) window_fold.x0 L x).run _ some = window_fold.f0 g_window_Of_1 L x.1.2.2.1 x.1.2.2.2.1 x.1.2.2.2.2.1 x.2.1 := by
  show _ = (_ : Option _)
  kernel_rfl
noncomputable def window_fold.L0 : ((Unit × Unit × (List Int) × Int × Int × Unit) × ((List Int) × Unit)) → Option (((Unit × Unit) × ((List Int) × Unit)) ⊕ Empty) := loop fun L x => window_fold.f0 window_Of_1.F L x.1.2.2.1 x.1.2.2.2.1 x.1.2.2.2.2.1 x.2.1
def window_fold.f (l0 : ((Unit × Unit × (List Int) × Int × Int × Unit) × ((List Int) × Unit)) → Option (((Unit × Unit) × ((List Int) × Unit)) ⊕ Empty)) (l : (List Int)) (first : Int) : Option ((Unit × Unit) × ((List Int) × Unit)) :=
  (Option.bind (l0 (((), ((), (l, ((((List.length l) : Nat) : Int), ((0:Int), ()))))), ([first], ()))) (fun y0 =>
  (Sum.elim (fun a1 =>
   (some (((), ()), (a1.2.1, ())))) (fun b1 =>
   (Empty.elim b1)) y0)))
theorem window_fold.eq (g_window_Of_1 : window_Of_1.sh.X → Option window_Of_1.osh.X) (l0 : window_fold.s0.X → Option (sumX window_fold.x0)) (x : (((List Int) × Int × Unit × Unit) × (Unit))) : (bodyO (window_fold.E g_window_Of_1 l0) (mk window_fold.hs window_fold.c []) Go.Proofs.Try.f30.results.toList window_fold.sh window_fold.osh x).run _ some = window_fold.f l0 x.1.1 x.1.2.1 := by
  show _ = (_ : Option _)
  kernel_rfl
noncomputable def window_fold (l : (List Int)) (first : Int) : Option ((Unit × Unit) × ((List Int) × Unit)) := window_fold.f window_fold.L0 l first
noncomputable def window_fold.F (x : (((List Int) × Int × Unit × Unit) × (Unit))) : Option ((Unit × Unit) × ((List Int) × Unit)) := window_fold x.1.1 x.1.2.1
theorem window_fold.L0_eq (v12 : (List Int)) (v13 : Int) (v14 : Int) (o0 : List Int) : window_fold.L0 (((), (), v12, v13, v14, ()), (o0, ())) = window_fold.f0 window_Of_1.F window_fold.L0 v12 v13 v14 o0 :=
  loop_eq (E := (window_fold.E window_Of_1.F window_fold.L0)) (sh := window_fold.s0) (es := window_fold.x0) (lp := true) (H := fun L x => window_fold.eq0 window_Of_1.F window_fold.L0 L x) (((), (), v12, v13, v14, ()), (o0, ()))
theorem window_fold.F_eq (l : (List Int)) (first : Int) : window_fold.F ((l, first, (), ()), ()) = window_fold.f window_fold.L0 l first := rfl
theorem window_fold.ok {tabs : List (Nat × Go.Obj)} (ht : TabsOk tabs) : FOK Go.Proofs.Try.prog tabs 30 (FE.of [true, true, true] false window_fold.sh window_fold.osh window_fold.F) := by
  refine fn_keeps (E := (window_fold.E window_Of_1.F window_fold.L0)) (c := window_fold.c) (fn := Go.Proofs.Try.f30) (hs := window_fold.hs) (by kernel_rfl) Go.Proofs.Try.func30 ⟨by kernel_rfl, by kernel_rfl, tb, by kernel_rfl, by kernel_rfl, by kernel_rfl, by kernel_rfl, by kernel_rfl⟩ ⟨fun g ks fe h => ?_, gt_ok ht⟩ ?_ (fun x => window_fold.eq window_Of_1.F window_fold.L0 x)
  · rcases c_cons h with ⟨rfl, rfl⟩ | h
    · exact window_Of_1.ok ht
    cases h
  · refine known_at 1 (by kernel_rfl) fun i hi => ?_
    match i, hi with
    | 0, _ => exact atom_at (id := 0) (live := [2, 7, 12, 13, 14]) (outs := [(2, [7])]) (loop := true) (by kernel_rfl) (loop_ok (E := (window_fold.E window_Of_1.F window_fold.L0)) (sh := window_fold.s0) (es := window_fold.x0) rfl (fun L x => window_fold.eq0 window_Of_1.F window_fold.L0 L x))
    | n + 1, h => exact absurd h (by omega)

/-! window_Of_2 -/
def window_Of_2.f (a : Int) (v : Int) : Option ((Int × Unit) × (Unit)) :=
  (some (((Go.IntKind.wrap Go.IntKind.i64 (a + (Go.IntKind.wrap Go.IntKind.i64 (v * v)))), ()), ()))
theorem window_Of_2.eq (x : ((Int × Int × Unit) × (Unit))) : (bodyO (window_Of_2.E) (mk window_Of_2.hs window_Of_2.c []) Go.Proofs.Try.f32.results.toList window_Of_2.sh window_Of_2.osh x).run _ some = window_Of_2.f x.1.1 x.1.2.1 := by
  show _ = (_ : Option _)
  kernel_rfl
noncomputable def window_Of_2 (a : Int) (v : Int) : Option ((Int × Unit) × (Unit)) := window_Of_2.f a v
noncomputable def window_Of_2.F (x : ((Int × Int × Unit) × (Unit))) : Option ((Int × Unit) × (Unit)) := window_Of_2 x.1.1 x.1.2.1
theorem window_Of_2.F_eq (a : Int) (v : Int) : window_Of_2.F ((a, v, ()), ()) = window_Of_2.f a v := rfl
theorem window_Of_2.ok {tabs : List (Nat × Go.Obj)} (ht : TabsOk tabs) : FOK Go.Proofs.Try.prog tabs 32 (FE.of [true, true] false window_Of_2.sh window_Of_2.osh window_Of_2.F) := by
  refine fn_keeps (E := (window_Of_2.E)) (c := window_Of_2.c) (fn := Go.Proofs.Try.f32) (hs := window_Of_2.hs) (by kernel_rfl) Go.Proofs.Try.func32 ⟨by kernel_rfl, by kernel_rfl, tb, by kernel_rfl, by kernel_rfl, by kernel_rfl, by kernel_rfl, by kernel_rfl⟩ ⟨fun g ks fe h => ?_, gt_ok ht⟩ ?_ (fun x => window_Of_2.eq x)
  · cases h
  · exact known_at 0 (by kernel_rfl) fun i hi => absurd hi (Nat.not_lt_zero i)

/-! window_fold_2 -/
def window_fold_2.f0 (g_window_Of_2 : ((Int × Int × Unit) × (Unit)) → Option ((Int × Unit) × (Unit))) (L : ((Unit × Unit × (List Int) × Int × Int × Unit) × ((List Int) × Unit)) → Option (((Unit × Unit) × ((List Int) × Unit)) ⊕ Empty)) (v12 : (List Int)) (v13 : Int) (v14 : Int) (o0 : List Int) : Option (((Unit × Unit) × ((List Int) × Unit)) ⊕ Empty) :=
  (bif (decide (v14 < v13)) then
   (bif (decide ((0:Int) ≤ v14)) then
    (bif (decide (v14 < (((List.length v12) : Nat) : Int))) then
     (bif (decide ((0:Int) ≤ (Go.IntKind.wrap Go.IntKind.i64 ((((List.length o0) : Nat) : Int) - (1:Int))))) then
      (bif (decide ((Go.IntKind.wrap Go.IntKind.i64 ((((List.length o0) : Nat) : Int) - (1:Int))) < (((List.length o0) : Nat) : Int))) then
       (Option.bind (g_window_Of_2 (((List.getD o0 (Int.toNat (Go.IntKind.wrap Go.IntKind.i64 ((((List.length o0) : Nat) : Int) - (1:Int)))) (0:Int)), ((List.getD v12 (Int.toNat v14) (0:Int)), ())), ())) (fun y5 =>
       (bif (decide ((((List.length o0) + (List.length [y5.1.1])) * (8:Nat)) ≤ (140737488355328:Nat))) then
        (Option.bind (L (((), ((), (v12, (v13, ((Go.IntKind.wrap Go.IntKind.i64 (v14 + (1:Int))), ()))))), ((o0 ++ [y5.1.1]), ()))) (fun y7 =>
        (some y7)))
       else
        none)))
      else
       none)
     else
      none)
    else
     none)
   else
    none)
  else
   (some (Sum.inl (((), ()), (o0, ())))))
theorem window_fold_2.eq0 (g_window_Of_2 : window_Of_2.sh.X → Option window_Of_2.osh.X) (l0 : window_fold_2.s0.X → Option (sumX window_fold_2.x0)) (L : ((Unit × Unit × (List Int) × Int × Int × Unit) × ((List Int) × Unit)) → Option (((Unit × Unit) × ((List Int) × Unit)) ⊕ Empty)) (x : ((Unit × Unit × (List Int) × Int × Int × Unit) × ((List Int) × Unit))) : (roundK (window_fold_2.E g_window_Of_2 l0) window_fold_2.s0 [2, 7, 12, 13, 14] [(2, [7])] true (((mk window_fold_2.hs window_fold_2.c []).atoms.getD 0 .bad).body) window_fold_2.x0 L x).run _ some = window_fold_2.f0 g_window_Of_2 L x.1.2.2.1 x.1.2.2.2.1 x.1.2.2.2.2.1 x.2.1 := by
  show _ = (_ : Option _)
  kernel_rfl
noncomputable def window_fold_2.L0 : ((Unit × Unit × (List Int) × Int × Int × Unit) × ((List Int) × Unit)) → Option (((Unit × Unit) × ((List Int) × Unit)) ⊕ Empty) := loop fun L x => window_fold_2.f0 window_Of_2.F L x.1.2.2.1 x.1.2.2.2.1 x.1.2.2.2.2.1 x.2.1
def window_fold_2.f (l0 : ((Unit × Unit × (List Int) × Int × Int × Unit) × ((List Int) × Unit)) → Option (((Unit × Unit) × ((List Int) × Unit)) ⊕ Empty)) (l : (List Int)) (first : Int) : Option ((Unit × Unit) × ((List Int) × Unit)) :=
  (Option.bind (l0 (((), ((), (l, ((((List.length l) : Nat) : Int), ((0:Int), ()))))), ([first], ()))) (fun y0 =>
  (Sum.elim (fun a1 =>
   (some (((), ()), (a1.2.1, ())))) (fun b1 =>
   (Empty.elim b1)) y0)))
theorem window_fold_2.eq (g_window_Of_2 : window_Of_2.sh.X → Option window_Of_2.osh.X) (l0 : window_fold_2.s0.X → Option (sumX window_fold_2.x0)) (x : (((List Int) × Int × Unit × Unit) × (Unit))) : (bodyO (window_fold_2.E g_window_Of_2 l0) (mk window_fold_2.hs window_fold_2.c []) Go.Proofs.Try.f30.results.toList window_fold_2.sh window_fold_2.osh x).run _ some = window_fold_2.f l0 x.1.1 x.1.2.1 := by
  show _ = (_ : Option _)
  kernel_rfl
noncomputable def window_fold_2 (l : (List Int)) (first : Int) : Option ((Unit × Unit) × ((List Int) × Unit)) := window_fold_2.f window_fold_2.L0 l first
noncomputable def window_fold_2.F (x : (((List Int) × Int × Unit × Unit) × (Unit))) : Option ((Unit × Unit) × ((List Int) × Unit)) := window_fold_2 x.1.1 x.1.2.1
theorem window_fold_2.L0_eq (v12 : (List Int)) (v13 : Int) (v14 : Int) (o0 : List Int) : window_fold_2.L0 (((), (), v12, v13, v14, ()), (o0, ())) = window_fold_2.f0 window_Of_2.F window_fold_2.L0 v12 v13 v14 o0 :=
  loop_eq (E := (window_fold_2.E window_Of_2.F window_fold_2.L0)) (sh := window_fold_2.s0) (es := window_fold_2.x0) (lp := true) (H := fun L x => window_fold_2.eq0 window_Of_2.F window_fold_2.L0 L x) (((), (), v12, v13, v14, ()), (o0, ()))
theorem window_fold_2.F_eq (l : (List Int)) (first : Int) : window_fold_2.F ((l, first, (), ()), ()) = window_fold_2.f window_fold_2.L0 l first := rfl
theorem window_fold_2.ok {tabs : List (Nat × Go.Obj)} (ht : TabsOk tabs) : FOK Go.Proofs.Try.prog tabs 30 (FE.of [true, true, true] false window_fold_2.sh window_fold_2.osh window_fold_2.F) := by
  refine fn_keeps (E := (window_fold_2.E window_Of_2.F window_fold_2.L0)) (c := window_fold_2.c) (fn := Go.Proofs.Try.f30) (hs := window_fold_2.hs) (by kernel_rfl) Go.Proofs.Try.func30 ⟨by kernel_rfl, by kernel_rfl, tb, by kernel_rfl, by kernel_rfl, by kernel_rfl, by kernel_rfl, by kernel_rfl⟩ ⟨fun g ks fe h => ?_, gt_ok ht⟩ ?_ (fun x => window_fold_2.eq window_Of_2.F window_fold_2.L0 x)
  · rcases c_cons h with ⟨rfl, rfl⟩ | h
    · exact window_Of_2.ok ht
    cases h
  · refine known_at 1 (by kernel_rfl) fun i hi => ?_
    match i, hi with
    | 0, _ => exact atom_at (id := 0) (live := [2, 7, 12, 13, 14]) (outs := [(2, [7])]) (loop := true) (by kernel_rfl) (loop_ok (E := (window_fold_2.E window_Of_2.F window_fold_2.L0)) (sh := window_fold_2.s0) (es := window_fold_2.x0) rfl (fun L x => window_fold_2.eq0 window_Of_2.F window_fold_2.L0 L x))
    | n + 1, h => exact absurd h (by omega)

/-! window_Of -/
def window_Of.f0 (g_window_sample : ((Int × Unit) × (Unit)) → Option ((Bool × Unit) × (Unit))) (L : (((List Int) × Unit × (List Int) × Int × Int × Unit) × ((Unit × Unit × Unit) × Unit)) → Option ((((List Int) × Unit × Unit) × ((Unit × Unit × Unit) × Unit)) ⊕ ((Unit × Int × Unit) × ((Unit × Unit × Unit) × Unit)) ⊕ Empty)) (l_0 : (List Int)) (v10 : (List Int)) (v11 : Int) (v12 : Int) : Option ((((List Int) × Unit × Unit) × ((Unit × Unit × Unit) × Unit)) ⊕ ((Unit × Int × Unit) × ((Unit × Unit × Unit) × Unit)) ⊕ Empty) :=
  (bif (decide (v12 < v11)) then
   (bif (decide ((0:Int) ≤ v12)) then
    (bif (decide (v12 < (((List.length v10) : Nat) : Int))) then
     (Option.bind (g_window_sample (((List.getD v10 (Int.toNat v12) (0:Int)), ()), ())) (fun y3 =>
     (bif (!y3.1.1) then
      (some (Sum.inr (Sum.inl (((), ((12:Int), ())), (((), ((), ())), ())))))
     else
      (Option.bind (L ((l_0, ((), (v10, (v11, ((Go.IntKind.wrap Go.IntKind.i64 (v12 + (1:Int))), ()))))), (((), ((), ())), ()))) (fun y5 =>
      (some y5))))))
    else
     none)
   else
    none)
  else
   (some (Sum.inl ((l_0, ((), ())), (((), ((), ())), ())))))
theorem window_Of.eq0 (g_window_sample : window_sample.sh.X → Option window_sample.osh.X) (g_window_fold : window_fold.sh.X → Option window_fold.osh.X) (g_window_fold_2 : window_fold_2.sh.X → Option window_fold_2.osh.X) (l0 : window_Of.s0.X → Option (sumX window_Of.x0)) (L : (((List Int) × Unit × (List Int) × Int × Int × Unit) × ((Unit × Unit × Unit) × Unit)) → Option ((((List Int) × Unit × Unit) × ((Unit × Unit × Unit) × Unit)) ⊕ ((Unit × Int × Unit) × ((Unit × Unit × Unit) × Unit)) ⊕ Empty)) (x : (((List Int) × Unit × (List Int) × Int × Int × Unit) × ((Unit × Unit × Unit) × Unit))) : (roundK (window_Of.E g_window_sample g_window_fold g_window_fold_2 l0) window_Of.s0 [0, 2, 10, 11, 12] [(2, [0, 2]), (1, [2, 3])] true (((mk window_Of.hs window_Of.c []).atoms.getD 0 .bad).body) window_Of.x0 L x).run _ some = window_Of.f0 g_window_sample L x.1.1 x.1.2.2.1 x.1.2.2.2.1 x.1.2.2.2.2.1 := by
  show _ = (_ : Option _)
  kernel_rfl
noncomputable def window_Of.L0 : (((List Int) × Unit × (List Int) × Int × Int × Unit) × ((Unit × Unit × Unit) × Unit)) → Option ((((List Int) × Unit × Unit) × ((Unit × Unit × Unit) × Unit)) ⊕ ((Unit × Int × Unit) × ((Unit × Unit × Unit) × Unit)) ⊕ Empty) := loop fun L x => window_Of.f0 window_sample.F L x.1.1 x.1.2.2.1 x.1.2.2.2.1 x.1.2.2.2.2.1
def window_Of.f (g_window_fold : (((List Int) × Int × Unit × Unit) × (Unit)) → Option ((Unit × Unit) × ((List Int) × Unit))) (g_window_fold_2 : (((List Int) × Int × Unit × Unit) × (Unit)) → Option ((Unit × Unit) × ((List Int) × Unit))) (l0 : (((List Int) × Unit × (List Int) × Int × Int × Unit) × ((Unit × Unit × Unit) × Unit)) → Option ((((List Int) × Unit × Unit) × ((Unit × Unit × Unit) × Unit)) ⊕ ((Unit × Int × Unit) × ((Unit × Unit × Unit) × Unit)) ⊕ Empty)) (l : (List Int)) : Option (((Unit × Unit × Unit) × Int × Unit) × ((List Int) × (List Int) × Unit)) :=
  (bif (decide ((((List.length l) : Nat) : Int) > (2000:Int))) then
   (some ((((), ((), ())), ((4:Int), ())), (([] : List Int), (([] : List Int), ()))))
  else
   (Option.bind (l0 ((l, ((), (l, ((((List.length l) : Nat) : Int), ((0:Int), ()))))), (((), ((), ())), ()))) (fun y1 =>
   (Sum.elim (fun a2 =>
    (Option.bind (g_window_fold ((a2.1.1, ((0:Int), ((), ()))), ())) (fun y3 =>
    (Option.bind (g_window_fold_2 ((a2.1.1, ((0:Int), ((), ()))), ())) (fun y4 =>
    (some ((((), ((), ())), ((0:Int), ())), (y3.2.1, (y4.2.1, ()))))))))) (fun b2 =>
    (Sum.elim (fun a3 =>
     (some ((((), ((), ())), (a3.1.2.1, ())), (([] : List Int), (([] : List Int), ()))))) (fun b3 =>
     (Empty.elim b3)) b2)) y1))))
theorem window_Of.eq (g_window_sample : window_sample.sh.X → Option window_sample.osh.X) (g_window_fold : window_fold.sh.X → Option window_fold.osh.X) (g_window_fold_2 : window_fold_2.sh.X → Option window_fold_2.osh.X) (l0 : window_Of.s0.X → Option (sumX window_Of.x0)) (x : (((List Int) × Unit) × (Unit))) : (bodyO (window_Of.E g_window_sample g_window_fold g_window_fold_2 l0) (mk window_Of.hs window_Of.c []) Go.Proofs.Try.f13.results.toList window_Of.sh window_Of.osh x).run _ some = window_Of.f g_window_fold g_window_fold_2 l0 x.1.1 := by
  show _ = (_ : Option _)
  kernel_rfl
noncomputable def window_Of (l : (List Int)) : Option (((Unit × Unit × Unit) × Int × Unit) × ((List Int) × (List Int) × Unit)) := window_Of.f window_fold.F window_fold_2.F window_Of.L0 l
noncomputable def window_Of.F (x : (((List Int) × Unit) × (Unit))) : Option (((Unit × Unit × Unit) × Int × Unit) × ((List Int) × (List Int) × Unit)) := window_Of x.1.1
theorem window_Of.L0_eq (l_0 : (List Int)) (v10 : (List Int)) (v11 : Int) (v12 : Int) : window_Of.L0 ((l_0, (), v10, v11, v12, ()), (((), (), ()), ())) = window_Of.f0 window_sample.F window_Of.L0 l_0 v10 v11 v12 :=
  loop_eq (E := (window_Of.E window_sample.F window_fold.F window_fold_2.F window_Of.L0)) (sh := window_Of.s0) (es := window_Of.x0) (lp := true) (H := fun L x => window_Of.eq0 window_sample.F window_fold.F window_fold_2.F window_Of.L0 L x) ((l_0, (), v10, v11, v12, ()), (((), (), ()), ()))
theorem window_Of.F_eq (l : (List Int)) : window_Of.F ((l, ()), ()) = window_Of.f window_fold.F window_fold_2.F window_Of.L0 l := rfl
theorem window_Of.ok {tabs : List (Nat × Go.Obj)} (ht : TabsOk tabs) : FOK Go.Proofs.Try.prog tabs 13 (FE.of [true] false window_Of.sh window_Of.osh window_Of.F) := by
  refine fn_keeps (E := (window_Of.E window_sample.F window_fold.F window_fold_2.F window_Of.L0)) (c := window_Of.c) (fn := Go.Proofs.Try.f13) (hs := window_Of.hs) (by kernel_rfl) Go.Proofs.Try.func13 ⟨by kernel_rfl, by kernel_rfl, tb, by kernel_rfl, by kernel_rfl, by kernel_rfl, by kernel_rfl, by kernel_rfl⟩ ⟨fun g ks fe h => ?_, gt_ok ht⟩ ?_ (fun x => window_Of.eq window_sample.F window_fold.F window_fold_2.F window_Of.L0 x)
  · rcases c_cons h with ⟨rfl, rfl⟩ | h
    · exact window_sample.ok ht
    rcases c_cons h with ⟨rfl, rfl⟩ | h
    · exact window_fold.ok ht
    rcases c_cons h with ⟨rfl, rfl⟩ | h
    · exact window_fold_2.ok ht
    cases h
  · refine known_at 1 (by kernel_rfl) fun i hi => ?_
    match i, hi with
    | 0, _ => exact atom_at (id := 0) (live := [0, 2, 10, 11, 12]) (outs := [(2, [0, 2]), (1, [2, 3])]) (loop := true) (by kernel_rfl) (loop_ok (E := (window_Of.E window_sample.F window_fold.F window_fold_2.F window_Of.L0)) (sh := window_Of.s0) (es := window_Of.x0) rfl (fun L x => window_Of.eq0 window_sample.F window_fold.F window_fold_2.F window_Of.L0 L x))
    | n + 1, h => exact absurd h (by omega)

/-! window_valid -/
def window_valid.f0 (n_3 : Int) (o0_0 : (List Int)) (o0_1 : (List Int)) : Option (((Unit × Int × Bool × Unit) × (((List Int) × (List Int) × Unit) × Unit)) ⊕ Empty) :=
  (bif (n_3 != (((List.length o0_1) : Nat) : Int)) then
   (some (Sum.inl (((), (n_3, (Bool.true, ()))), ((o0_0, (o0_1, ())), ()))))
  else
   (bif (decide (n_3 < (1:Int))) then
    (some (Sum.inl (((), (n_3, (Bool.true, ()))), ((o0_0, (o0_1, ())), ()))))
   else
    (bif (decide (n_3 > (2001:Int))) then
     (some (Sum.inl (((), (n_3, (Bool.true, ()))), ((o0_0, (o0_1, ())), ()))))
    else
     (bif (decide ((0:Int) < (((List.length o0_0) : Nat) : Int))) then
      (bif ((List.getD o0_0 (Int.toNat (0:Int)) (0:Int)) != (0:Int)) then
       (some (Sum.inl (((), (n_3, (Bool.true, ()))), ((o0_0, (o0_1, ())), ()))))
      else
       (bif (decide ((0:Int) < (((List.length o0_1) : Nat) : Int))) then
        (some (Sum.inl (((), (n_3, (((List.getD o0_1 (Int.toNat (0:Int)) (0:Int)) != (0:Int)), ()))), ((o0_0, (o0_1, ())), ()))))
       else
        none))
     else
      none))))
theorem window_valid.eq0 (g_window_sample : window_sample.sh.X → Option window_sample.osh.X) (l0 : window_valid.s0.X → Option (sumX window_valid.x0)) (l1 : window_valid.s1.X → Option (sumX window_valid.x1)) (L : ((Unit × Int × Unit) × (((List Int) × (List Int) × Unit) × Unit)) → Option (((Unit × Int × Bool × Unit) × (((List Int) × (List Int) × Unit) × Unit)) ⊕ Empty)) (x : ((Unit × Int × Unit) × (((List Int) × (List Int) × Unit) × Unit))) : (roundK (window_valid.E g_window_sample l0 l1) window_valid.s0 [1, 3] [(0, [1, 3, 35])] false (((mk window_valid.hs window_valid.c []).atoms.getD 0 .bad).body) window_valid.x0 L x).run _ some = window_valid.f0 x.1.2.1 x.2.1.1 x.2.1.2.1 := by
  show _ = (_ : Option _)
  kernel_rfl
noncomputable def window_valid.L0 : ((Unit × Int × Unit) × (((List Int) × (List Int) × Unit) × Unit)) → Option (((Unit × Int × Bool × Unit) × (((List Int) × (List Int) × Unit) × Unit)) ⊕ Empty) := fun x => window_valid.f0 x.1.2.1 x.2.1.1 x.2.1.2.1
def window_valid.f1 (g_window_sample : ((Int × Unit) × (Unit)) → Option ((Bool × Unit) × (Unit))) (L : ((Unit × Int × Int × Unit) × (((List Int) × (List Int) × Unit) × Unit)) → Option (((Unit) × (Unit)) ⊕ ((Bool × Unit) × (Unit)) ⊕ Empty)) (n_3 : Int) (i_4 : Int) (o0_0 : (List Int)) (o0_1 : (List Int)) : Option (((Unit) × (Unit)) ⊕ ((Bool × Unit) × (Unit)) ⊕ Empty) :=
  (bif (decide (i_4 < n_3)) then
   (bif (decide ((0:Int) ≤ i_4)) then
    (bif (decide (i_4 < (((List.length o0_0) : Nat) : Int))) then
     (bif (decide ((0:Int) ≤ (Go.IntKind.wrap Go.IntKind.i64 (i_4 - (1:Int))))) then
      (bif (decide ((Go.IntKind.wrap Go.IntKind.i64 (i_4 - (1:Int))) < (((List.length o0_0) : Nat) : Int))) then
       (Option.bind (g_window_sample (((Go.IntKind.wrap Go.IntKind.i64 ((List.getD o0_0 (Int.toNat i_4) (0:Int)) - (List.getD o0_0 (Int.toNat (Go.IntKind.wrap Go.IntKind.i64 (i_4 - (1:Int)))) (0:Int)))), ()), ())) (fun y5 =>
       (bif (!y5.1.1) then
        (some (Sum.inr (Sum.inl ((Bool.false, ()), ()))))
       else
        (bif (decide ((0:Int) ≤ i_4)) then
         (bif (decide (i_4 < (((List.length o0_1) : Nat) : Int))) then
          (bif (decide ((0:Int) ≤ (Go.IntKind.wrap Go.IntKind.i64 (i_4 - (1:Int))))) then
           (bif (decide ((Go.IntKind.wrap Go.IntKind.i64 (i_4 - (1:Int))) < (((List.length o0_1) : Nat) : Int))) then
            (bif ((Go.IntKind.wrap Go.IntKind.i64 ((List.getD o0_1 (Int.toNat i_4) (0:Int)) - (List.getD o0_1 (Int.toNat (Go.IntKind.wrap Go.IntKind.i64 (i_4 - (1:Int)))) (0:Int)))) != (Go.IntKind.wrap Go.IntKind.i64 ((Go.IntKind.wrap Go.IntKind.i64 ((List.getD o0_0 (Int.toNat i_4) (0:Int)) - (List.getD o0_0 (Int.toNat (Go.IntKind.wrap Go.IntKind.i64 (i_4 - (1:Int)))) (0:Int)))) * (Go.IntKind.wrap Go.IntKind.i64 ((List.getD o0_0 (Int.toNat i_4) (0:Int)) - (List.getD o0_0 (Int.toNat (Go.IntKind.wrap Go.IntKind.i64 (i_4 - (1:Int)))) (0:Int))))))) then
             (some (Sum.inr (Sum.inl ((Bool.false, ()), ()))))
            else
             (Option.bind (L (((), (n_3, ((Go.IntKind.wrap Go.IntKind.i64 (i_4 + (1:Int))), ()))), ((o0_0, (o0_1, ())), ()))) (fun y12 =>
             (some y12))))
           else
            none)
          else
           none)
         else
          none)
        else
         none))))
      else
       none)
     else
      none)
    else
     none)
   else
    none)
  else
   (some (Sum.inl ((), ()))))
theorem window_valid.eq1 (g_window_sample : window_sample.sh.X → Option window_sample.osh.X) (l0 : window_valid.s0.X → Option (sumX window_valid.x0)) (l1 : window_valid.s1.X → Option (sumX window_valid.x1)) (L : ((Unit × Int × Int × Unit) × (((List Int) × (List Int) × Unit) × Unit)) → Option (((Unit) × (Unit)) ⊕ ((Bool × Unit) × (Unit)) ⊕ Empty)) (x : ((Unit × Int × Int × Unit) × (((List Int) × (List Int) × Unit) × Unit))) : (roundK (window_valid.E g_window_sample l0 l1) window_valid.s1 [1, 3, 4] [(2, []), (1, [2])] true (((mk window_valid.hs window_valid.c []).atoms.getD 1 .bad).body) window_valid.x1 L x).run _ some = window_valid.f1 g_window_sample L x.1.2.1 x.1.2.2.1 x.2.1.1 x.2.1.2.1 := by
  show _ = (_ : Option _)
  kernel_rfl
noncomputable def window_valid.L1 : ((Unit × Int × Int × Unit) × (((List Int) × (List Int) × Unit) × Unit)) → Option (((Unit) × (Unit)) ⊕ ((Bool × Unit) × (Unit)) ⊕ Empty) := loop fun L x => window_valid.f1 window_sample.F L x.1.2.1 x.1.2.2.1 x.2.1.1 x.2.1.2.1
def window_valid.f (l0 : ((Unit × Int × Unit) × (((List Int) × (List Int) × Unit) × Unit)) → Option (((Unit × Int × Bool × Unit) × (((List Int) × (List Int) × Unit) × Unit)) ⊕ Empty)) (l1 : ((Unit × Int × Int × Unit) × (((List Int) × (List Int) × Unit) × Unit)) → Option (((Unit) × (Unit)) ⊕ ((Bool × Unit) × (Unit)) ⊕ Empty)) (s_Sum : (List Int)) (s_Square : (List Int)) : Option ((Bool × Unit) × (Unit)) :=
  (Option.bind (l0 (((), ((((List.length s_Sum) : Nat) : Int), ())), ((s_Sum, (s_Square, ())), ()))) (fun y0 =>
  (Sum.elim (fun a1 =>
   (bif a1.1.2.2.1 then
    (some ((Bool.false, ()), ()))
   else
    (Option.bind (l1 (((), (a1.1.2.1, ((1:Int), ()))), ((a1.2.1.1, (a1.2.1.2.1, ())), ()))) (fun y3 =>
    (Sum.elim (fun a4 =>
     (some ((Bool.true, ()), ()))) (fun b4 =>
     (Sum.elim (fun a5 =>
      (some ((a5.1.1, ()), ()))) (fun b5 =>
      (Empty.elim b5)) b4)) y3))))) (fun b1 =>
   (Empty.elim b1)) y0)))
theorem window_valid.eq (g_window_sample : window_sample.sh.X → Option window_sample.osh.X) (l0 : window_valid.s0.X → Option (sumX window_valid.x0)) (l1 : window_valid.s1.X → Option (sumX window_valid.x1)) (x : ((((List Int) × (List Int) × Unit) × Unit) × (Unit))) : (bodyO (window_valid.E g_window_sample l0 l1) (mk window_valid.hs window_valid.c []) Go.Proofs.Try.f33.results.toList window_valid.sh window_valid.osh x).run _ some = window_valid.f l0 l1 x.1.1.1 x.1.1.2.1 := by
  show _ = (_ : Option _)
  kernel_rfl
noncomputable def window_valid (s_Sum : (List Int)) (s_Square : (List Int)) : Option ((Bool × Unit) × (Unit)) := window_valid.f window_valid.L0 window_valid.L1 s_Sum s_Square
noncomputable def window_valid.F (x : ((((List Int) × (List Int) × Unit) × Unit) × (Unit))) : Option ((Bool × Unit) × (Unit)) := window_valid x.1.1.1 x.1.1.2.1
theorem window_valid.L0_eq (n_3 : Int) (o0_0 : (List Int)) (o0_1 : (List Int)) : window_valid.L0 (((), n_3, ()), ((o0_0, o0_1, ()), ())) = window_valid.f0 n_3 o0_0 o0_1 := rfl
theorem window_valid.L1_eq (n_3 : Int) (i_4 : Int) (o0_0 : (List Int)) (o0_1 : (List Int)) : window_valid.L1 (((), n_3, i_4, ()), ((o0_0, o0_1, ()), ())) = window_valid.f1 window_sample.F window_valid.L1 n_3 i_4 o0_0 o0_1 :=
  loop_eq (E := (window_valid.E window_sample.F window_valid.L0 window_valid.L1)) (sh := window_valid.s1) (es := window_valid.x1) (lp := true) (H := fun L x => window_valid.eq1 window_sample.F window_valid.L0 window_valid.L1 L x) (((), n_3, i_4, ()), ((o0_0, o0_1, ()), ()))
theorem window_valid.F_eq (s_Sum : (List Int)) (s_Square : (List Int)) : window_valid.F (((s_Sum, s_Square, ()), ()), ()) = window_valid.f window_valid.L0 window_valid.L1 s_Sum s_Square := rfl
theorem window_valid.ok {tabs : List (Nat × Go.Obj)} (ht : TabsOk tabs) : FOK Go.Proofs.Try.prog tabs 33 (FE.of [true] false window_valid.sh window_valid.osh window_valid.F) := by
  refine fn_keeps (E := (window_valid.E window_sample.F window_valid.L0 window_valid.L1)) (c := window_valid.c) (fn := Go.Proofs.Try.f33) (hs := window_valid.hs) (by kernel_rfl) Go.Proofs.Try.func33 ⟨by kernel_rfl, by kernel_rfl, tb, by kernel_rfl, by kernel_rfl, by kernel_rfl, by kernel_rfl, by kernel_rfl⟩ ⟨fun g ks fe h => ?_, gt_ok ht⟩ ?_ (fun x => window_valid.eq window_sample.F window_valid.L0 window_valid.L1 x)
  · rcases c_cons h with ⟨rfl, rfl⟩ | h
    · exact window_sample.ok ht
    cases h
  · refine known_at 2 (by kernel_rfl) fun i hi => ?_
    match i, hi with
    | 0, _ => exact atom_at (id := 0) (live := [1, 3]) (outs := [(0, [1, 3, 35])]) (loop := false) (by kernel_rfl) (cut_ok (E := (window_valid.E window_sample.F window_valid.L0 window_valid.L1)) (sh := window_valid.s0) (es := window_valid.x0) rfl (fun L x => window_valid.eq0 window_sample.F window_valid.L0 window_valid.L1 L x))
    | 1, _ => exact atom_at (id := 1) (live := [1, 3, 4]) (outs := [(2, []), (1, [2])]) (loop := true) (by kernel_rfl) (loop_ok (E := (window_valid.E window_sample.F window_valid.L0 window_valid.L1)) (sh := window_valid.s1) (es := window_valid.x1) rfl (fun L x => window_valid.eq1 window_sample.F window_valid.L0 window_valid.L1 L x))
    | n + 2, h => exact absurd h (by omega)

/-! window_between -/
def window_between.f (s_Sum : (List Int)) (s_Square : (List Int)) (from_ : Int) (m : Int) : Option (((Int × Int × Int × Unit) × Unit) × (Unit)) :=
  (bif (decide ((0:Int) ≤ (Go.IntKind.wrap Go.IntKind.i64 (from_ + m)))) then
   (bif (decide ((Go.IntKind.wrap Go.IntKind.i64 (from_ + m)) < (((List.length s_Sum) : Nat) : Int))) then
    (bif (decide ((0:Int) ≤ from_)) then
     (bif (decide (from_ < (((List.length s_Sum) : Nat) : Int))) then
      (bif (decide ((0:Int) ≤ (Go.IntKind.wrap Go.IntKind.i64 (from_ + m)))) then
       (bif (decide ((Go.IntKind.wrap Go.IntKind.i64 (from_ + m)) < (((List.length s_Square) : Nat) : Int))) then
        (bif (decide ((0:Int) ≤ from_)) then
         (bif (decide (from_ < (((List.length s_Square) : Nat) : Int))) then
          (some (((m, ((Go.IntKind.wrap Go.IntKind.i64 ((List.getD s_Sum (Int.toNat (Go.IntKind.wrap Go.IntKind.i64 (from_ + m))) (0:Int)) - (List.getD s_Sum (Int.toNat from_) (0:Int)))), ((Go.IntKind.wrap Go.IntKind.i64 ((List.getD s_Square (Int.toNat (Go.IntKind.wrap Go.IntKind.i64 (from_ + m))) (0:Int)) - (List.getD s_Square (Int.toNat from_) (0:Int)))), ()))), ()), ()))
         else
          none)
        else
         none)
       else
        none)
      else
       none)
     else
      none)
    else
     none)
   else
    none)
  else
   none)
theorem window_between.eq (x : ((((List Int) × (List Int) × Unit) × Int × Int × Unit) × (Unit))) : (bodyO (window_between.E) (mk window_between.hs window_between.c []) Go.Proofs.Try.f34.results.toList window_between.sh window_between.osh x).run _ some = window_between.f x.1.1.1 x.1.1.2.1 x.1.2.1 x.1.2.2.1 := by
  show _ = (_ : Option _)
  kernel_rfl
noncomputable def window_between (s_Sum : (List Int)) (s_Square : (List Int)) (from_ : Int) (m : Int) : Option (((Int × Int × Int × Unit) × Unit) × (Unit)) := window_between.f s_Sum s_Square from_ m
noncomputable def window_between.F (x : ((((List Int) × (List Int) × Unit) × Int × Int × Unit) × (Unit))) : Option (((Int × Int × Int × Unit) × Unit) × (Unit)) := window_between x.1.1.1 x.1.1.2.1 x.1.2.1 x.1.2.2.1
theorem window_between.F_eq (s_Sum : (List Int)) (s_Square : (List Int)) (from_ : Int) (m : Int) : window_between.F (((s_Sum, s_Square, ()), from_, m, ()), ()) = window_between.f s_Sum s_Square from_ m := rfl
theorem window_between.ok {tabs : List (Nat × Go.Obj)} (ht : TabsOk tabs) : FOK Go.Proofs.Try.prog tabs 34 (FE.of [true, true, true] false window_between.sh window_between.osh window_between.F) := by
  refine fn_keeps (E := (window_between.E)) (c := window_between.c) (fn := Go.Proofs.Try.f34) (hs := window_between.hs) (by kernel_rfl) Go.Proofs.Try.func34 ⟨by kernel_rfl, by kernel_rfl, tb, by kernel_rfl, by kernel_rfl, by kernel_rfl, by kernel_rfl, by kernel_rfl⟩ ⟨fun g ks fe h => ?_, gt_ok ht⟩ ?_ (fun x => window_between.eq x)
  · cases h
  · exact known_at 0 (by kernel_rfl) fun i hi => absurd hi (Nat.not_lt_zero i)

/-! window_Stats -/
def window_Stats.f0 (from_1 : Int) (m_2 : Int) (n_8 : Int) (o0_0 : (List Int)) (o0_1 : (List Int)) (o1_0 : Int) (o1_1 : Int) (o1_2 : Int) : Option (((Int × Int × Unit × Unit × Bool × Unit) × (((List Int) × (List Int) × Unit) × (Int × Int × Int × Unit) × Unit)) ⊕ Empty) :=
  (bif (decide (from_1 < (0:Int))) then
   (some (Sum.inl ((from_1, (m_2, ((), ((), (Bool.true, ()))))), ((o0_0, (o0_1, ())), ((o1_0, (o1_1, (o1_2, ()))), ())))))
  else
   (bif (decide (m_2 < (1:Int))) then
    (some (Sum.inl ((from_1, (m_2, ((), ((), (Bool.true, ()))))), ((o0_0, (o0_1, ())), ((o1_0, (o1_1, (o1_2, ()))), ())))))
   else
    (bif (decide (from_1 > n_8)) then
     (some (Sum.inl ((from_1, (m_2, ((), ((), (Bool.true, ()))))), ((o0_0, (o0_1, ())), ((o1_0, (o1_1, (o1_2, ()))), ())))))
    else
     (some (Sum.inl ((from_1, (m_2, ((), ((), ((decide (m_2 > (Go.IntKind.wrap Go.IntKind.i64 (n_8 - from_1)))), ()))))), ((o0_0, (o0_1, ())), ((o1_0, (o1_1, (o1_2, ()))), ()))))))))
theorem window_Stats.eq0 (g_window_valid : window_valid.sh.X → Option window_valid.osh.X) (g_window_between : window_between.sh.X → Option window_between.osh.X) (l0 : window_Stats.s0.X → Option (sumX window_Stats.x0)) (L : ((Int × Int × Unit × Unit × Int × Unit) × (((List Int) × (List Int) × Unit) × (Int × Int × Int × Unit) × Unit)) → Option (((Int × Int × Unit × Unit × Bool × Unit) × (((List Int) × (List Int) × Unit) × (Int × Int × Int × Unit) × Unit)) ⊕ Empty)) (x : ((Int × Int × Unit × Unit × Int × Unit) × (((List Int) × (List Int) × Unit) × (Int × Int × Int × Unit) × Unit))) : (roundK (window_Stats.E g_window_valid g_window_between l0) window_Stats.s0 [1, 2, 3, 6, 8] [(0, [1, 2, 3, 6, 34])] false (((mk window_Stats.hs window_Stats.c []).atoms.getD 0 .bad).body) window_Stats.x0 L x).run _ some = window_Stats.f0 x.1.1 x.1.2.1 x.1.2.2.2.2.1 x.2.1.1 x.2.1.2.1 x.2.2.1.1 x.2.2.1.2.1 x.2.2.1.2.2.1 := by
  show _ = (_ : Option _)
  kernel_rfl
noncomputable def window_Stats.L0 : ((Int × Int × Unit × Unit × Int × Unit) × (((List Int) × (List Int) × Unit) × (Int × Int × Int × Unit) × Unit)) → Option (((Int × Int × Unit × Unit × Bool × Unit) × (((List Int) × (List Int) × Unit) × (Int × Int × Int × Unit) × Unit)) ⊕ Empty) := fun x => window_Stats.f0 x.1.1 x.1.2.1 x.1.2.2.2.2.1 x.2.1.1 x.2.1.2.1 x.2.2.1.1 x.2.2.1.2.1 x.2.2.1.2.2.1
def window_Stats.f (g_window_valid : ((((List Int) × (List Int) × Unit) × Unit) × (Unit)) → Option ((Bool × Unit) × (Unit))) (g_window_between : ((((List Int) × (List Int) × Unit) × Int × Int × Unit) × (Unit)) → Option (((Int × Int × Int × Unit) × Unit) × (Unit))) (l0 : ((Int × Int × Unit × Unit × Int × Unit) × (((List Int) × (List Int) × Unit) × (Int × Int × Int × Unit) × Unit)) → Option (((Int × Int × Unit × Unit × Bool × Unit) × (((List Int) × (List Int) × Unit) × (Int × Int × Int × Unit) × Unit)) ⊕ Empty)) (s_Sum : (List Int)) (s_Square : (List Int)) (from_ : Int) (m : Int) : Option (((Int × Int × Int × Unit) × Int × Unit) × (Unit)) :=
  (Option.bind (g_window_valid (((s_Sum, (s_Square, ())), ()), ())) (fun y0 =>
  (bif (!y0.1.1) then
   (some ((((0:Int), ((0:Int), ((0:Int), ()))), ((3:Int), ())), ()))
  else
   (Option.bind (l0 ((from_, (m, ((), ((), ((Go.IntKind.wrap Go.IntKind.i64 ((((List.length s_Sum) : Nat) : Int) - (1:Int))), ()))))), ((s_Sum, (s_Square, ())), (((0:Int), ((0:Int), ((0:Int), ()))), ())))) (fun y2 =>
   (Sum.elim (fun a3 =>
    (bif a3.1.2.2.2.2.1 then
     (some ((((0:Int), ((0:Int), ((0:Int), ()))), ((1:Int), ())), ()))
    else
     (Option.bind (g_window_between (((a3.2.1.1, (a3.2.1.2.1, ())), (a3.1.1, (a3.1.2.1, ()))), ())) (fun y5 =>
     (some (((y5.1.1.1, (y5.1.1.2.1, (y5.1.1.2.2.1, ()))), ((0:Int), ())), ())))))) (fun b3 =>
    (Empty.elim b3)) y2))))))
theorem window_Stats.eq (g_window_valid : window_valid.sh.X → Option window_valid.osh.X) (g_window_between : window_between.sh.X → Option window_between.osh.X) (l0 : window_Stats.s0.X → Option (sumX window_Stats.x0)) (x : ((((List Int) × (List Int) × Unit) × Int × Int × Unit) × (Unit))) : (bodyO (window_Stats.E g_window_valid g_window_between l0) (mk window_Stats.hs window_Stats.c []) Go.Proofs.Try.f14.results.toList window_Stats.sh window_Stats.osh x).run _ some = window_Stats.f g_window_valid g_window_between l0 x.1.1.1 x.1.1.2.1 x.1.2.1 x.1.2.2.1 := by
  show _ = (_ : Option _)
  kernel_rfl
noncomputable def window_Stats (s_Sum : (List Int)) (s_Square : (List Int)) (from_ : Int) (m : Int) : Option (((Int × Int × Int × Unit) × Int × Unit) × (Unit)) := window_Stats.f window_valid.F window_between.F window_Stats.L0 s_Sum s_Square from_ m
noncomputable def window_Stats.F (x : ((((List Int) × (List Int) × Unit) × Int × Int × Unit) × (Unit))) : Option (((Int × Int × Int × Unit) × Int × Unit) × (Unit)) := window_Stats x.1.1.1 x.1.1.2.1 x.1.2.1 x.1.2.2.1
theorem window_Stats.L0_eq (from_1 : Int) (m_2 : Int) (n_8 : Int) (o0_0 : (List Int)) (o0_1 : (List Int)) (o1_0 : Int) (o1_1 : Int) (o1_2 : Int) : window_Stats.L0 ((from_1, m_2, (), (), n_8, ()), ((o0_0, o0_1, ()), (o1_0, o1_1, o1_2, ()), ())) = window_Stats.f0 from_1 m_2 n_8 o0_0 o0_1 o1_0 o1_1 o1_2 := rfl
theorem window_Stats.F_eq (s_Sum : (List Int)) (s_Square : (List Int)) (from_ : Int) (m : Int) : window_Stats.F (((s_Sum, s_Square, ()), from_, m, ()), ()) = window_Stats.f window_valid.F window_between.F window_Stats.L0 s_Sum s_Square from_ m := rfl
theorem window_Stats.ok {tabs : List (Nat × Go.Obj)} (ht : TabsOk tabs) : FOK Go.Proofs.Try.prog tabs 14 (FE.of [true, true, true] false window_Stats.sh window_Stats.osh window_Stats.F) := by
  refine fn_keeps (E := (window_Stats.E window_valid.F window_between.F window_Stats.L0)) (c := window_Stats.c) (fn := Go.Proofs.Try.f14) (hs := window_Stats.hs) (by kernel_rfl) Go.Proofs.Try.func14 ⟨by kernel_rfl, by kernel_rfl, tb, by kernel_rfl, by kernel_rfl, by kernel_rfl, by kernel_rfl, by kernel_rfl⟩ ⟨fun g ks fe h => ?_, gt_ok ht⟩ ?_ (fun x => window_Stats.eq window_valid.F window_between.F window_Stats.L0 x)
  · rcases c_cons h with ⟨rfl, rfl⟩ | h
    · exact window_valid.ok ht
    rcases c_cons h with ⟨rfl, rfl⟩ | h
    · exact window_between.ok ht
    cases h
  · refine known_at 1 (by kernel_rfl) fun i hi => ?_
    match i, hi with
    | 0, _ => exact atom_at (id := 0) (live := [1, 2, 3, 6, 8]) (outs := [(0, [1, 2, 3, 6, 34])]) (loop := false) (by kernel_rfl) (cut_ok (E := (window_Stats.E window_valid.F window_between.F window_Stats.L0)) (sh := window_Stats.s0) (es := window_Stats.x0) rfl (fun L x => window_Stats.eq0 window_valid.F window_between.F window_Stats.L0 L x))
    | n + 1, h => exact absurd h (by omega)

/-! keep_Ints -/
def keep_Ints.f0 (L : (((List Int) × (List Int) × Int × Int × Unit) × (Unit)) → Option (((Unit) × (Unit)) ⊕ ((Bool × Unit) × (Unit)) ⊕ Empty)) (a_0 : (List Int)) (b_1 : (List Int)) (v12 : Int) (v13 : Int) : Option (((Unit) × (Unit)) ⊕ ((Bool × Unit) × (Unit)) ⊕ Empty) :=
  (bif (decide (v13 < v12)) then
   (bif (decide ((0:Int) ≤ v13)) then
    (bif (decide (v13 < (((List.length a_0) : Nat) : Int))) then
     (bif (decide ((0:Int) ≤ v13)) then
      (bif (decide (v13 < (((List.length b_1) : Nat) : Int))) then
       (bif ((List.getD a_0 (Int.toNat v13) (0:Int)) != (List.getD b_1 (Int.toNat v13) (0:Int))) then
        (some (Sum.inr (Sum.inl ((Bool.false, ()), ()))))
       else
        (Option.bind (L ((a_0, (b_1, (v12, ((Go.IntKind.wrap Go.IntKind.i64 (v13 + (1:Int))), ())))), ())) (fun y6 =>
        (some y6))))
      else
       none)
     else
      none)
    else
     none)
   else
    none)
  else
   (some (Sum.inl ((), ()))))
theorem keep_Ints.eq0 (l0 : keep_Ints.s0.X → Option (sumX keep_Ints.x0)) (L : (((List Int) × (List Int) × Int × Int × Unit) × (Unit)) → Option (((Unit) × (Unit)) ⊕ ((Bool × Unit) × (Unit)) ⊕ Empty)) (x : (((List Int) × (List Int) × Int × Int × Unit) × (Unit))) : (roundK (keep_Ints.E l0) keep_Ints.s0 [0, 1, 12, 13] [(2, []), (1, [4])] true (((mk keep_Ints.hs keep_Ints.c []).atoms.getD 0 .bad).body) keep_Ints.x0 L x).run _ some = keep_Ints.f0 L x.1.1 x.1.2.1 x.1.2.2.1 x.1.2.2.2.1 := by
  show _ = (_ : Option _)
  kernel_rfl
noncomputable def keep_Ints.L0 : (((List Int) × (List Int) × Int × Int × Unit) × (Unit)) → Option (((Unit) × (Unit)) ⊕ ((Bool × Unit) × (Unit)) ⊕ Empty) := loop fun L x => keep_Ints.f0 L x.1.1 x.1.2.1 x.1.2.2.1 x.1.2.2.2.1
def keep_Ints.f (l0 : (((List Int) × (List Int) × Int × Int × Unit) × (Unit)) → Option (((Unit) × (Unit)) ⊕ ((Bool × Unit) × (Unit)) ⊕ Empty)) (a : (List Int)) (b : (List Int)) : Option ((Bool × Unit) × (Unit)) :=
  (bif ((((List.length a) : Nat) : Int) != (((List.length b) : Nat) : Int)) then
   (some ((Bool.false, ()), ()))
  else
   (Option.bind (l0 ((a, (b, ((((List.length a) : Nat) : Int), ((0:Int), ())))), ())) (fun y1 =>
   (Sum.elim (fun a2 =>
    (some ((Bool.true, ()), ()))) (fun b2 =>
    (Sum.elim (fun a3 =>
     (some ((a3.1.1, ()), ()))) (fun b3 =>
     (Empty.elim b3)) b2)) y1))))
theorem keep_Ints.eq (l0 : keep_Ints.s0.X → Option (sumX keep_Ints.x0)) (x : (((List Int) × (List Int) × Unit) × (Unit))) : (bodyO (keep_Ints.E l0) (mk keep_Ints.hs keep_Ints.c []) Go.Proofs.Try.f35.results.toList keep_Ints.sh keep_Ints.osh x).run _ some = keep_Ints.f l0 x.1.1 x.1.2.1 := by
  show _ = (_ : Option _)
  kernel_rfl
noncomputable def keep_Ints (a : (List Int)) (b : (List Int)) : Option ((Bool × Unit) × (Unit)) := keep_Ints.f keep_Ints.L0 a b
noncomputable def keep_Ints.F (x : (((List Int) × (List Int) × Unit) × (Unit))) : Option ((Bool × Unit) × (Unit)) := keep_Ints x.1.1 x.1.2.1
theorem keep_Ints.L0_eq (a_0 : (List Int)) (b_1 : (List Int)) (v12 : Int) (v13 : Int) : keep_Ints.L0 ((a_0, b_1, v12, v13, ()), ()) = keep_Ints.f0 keep_Ints.L0 a_0 b_1 v12 v13 :=
  loop_eq (E := (keep_Ints.E keep_Ints.L0)) (sh := keep_Ints.s0) (es := keep_Ints.x0) (lp := true) (H := fun L x => keep_Ints.eq0 keep_Ints.L0 L x) ((a_0, b_1, v12, v13, ()), ())
theorem keep_Ints.F_eq (a : (List Int)) (b : (List Int)) : keep_Ints.F ((a, b, ()), ()) = keep_Ints.f keep_Ints.L0 a b := rfl
theorem keep_Ints.ok {tabs : List (Nat × Go.Obj)} (ht : TabsOk tabs) : FOK Go.Proofs.Try.prog tabs 35 (FE.of [true, true] false keep_Ints.sh keep_Ints.osh keep_Ints.F) := by
  refine fn_keeps (E := (keep_Ints.E keep_Ints.L0)) (c := keep_Ints.c) (fn := Go.Proofs.Try.f35) (hs := keep_Ints.hs) (by kernel_rfl) Go.Proofs.Try.func35 ⟨by kernel_rfl, by kernel_rfl, tb, by kernel_rfl, by kernel_rfl, by kernel_rfl, by kernel_rfl, by kernel_rfl⟩ ⟨fun g ks fe h => ?_, gt_ok ht⟩ ?_ (fun x => keep_Ints.eq keep_Ints.L0 x)
  · cases h
  · refine known_at 1 (by kernel_rfl) fun i hi => ?_
    match i, hi with
    | 0, _ => exact atom_at (id := 0) (live := [0, 1, 12, 13]) (outs := [(2, []), (1, [4])]) (loop := true) (by kernel_rfl) (loop_ok (E := (keep_Ints.E keep_Ints.L0)) (sh := keep_Ints.s0) (es := keep_Ints.x0) rfl (fun L x => keep_Ints.eq0 keep_Ints.L0 L x))
    | n + 1, h => exact absurd h (by omega)

/-! window_Variance -/
def window_Variance.f0 (o0_0 : Int) (o0_1 : Int) (o0_2 : Int) : Option (((Unit × Bool × Unit) × ((Int × Int × Int × Unit) × Unit)) ⊕ Empty) :=
  (bif (decide (o0_0 < (1:Int))) then
   (some (Sum.inl (((), (Bool.true, ())), ((o0_0, (o0_1, (o0_2, ()))), ()))))
  else
   (bif (decide (o0_0 > (2000:Int))) then
    (some (Sum.inl (((), (Bool.true, ())), ((o0_0, (o0_1, (o0_2, ()))), ()))))
   else
    (bif (decide (o0_1 < (Go.IntKind.wrap Go.IntKind.i64 ((-(1000:Int)) * o0_0)))) then
     (some (Sum.inl (((), (Bool.true, ())), ((o0_0, (o0_1, (o0_2, ()))), ()))))
    else
     (bif (decide (o0_1 > (Go.IntKind.wrap Go.IntKind.i64 ((1000:Int) * o0_0)))) then
      (some (Sum.inl (((), (Bool.true, ())), ((o0_0, (o0_1, (o0_2, ()))), ()))))
     else
      (bif (decide (o0_2 < (0:Int))) then
       (some (Sum.inl (((), (Bool.true, ())), ((o0_0, (o0_1, (o0_2, ()))), ()))))
      else
       (some (Sum.inl (((), ((decide (o0_2 > (Go.IntKind.wrap Go.IntKind.i64 ((1000000:Int) * o0_0)))), ())), ((o0_0, (o0_1, (o0_2, ()))), ())))))))))
theorem window_Variance.eq0 (l0 : window_Variance.s0.X → Option (sumX window_Variance.x0)) (L : ((Unit × Unit) × ((Int × Int × Int × Unit) × Unit)) → Option (((Unit × Bool × Unit) × ((Int × Int × Int × Unit) × Unit)) ⊕ Empty)) (x : ((Unit × Unit) × ((Int × Int × Int × Unit) × Unit))) : (roundK (window_Variance.E l0) window_Variance.s0 [1] [(0, [1, 39])] false (((mk window_Variance.hs window_Variance.c []).atoms.getD 0 .bad).body) window_Variance.x0 L x).run _ some = window_Variance.f0 x.2.1.1 x.2.1.2.1 x.2.1.2.2.1 := by
  show _ = (_ : Option _)
  kernel_rfl
noncomputable def window_Variance.L0 : ((Unit × Unit) × ((Int × Int × Int × Unit) × Unit)) → Option (((Unit × Bool × Unit) × ((Int × Int × Int × Unit) × Unit)) ⊕ Empty) := fun x => window_Variance.f0 x.2.1.1 x.2.1.2.1 x.2.1.2.2.1
def window_Variance.f (l0 : ((Unit × Unit) × ((Int × Int × Int × Unit) × Unit)) → Option (((Unit × Bool × Unit) × ((Int × Int × Int × Unit) × Unit)) ⊕ Empty)) (x_Count : Int) (x_Sum : Int) (x_Square : Int) : Option ((Int × Unit) × (Unit)) :=
  (Option.bind (l0 (((), ()), ((x_Count, (x_Sum, (x_Square, ()))), ()))) (fun y0 =>
  (Sum.elim (fun a1 =>
   (bif a1.1.2.1 then
    (some (((0:Int), ()), ()))
   else
    (some (((Go.VI.mx (0:Int) (Go.IntKind.wrap Go.IntKind.i64 ((Go.IntKind.wrap Go.IntKind.i64 (a1.2.1.1 * a1.2.1.2.2.1)) - (Go.IntKind.wrap Go.IntKind.i64 (a1.2.1.2.1 * a1.2.1.2.1))))), ()), ())))) (fun b1 =>
   (Empty.elim b1)) y0)))
theorem window_Variance.eq (l0 : window_Variance.s0.X → Option (sumX window_Variance.x0)) (x : (((Int × Int × Int × Unit) × Unit) × (Unit))) : (bodyO (window_Variance.E l0) (mk window_Variance.hs window_Variance.c []) Go.Proofs.Try.f17.results.toList window_Variance.sh window_Variance.osh x).run _ some = window_Variance.f l0 x.1.1.1 x.1.1.2.1 x.1.1.2.2.1 := by
  show _ = (_ : Option _)
  kernel_rfl
noncomputable def window_Variance (x_Count : Int) (x_Sum : Int) (x_Square : Int) : Option ((Int × Unit) × (Unit)) := window_Variance.f window_Variance.L0 x_Count x_Sum x_Square
noncomputable def window_Variance.F (x : (((Int × Int × Int × Unit) × Unit) × (Unit))) : Option ((Int × Unit) × (Unit)) := window_Variance x.1.1.1 x.1.1.2.1 x.1.1.2.2.1
theorem window_Variance.L0_eq (o0_0 : Int) (o0_1 : Int) (o0_2 : Int) : window_Variance.L0 (((), ()), ((o0_0, o0_1, o0_2, ()), ())) = window_Variance.f0 o0_0 o0_1 o0_2 := rfl
theorem window_Variance.F_eq (x_Count : Int) (x_Sum : Int) (x_Square : Int) : window_Variance.F (((x_Count, x_Sum, x_Square, ()), ()), ()) = window_Variance.f window_Variance.L0 x_Count x_Sum x_Square := rfl
theorem window_Variance.ok {tabs : List (Nat × Go.Obj)} (ht : TabsOk tabs) : FOK Go.Proofs.Try.prog tabs 17 (FE.of [true] false window_Variance.sh window_Variance.osh window_Variance.F) := by
  refine fn_keeps (E := (window_Variance.E window_Variance.L0)) (c := window_Variance.c) (fn := Go.Proofs.Try.f17) (hs := window_Variance.hs) (by kernel_rfl) Go.Proofs.Try.func17 ⟨by kernel_rfl, by kernel_rfl, tb, by kernel_rfl, by kernel_rfl, by kernel_rfl, by kernel_rfl, by kernel_rfl⟩ ⟨fun g ks fe h => ?_, gt_ok ht⟩ ?_ (fun x => window_Variance.eq window_Variance.L0 x)
  · cases h
  · refine known_at 1 (by kernel_rfl) fun i hi => ?_
    match i, hi with
    | 0, _ => exact atom_at (id := 0) (live := [1]) (outs := [(0, [1, 39])]) (loop := false) (by kernel_rfl) (cut_ok (E := (window_Variance.E window_Variance.L0)) (sh := window_Variance.s0) (es := window_Variance.x0) rfl (fun L x => window_Variance.eq0 window_Variance.L0 L x))
    | n + 1, h => exact absurd h (by omega)

/-! law11_awake -/
def law11_awake.f0 (g_keep_Ints : (((List Int) × (List Int) × Unit) × (Unit)) → Option ((Bool × Unit) × (Unit))) (g_window_Variance : (((Int × Int × Int × Unit) × Unit) × (Unit)) → Option ((Int × Unit) × (Unit))) (e_2 : Int) (f_4 : Int) (o1_0 : Int) (o1_1 : Int) (o1_2 : Int) (o2 : List Int) (o3 : List Int) : Option (((Bool × Unit) × (Unit)) ⊕ Empty) :=
  (bif (e_2 == (0:Int)) then
   (Option.bind (g_keep_Ints ((o2, ([(0:Int), (3:Int), (2:Int), (4:Int)], ())), ())) (fun y1 =>
   (bif y1.1.1 then
    (bif (f_4 == (0:Int)) then
     (bif ((o1_0 == (2:Int)) && ((o1_1 == (1:Int)) && ((o1_2 == (5:Int)) && Bool.true))) then
      (Option.bind (g_window_Variance (((o1_0, (o1_1, (o1_2, ()))), ()), ())) (fun y5 =>
      (some (Sum.inl (((y5.1.1 == (9:Int)), ()), ())))))
     else
      (some (Sum.inl ((Bool.false, ()), ()))))
    else
     (some (Sum.inl ((Bool.false, ()), ()))))
   else
    (some (Sum.inl ((Bool.false, ()), ()))))))
  else
   (some (Sum.inl ((Bool.false, ()), ()))))
theorem law11_awake.eq0 (g_window_Of : window_Of.sh.X → Option window_Of.osh.X) (g_window_Stats : window_Stats.sh.X → Option window_Stats.osh.X) (g_keep_Ints : keep_Ints.sh.X → Option keep_Ints.osh.X) (g_window_Variance : window_Variance.sh.X → Option window_Variance.osh.X) (l0 : law11_awake.s0.X → Option (sumX law11_awake.x0)) (L : ((Unit × Int × Unit × Int × Unit) × ((Unit × Unit × Unit) × (Int × Int × Int × Unit) × (List Int) × (List Int) × Unit)) → Option (((Bool × Unit) × (Unit)) ⊕ Empty)) (x : ((Unit × Int × Unit × Int × Unit) × ((Unit × Unit × Unit) × (Int × Int × Int × Unit) × (List Int) × (List Int) × Unit))) : (roundK (law11_awake.E g_window_Of g_window_Stats g_keep_Ints g_window_Variance l0) law11_awake.s0 [1, 2, 3, 4] [(0, [0])] false (((mk law11_awake.hs law11_awake.c []).atoms.getD 0 .bad).body) law11_awake.x0 L x).run _ some = law11_awake.f0 g_keep_Ints g_window_Variance x.1.2.1 x.1.2.2.2.1 x.2.2.1.1 x.2.2.1.2.1 x.2.2.1.2.2.1 x.2.2.2.1 x.2.2.2.2.1 := by
  show _ = (_ : Option _)
  kernel_rfl
noncomputable def law11_awake.L0 : ((Unit × Int × Unit × Int × Unit) × ((Unit × Unit × Unit) × (Int × Int × Int × Unit) × (List Int) × (List Int) × Unit)) → Option (((Bool × Unit) × (Unit)) ⊕ Empty) := fun x => law11_awake.f0 keep_Ints.F window_Variance.F x.1.2.1 x.1.2.2.2.1 x.2.2.1.1 x.2.2.1.2.1 x.2.2.1.2.2.1 x.2.2.2.1 x.2.2.2.2.1
def law11_awake.f (g_window_Of : (((List Int) × Unit) × (Unit)) → Option (((Unit × Unit × Unit) × Int × Unit) × ((List Int) × (List Int) × Unit))) (g_window_Stats : ((((List Int) × (List Int) × Unit) × Int × Int × Unit) × (Unit)) → Option (((Int × Int × Int × Unit) × Int × Unit) × (Unit))) (l0 : ((Unit × Int × Unit × Int × Unit) × ((Unit × Unit × Unit) × (Int × Int × Int × Unit) × (List Int) × (List Int) × Unit)) → Option (((Bool × Unit) × (Unit)) ⊕ Empty)) : Option ((Bool × Unit) × (Unit)) :=
  (Option.bind (g_window_Of (([(3:Int), (-(1:Int)), (2:Int)], ()), ())) (fun y0 =>
  (Option.bind (g_window_Stats (((y0.2.1, (y0.2.2.1, ())), ((1:Int), ((2:Int), ()))), ())) (fun y1 =>
  (Option.bind (l0 (((), (y0.1.2.1, ((), (y1.1.2.1, ())))), (((), ((), ())), ((y1.1.1.1, (y1.1.1.2.1, (y1.1.1.2.2.1, ()))), (y0.2.1, (y0.2.2.1, ())))))) (fun y2 =>
  (Sum.elim (fun a3 =>
   (some ((a3.1.1, ()), ()))) (fun b3 =>
   (Empty.elim b3)) y2)))))))
theorem law11_awake.eq (g_window_Of : window_Of.sh.X → Option window_Of.osh.X) (g_window_Stats : window_Stats.sh.X → Option window_Stats.osh.X) (g_keep_Ints : keep_Ints.sh.X → Option keep_Ints.osh.X) (g_window_Variance : window_Variance.sh.X → Option window_Variance.osh.X) (l0 : law11_awake.s0.X → Option (sumX law11_awake.x0)) (x : ((Unit) × (Unit))) : (bodyO (law11_awake.E g_window_Of g_window_Stats g_keep_Ints g_window_Variance l0) (mk law11_awake.hs law11_awake.c []) Go.Proofs.Try.f15.results.toList law11_awake.sh law11_awake.osh x).run _ some = law11_awake.f g_window_Of g_window_Stats l0 := by
  show _ = (_ : Option _)
  kernel_rfl
noncomputable def law11_awake : Option ((Bool × Unit) × (Unit)) := law11_awake.f window_Of.F window_Stats.F law11_awake.L0
noncomputable def law11_awake.F (x : ((Unit) × (Unit))) : Option ((Bool × Unit) × (Unit)) := law11_awake
theorem law11_awake.L0_eq (e_2 : Int) (f_4 : Int) (o1_0 : Int) (o1_1 : Int) (o1_2 : Int) (o2 : List Int) (o3 : List Int) : law11_awake.L0 (((), e_2, (), f_4, ()), (((), (), ()), (o1_0, o1_1, o1_2, ()), o2, o3, ())) = law11_awake.f0 keep_Ints.F window_Variance.F e_2 f_4 o1_0 o1_1 o1_2 o2 o3 := rfl
theorem law11_awake.F_eq : law11_awake.F ((), ()) = law11_awake.f window_Of.F window_Stats.F law11_awake.L0 := rfl
theorem law11_awake.ok {tabs : List (Nat × Go.Obj)} (ht : TabsOk tabs) : FOK Go.Proofs.Try.prog tabs 15 (FE.of [] false law11_awake.sh law11_awake.osh law11_awake.F) := by
  refine fn_keeps (E := (law11_awake.E window_Of.F window_Stats.F keep_Ints.F window_Variance.F law11_awake.L0)) (c := law11_awake.c) (fn := Go.Proofs.Try.f15) (hs := law11_awake.hs) (by kernel_rfl) Go.Proofs.Try.func15 ⟨by kernel_rfl, by kernel_rfl, tb, by kernel_rfl, by kernel_rfl, by kernel_rfl, by kernel_rfl, by kernel_rfl⟩ ⟨fun g ks fe h => ?_, gt_ok ht⟩ ?_ (fun x => law11_awake.eq window_Of.F window_Stats.F keep_Ints.F window_Variance.F law11_awake.L0 x)
  · rcases c_cons h with ⟨rfl, rfl⟩ | h
    · exact window_Of.ok ht
    rcases c_cons h with ⟨rfl, rfl⟩ | h
    · exact window_Stats.ok ht
    rcases c_cons h with ⟨rfl, rfl⟩ | h
    · exact keep_Ints.ok ht
    rcases c_cons h with ⟨rfl, rfl⟩ | h
    · exact window_Variance.ok ht
    cases h
  · refine known_at 1 (by kernel_rfl) fun i hi => ?_
    match i, hi with
    | 0, _ => exact atom_at (id := 0) (live := [1, 2, 3, 4]) (outs := [(0, [0])]) (loop := false) (by kernel_rfl) (cut_ok (E := (law11_awake.E window_Of.F window_Stats.F keep_Ints.F window_Variance.F law11_awake.L0)) (sh := law11_awake.s0) (es := law11_awake.x0) rfl (fun L x => law11_awake.eq0 window_Of.F window_Stats.F keep_Ints.F window_Variance.F law11_awake.L0 L x))
    | n + 1, h => exact absurd h (by omega)

/-! keep_New -/
def keep_New.f (l : (List Int)) : Option ((Unit × Unit) × (((List Int) × Int × Unit) × Unit)) :=
  (bif (decide ((0:Int) ≤ (Go.VI.mn (((List.length l) : Nat) : Int) (2000:Int)))) then
   (bif (decide ((Go.VI.mn (((List.length l) : Nat) : Int) (2000:Int)) ≤ (((List.length l) : Nat) : Int))) then
    (some (((), ()), (((List.drop (Int.toNat (0:Int)) (List.take (Int.toNat (Go.VI.mn (((List.length l) : Nat) : Int) (2000:Int))) l)), ((0:Int), ())), ())))
   else
    none)
  else
   none)
theorem keep_New.eq (x : (((List Int) × Unit) × (Unit))) : (bodyO (keep_New.E) (mk keep_New.hs keep_New.c []) Go.Proofs.Try.f9.results.toList keep_New.sh keep_New.osh x).run _ some = keep_New.f x.1.1 := by
  show _ = (_ : Option _)
  kernel_rfl
noncomputable def keep_New (l : (List Int)) : Option ((Unit × Unit) × (((List Int) × Int × Unit) × Unit)) := keep_New.f l
noncomputable def keep_New.F (x : (((List Int) × Unit) × (Unit))) : Option ((Unit × Unit) × (((List Int) × Int × Unit) × Unit)) := keep_New x.1.1
theorem keep_New.F_eq (l : (List Int)) : keep_New.F ((l, ()), ()) = keep_New.f l := rfl
theorem keep_New.ok {tabs : List (Nat × Go.Obj)} (ht : TabsOk tabs) : FOK Go.Proofs.Try.prog tabs 9 (FE.of [true] true keep_New.sh keep_New.osh keep_New.F) := by
  refine fn_keeps (E := (keep_New.E)) (c := keep_New.c) (fn := Go.Proofs.Try.f9) (hs := keep_New.hs) (by kernel_rfl) Go.Proofs.Try.func9 ⟨by kernel_rfl, by kernel_rfl, tb, by kernel_rfl, by kernel_rfl, by kernel_rfl, by kernel_rfl, by kernel_rfl⟩ ⟨fun g ks fe h => ?_, gt_ok ht⟩ ?_ (fun x => keep_New.eq x)
  · cases h
  · exact known_at 0 (by kernel_rfl) fun i hi => absurd hi (Nat.not_lt_zero i)

/-! keep_Src_Raw -/
def keep_Src_Raw.f (o0_0 : (List Int)) (o0_1 : Int) : Option ((Int × Unit) × (((List Int) × Int × Unit) × Unit)) :=
  (bif (decide (o0_1 ≥ (((List.length o0_0) : Nat) : Int))) then
   (some (((0:Int), ()), ((o0_0, (o0_1, ())), ())))
  else
   (bif (decide ((0:Int) ≤ (Go.IntKind.wrap Go.IntKind.i64 ((Go.IntKind.wrap Go.IntKind.i64 (o0_1 + (1:Int))) - (1:Int))))) then
    (bif (decide ((Go.IntKind.wrap Go.IntKind.i64 ((Go.IntKind.wrap Go.IntKind.i64 (o0_1 + (1:Int))) - (1:Int))) < (((List.length o0_0) : Nat) : Int))) then
     (some (((List.getD o0_0 (Int.toNat (Go.IntKind.wrap Go.IntKind.i64 ((Go.IntKind.wrap Go.IntKind.i64 (o0_1 + (1:Int))) - (1:Int)))) (0:Int)), ()), ((o0_0, ((Go.IntKind.wrap Go.IntKind.i64 (o0_1 + (1:Int))), ())), ())))
    else
     none)
   else
    none))
theorem keep_Src_Raw.eq (x : ((Unit × Unit) × (((List Int) × Int × Unit) × Unit))) : (bodyO (keep_Src_Raw.E) (mk keep_Src_Raw.hs keep_Src_Raw.c []) Go.Proofs.Try.f36.results.toList keep_Src_Raw.sh keep_Src_Raw.osh x).run _ some = keep_Src_Raw.f x.2.1.1 x.2.1.2.1 := by
  show _ = (_ : Option _)
  kernel_rfl
noncomputable def keep_Src_Raw (o0_0 : (List Int)) (o0_1 : Int) : Option ((Int × Unit) × (((List Int) × Int × Unit) × Unit)) := keep_Src_Raw.f o0_0 o0_1
noncomputable def keep_Src_Raw.F (x : ((Unit × Unit) × (((List Int) × Int × Unit) × Unit))) : Option ((Int × Unit) × (((List Int) × Int × Unit) × Unit)) := keep_Src_Raw x.2.1.1 x.2.1.2.1
theorem keep_Src_Raw.F_eq (o0_0 : (List Int)) (o0_1 : Int) : keep_Src_Raw.F (((), ()), ((o0_0, o0_1, ()), ())) = keep_Src_Raw.f o0_0 o0_1 := rfl
theorem keep_Src_Raw.ok {tabs : List (Nat × Go.Obj)} (ht : TabsOk tabs) : FOK Go.Proofs.Try.prog tabs 36 (FE.of [true] true keep_Src_Raw.sh keep_Src_Raw.osh keep_Src_Raw.F) := by
  refine fn_keeps (E := (keep_Src_Raw.E)) (c := keep_Src_Raw.c) (fn := Go.Proofs.Try.f36) (hs := keep_Src_Raw.hs) (by kernel_rfl) Go.Proofs.Try.func36 ⟨by kernel_rfl, by kernel_rfl, tb, by kernel_rfl, by kernel_rfl, by kernel_rfl, by kernel_rfl, by kernel_rfl⟩ ⟨fun g ks fe h => ?_, gt_ok ht⟩ ?_ (fun x => keep_Src_Raw.eq x)
  · cases h
  · exact known_at 0 (by kernel_rfl) fun i hi => absurd hi (Nat.not_lt_zero i)
end Go.Proofs.Ytknkiogjibpooaa.V
