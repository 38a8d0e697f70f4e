import Derived.Test.YtknkiogjibpooaaVg1
set_option linter.unusedVariables false
set_option maxRecDepth 100000
namespace Go.Proofs.Ytknkiogjibpooaa.V
open Go.VI
/-! window_Slide -/
def window_Slide.f0 (l_0 : (List Int)) (m_1 : Int) (o1 : List Int) (o2 : List Int) : Option ((((List Int) × Int × Unit × Bool × Unit) × ((Unit × Unit × Unit) × (List Int) × (List Int) × Unit)) ⊕ Empty) :=
  (bif (decide (m_1 < (2:Int))) then
   (some (Sum.inl ((l_0, (m_1, ((), (Bool.true, ())))), (((), ((), ())), (o1, (o2, ()))))))
  else
   (some (Sum.inl ((l_0, (m_1, ((), ((decide (m_1 > (32:Int))), ())))), (((), ((), ())), (o1, (o2, ())))))))
theorem window_Slide.eq0 (g_window_Of : window_Of.sh.X → Option window_Of.osh.X) (g_window_between : window_between.sh.X → Option window_between.osh.X) (l0 : window_Slide.s0.X → Option (sumX window_Slide.x0)) (l1 : window_Slide.s1.X → Option (sumX window_Slide.x1)) (L : (((List Int) × Int × Unit × Unit) × ((Unit × Unit × Unit) × (List Int) × (List Int) × Unit)) → Option ((((List Int) × Int × Unit × Bool × Unit) × ((Unit × Unit × Unit) × (List Int) × (List Int) × Unit)) ⊕ Empty)) (x : (((List Int) × Int × Unit × Unit) × ((Unit × Unit × Unit) × (List Int) × (List Int) × Unit))) : (roundK (window_Slide.E g_window_Of g_window_between l0 l1) window_Slide.s0 [0, 1, 6] [(0, [0, 1, 6, 23])] false (((mk window_Slide.hs window_Slide.c []).atoms.getD 0 .bad).body) window_Slide.x0 L x).run _ some = window_Slide.f0 x.1.1 x.1.2.1 x.2.2.1 x.2.2.2.1 := by
  show _ = (_ : Option _)
  kernel_rfl
noncomputable def window_Slide.L0 : (((List Int) × Int × Unit × Unit) × ((Unit × Unit × Unit) × (List Int) × (List Int) × Unit)) → Option ((((List Int) × Int × Unit × Bool × Unit) × ((Unit × Unit × Unit) × (List Int) × (List Int) × Unit)) ⊕ Empty) := fun x => window_Slide.f0 x.1.1 x.1.2.1 x.2.2.1 x.2.2.2.1
def window_Slide.f1 (g_window_between : ((((List Int) × (List Int) × Unit) × Int × Int × Unit) × (Unit)) → Option (((Int × Int × Int × Unit) × Unit) × (Unit))) (L : ((Int × Unit × Unit × Int × Int × Unit) × ((Unit × Unit × Unit) × (List (Int × (Int × Int))) × (List Int) × (List Int) × Unit)) → Option (((Unit × Unit) × ((List (Int × (Int × Int))) × Unit)) ⊕ Empty)) (m_1 : Int) (v29 : Int) (v30 : Int) (o1 : List (Int × (Int × Int))) (o2 : List Int) (o3 : List Int) : Option (((Unit × Unit) × ((List (Int × (Int × Int))) × Unit)) ⊕ Empty) :=
  (bif (decide (v30 < v29)) then
   (Option.bind (g_window_between (((o2, (o3, ())), (v30, (m_1, ()))), ())) (fun y1 =>
   (bif (decide ((((List.length o1) + (List.length [(y1.1.1.1, (y1.1.1.2.1, y1.1.1.2.2.1))])) * (24:Nat)) ≤ (140737488355328:Nat))) then
    (Option.bind (L ((m_1, ((), ((), (v29, ((Go.IntKind.wrap Go.IntKind.i64 (v30 + (1:Int))), ()))))), (((), ((), ())), ((o1 ++ [(y1.1.1.1, (y1.1.1.2.1, y1.1.1.2.2.1))]), (o2, (o3, ())))))) (fun y3 =>
    (some y3)))
   else
    none)))
  else
   (some (Sum.inl (((), ()), (o1, ())))))
theorem window_Slide.eq1 (g_window_Of : window_Of.sh.X → Option window_Of.osh.X) (g_window_between : window_between.sh.X → Option window_between.osh.X) (l0 : window_Slide.s0.X → Option (sumX window_Slide.x0)) (l1 : window_Slide.s1.X → Option (sumX window_Slide.x1)) (L : ((Int × Unit × Unit × Int × Int × Unit) × ((Unit × Unit × Unit) × (List (Int × (Int × Int))) × (List Int) × (List Int) × Unit)) → Option (((Unit × Unit) × ((List (Int × (Int × Int))) × Unit)) ⊕ Empty)) (x : ((Int × Unit × Unit × Int × Int × Unit) × ((Unit × Unit × Unit) × (List (Int × (Int × Int))) × (List Int) × (List Int) × Unit))) : (roundK (window_Slide.E g_window_Of g_window_between l0 l1) window_Slide.s1 [1, 6, 8, 29, 30] [(2, [8])] true (((mk window_Slide.hs window_Slide.c []).atoms.getD 1 .bad).body) window_Slide.x1 L x).run _ some = window_Slide.f1 g_window_between L x.1.1 x.1.2.2.2.1 x.1.2.2.2.2.1 x.2.2.1 x.2.2.2.1 x.2.2.2.2.1 := by
  show _ = (_ : Option _)
  kernel_rfl
noncomputable def window_Slide.L1 : ((Int × Unit × Unit × Int × Int × Unit) × ((Unit × Unit × Unit) × (List (Int × (Int × Int))) × (List Int) × (List Int) × Unit)) → Option (((Unit × Unit) × ((List (Int × (Int × Int))) × Unit)) ⊕ Empty) := loop fun L x => window_Slide.f1 window_between.F L x.1.1 x.1.2.2.2.1 x.1.2.2.2.2.1 x.2.2.1 x.2.2.2.1 x.2.2.2.2.1
def window_Slide.f (g_window_Of : (((List Int) × Unit) × (Unit)) → Option (((Unit × Unit × Unit) × Int × Unit) × ((List Int) × (List Int) × Unit))) (l0 : (((List Int) × Int × Unit × Unit) × ((Unit × Unit × Unit) × (List Int) × (List Int) × Unit)) → Option ((((List Int) × Int × Unit × Bool × Unit) × ((Unit × Unit × Unit) × (List Int) × (List Int) × Unit)) ⊕ Empty)) (l1 : ((Int × Unit × Unit × Int × Int × Unit) × ((Unit × Unit × Unit) × (List (Int × (Int × Int))) × (List Int) × (List Int) × Unit)) → Option (((Unit × Unit) × ((List (Int × (Int × Int))) × Unit)) ⊕ Empty)) (l : (List Int)) (m : Int) : Option ((Unit × Int × Unit) × ((List (Int × (Int × Int))) × Unit)) :=
  (Option.bind (g_window_Of ((l, ()), ())) (fun y0 =>
  (bif (y0.1.2.1 != (0:Int)) then
   (some (((), (y0.1.2.1, ())), (([] : List (Int × (Int × Int))), ())))
  else
   (Option.bind (l0 ((l, (m, ((), ()))), (((), ((), ())), (y0.2.1, (y0.2.2.1, ()))))) (fun y2 =>
   (Sum.elim (fun a3 =>
    (bif a3.1.2.2.2.1 then
     (some (((), ((8:Int), ())), (([] : List (Int × (Int × Int))), ())))
    else
     (Option.bind (l1 ((a3.1.2.1, ((), ((), ((Go.VI.mx (0:Int) (Go.IntKind.wrap Go.IntKind.i64 ((Go.IntKind.wrap Go.IntKind.i64 ((((List.length a3.1.1) : Nat) : Int) - a3.1.2.1)) + (1:Int)))), ((0:Int), ()))))), (((), ((), ())), (([] : List (Int × (Int × Int))), (a3.2.2.1, (a3.2.2.2.1, ())))))) (fun y5 =>
     (Sum.elim (fun a6 =>
      (some (((), ((0:Int), ())), (a6.2.1, ())))) (fun b6 =>
      (Empty.elim b6)) y5))))) (fun b3 =>
    (Empty.elim b3)) y2))))))
theorem window_Slide.eq (g_window_Of : window_Of.sh.X → Option window_Of.osh.X) (g_window_between : window_between.sh.X → Option window_between.osh.X) (l0 : window_Slide.s0.X → Option (sumX window_Slide.x0)) (l1 : window_Slide.s1.X → Option (sumX window_Slide.x1)) (x : (((List Int) × Int × Unit) × (Unit))) : (bodyO (window_Slide.E g_window_Of g_window_between l0 l1) (mk window_Slide.hs window_Slide.c []) Go.Proofs.Try.f22.results.toList window_Slide.sh window_Slide.osh x).run _ some = window_Slide.f g_window_Of l0 l1 x.1.1 x.1.2.1 := by
  show _ = (_ : Option _)
  kernel_rfl
noncomputable def window_Slide (l : (List Int)) (m : Int) : Option ((Unit × Int × Unit) × ((List (Int × (Int × Int))) × Unit)) := window_Slide.f window_Of.F window_Slide.L0 window_Slide.L1 l m
noncomputable def window_Slide.F (x : (((List Int) × Int × Unit) × (Unit))) : Option ((Unit × Int × Unit) × ((List (Int × (Int × Int))) × Unit)) := window_Slide x.1.1 x.1.2.1
theorem window_Slide.L0_eq (l_0 : (List Int)) (m_1 : Int) (o1 : List Int) (o2 : List Int) : window_Slide.L0 ((l_0, m_1, (), ()), (((), (), ()), o1, o2, ())) = window_Slide.f0 l_0 m_1 o1 o2 := rfl
theorem window_Slide.L1_eq (m_1 : Int) (v29 : Int) (v30 : Int) (o1 : List (Int × (Int × Int))) (o2 : List Int) (o3 : List Int) : window_Slide.L1 ((m_1, (), (), v29, v30, ()), (((), (), ()), o1, o2, o3, ())) = window_Slide.f1 window_between.F window_Slide.L1 m_1 v29 v30 o1 o2 o3 :=
  loop_eq (E := (window_Slide.E window_Of.F window_between.F window_Slide.L0 window_Slide.L1)) (sh := window_Slide.s1) (es := window_Slide.x1) (lp := true) (H := fun L x => window_Slide.eq1 window_Of.F window_between.F window_Slide.L0 window_Slide.L1 L x) ((m_1, (), (), v29, v30, ()), (((), (), ()), o1, o2, o3, ()))
theorem window_Slide.F_eq (l : (List Int)) (m : Int) : window_Slide.F ((l, m, ()), ()) = window_Slide.f window_Of.F window_Slide.L0 window_Slide.L1 l m := rfl
theorem window_Slide.ok {tabs : List (Nat × Go.Obj)} (ht : TabsOk tabs) : FOK Go.Proofs.Try.prog tabs 22 (FE.of [true, true] false window_Slide.sh window_Slide.osh window_Slide.F) := by
  refine fn_keeps (E := (window_Slide.E window_Of.F window_between.F window_Slide.L0 window_Slide.L1)) (c := window_Slide.c) (fn := Go.Proofs.Try.f22) (hs := window_Slide.hs) (by kernel_rfl) Go.Proofs.Try.func22 ⟨by kernel_rfl, by kernel_rfl, tb, by kernel_rfl, by kernel_rfl, by kernel_rfl, by kernel_rfl, by kernel_rfl⟩ ⟨fun g ks fe h => ?_, gt_ok ht⟩ ?_ (fun x => window_Slide.eq window_Of.F window_between.F window_Slide.L0 window_Slide.L1 x)
  · rcases c_cons h with ⟨rfl, rfl⟩ | h
    · exact window_Of.ok ht
    rcases c_cons h with ⟨rfl, rfl⟩ | h
    · exact window_between.ok ht
    cases h
  · refine known_at 2 (by kernel_rfl) fun i hi => ?_
    match i, hi with
    | 0, _ => exact atom_at (id := 0) (live := [0, 1, 6]) (outs := [(0, [0, 1, 6, 23])]) (loop := false) (by kernel_rfl) (cut_ok (E := (window_Slide.E window_Of.F window_between.F window_Slide.L0 window_Slide.L1)) (sh := window_Slide.s0) (es := window_Slide.x0) rfl (fun L x => window_Slide.eq0 window_Of.F window_between.F window_Slide.L0 window_Slide.L1 L x))
    | 1, _ => exact atom_at (id := 1) (live := [1, 6, 8, 29, 30]) (outs := [(2, [8])]) (loop := true) (by kernel_rfl) (loop_ok (E := (window_Slide.E window_Of.F window_between.F window_Slide.L0 window_Slide.L1)) (sh := window_Slide.s1) (es := window_Slide.x1) rfl (fun L x => window_Slide.eq1 window_Of.F window_between.F window_Slide.L0 window_Slide.L1 L x))
    | n + 2, h => exact absurd h (by omega)

/-! ref11_part -/
def ref11_part.f (s_Sum : (List Int)) (s_Square : (List Int)) (from_ : Int) (m : Int) : Option (((Int × Int × Int × Unit) × Unit) × (Unit)) :=
  (bif (decide ((0:Int) ≤ (Go.IntKind.wrap Go.IntKind.i64 (from_ + m)))) then
   (bif (decide ((Go.IntKind.wrap Go.IntKind.i64 (from_ + m)) < (((List.length s_Sum) : Nat) : Int))) then
    (bif (decide ((0:Int) ≤ from_)) then
     (bif (decide (from_ < (((List.length s_Sum) : Nat) : Int))) then
      (bif (decide ((0:Int) ≤ (Go.IntKind.wrap Go.IntKind.i64 (from_ + m)))) then
       (bif (decide ((Go.IntKind.wrap Go.IntKind.i64 (from_ + m)) < (((List.length s_Square) : Nat) : Int))) then
        (bif (decide ((0:Int) ≤ from_)) then
         (bif (decide (from_ < (((List.length s_Square) : Nat) : Int))) then
          (some (((m, ((Go.IntKind.wrap Go.IntKind.i64 ((List.getD s_Sum (Int.toNat (Go.IntKind.wrap Go.IntKind.i64 (from_ + m))) (0:Int)) - (List.getD s_Sum (Int.toNat from_) (0:Int)))), ((Go.IntKind.wrap Go.IntKind.i64 ((List.getD s_Square (Int.toNat (Go.IntKind.wrap Go.IntKind.i64 (from_ + m))) (0:Int)) - (List.getD s_Square (Int.toNat from_) (0:Int)))), ()))), ()), ()))
         else
          none)
        else
         none)
       else
        none)
      else
       none)
     else
      none)
    else
     none)
   else
    none)
  else
   none)
theorem ref11_part.eq (x : ((((List Int) × (List Int) × Unit) × Int × Int × Unit) × (Unit))) : (bodyO (ref11_part.E) (mk ref11_part.hs ref11_part.c []) Go.Proofs.Try.f38.results.toList ref11_part.sh ref11_part.osh x).run _ some = ref11_part.f x.1.1.1 x.1.1.2.1 x.1.2.1 x.1.2.2.1 := by
  show _ = (_ : Option _)
  kernel_rfl
noncomputable def ref11_part (s_Sum : (List Int)) (s_Square : (List Int)) (from_ : Int) (m : Int) : Option (((Int × Int × Int × Unit) × Unit) × (Unit)) := ref11_part.f s_Sum s_Square from_ m
noncomputable def ref11_part.F (x : ((((List Int) × (List Int) × Unit) × Int × Int × Unit) × (Unit))) : Option (((Int × Int × Int × Unit) × Unit) × (Unit)) := ref11_part x.1.1.1 x.1.1.2.1 x.1.2.1 x.1.2.2.1
theorem ref11_part.F_eq (s_Sum : (List Int)) (s_Square : (List Int)) (from_ : Int) (m : Int) : ref11_part.F (((s_Sum, s_Square, ()), from_, m, ()), ()) = ref11_part.f s_Sum s_Square from_ m := rfl
theorem ref11_part.ok {tabs : List (Nat × Go.Obj)} (ht : TabsOk tabs) : FOK Go.Proofs.Try.prog tabs 38 (FE.of [true, true, true] false ref11_part.sh ref11_part.osh ref11_part.F) := by
  refine fn_keeps (E := (ref11_part.E)) (c := ref11_part.c) (fn := Go.Proofs.Try.f38) (hs := ref11_part.hs) (by kernel_rfl) Go.Proofs.Try.func38 ⟨by kernel_rfl, by kernel_rfl, tb, by kernel_rfl, by kernel_rfl, by kernel_rfl, by kernel_rfl, by kernel_rfl⟩ ⟨fun g ks fe h => ?_, gt_ok ht⟩ ?_ (fun x => ref11_part.eq x)
  · cases h
  · exact known_at 0 (by kernel_rfl) fun i hi => absurd hi (Nat.not_lt_zero i)

/-! ref11_Slide -/
def ref11_Slide.f0 (l_0 : (List Int)) (m_1 : Int) (o1 : List Int) (o2 : List Int) : Option ((((List Int) × Int × Unit × Bool × Unit) × ((Unit × Unit × Unit) × (List Int) × (List Int) × Unit)) ⊕ Empty) :=
  (bif (decide (m_1 < (2:Int))) then
   (some (Sum.inl ((l_0, (m_1, ((), (Bool.true, ())))), (((), ((), ())), (o1, (o2, ()))))))
  else
   (some (Sum.inl ((l_0, (m_1, ((), ((decide (m_1 > (32:Int))), ())))), (((), ((), ())), (o1, (o2, ())))))))
theorem ref11_Slide.eq0 (g_ref11_Of : ref11_Of.sh.X → Option ref11_Of.osh.X) (g_ref11_part : ref11_part.sh.X → Option ref11_part.osh.X) (l0 : ref11_Slide.s0.X → Option (sumX ref11_Slide.x0)) (l1 : ref11_Slide.s1.X → Option (sumX ref11_Slide.x1)) (L : (((List Int) × Int × Unit × Unit) × ((Unit × Unit × Unit) × (List Int) × (List Int) × Unit)) → Option ((((List Int) × Int × Unit × Bool × Unit) × ((Unit × Unit × Unit) × (List Int) × (List Int) × Unit)) ⊕ Empty)) (x : (((List Int) × Int × Unit × Unit) × ((Unit × Unit × Unit) × (List Int) × (List Int) × Unit))) : (roundK (ref11_Slide.E g_ref11_Of g_ref11_part l0 l1) ref11_Slide.s0 [0, 1, 6] [(0, [0, 1, 6, 23])] false (((mk ref11_Slide.hs ref11_Slide.c []).atoms.getD 0 .bad).body) ref11_Slide.x0 L x).run _ some = ref11_Slide.f0 x.1.1 x.1.2.1 x.2.2.1 x.2.2.2.1 := by
  show _ = (_ : Option _)
  kernel_rfl
noncomputable def ref11_Slide.L0 : (((List Int) × Int × Unit × Unit) × ((Unit × Unit × Unit) × (List Int) × (List Int) × Unit)) → Option ((((List Int) × Int × Unit × Bool × Unit) × ((Unit × Unit × Unit) × (List Int) × (List Int) × Unit)) ⊕ Empty) := fun x => ref11_Slide.f0 x.1.1 x.1.2.1 x.2.2.1 x.2.2.2.1
def ref11_Slide.f1 (g_ref11_part : ((((List Int) × (List Int) × Unit) × Int × Int × Unit) × (Unit)) → Option (((Int × Int × Int × Unit) × Unit) × (Unit))) (L : (((List Int) × Int × Unit × Unit × Int × Unit) × ((Unit × Unit × Unit) × (List (Int × (Int × Int))) × (List Int) × (List Int) × Unit)) → Option (((Unit × Unit) × ((List (Int × (Int × Int))) × Unit)) ⊕ Empty)) (l_0 : (List Int)) (m_1 : Int) (i_9 : Int) (o1 : List (Int × (Int × Int))) (o2 : List Int) (o3 : List Int) : Option (((Unit × Unit) × ((List (Int × (Int × Int))) × Unit)) ⊕ Empty) :=
  (bif (decide ((Go.IntKind.wrap Go.IntKind.i64 (i_9 + m_1)) ≤ (((List.length l_0) : Nat) : Int))) then
   (Option.bind (g_ref11_part (((o2, (o3, ())), (i_9, (m_1, ()))), ())) (fun y1 =>
   (bif (decide ((((List.length o1) + (List.length [(y1.1.1.1, (y1.1.1.2.1, y1.1.1.2.2.1))])) * (24:Nat)) ≤ (140737488355328:Nat))) then
    (Option.bind (L ((l_0, (m_1, ((), ((), ((Go.IntKind.wrap Go.IntKind.i64 (i_9 + (1:Int))), ()))))), (((), ((), ())), ((o1 ++ [(y1.1.1.1, (y1.1.1.2.1, y1.1.1.2.2.1))]), (o2, (o3, ())))))) (fun y3 =>
    (some y3)))
   else
    none)))
  else
   (some (Sum.inl (((), ()), (o1, ())))))
theorem ref11_Slide.eq1 (g_ref11_Of : ref11_Of.sh.X → Option ref11_Of.osh.X) (g_ref11_part : ref11_part.sh.X → Option ref11_part.osh.X) (l0 : ref11_Slide.s0.X → Option (sumX ref11_Slide.x0)) (l1 : ref11_Slide.s1.X → Option (sumX ref11_Slide.x1)) (L : (((List Int) × Int × Unit × Unit × Int × Unit) × ((Unit × Unit × Unit) × (List (Int × (Int × Int))) × (List Int) × (List Int) × Unit)) → Option (((Unit × Unit) × ((List (Int × (Int × Int))) × Unit)) ⊕ Empty)) (x : (((List Int) × Int × Unit × Unit × Int × Unit) × ((Unit × Unit × Unit) × (List (Int × (Int × Int))) × (List Int) × (List Int) × Unit))) : (roundK (ref11_Slide.E g_ref11_Of g_ref11_part l0 l1) ref11_Slide.s1 [0, 1, 6, 8, 9] [(2, [8])] true (((mk ref11_Slide.hs ref11_Slide.c []).atoms.getD 1 .bad).body) ref11_Slide.x1 L x).run _ some = ref11_Slide.f1 g_ref11_part L x.1.1 x.1.2.1 x.1.2.2.2.2.1 x.2.2.1 x.2.2.2.1 x.2.2.2.2.1 := by
  show _ = (_ : Option _)
  kernel_rfl
noncomputable def ref11_Slide.L1 : (((List Int) × Int × Unit × Unit × Int × Unit) × ((Unit × Unit × Unit) × (List (Int × (Int × Int))) × (List Int) × (List Int) × Unit)) → Option (((Unit × Unit) × ((List (Int × (Int × Int))) × Unit)) ⊕ Empty) := loop fun L x => ref11_Slide.f1 ref11_part.F L x.1.1 x.1.2.1 x.1.2.2.2.2.1 x.2.2.1 x.2.2.2.1 x.2.2.2.2.1
def ref11_Slide.f (g_ref11_Of : (((List Int) × Unit) × (Unit)) → Option (((Unit × Unit × Unit) × Int × Unit) × ((List Int) × (List Int) × Unit))) (l0 : (((List Int) × Int × Unit × Unit) × ((Unit × Unit × Unit) × (List Int) × (List Int) × Unit)) → Option ((((List Int) × Int × Unit × Bool × Unit) × ((Unit × Unit × Unit) × (List Int) × (List Int) × Unit)) ⊕ Empty)) (l1 : (((List Int) × Int × Unit × Unit × Int × Unit) × ((Unit × Unit × Unit) × (List (Int × (Int × Int))) × (List Int) × (List Int) × Unit)) → Option (((Unit × Unit) × ((List (Int × (Int × Int))) × Unit)) ⊕ Empty)) (l : (List Int)) (m : Int) : Option ((Unit × Int × Unit) × ((List (Int × (Int × Int))) × Unit)) :=
  (Option.bind (g_ref11_Of ((l, ()), ())) (fun y0 =>
  (bif (y0.1.2.1 != (0:Int)) then
   (some (((), (y0.1.2.1, ())), (([] : List (Int × (Int × Int))), ())))
  else
   (Option.bind (l0 ((l, (m, ((), ()))), (((), ((), ())), (y0.2.1, (y0.2.2.1, ()))))) (fun y2 =>
   (Sum.elim (fun a3 =>
    (bif a3.1.2.2.2.1 then
     (some (((), ((8:Int), ())), (([] : List (Int × (Int × Int))), ())))
    else
     (Option.bind (l1 ((a3.1.1, (a3.1.2.1, ((), ((), ((0:Int), ()))))), (((), ((), ())), (([] : List (Int × (Int × Int))), (a3.2.2.1, (a3.2.2.2.1, ())))))) (fun y5 =>
     (Sum.elim (fun a6 =>
      (some (((), ((0:Int), ())), (a6.2.1, ())))) (fun b6 =>
      (Empty.elim b6)) y5))))) (fun b3 =>
    (Empty.elim b3)) y2))))))
theorem ref11_Slide.eq (g_ref11_Of : ref11_Of.sh.X → Option ref11_Of.osh.X) (g_ref11_part : ref11_part.sh.X → Option ref11_part.osh.X) (l0 : ref11_Slide.s0.X → Option (sumX ref11_Slide.x0)) (l1 : ref11_Slide.s1.X → Option (sumX ref11_Slide.x1)) (x : (((List Int) × Int × Unit) × (Unit))) : (bodyO (ref11_Slide.E g_ref11_Of g_ref11_part l0 l1) (mk ref11_Slide.hs ref11_Slide.c []) Go.Proofs.Try.f23.results.toList ref11_Slide.sh ref11_Slide.osh x).run _ some = ref11_Slide.f g_ref11_Of l0 l1 x.1.1 x.1.2.1 := by
  show _ = (_ : Option _)
  kernel_rfl
noncomputable def ref11_Slide (l : (List Int)) (m : Int) : Option ((Unit × Int × Unit) × ((List (Int × (Int × Int))) × Unit)) := ref11_Slide.f ref11_Of.F ref11_Slide.L0 ref11_Slide.L1 l m
noncomputable def ref11_Slide.F (x : (((List Int) × Int × Unit) × (Unit))) : Option ((Unit × Int × Unit) × ((List (Int × (Int × Int))) × Unit)) := ref11_Slide x.1.1 x.1.2.1
theorem ref11_Slide.L0_eq (l_0 : (List Int)) (m_1 : Int) (o1 : List Int) (o2 : List Int) : ref11_Slide.L0 ((l_0, m_1, (), ()), (((), (), ()), o1, o2, ())) = ref11_Slide.f0 l_0 m_1 o1 o2 := rfl
theorem ref11_Slide.L1_eq (l_0 : (List Int)) (m_1 : Int) (i_9 : Int) (o1 : List (Int × (Int × Int))) (o2 : List Int) (o3 : List Int) : ref11_Slide.L1 ((l_0, m_1, (), (), i_9, ()), (((), (), ()), o1, o2, o3, ())) = ref11_Slide.f1 ref11_part.F ref11_Slide.L1 l_0 m_1 i_9 o1 o2 o3 :=
  loop_eq (E := (ref11_Slide.E ref11_Of.F ref11_part.F ref11_Slide.L0 ref11_Slide.L1)) (sh := ref11_Slide.s1) (es := ref11_Slide.x1) (lp := true) (H := fun L x => ref11_Slide.eq1 ref11_Of.F ref11_part.F ref11_Slide.L0 ref11_Slide.L1 L x) ((l_0, m_1, (), (), i_9, ()), (((), (), ()), o1, o2, o3, ()))
theorem ref11_Slide.F_eq (l : (List Int)) (m : Int) : ref11_Slide.F ((l, m, ()), ()) = ref11_Slide.f ref11_Of.F ref11_Slide.L0 ref11_Slide.L1 l m := rfl
theorem ref11_Slide.ok {tabs : List (Nat × Go.Obj)} (ht : TabsOk tabs) : FOK Go.Proofs.Try.prog tabs 23 (FE.of [true, true] false ref11_Slide.sh ref11_Slide.osh ref11_Slide.F) := by
  refine fn_keeps (E := (ref11_Slide.E ref11_Of.F ref11_part.F ref11_Slide.L0 ref11_Slide.L1)) (c := ref11_Slide.c) (fn := Go.Proofs.Try.f23) (hs := ref11_Slide.hs) (by kernel_rfl) Go.Proofs.Try.func23 ⟨by kernel_rfl, by kernel_rfl, tb, by kernel_rfl, by kernel_rfl, by kernel_rfl, by kernel_rfl, by kernel_rfl⟩ ⟨fun g ks fe h => ?_, gt_ok ht⟩ ?_ (fun x => ref11_Slide.eq ref11_Of.F ref11_part.F ref11_Slide.L0 ref11_Slide.L1 x)
  · rcases c_cons h with ⟨rfl, rfl⟩ | h
    · exact ref11_Of.ok ht
    rcases c_cons h with ⟨rfl, rfl⟩ | h
    · exact ref11_part.ok ht
    cases h
  · refine known_at 2 (by kernel_rfl) fun i hi => ?_
    match i, hi with
    | 0, _ => exact atom_at (id := 0) (live := [0, 1, 6]) (outs := [(0, [0, 1, 6, 23])]) (loop := false) (by kernel_rfl) (cut_ok (E := (ref11_Slide.E ref11_Of.F ref11_part.F ref11_Slide.L0 ref11_Slide.L1)) (sh := ref11_Slide.s0) (es := ref11_Slide.x0) rfl (fun L x => ref11_Slide.eq0 ref11_Of.F ref11_part.F ref11_Slide.L0 ref11_Slide.L1 L x))
    | 1, _ => exact atom_at (id := 1) (live := [0, 1, 6, 8, 9]) (outs := [(2, [8])]) (loop := true) (by kernel_rfl) (loop_ok (E := (ref11_Slide.E ref11_Of.F ref11_part.F ref11_Slide.L0 ref11_Slide.L1)) (sh := ref11_Slide.s1) (es := ref11_Slide.x1) rfl (fun L x => ref11_Slide.eq1 ref11_Of.F ref11_part.F ref11_Slide.L0 ref11_Slide.L1 L x))
    | n + 2, h => exact absurd h (by omega)

/-! law11_slides -/
def law11_slides.f0 (L : (((List (Int × (Int × Int))) × (List (Int × (Int × Int))) × Int × Int × Unit) × (Unit)) → Option (((Unit) × (Unit)) ⊕ ((Bool × Unit) × (Unit)) ⊕ Empty)) (a_0 : (List (Int × (Int × Int)))) (b_1 : (List (Int × (Int × Int)))) (v12 : Int) (v13 : Int) : Option (((Unit) × (Unit)) ⊕ ((Bool × Unit) × (Unit)) ⊕ Empty) :=
  (bif (decide (v13 < v12)) then
   (bif (decide ((0:Int) ≤ v13)) then
    (bif (decide (v13 < (((List.length a_0) : Nat) : Int))) then
     (bif (decide ((0:Int) ≤ v13)) then
      (bif (decide (v13 < (((List.length b_1) : Nat) : Int))) then
       (bif (!(((List.getD a_0 (Int.toNat v13) ((0:Int), ((0:Int), (0:Int)))).1 == (List.getD b_1 (Int.toNat v13) ((0:Int), ((0:Int), (0:Int)))).1) && (((List.getD a_0 (Int.toNat v13) ((0:Int), ((0:Int), (0:Int)))).2.1 == (List.getD b_1 (Int.toNat v13) ((0:Int), ((0:Int), (0:Int)))).2.1) && (((List.getD a_0 (Int.toNat v13) ((0:Int), ((0:Int), (0:Int)))).2.2 == (List.getD b_1 (Int.toNat v13) ((0:Int), ((0:Int), (0:Int)))).2.2) && Bool.true)))) then
        (some (Sum.inr (Sum.inl ((Bool.false, ()), ()))))
       else
        (Option.bind (L ((a_0, (b_1, (v12, ((Go.IntKind.wrap Go.IntKind.i64 (v13 + (1:Int))), ())))), ())) (fun y6 =>
        (some y6))))
      else
       none)
     else
      none)
    else
     none)
   else
    none)
  else
   (some (Sum.inl ((), ()))))
theorem law11_slides.eq0 (l0 : law11_slides.s0.X → Option (sumX law11_slides.x0)) (L : (((List (Int × (Int × Int))) × (List (Int × (Int × Int))) × Int × Int × Unit) × (Unit)) → Option (((Unit) × (Unit)) ⊕ ((Bool × Unit) × (Unit)) ⊕ Empty)) (x : (((List (Int × (Int × Int))) × (List (Int × (Int × Int))) × Int × Int × Unit) × (Unit))) : (roundK (law11_slides.E l0) law11_slides.s0 [0, 1, 12, 13] [(2, []), (1, [4])] true (((mk law11_slides.hs law11_slides.c []).atoms.getD 0 .bad).body) law11_slides.x0 L x).run _ some = law11_slides.f0 L x.1.1 x.1.2.1 x.1.2.2.1 x.1.2.2.2.1 := by
  show _ = (_ : Option _)
  kernel_rfl
noncomputable def law11_slides.L0 : (((List (Int × (Int × Int))) × (List (Int × (Int × Int))) × Int × Int × Unit) × (Unit)) → Option (((Unit) × (Unit)) ⊕ ((Bool × Unit) × (Unit)) ⊕ Empty) := loop fun L x => law11_slides.f0 L x.1.1 x.1.2.1 x.1.2.2.1 x.1.2.2.2.1
def law11_slides.f (l0 : (((List (Int × (Int × Int))) × (List (Int × (Int × Int))) × Int × Int × Unit) × (Unit)) → Option (((Unit) × (Unit)) ⊕ ((Bool × Unit) × (Unit)) ⊕ Empty)) (a : (List (Int × (Int × Int)))) (b : (List (Int × (Int × Int)))) : Option ((Bool × Unit) × (Unit)) :=
  (bif ((((List.length a) : Nat) : Int) != (((List.length b) : Nat) : Int)) then
   (some ((Bool.false, ()), ()))
  else
   (Option.bind (l0 ((a, (b, ((((List.length a) : Nat) : Int), ((0:Int), ())))), ())) (fun y1 =>
   (Sum.elim (fun a2 =>
    (some ((Bool.true, ()), ()))) (fun b2 =>
    (Sum.elim (fun a3 =>
     (some ((a3.1.1, ()), ()))) (fun b3 =>
     (Empty.elim b3)) b2)) y1))))
theorem law11_slides.eq (l0 : law11_slides.s0.X → Option (sumX law11_slides.x0)) (x : (((List (Int × (Int × Int))) × (List (Int × (Int × Int))) × Unit) × (Unit))) : (bodyO (law11_slides.E l0) (mk law11_slides.hs law11_slides.c []) Go.Proofs.Try.f24.results.toList law11_slides.sh law11_slides.osh x).run _ some = law11_slides.f l0 x.1.1 x.1.2.1 := by
  show _ = (_ : Option _)
  kernel_rfl
noncomputable def law11_slides (a : (List (Int × (Int × Int)))) (b : (List (Int × (Int × Int)))) : Option ((Bool × Unit) × (Unit)) := law11_slides.f law11_slides.L0 a b
noncomputable def law11_slides.F (x : (((List (Int × (Int × Int))) × (List (Int × (Int × Int))) × Unit) × (Unit))) : Option ((Bool × Unit) × (Unit)) := law11_slides x.1.1 x.1.2.1
theorem law11_slides.L0_eq (a_0 : (List (Int × (Int × Int)))) (b_1 : (List (Int × (Int × Int)))) (v12 : Int) (v13 : Int) : law11_slides.L0 ((a_0, b_1, v12, v13, ()), ()) = law11_slides.f0 law11_slides.L0 a_0 b_1 v12 v13 :=
  loop_eq (E := (law11_slides.E law11_slides.L0)) (sh := law11_slides.s0) (es := law11_slides.x0) (lp := true) (H := fun L x => law11_slides.eq0 law11_slides.L0 L x) ((a_0, b_1, v12, v13, ()), ())
theorem law11_slides.F_eq (a : (List (Int × (Int × Int)))) (b : (List (Int × (Int × Int)))) : law11_slides.F ((a, b, ()), ()) = law11_slides.f law11_slides.L0 a b := rfl
theorem law11_slides.ok {tabs : List (Nat × Go.Obj)} (ht : TabsOk tabs) : FOK Go.Proofs.Try.prog tabs 24 (FE.of [true, true] false law11_slides.sh law11_slides.osh law11_slides.F) := by
  refine fn_keeps (E := (law11_slides.E law11_slides.L0)) (c := law11_slides.c) (fn := Go.Proofs.Try.f24) (hs := law11_slides.hs) (by kernel_rfl) Go.Proofs.Try.func24 ⟨by kernel_rfl, by kernel_rfl, tb, by kernel_rfl, by kernel_rfl, by kernel_rfl, by kernel_rfl, by kernel_rfl⟩ ⟨fun g ks fe h => ?_, gt_ok ht⟩ ?_ (fun x => law11_slides.eq law11_slides.L0 x)
  · cases h
  · refine known_at 1 (by kernel_rfl) fun i hi => ?_
    match i, hi with
    | 0, _ => exact atom_at (id := 0) (live := [0, 1, 12, 13]) (outs := [(2, []), (1, [4])]) (loop := true) (by kernel_rfl) (loop_ok (E := (law11_slides.E law11_slides.L0)) (sh := law11_slides.s0) (es := law11_slides.x0) rfl (fun L x => law11_slides.eq0 law11_slides.L0 L x))
    | n + 1, h => exact absurd h (by omega)

/-! ref11_Valid -/
def ref11_Valid.f0 (o0_0 : (List Int)) (o0_1 : (List Int)) : Option (((Unit × Bool × Unit) × (((List Int) × (List Int) × Unit) × Unit)) ⊕ Empty) :=
  (bif (decide ((((List.length o0_0) : Nat) : Int) < (1:Int))) then
   (some (Sum.inl (((), (Bool.true, ())), ((o0_0, (o0_1, ())), ()))))
  else
   (bif (decide ((((List.length o0_0) : Nat) : Int) > (2001:Int))) then
    (some (Sum.inl (((), (Bool.true, ())), ((o0_0, (o0_1, ())), ()))))
   else
    (some (Sum.inl (((), (((((List.length o0_1) : Nat) : Int) != (((List.length o0_0) : Nat) : Int)), ())), ((o0_0, (o0_1, ())), ()))))))
theorem ref11_Valid.eq0 (g_ref11_Of : ref11_Of.sh.X → Option ref11_Of.osh.X) (g_ref11_Same : ref11_Same.sh.X → Option ref11_Same.osh.X) (l0 : ref11_Valid.s0.X → Option (sumX ref11_Valid.x0)) (l1 : ref11_Valid.s1.X → Option (sumX ref11_Valid.x1)) (l2 : ref11_Valid.s2.X → Option (sumX ref11_Valid.x2)) (L : ((Unit × Unit) × (((List Int) × (List Int) × Unit) × Unit)) → Option (((Unit × Bool × Unit) × (((List Int) × (List Int) × Unit) × Unit)) ⊕ Empty)) (x : ((Unit × Unit) × (((List Int) × (List Int) × Unit) × Unit))) : (roundK (ref11_Valid.E g_ref11_Of g_ref11_Same l0 l1 l2) ref11_Valid.s0 [1] [(0, [1, 25])] false (((mk ref11_Valid.hs ref11_Valid.c []).atoms.getD 0 .bad).body) ref11_Valid.x0 L x).run _ some = ref11_Valid.f0 x.2.1.1 x.2.1.2.1 := by
  show _ = (_ : Option _)
  kernel_rfl
noncomputable def ref11_Valid.L0 : ((Unit × Unit) × (((List Int) × (List Int) × Unit) × Unit)) → Option (((Unit × Bool × Unit) × (((List Int) × (List Int) × Unit) × Unit)) ⊕ Empty) := fun x => ref11_Valid.f0 x.2.1.1 x.2.1.2.1
def ref11_Valid.f2 (i_4 : Int) (v28 : Int) (v29 : Int) (o0_0 : (List Int)) (o0_1 : (List Int)) (o1 : List Int) : Option (((Unit × Unit × Int × Int × Int × Bool × Unit) × (((List Int) × (List Int) × Unit) × (List Int) × Unit)) ⊕ Empty) :=
  (bif (decide ((0:Int) ≤ i_4)) then
   (bif (decide (i_4 < (((List.length o0_0) : Nat) : Int))) then
    (bif (decide ((List.getD o0_0 (Int.toNat i_4) (0:Int)) < (-(2000000:Int)))) then
     (some (Sum.inl (((), ((), (i_4, (v28, (v29, (Bool.true, ())))))), ((o0_0, (o0_1, ())), (o1, ())))))
    else
     (bif (decide ((0:Int) ≤ i_4)) then
      (bif (decide (i_4 < (((List.length o0_0) : Nat) : Int))) then
       (some (Sum.inl (((), ((), (i_4, (v28, (v29, ((decide ((List.getD o0_0 (Int.toNat i_4) (0:Int)) > (2000000:Int))), ())))))), ((o0_0, (o0_1, ())), (o1, ())))))
      else
       none)
     else
      none))
   else
    none)
  else
   none)
theorem ref11_Valid.eq2 (g_ref11_Of : ref11_Of.sh.X → Option ref11_Of.osh.X) (g_ref11_Same : ref11_Same.sh.X → Option ref11_Same.osh.X) (l0 : ref11_Valid.s0.X → Option (sumX ref11_Valid.x0)) (l1 : ref11_Valid.s1.X → Option (sumX ref11_Valid.x1)) (l2 : ref11_Valid.s2.X → Option (sumX ref11_Valid.x2)) (L : ((Unit × Unit × Int × Int × Int × Unit) × (((List Int) × (List Int) × Unit) × (List Int) × Unit)) → Option (((Unit × Unit × Int × Int × Int × Bool × Unit) × (((List Int) × (List Int) × Unit) × (List Int) × Unit)) ⊕ Empty)) (x : ((Unit × Unit × Int × Int × Int × Unit) × (((List Int) × (List Int) × Unit) × (List Int) × Unit))) : (roundK (ref11_Valid.E g_ref11_Of g_ref11_Same l0 l1 l2) ref11_Valid.s2 [1, 3, 4, 28, 29] [(0, [1, 3, 4, 28, 29, 45])] false (((mk ref11_Valid.hs ref11_Valid.c []).atoms.getD 2 .bad).body) ref11_Valid.x2 L x).run _ some = ref11_Valid.f2 x.1.2.2.1 x.1.2.2.2.1 x.1.2.2.2.2.1 x.2.1.1 x.2.1.2.1 x.2.2.1 := by
  show _ = (_ : Option _)
  kernel_rfl
noncomputable def ref11_Valid.L2 : ((Unit × Unit × Int × Int × Int × Unit) × (((List Int) × (List Int) × Unit) × (List Int) × Unit)) → Option (((Unit × Unit × Int × Int × Int × Bool × Unit) × (((List Int) × (List Int) × Unit) × (List Int) × Unit)) ⊕ Empty) := fun x => ref11_Valid.f2 x.1.2.2.1 x.1.2.2.2.1 x.1.2.2.2.2.1 x.2.1.1 x.2.1.2.1 x.2.2.1
def ref11_Valid.f1 (l2 : ((Unit × Unit × Int × Int × Int × Unit) × (((List Int) × (List Int) × Unit) × (List Int) × Unit)) → Option (((Unit × Unit × Int × Int × Int × Bool × Unit) × (((List Int) × (List Int) × Unit) × (List Int) × Unit)) ⊕ Empty)) (L : ((Unit × Unit × Int × Int × Unit) × (((List Int) × (List Int) × Unit) × (List Int) × Unit)) → Option (((Unit × Unit × Unit) × (((List Int) × (List Int) × Unit) × (List Int) × Unit)) ⊕ ((Bool × Unit) × (Unit)) ⊕ Empty)) (v28 : Int) (v29 : Int) (o0_0 : (List Int)) (o0_1 : (List Int)) (o1 : List Int) : Option (((Unit × Unit × Unit) × (((List Int) × (List Int) × Unit) × (List Int) × Unit)) ⊕ ((Bool × Unit) × (Unit)) ⊕ Empty) :=
  (bif (decide (v29 < v28)) then
   (Option.bind (l2 (((), ((), (v29, (v28, (v29, ()))))), ((o0_0, (o0_1, ())), (o1, ())))) (fun y1 =>
   (Sum.elim (fun a2 =>
    (bif a2.1.2.2.2.2.2.1 then
     (some (Sum.inr (Sum.inl ((Bool.false, ()), ()))))
    else
     (bif (decide (a2.1.2.2.1 > (0:Int))) then
      (bif (decide ((0:Int) ≤ a2.1.2.2.1)) then
       (bif (decide (a2.1.2.2.1 < (((List.length a2.2.1.1) : Nat) : Int))) then
        (bif (decide ((0:Int) ≤ (Go.IntKind.wrap Go.IntKind.i64 (a2.1.2.2.1 - (1:Int))))) then
         (bif (decide ((Go.IntKind.wrap Go.IntKind.i64 (a2.1.2.2.1 - (1:Int))) < (((List.length a2.2.1.1) : Nat) : Int))) then
          (bif (decide ((((List.length a2.2.2.1) + (List.length [(Go.IntKind.wrap Go.IntKind.i64 ((List.getD a2.2.1.1 (Int.toNat a2.1.2.2.1) (0:Int)) - (List.getD a2.2.1.1 (Int.toNat (Go.IntKind.wrap Go.IntKind.i64 (a2.1.2.2.1 - (1:Int)))) (0:Int))))])) * (8:Nat)) ≤ (140737488355328:Nat))) then
           (Option.bind (L (((), ((), (a2.1.2.2.2.1, ((Go.IntKind.wrap Go.IntKind.i64 (a2.1.2.2.2.2.1 + (1:Int))), ())))), ((a2.2.1.1, (a2.2.1.2.1, ())), ((a2.2.2.1 ++ [(Go.IntKind.wrap Go.IntKind.i64 ((List.getD a2.2.1.1 (Int.toNat a2.1.2.2.1) (0:Int)) - (List.getD a2.2.1.1 (Int.toNat (Go.IntKind.wrap Go.IntKind.i64 (a2.1.2.2.1 - (1:Int)))) (0:Int))))]), ())))) (fun y10 =>
           (some y10)))
          else
           none)
         else
          none)
        else
         none)
       else
        none)
      else
       none)
     else
      (Option.bind (L (((), ((), (a2.1.2.2.2.1, ((Go.IntKind.wrap Go.IntKind.i64 (a2.1.2.2.2.2.1 + (1:Int))), ())))), ((a2.2.1.1, (a2.2.1.2.1, ())), (a2.2.2.1, ())))) (fun y5 =>
      (some y5)))))) (fun b2 =>
    (Empty.elim b2)) y1)))
  else
   (some (Sum.inl (((), ((), ())), ((o0_0, (o0_1, ())), (o1, ()))))))
theorem ref11_Valid.eq1 (g_ref11_Of : ref11_Of.sh.X → Option ref11_Of.osh.X) (g_ref11_Same : ref11_Same.sh.X → Option ref11_Same.osh.X) (l0 : ref11_Valid.s0.X → Option (sumX ref11_Valid.x0)) (l1 : ref11_Valid.s1.X → Option (sumX ref11_Valid.x1)) (l2 : ref11_Valid.s2.X → Option (sumX ref11_Valid.x2)) (L : ((Unit × Unit × Int × Int × Unit) × (((List Int) × (List Int) × Unit) × (List Int) × Unit)) → Option (((Unit × Unit × Unit) × (((List Int) × (List Int) × Unit) × (List Int) × Unit)) ⊕ ((Bool × Unit) × (Unit)) ⊕ Empty)) (x : ((Unit × Unit × Int × Int × Unit) × (((List Int) × (List Int) × Unit) × (List Int) × Unit))) : (roundK (ref11_Valid.E g_ref11_Of g_ref11_Same l0 l1 l2) ref11_Valid.s1 [1, 3, 28, 29] [(2, [1, 3]), (1, [2])] true (((mk ref11_Valid.hs ref11_Valid.c []).atoms.getD 1 .bad).body) ref11_Valid.x1 L x).run _ some = ref11_Valid.f1 l2 L x.1.2.2.1 x.1.2.2.2.1 x.2.1.1 x.2.1.2.1 x.2.2.1 := by
  show _ = (_ : Option _)
  kernel_rfl
noncomputable def ref11_Valid.L1 : ((Unit × Unit × Int × Int × Unit) × (((List Int) × (List Int) × Unit) × (List Int) × Unit)) → Option (((Unit × Unit × Unit) × (((List Int) × (List Int) × Unit) × (List Int) × Unit)) ⊕ ((Bool × Unit) × (Unit)) ⊕ Empty) := loop fun L x => ref11_Valid.f1 ref11_Valid.L2 L x.1.2.2.1 x.1.2.2.2.1 x.2.1.1 x.2.1.2.1 x.2.2.1
def ref11_Valid.f (g_ref11_Of : (((List Int) × Unit) × (Unit)) → Option (((Unit × Unit × Unit) × Int × Unit) × ((List Int) × (List Int) × Unit))) (g_ref11_Same : ((((List Int) × (List Int) × Unit) × ((List Int) × (List Int) × Unit) × Unit) × (Unit)) → Option ((Bool × Unit) × (Unit))) (l0 : ((Unit × Unit) × (((List Int) × (List Int) × Unit) × Unit)) → Option (((Unit × Bool × Unit) × (((List Int) × (List Int) × Unit) × Unit)) ⊕ Empty)) (l1 : ((Unit × Unit × Int × Int × Unit) × (((List Int) × (List Int) × Unit) × (List Int) × Unit)) → Option (((Unit × Unit × Unit) × (((List Int) × (List Int) × Unit) × (List Int) × Unit)) ⊕ ((Bool × Unit) × (Unit)) ⊕ Empty)) (s_Sum : (List Int)) (s_Square : (List Int)) : Option ((Bool × Unit) × (Unit)) :=
  (Option.bind (l0 (((), ()), ((s_Sum, (s_Square, ())), ()))) (fun y0 =>
  (Sum.elim (fun a1 =>
   (bif a1.1.2.1 then
    (some ((Bool.false, ()), ()))
   else
    (Option.bind (l1 (((), ((), ((((List.length a1.2.1.1) : Nat) : Int), ((0:Int), ())))), ((a1.2.1.1, (a1.2.1.2.1, ())), (([] : List Int), ())))) (fun y3 =>
    (Sum.elim (fun a4 =>
     (Option.bind (g_ref11_Of ((a4.2.2.1, ()), ())) (fun y5 =>
     (bif (y5.1.2.1 == (0:Int)) then
      (Option.bind (g_ref11_Same (((a4.2.1.1, (a4.2.1.2.1, ())), ((y5.2.1, (y5.2.2.1, ())), ())), ())) (fun y7 =>
      (some ((y7.1.1, ()), ()))))
     else
      (some ((Bool.false, ()), ())))))) (fun b4 =>
     (Sum.elim (fun a5 =>
      (some ((a5.1.1, ()), ()))) (fun b5 =>
      (Empty.elim b5)) b4)) y3))))) (fun b1 =>
   (Empty.elim b1)) y0)))
theorem ref11_Valid.eq (g_ref11_Of : ref11_Of.sh.X → Option ref11_Of.osh.X) (g_ref11_Same : ref11_Same.sh.X → Option ref11_Same.osh.X) (l0 : ref11_Valid.s0.X → Option (sumX ref11_Valid.x0)) (l1 : ref11_Valid.s1.X → Option (sumX ref11_Valid.x1)) (l2 : ref11_Valid.s2.X → Option (sumX ref11_Valid.x2)) (x : ((((List Int) × (List Int) × Unit) × Unit) × (Unit))) : (bodyO (ref11_Valid.E g_ref11_Of g_ref11_Same l0 l1 l2) (mk ref11_Valid.hs ref11_Valid.c []) Go.Proofs.Try.f39.results.toList ref11_Valid.sh ref11_Valid.osh x).run _ some = ref11_Valid.f g_ref11_Of g_ref11_Same l0 l1 x.1.1.1 x.1.1.2.1 := by
  show _ = (_ : Option _)
  kernel_rfl
noncomputable def ref11_Valid (s_Sum : (List Int)) (s_Square : (List Int)) : Option ((Bool × Unit) × (Unit)) := ref11_Valid.f ref11_Of.F ref11_Same.F ref11_Valid.L0 ref11_Valid.L1 s_Sum s_Square
noncomputable def ref11_Valid.F (x : ((((List Int) × (List Int) × Unit) × Unit) × (Unit))) : Option ((Bool × Unit) × (Unit)) := ref11_Valid x.1.1.1 x.1.1.2.1
theorem ref11_Valid.L0_eq (o0_0 : (List Int)) (o0_1 : (List Int)) : ref11_Valid.L0 (((), ()), ((o0_0, o0_1, ()), ())) = ref11_Valid.f0 o0_0 o0_1 := rfl
theorem ref11_Valid.L1_eq (v28 : Int) (v29 : Int) (o0_0 : (List Int)) (o0_1 : (List Int)) (o1 : List Int) : ref11_Valid.L1 (((), (), v28, v29, ()), ((o0_0, o0_1, ()), o1, ())) = ref11_Valid.f1 ref11_Valid.L2 ref11_Valid.L1 v28 v29 o0_0 o0_1 o1 :=
  loop_eq (E := (ref11_Valid.E ref11_Of.F ref11_Same.F ref11_Valid.L0 ref11_Valid.L1 ref11_Valid.L2)) (sh := ref11_Valid.s1) (es := ref11_Valid.x1) (lp := true) (H := fun L x => ref11_Valid.eq1 ref11_Of.F ref11_Same.F ref11_Valid.L0 ref11_Valid.L1 ref11_Valid.L2 L x) (((), (), v28, v29, ()), ((o0_0, o0_1, ()), o1, ()))
theorem ref11_Valid.L2_eq (i_4 : Int) (v28 : Int) (v29 : Int) (o0_0 : (List Int)) (o0_1 : (List Int)) (o1 : List Int) : ref11_Valid.L2 (((), (), i_4, v28, v29, ()), ((o0_0, o0_1, ()), o1, ())) = ref11_Valid.f2 i_4 v28 v29 o0_0 o0_1 o1 := rfl
theorem ref11_Valid.F_eq (s_Sum : (List Int)) (s_Square : (List Int)) : ref11_Valid.F (((s_Sum, s_Square, ()), ()), ()) = ref11_Valid.f ref11_Of.F ref11_Same.F ref11_Valid.L0 ref11_Valid.L1 s_Sum s_Square := rfl
theorem ref11_Valid.ok {tabs : List (Nat × Go.Obj)} (ht : TabsOk tabs) : FOK Go.Proofs.Try.prog tabs 39 (FE.of [true] false ref11_Valid.sh ref11_Valid.osh ref11_Valid.F) := by
  refine fn_keeps (E := (ref11_Valid.E ref11_Of.F ref11_Same.F ref11_Valid.L0 ref11_Valid.L1 ref11_Valid.L2)) (c := ref11_Valid.c) (fn := Go.Proofs.Try.f39) (hs := ref11_Valid.hs) (by kernel_rfl) Go.Proofs.Try.func39 ⟨by kernel_rfl, by kernel_rfl, tb, by kernel_rfl, by kernel_rfl, by kernel_rfl, by kernel_rfl, by kernel_rfl⟩ ⟨fun g ks fe h => ?_, gt_ok ht⟩ ?_ (fun x => ref11_Valid.eq ref11_Of.F ref11_Same.F ref11_Valid.L0 ref11_Valid.L1 ref11_Valid.L2 x)
  · rcases c_cons h with ⟨rfl, rfl⟩ | h
    · exact ref11_Of.ok ht
    rcases c_cons h with ⟨rfl, rfl⟩ | h
    · exact ref11_Same.ok ht
    cases h
  · refine known_at 3 (by kernel_rfl) fun i hi => ?_
    match i, hi with
    | 0, _ => exact atom_at (id := 0) (live := [1]) (outs := [(0, [1, 25])]) (loop := false) (by kernel_rfl) (cut_ok (E := (ref11_Valid.E ref11_Of.F ref11_Same.F ref11_Valid.L0 ref11_Valid.L1 ref11_Valid.L2)) (sh := ref11_Valid.s0) (es := ref11_Valid.x0) rfl (fun L x => ref11_Valid.eq0 ref11_Of.F ref11_Same.F ref11_Valid.L0 ref11_Valid.L1 ref11_Valid.L2 L x))
    | 1, _ => exact atom_at (id := 1) (live := [1, 3, 28, 29]) (outs := [(2, [1, 3]), (1, [2])]) (loop := true) (by kernel_rfl) (loop_ok (E := (ref11_Valid.E ref11_Of.F ref11_Same.F ref11_Valid.L0 ref11_Valid.L1 ref11_Valid.L2)) (sh := ref11_Valid.s1) (es := ref11_Valid.x1) rfl (fun L x => ref11_Valid.eq1 ref11_Of.F ref11_Same.F ref11_Valid.L0 ref11_Valid.L1 ref11_Valid.L2 L x))
    | 2, _ => exact atom_at (id := 2) (live := [1, 3, 4, 28, 29]) (outs := [(0, [1, 3, 4, 28, 29, 45])]) (loop := false) (by kernel_rfl) (cut_ok (E := (ref11_Valid.E ref11_Of.F ref11_Same.F ref11_Valid.L0 ref11_Valid.L1 ref11_Valid.L2)) (sh := ref11_Valid.s2) (es := ref11_Valid.x2) rfl (fun L x => ref11_Valid.eq2 ref11_Of.F ref11_Same.F ref11_Valid.L0 ref11_Valid.L1 ref11_Valid.L2 L x))
    | n + 3, h => exact absurd h (by omega)

/-! ref11_Stats -/
def ref11_Stats.f0 (from_1 : Int) (m_2 : Int) (o0_0 : (List Int)) (o0_1 : (List Int)) (o1_0 : Int) (o1_1 : Int) (o1_2 : Int) : Option (((Int × Int × Unit × Unit × Bool × Unit) × (((List Int) × (List Int) × Unit) × (Int × Int × Int × Unit) × Unit)) ⊕ Empty) :=
  (bif (decide (from_1 < (0:Int))) then
   (some (Sum.inl ((from_1, (m_2, ((), ((), (Bool.true, ()))))), ((o0_0, (o0_1, ())), ((o1_0, (o1_1, (o1_2, ()))), ())))))
  else
   (bif (decide (m_2 < (1:Int))) then
    (some (Sum.inl ((from_1, (m_2, ((), ((), (Bool.true, ()))))), ((o0_0, (o0_1, ())), ((o1_0, (o1_1, (o1_2, ()))), ())))))
   else
    (bif (decide (m_2 > (Go.IntKind.wrap Go.IntKind.i64 ((((List.length o0_0) : Nat) : Int) - (1:Int))))) then
     (some (Sum.inl ((from_1, (m_2, ((), ((), (Bool.true, ()))))), ((o0_0, (o0_1, ())), ((o1_0, (o1_1, (o1_2, ()))), ())))))
    else
     (some (Sum.inl ((from_1, (m_2, ((), ((), ((decide (from_1 > (Go.IntKind.wrap Go.IntKind.i64 ((Go.IntKind.wrap Go.IntKind.i64 ((((List.length o0_0) : Nat) : Int) - (1:Int))) - m_2)))), ()))))), ((o0_0, (o0_1, ())), ((o1_0, (o1_1, (o1_2, ()))), ()))))))))
theorem ref11_Stats.eq0 (g_ref11_Valid : ref11_Valid.sh.X → Option ref11_Valid.osh.X) (g_ref11_part : ref11_part.sh.X → Option ref11_part.osh.X) (l0 : ref11_Stats.s0.X → Option (sumX ref11_Stats.x0)) (L : ((Int × Int × Unit × Unit × Unit) × (((List Int) × (List Int) × Unit) × (Int × Int × Int × Unit) × Unit)) → Option (((Int × Int × Unit × Unit × Bool × Unit) × (((List Int) × (List Int) × Unit) × (Int × Int × Int × Unit) × Unit)) ⊕ Empty)) (x : ((Int × Int × Unit × Unit × Unit) × (((List Int) × (List Int) × Unit) × (Int × Int × Int × Unit) × Unit))) : (roundK (ref11_Stats.E g_ref11_Valid g_ref11_part l0) ref11_Stats.s0 [1, 2, 3, 6] [(0, [1, 2, 3, 6, 35])] false (((mk ref11_Stats.hs ref11_Stats.c []).atoms.getD 0 .bad).body) ref11_Stats.x0 L x).run _ some = ref11_Stats.f0 x.1.1 x.1.2.1 x.2.1.1 x.2.1.2.1 x.2.2.1.1 x.2.2.1.2.1 x.2.2.1.2.2.1 := by
  show _ = (_ : Option _)
  kernel_rfl
noncomputable def ref11_Stats.L0 : ((Int × Int × Unit × Unit × Unit) × (((List Int) × (List Int) × Unit) × (Int × Int × Int × Unit) × Unit)) → Option (((Int × Int × Unit × Unit × Bool × Unit) × (((List Int) × (List Int) × Unit) × (Int × Int × Int × Unit) × Unit)) ⊕ Empty) := fun x => ref11_Stats.f0 x.1.1 x.1.2.1 x.2.1.1 x.2.1.2.1 x.2.2.1.1 x.2.2.1.2.1 x.2.2.1.2.2.1
def ref11_Stats.f (g_ref11_Valid : ((((List Int) × (List Int) × Unit) × Unit) × (Unit)) → Option ((Bool × Unit) × (Unit))) (g_ref11_part : ((((List Int) × (List Int) × Unit) × Int × Int × Unit) × (Unit)) → Option (((Int × Int × Int × Unit) × Unit) × (Unit))) (l0 : ((Int × Int × Unit × Unit × Unit) × (((List Int) × (List Int) × Unit) × (Int × Int × Int × Unit) × Unit)) → Option (((Int × Int × Unit × Unit × Bool × Unit) × (((List Int) × (List Int) × Unit) × (Int × Int × Int × Unit) × Unit)) ⊕ Empty)) (s_Sum : (List Int)) (s_Square : (List Int)) (from_ : Int) (m : Int) : Option (((Int × Int × Int × Unit) × Int × Unit) × (Unit)) :=
  (Option.bind (g_ref11_Valid (((s_Sum, (s_Square, ())), ()), ())) (fun y0 =>
  (bif (!y0.1.1) then
   (some ((((0:Int), ((0:Int), ((0:Int), ()))), ((3:Int), ())), ()))
  else
   (Option.bind (l0 ((from_, (m, ((), ((), ())))), ((s_Sum, (s_Square, ())), (((0:Int), ((0:Int), ((0:Int), ()))), ())))) (fun y2 =>
   (Sum.elim (fun a3 =>
    (bif a3.1.2.2.2.2.1 then
     (some ((((0:Int), ((0:Int), ((0:Int), ()))), ((1:Int), ())), ()))
    else
     (Option.bind (g_ref11_part (((a3.2.1.1, (a3.2.1.2.1, ())), (a3.1.1, (a3.1.2.1, ()))), ())) (fun y5 =>
     (some (((y5.1.1.1, (y5.1.1.2.1, (y5.1.1.2.2.1, ()))), ((0:Int), ())), ())))))) (fun b3 =>
    (Empty.elim b3)) y2))))))
theorem ref11_Stats.eq (g_ref11_Valid : ref11_Valid.sh.X → Option ref11_Valid.osh.X) (g_ref11_part : ref11_part.sh.X → Option ref11_part.osh.X) (l0 : ref11_Stats.s0.X → Option (sumX ref11_Stats.x0)) (x : ((((List Int) × (List Int) × Unit) × Int × Int × Unit) × (Unit))) : (bodyO (ref11_Stats.E g_ref11_Valid g_ref11_part l0) (mk ref11_Stats.hs ref11_Stats.c []) Go.Proofs.Try.f26.results.toList ref11_Stats.sh ref11_Stats.osh x).run _ some = ref11_Stats.f g_ref11_Valid g_ref11_part l0 x.1.1.1 x.1.1.2.1 x.1.2.1 x.1.2.2.1 := by
  show _ = (_ : Option _)
  kernel_rfl
noncomputable def ref11_Stats (s_Sum : (List Int)) (s_Square : (List Int)) (from_ : Int) (m : Int) : Option (((Int × Int × Int × Unit) × Int × Unit) × (Unit)) := ref11_Stats.f ref11_Valid.F ref11_part.F ref11_Stats.L0 s_Sum s_Square from_ m
noncomputable def ref11_Stats.F (x : ((((List Int) × (List Int) × Unit) × Int × Int × Unit) × (Unit))) : Option (((Int × Int × Int × Unit) × Int × Unit) × (Unit)) := ref11_Stats x.1.1.1 x.1.1.2.1 x.1.2.1 x.1.2.2.1
theorem ref11_Stats.L0_eq (from_1 : Int) (m_2 : Int) (o0_0 : (List Int)) (o0_1 : (List Int)) (o1_0 : Int) (o1_1 : Int) (o1_2 : Int) : ref11_Stats.L0 ((from_1, m_2, (), (), ()), ((o0_0, o0_1, ()), (o1_0, o1_1, o1_2, ()), ())) = ref11_Stats.f0 from_1 m_2 o0_0 o0_1 o1_0 o1_1 o1_2 := rfl
theorem ref11_Stats.F_eq (s_Sum : (List Int)) (s_Square : (List Int)) (from_ : Int) (m : Int) : ref11_Stats.F (((s_Sum, s_Square, ()), from_, m, ()), ()) = ref11_Stats.f ref11_Valid.F ref11_part.F ref11_Stats.L0 s_Sum s_Square from_ m := rfl
theorem ref11_Stats.ok {tabs : List (Nat × Go.Obj)} (ht : TabsOk tabs) : FOK Go.Proofs.Try.prog tabs 26 (FE.of [true, true, true] false ref11_Stats.sh ref11_Stats.osh ref11_Stats.F) := by
  refine fn_keeps (E := (ref11_Stats.E ref11_Valid.F ref11_part.F ref11_Stats.L0)) (c := ref11_Stats.c) (fn := Go.Proofs.Try.f26) (hs := ref11_Stats.hs) (by kernel_rfl) Go.Proofs.Try.func26 ⟨by kernel_rfl, by kernel_rfl, tb, by kernel_rfl, by kernel_rfl, by kernel_rfl, by kernel_rfl, by kernel_rfl⟩ ⟨fun g ks fe h => ?_, gt_ok ht⟩ ?_ (fun x => ref11_Stats.eq ref11_Valid.F ref11_part.F ref11_Stats.L0 x)
  · rcases c_cons h with ⟨rfl, rfl⟩ | h
    · exact ref11_Valid.ok ht
    rcases c_cons h with ⟨rfl, rfl⟩ | h
    · exact ref11_part.ok ht
    cases h
  · refine known_at 1 (by kernel_rfl) fun i hi => ?_
    match i, hi with
    | 0, _ => exact atom_at (id := 0) (live := [1, 2, 3, 6]) (outs := [(0, [1, 2, 3, 6, 35])]) (loop := false) (by kernel_rfl) (cut_ok (E := (ref11_Stats.E ref11_Valid.F ref11_part.F ref11_Stats.L0)) (sh := ref11_Stats.s0) (es := ref11_Stats.x0) rfl (fun L x => ref11_Stats.eq0 ref11_Valid.F ref11_part.F ref11_Stats.L0 L x))
    | n + 1, h => exact absurd h (by omega)

/-! ref11_Variance -/
def ref11_Variance.f0 (o0_0 : Int) (o0_1 : Int) (o0_2 : Int) : Option (((Unit × Bool × Unit) × ((Int × Int × Int × Unit) × Unit)) ⊕ Empty) :=
  (bif (decide (o0_0 < (1:Int))) then
   (some (Sum.inl (((), (Bool.true, ())), ((o0_0, (o0_1, (o0_2, ()))), ()))))
  else
   (bif (decide (o0_0 > (2000:Int))) then
    (some (Sum.inl (((), (Bool.true, ())), ((o0_0, (o0_1, (o0_2, ()))), ()))))
   else
    (bif (decide (o0_1 < (Go.IntKind.wrap Go.IntKind.i64 ((-(1000:Int)) * o0_0)))) then
     (some (Sum.inl (((), (Bool.true, ())), ((o0_0, (o0_1, (o0_2, ()))), ()))))
    else
     (bif (decide (o0_1 > (Go.IntKind.wrap Go.IntKind.i64 ((1000:Int) * o0_0)))) then
      (some (Sum.inl (((), (Bool.true, ())), ((o0_0, (o0_1, (o0_2, ()))), ()))))
     else
      (bif (decide (o0_2 < (0:Int))) then
       (some (Sum.inl (((), (Bool.true, ())), ((o0_0, (o0_1, (o0_2, ()))), ()))))
      else
       (some (Sum.inl (((), ((decide (o0_2 > (Go.IntKind.wrap Go.IntKind.i64 ((1000000:Int) * o0_0)))), ())), ((o0_0, (o0_1, (o0_2, ()))), ())))))))))
theorem ref11_Variance.eq0 (l0 : ref11_Variance.s0.X → Option (sumX ref11_Variance.x0)) (L : ((Unit × Unit) × ((Int × Int × Int × Unit) × Unit)) → Option (((Unit × Bool × Unit) × ((Int × Int × Int × Unit) × Unit)) ⊕ Empty)) (x : ((Unit × Unit) × ((Int × Int × Int × Unit) × Unit))) : (roundK (ref11_Variance.E l0) ref11_Variance.s0 [1] [(0, [1, 39])] false (((mk ref11_Variance.hs ref11_Variance.c []).atoms.getD 0 .bad).body) ref11_Variance.x0 L x).run _ some = ref11_Variance.f0 x.2.1.1 x.2.1.2.1 x.2.1.2.2.1 := by
  show _ = (_ : Option _)
  kernel_rfl
noncomputable def ref11_Variance.L0 : ((Unit × Unit) × ((Int × Int × Int × Unit) × Unit)) → Option (((Unit × Bool × Unit) × ((Int × Int × Int × Unit) × Unit)) ⊕ Empty) := fun x => ref11_Variance.f0 x.2.1.1 x.2.1.2.1 x.2.1.2.2.1
def ref11_Variance.f (l0 : ((Unit × Unit) × ((Int × Int × Int × Unit) × Unit)) → Option (((Unit × Bool × Unit) × ((Int × Int × Int × Unit) × Unit)) ⊕ Empty)) (x_Count : Int) (x_Sum : Int) (x_Square : Int) : Option ((Int × Unit) × (Unit)) :=
  (Option.bind (l0 (((), ()), ((x_Count, (x_Sum, (x_Square, ()))), ()))) (fun y0 =>
  (Sum.elim (fun a1 =>
   (bif a1.1.2.1 then
    (some (((0:Int), ()), ()))
   else
    (some (((Go.VI.mx (0:Int) (Go.IntKind.wrap Go.IntKind.i64 ((Go.IntKind.wrap Go.IntKind.i64 (a1.2.1.1 * a1.2.1.2.2.1)) - (Go.IntKind.wrap Go.IntKind.i64 (a1.2.1.2.1 * a1.2.1.2.1))))), ()), ())))) (fun b1 =>
   (Empty.elim b1)) y0)))
theorem ref11_Variance.eq (l0 : ref11_Variance.s0.X → Option (sumX ref11_Variance.x0)) (x : (((Int × Int × Int × Unit) × Unit) × (Unit))) : (bodyO (ref11_Variance.E l0) (mk ref11_Variance.hs ref11_Variance.c []) Go.Proofs.Try.f27.results.toList ref11_Variance.sh ref11_Variance.osh x).run _ some = ref11_Variance.f l0 x.1.1.1 x.1.1.2.1 x.1.1.2.2.1 := by
  show _ = (_ : Option _)
  kernel_rfl
noncomputable def ref11_Variance (x_Count : Int) (x_Sum : Int) (x_Square : Int) : Option ((Int × Unit) × (Unit)) := ref11_Variance.f ref11_Variance.L0 x_Count x_Sum x_Square
noncomputable def ref11_Variance.F (x : (((Int × Int × Int × Unit) × Unit) × (Unit))) : Option ((Int × Unit) × (Unit)) := ref11_Variance x.1.1.1 x.1.1.2.1 x.1.1.2.2.1
theorem ref11_Variance.L0_eq (o0_0 : Int) (o0_1 : Int) (o0_2 : Int) : ref11_Variance.L0 (((), ()), ((o0_0, o0_1, o0_2, ()), ())) = ref11_Variance.f0 o0_0 o0_1 o0_2 := rfl
theorem ref11_Variance.F_eq (x_Count : Int) (x_Sum : Int) (x_Square : Int) : ref11_Variance.F (((x_Count, x_Sum, x_Square, ()), ()), ()) = ref11_Variance.f ref11_Variance.L0 x_Count x_Sum x_Square := rfl
theorem ref11_Variance.ok {tabs : List (Nat × Go.Obj)} (ht : TabsOk tabs) : FOK Go.Proofs.Try.prog tabs 27 (FE.of [true] false ref11_Variance.sh ref11_Variance.osh ref11_Variance.F) := by
  refine fn_keeps (E := (ref11_Variance.E ref11_Variance.L0)) (c := ref11_Variance.c) (fn := Go.Proofs.Try.f27) (hs := ref11_Variance.hs) (by kernel_rfl) Go.Proofs.Try.func27 ⟨by kernel_rfl, by kernel_rfl, tb, by kernel_rfl, by kernel_rfl, by kernel_rfl, by kernel_rfl, by kernel_rfl⟩ ⟨fun g ks fe h => ?_, gt_ok ht⟩ ?_ (fun x => ref11_Variance.eq ref11_Variance.L0 x)
  · cases h
  · refine known_at 1 (by kernel_rfl) fun i hi => ?_
    match i, hi with
    | 0, _ => exact atom_at (id := 0) (live := [1]) (outs := [(0, [1, 39])]) (loop := false) (by kernel_rfl) (cut_ok (E := (ref11_Variance.E ref11_Variance.L0)) (sh := ref11_Variance.s0) (es := ref11_Variance.x0) rfl (fun L x => ref11_Variance.eq0 ref11_Variance.L0 L x))
    | n + 1, h => exact absurd h (by omega)
end Go.Proofs.Ytknkiogjibpooaa.V
