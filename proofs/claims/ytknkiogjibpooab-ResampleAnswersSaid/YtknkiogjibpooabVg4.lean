import Derived.Test.YtknkiogjibpooabVg3
set_option linter.unusedVariables false
set_option maxRecDepth 100000
namespace Go.Proofs.Ytknkiogjibpooab.V
open Go.VI
/-! ref08_Apply -/
def ref08_Apply.f0 (g_ref08_at : (((List (Int × Int)) × (Int × Int × Int × Int × Int × Unit) × Int × Unit) × (Unit)) → Option ((Int × Bool × Unit) × (Unit))) (L : (((List (Int × Int)) × Unit × Unit × Unit × Int × Unit) × ((Int × Int × Int × Int × Int × Unit) × (Int × Int × Unit × Unit) × (Int × Int × Unit × Unit) × (List Int) × Unit)) → Option (((Unit × Unit × Unit) × ((Int × Int × Unit × Unit) × (Int × Int × Unit × Unit) × (List Int) × Unit)) ⊕ Empty)) (l_0 : (List (Int × Int))) (i_8 : Int) (o0_0 : Int) (o0_1 : Int) (o0_2 : Int) (o0_3 : Int) (o0_4 : Int) (o1_0 : Int) (o1_1 : Int) (o2_0 : Int) (o2_1 : Int) (o3 : List Int) : Option (((Unit × Unit × Unit) × ((Int × Int × Unit × Unit) × (Int × Int × Unit × Unit) × (List Int) × Unit)) ⊕ Empty) :=
  (bif (decide (i_8 < o0_2)) then
   (Option.bind (g_ref08_at ((l_0, ((o0_0, (o0_1, (o0_2, (o0_3, (o0_4, ()))))), ((Go.IntKind.wrap Go.IntKind.i64 (o0_0 + (Go.IntKind.wrap Go.IntKind.i64 (i_8 * o0_1)))), ()))), ())) (fun y1 =>
   (bif (!y1.1.2.1) then
    (bif (decide ((((List.length o3) + (List.length [(1073741824:Int)])) * (8:Nat)) ≤ (140737488355328:Nat))) then
     (Option.bind (L ((l_0, ((), ((), ((), ((Go.IntKind.wrap Go.IntKind.i64 (i_8 + (1:Int))), ()))))), ((o0_0, (o0_1, (o0_2, (o0_3, (o0_4, ()))))), ((o1_0, (o1_1, ((), ()))), ((o2_0, (o2_1, ((), ()))), ((o3 ++ [(1073741824:Int)]), ())))))) (fun y4 =>
     (some y4)))
    else
     none)
   else
    (bif (decide ((((List.length o3) + (List.length [y1.1.1])) * (8:Nat)) ≤ (140737488355328:Nat))) then
     (Option.bind (L ((l_0, ((), ((), ((), ((Go.IntKind.wrap Go.IntKind.i64 (i_8 + (1:Int))), ()))))), ((o0_0, (o0_1, (o0_2, (o0_3, (o0_4, ()))))), ((o1_0, (o1_1, ((), ()))), ((o2_0, (o2_1, ((), ()))), ((o3 ++ [y1.1.1]), ())))))) (fun y4 =>
     (some y4)))
    else
     none))))
  else
   (some (Sum.inl (((), ((), ())), ((o1_0, (o1_1, ((), ()))), ((o2_0, (o2_1, ((), ()))), (o3, ())))))))
theorem ref08_Apply.eq0 (g_ref08_Valid : ref08_Valid.sh.X → Option ref08_Valid.osh.X) (g_ref08_check : ref08_check.sh.X → Option ref08_check.osh.X) (g_ref08_at : ref08_at.sh.X → Option ref08_at.osh.X) (l0 : ref08_Apply.s0.X → Option (sumX ref08_Apply.x0)) (L : (((List (Int × Int)) × Unit × Unit × Unit × Int × Unit) × ((Int × Int × Int × Int × Int × Unit) × (Int × Int × Unit × Unit) × (Int × Int × Unit × Unit) × (List Int) × Unit)) → Option (((Unit × Unit × Unit) × ((Int × Int × Unit × Unit) × (Int × Int × Unit × Unit) × (List Int) × Unit)) ⊕ Empty)) (x : (((List (Int × Int)) × Unit × Unit × Unit × Int × Unit) × ((Int × Int × Int × Int × Int × Unit) × (Int × Int × Unit × Unit) × (Int × Int × Unit × Unit) × (List Int) × Unit))) : (roundK (ref08_Apply.E g_ref08_Valid g_ref08_check g_ref08_at l0) ref08_Apply.s0 [0, 3, 4, 7, 8] [(2, [4, 7])] true (((mk ref08_Apply.hs ref08_Apply.c []).atoms.getD 0 .bad).body) ref08_Apply.x0 L x).run _ some = ref08_Apply.f0 g_ref08_at L x.1.1 x.1.2.2.2.2.1 x.2.1.1 x.2.1.2.1 x.2.1.2.2.1 x.2.1.2.2.2.1 x.2.1.2.2.2.2.1 x.2.2.1.1 x.2.2.1.2.1 x.2.2.2.1.1 x.2.2.2.1.2.1 x.2.2.2.2.1 := by
  show _ = (_ : Option _)
  kernel_rfl
noncomputable def ref08_Apply.L0 : (((List (Int × Int)) × Unit × Unit × Unit × Int × Unit) × ((Int × Int × Int × Int × Int × Unit) × (Int × Int × Unit × Unit) × (Int × Int × Unit × Unit) × (List Int) × Unit)) → Option (((Unit × Unit × Unit) × ((Int × Int × Unit × Unit) × (Int × Int × Unit × Unit) × (List Int) × Unit)) ⊕ Empty) := loop fun L x => ref08_Apply.f0 ref08_at.F L x.1.1 x.1.2.2.2.2.1 x.2.1.1 x.2.1.2.1 x.2.1.2.2.1 x.2.1.2.2.2.1 x.2.1.2.2.2.2.1 x.2.2.1.1 x.2.2.1.2.1 x.2.2.2.1.1 x.2.2.2.1.2.1 x.2.2.2.2.1
def ref08_Apply.f (g_ref08_Valid : (((Int × Int × Int × Int × Int × Unit) × Unit) × (Unit)) → Option ((Bool × Unit) × (Unit))) (g_ref08_check : (((List (Int × Int)) × Unit) × (Unit)) → Option ((Int × Unit) × (Unit))) (l0 : (((List (Int × Int)) × Unit × Unit × Unit × Int × Unit) × ((Int × Int × Int × Int × Int × Unit) × (Int × Int × Unit × Unit) × (Int × Int × Unit × Unit) × (List Int) × Unit)) → Option (((Unit × Unit × Unit) × ((Int × Int × Unit × Unit) × (Int × Int × Unit × Unit) × (List Int) × Unit)) ⊕ Empty)) (l : (List (Int × Int))) (g_From : Int) (g_Step : Int) (g_Count : Int) (g_Rule : Int) (g_Reach : Int) : Option (((Int × Int × Unit × Unit) × Int × Unit) × ((List Int) × Unit)) :=
  (Option.bind (g_ref08_Valid (((g_From, (g_Step, (g_Count, (g_Rule, (g_Reach, ()))))), ()), ())) (fun y0 =>
  (bif (!y0.1.1) then
   (some ((((0:Int), ((0:Int), ((), ()))), ((3:Int), ())), (([] : List Int), ())))
  else
   (Option.bind (g_ref08_check ((l, ()), ())) (fun y2 =>
   (bif (y2.1.1 != (0:Int)) then
    (some ((((0:Int), ((0:Int), ((), ()))), (y2.1.1, ())), (([] : List Int), ())))
   else
    (Option.bind (l0 ((l, ((), ((), ((), ((0:Int), ()))))), ((g_From, (g_Step, (g_Count, (g_Rule, (g_Reach, ()))))), (((0:Int), ((0:Int), ((), ()))), ((g_From, (g_Step, ((), ()))), (([] : List Int), ())))))) (fun y4 =>
    (Sum.elim (fun a5 =>
     (some (((a5.2.2.1.1, (a5.2.2.1.2.1, ((), ()))), ((0:Int), ())), (a5.2.2.2.1, ())))) (fun b5 =>
     (Empty.elim b5)) y4)))))))))
theorem ref08_Apply.eq (g_ref08_Valid : ref08_Valid.sh.X → Option ref08_Valid.osh.X) (g_ref08_check : ref08_check.sh.X → Option ref08_check.osh.X) (g_ref08_at : ref08_at.sh.X → Option ref08_at.osh.X) (l0 : ref08_Apply.s0.X → Option (sumX ref08_Apply.x0)) (x : (((List (Int × Int)) × (Int × Int × Int × Int × Int × Unit) × Unit) × (Unit))) : (bodyO (ref08_Apply.E g_ref08_Valid g_ref08_check g_ref08_at l0) (mk ref08_Apply.hs ref08_Apply.c []) Go.Proofs.Try.f20.results.toList ref08_Apply.sh ref08_Apply.osh x).run _ some = ref08_Apply.f g_ref08_Valid g_ref08_check l0 x.1.1 x.1.2.1.1 x.1.2.1.2.1 x.1.2.1.2.2.1 x.1.2.1.2.2.2.1 x.1.2.1.2.2.2.2.1 := by
  show _ = (_ : Option _)
  kernel_rfl
noncomputable def ref08_Apply (l : (List (Int × Int))) (g_From : Int) (g_Step : Int) (g_Count : Int) (g_Rule : Int) (g_Reach : Int) : Option (((Int × Int × Unit × Unit) × Int × Unit) × ((List Int) × Unit)) := ref08_Apply.f ref08_Valid.F ref08_check.F ref08_Apply.L0 l g_From g_Step g_Count g_Rule g_Reach
noncomputable def ref08_Apply.F (x : (((List (Int × Int)) × (Int × Int × Int × Int × Int × Unit) × Unit) × (Unit))) : Option (((Int × Int × Unit × Unit) × Int × Unit) × ((List Int) × Unit)) := ref08_Apply x.1.1 x.1.2.1.1 x.1.2.1.2.1 x.1.2.1.2.2.1 x.1.2.1.2.2.2.1 x.1.2.1.2.2.2.2.1
theorem ref08_Apply.L0_eq (l_0 : (List (Int × Int))) (i_8 : Int) (o0_0 : Int) (o0_1 : Int) (o0_2 : Int) (o0_3 : Int) (o0_4 : Int) (o1_0 : Int) (o1_1 : Int) (o2_0 : Int) (o2_1 : Int) (o3 : List Int) : ref08_Apply.L0 ((l_0, (), (), (), i_8, ()), ((o0_0, o0_1, o0_2, o0_3, o0_4, ()), (o1_0, o1_1, (), ()), (o2_0, o2_1, (), ()), o3, ())) = ref08_Apply.f0 ref08_at.F ref08_Apply.L0 l_0 i_8 o0_0 o0_1 o0_2 o0_3 o0_4 o1_0 o1_1 o2_0 o2_1 o3 :=
  loop_eq (E := (ref08_Apply.E ref08_Valid.F ref08_check.F ref08_at.F ref08_Apply.L0)) (sh := ref08_Apply.s0) (es := ref08_Apply.x0) (lp := true) (H := fun L x => ref08_Apply.eq0 ref08_Valid.F ref08_check.F ref08_at.F ref08_Apply.L0 L x) ((l_0, (), (), (), i_8, ()), ((o0_0, o0_1, o0_2, o0_3, o0_4, ()), (o1_0, o1_1, (), ()), (o2_0, o2_1, (), ()), o3, ()))
theorem ref08_Apply.F_eq (l : (List (Int × Int))) (g_From : Int) (g_Step : Int) (g_Count : Int) (g_Rule : Int) (g_Reach : Int) : ref08_Apply.F ((l, (g_From, g_Step, g_Count, g_Rule, g_Reach, ()), ()), ()) = ref08_Apply.f ref08_Valid.F ref08_check.F ref08_Apply.L0 l g_From g_Step g_Count g_Rule g_Reach := rfl
theorem ref08_Apply.ok : FOK Go.Proofs.Try.prog [] 20 (FE.of [true, true] false ref08_Apply.sh ref08_Apply.osh ref08_Apply.F) := by
  refine fn_keeps (E := (ref08_Apply.E ref08_Valid.F ref08_check.F ref08_at.F ref08_Apply.L0)) (c := ref08_Apply.c) (fn := Go.Proofs.Try.f20) (hs := ref08_Apply.hs) (by kernel_rfl) Go.Proofs.Try.func20 ⟨by kernel_rfl, by kernel_rfl, tb, by kernel_rfl, by kernel_rfl, by kernel_rfl, by kernel_rfl, by kernel_rfl⟩ (fun g fe h => ?_) ?_ (fun x => ref08_Apply.eq ref08_Valid.F ref08_check.F ref08_at.F ref08_Apply.L0 x)
  · rcases c_cons h with ⟨rfl, rfl⟩ | h
    · exact ref08_Valid.ok
    rcases c_cons h with ⟨rfl, rfl⟩ | h
    · exact ref08_check.ok
    rcases c_cons h with ⟨rfl, rfl⟩ | h
    · exact ref08_at.ok
    cases h
  · refine known_at 1 (by kernel_rfl) fun i hi => ?_
    match i, hi with
    | 0, _ => exact atom_at (id := 0) (live := [0, 3, 4, 7, 8]) (outs := [(2, [4, 7])]) (loop := true) (by kernel_rfl) (loop_ok (E := (ref08_Apply.E ref08_Valid.F ref08_check.F ref08_at.F ref08_Apply.L0)) (sh := ref08_Apply.s0) (es := ref08_Apply.x0) rfl (fun L x => ref08_Apply.eq0 ref08_Valid.F ref08_check.F ref08_at.F ref08_Apply.L0 L x))
    | n + 1, h => exact absurd h (by omega)

/-! law08_same -/
def law08_same.f (g_keep_Ints : (((List Int) × (List Int) × Unit) × (Unit)) → Option ((Bool × Unit) × (Unit))) (a_Start : Int) (a_Step : Int) (a_Values : (List Int)) (b_Start : Int) (b_Step : Int) (b_Values : (List Int)) : Option ((Bool × Unit) × (Unit)) :=
  (bif (a_Start == b_Start) then
   (bif (a_Step == b_Step) then
    (Option.bind (g_keep_Ints ((a_Values, (b_Values, ())), ())) (fun y2 =>
    (some ((y2.1.1, ()), ()))))
   else
    (some ((Bool.false, ()), ())))
  else
   (some ((Bool.false, ()), ())))
theorem law08_same.eq (g_keep_Ints : keep_Ints.sh.X → Option keep_Ints.osh.X) (x : (((Int × Int × (List Int) × Unit) × (Int × Int × (List Int) × Unit) × Unit) × (Unit))) : (bodyO (law08_same.E g_keep_Ints) (mk law08_same.hs law08_same.c []) Go.Proofs.Try.f21.results.toList law08_same.sh law08_same.osh x).run _ some = law08_same.f g_keep_Ints x.1.1.1 x.1.1.2.1 x.1.1.2.2.1 x.1.2.1.1 x.1.2.1.2.1 x.1.2.1.2.2.1 := by
  show _ = (_ : Option _)
  kernel_rfl
noncomputable def law08_same (a_Start : Int) (a_Step : Int) (a_Values : (List Int)) (b_Start : Int) (b_Step : Int) (b_Values : (List Int)) : Option ((Bool × Unit) × (Unit)) := law08_same.f keep_Ints.F a_Start a_Step a_Values b_Start b_Step b_Values
noncomputable def law08_same.F (x : (((Int × Int × (List Int) × Unit) × (Int × Int × (List Int) × Unit) × Unit) × (Unit))) : Option ((Bool × Unit) × (Unit)) := law08_same x.1.1.1 x.1.1.2.1 x.1.1.2.2.1 x.1.2.1.1 x.1.2.1.2.1 x.1.2.1.2.2.1
theorem law08_same.F_eq (a_Start : Int) (a_Step : Int) (a_Values : (List Int)) (b_Start : Int) (b_Step : Int) (b_Values : (List Int)) : law08_same.F (((a_Start, a_Step, a_Values, ()), (b_Start, b_Step, b_Values, ()), ()), ()) = law08_same.f keep_Ints.F a_Start a_Step a_Values b_Start b_Step b_Values := rfl
theorem law08_same.ok : FOK Go.Proofs.Try.prog [] 21 (FE.of [true, true] false law08_same.sh law08_same.osh law08_same.F) := by
  refine fn_keeps (E := (law08_same.E keep_Ints.F)) (c := law08_same.c) (fn := Go.Proofs.Try.f21) (hs := law08_same.hs) (by kernel_rfl) Go.Proofs.Try.func21 ⟨by kernel_rfl, by kernel_rfl, tb, by kernel_rfl, by kernel_rfl, by kernel_rfl, by kernel_rfl, by kernel_rfl⟩ (fun g fe h => ?_) ?_ (fun x => law08_same.eq keep_Ints.F x)
  · rcases c_cons h with ⟨rfl, rfl⟩ | h
    · exact keep_Ints.ok
    cases h
  · exact known_at 0 (by kernel_rfl) fun i hi => absurd hi (Nat.not_lt_zero i)

/-! ref08_At -/
def ref08_At.f0 (g_ref08_check : (((List (Int × Int)) × Unit) × (Unit)) → Option ((Int × Unit) × (Unit))) (g_ref08_Valid : (((Int × Int × Int × Int × Int × Unit) × Unit) × (Unit)) → Option ((Bool × Unit) × (Unit))) (l_0 : (List (Int × Int))) (time_2 : Int) (o0_0 : Int) (o0_1 : Int) (o0_2 : Int) (o0_3 : Int) (o0_4 : Int) : Option ((((List (Int × Int)) × Int × Unit × Bool × Unit) × ((Int × Int × Int × Int × Int × Unit) × Unit)) ⊕ Empty) :=
  (Option.bind (g_ref08_check ((l_0, ()), ())) (fun y0 =>
  (bif (y0.1.1 != (0:Int)) then
   (some (Sum.inl ((l_0, (time_2, ((), (Bool.true, ())))), ((o0_0, (o0_1, (o0_2, (o0_3, (o0_4, ()))))), ()))))
  else
   (Option.bind (g_ref08_Valid (((o0_0, (o0_1, (o0_2, (o0_3, (o0_4, ()))))), ()), ())) (fun y2 =>
   (bif (!y2.1.1) then
    (some (Sum.inl ((l_0, (time_2, ((), (Bool.true, ())))), ((o0_0, (o0_1, (o0_2, (o0_3, (o0_4, ()))))), ()))))
   else
    (bif (decide (time_2 < (0:Int))) then
     (some (Sum.inl ((l_0, (time_2, ((), (Bool.true, ())))), ((o0_0, (o0_1, (o0_2, (o0_3, (o0_4, ()))))), ()))))
    else
     (some (Sum.inl ((l_0, (time_2, ((), ((decide (time_2 > (1099511627776:Int))), ())))), ((o0_0, (o0_1, (o0_2, (o0_3, (o0_4, ()))))), ())))))))))))
theorem ref08_At.eq0 (g_ref08_check : ref08_check.sh.X → Option ref08_check.osh.X) (g_ref08_Valid : ref08_Valid.sh.X → Option ref08_Valid.osh.X) (g_ref08_at : ref08_at.sh.X → Option ref08_at.osh.X) (l0 : ref08_At.s0.X → Option (sumX ref08_At.x0)) (L : (((List (Int × Int)) × Int × Unit × Unit) × ((Int × Int × Int × Int × Int × Unit) × Unit)) → Option ((((List (Int × Int)) × Int × Unit × Bool × Unit) × ((Int × Int × Int × Int × Int × Unit) × Unit)) ⊕ Empty)) (x : (((List (Int × Int)) × Int × Unit × Unit) × ((Int × Int × Int × Int × Int × Unit) × Unit))) : (roundK (ref08_At.E g_ref08_check g_ref08_Valid g_ref08_at l0) ref08_At.s0 [0, 2, 4] [(0, [0, 2, 4, 23])] false (((mk ref08_At.hs ref08_At.c []).atoms.getD 0 .bad).body) ref08_At.x0 L x).run _ some = ref08_At.f0 g_ref08_check g_ref08_Valid x.1.1 x.1.2.1 x.2.1.1 x.2.1.2.1 x.2.1.2.2.1 x.2.1.2.2.2.1 x.2.1.2.2.2.2.1 := by
  show _ = (_ : Option _)
  kernel_rfl
noncomputable def ref08_At.L0 : (((List (Int × Int)) × Int × Unit × Unit) × ((Int × Int × Int × Int × Int × Unit) × Unit)) → Option ((((List (Int × Int)) × Int × Unit × Bool × Unit) × ((Int × Int × Int × Int × Int × Unit) × Unit)) ⊕ Empty) := fun x => ref08_At.f0 ref08_check.F ref08_Valid.F x.1.1 x.1.2.1 x.2.1.1 x.2.1.2.1 x.2.1.2.2.1 x.2.1.2.2.2.1 x.2.1.2.2.2.2.1
def ref08_At.f (g_ref08_at : (((List (Int × Int)) × (Int × Int × Int × Int × Int × Unit) × Int × Unit) × (Unit)) → Option ((Int × Bool × Unit) × (Unit))) (l0 : (((List (Int × Int)) × Int × Unit × Unit) × ((Int × Int × Int × Int × Int × Unit) × Unit)) → Option ((((List (Int × Int)) × Int × Unit × Bool × Unit) × ((Int × Int × Int × Int × Int × Unit) × Unit)) ⊕ Empty)) (l : (List (Int × Int))) (g_From : Int) (g_Step : Int) (g_Count : Int) (g_Rule : Int) (g_Reach : Int) (time : Int) : Option ((Int × Bool × Unit) × (Unit)) :=
  (Option.bind (l0 ((l, (time, ((), ()))), ((g_From, (g_Step, (g_Count, (g_Rule, (g_Reach, ()))))), ()))) (fun y0 =>
  (Sum.elim (fun a1 =>
   (bif a1.1.2.2.2.1 then
    (some (((0:Int), (Bool.false, ())), ()))
   else
    (Option.bind (g_ref08_at ((a1.1.1, ((a1.2.1.1, (a1.2.1.2.1, (a1.2.1.2.2.1, (a1.2.1.2.2.2.1, (a1.2.1.2.2.2.2.1, ()))))), (a1.1.2.1, ()))), ())) (fun y3 =>
    (some ((y3.1.1, (y3.1.2.1, ())), ())))))) (fun b1 =>
   (Empty.elim b1)) y0)))
theorem ref08_At.eq (g_ref08_check : ref08_check.sh.X → Option ref08_check.osh.X) (g_ref08_Valid : ref08_Valid.sh.X → Option ref08_Valid.osh.X) (g_ref08_at : ref08_at.sh.X → Option ref08_at.osh.X) (l0 : ref08_At.s0.X → Option (sumX ref08_At.x0)) (x : (((List (Int × Int)) × (Int × Int × Int × Int × Int × Unit) × Int × Unit) × (Unit))) : (bodyO (ref08_At.E g_ref08_check g_ref08_Valid g_ref08_at l0) (mk ref08_At.hs ref08_At.c []) Go.Proofs.Try.f24.results.toList ref08_At.sh ref08_At.osh x).run _ some = ref08_At.f g_ref08_at l0 x.1.1 x.1.2.1.1 x.1.2.1.2.1 x.1.2.1.2.2.1 x.1.2.1.2.2.2.1 x.1.2.1.2.2.2.2.1 x.1.2.2.1 := by
  show _ = (_ : Option _)
  kernel_rfl
noncomputable def ref08_At (l : (List (Int × Int))) (g_From : Int) (g_Step : Int) (g_Count : Int) (g_Rule : Int) (g_Reach : Int) (time : Int) : Option ((Int × Bool × Unit) × (Unit)) := ref08_At.f ref08_at.F ref08_At.L0 l g_From g_Step g_Count g_Rule g_Reach time
noncomputable def ref08_At.F (x : (((List (Int × Int)) × (Int × Int × Int × Int × Int × Unit) × Int × Unit) × (Unit))) : Option ((Int × Bool × Unit) × (Unit)) := ref08_At x.1.1 x.1.2.1.1 x.1.2.1.2.1 x.1.2.1.2.2.1 x.1.2.1.2.2.2.1 x.1.2.1.2.2.2.2.1 x.1.2.2.1
theorem ref08_At.L0_eq (l_0 : (List (Int × Int))) (time_2 : Int) (o0_0 : Int) (o0_1 : Int) (o0_2 : Int) (o0_3 : Int) (o0_4 : Int) : ref08_At.L0 ((l_0, time_2, (), ()), ((o0_0, o0_1, o0_2, o0_3, o0_4, ()), ())) = ref08_At.f0 ref08_check.F ref08_Valid.F l_0 time_2 o0_0 o0_1 o0_2 o0_3 o0_4 := rfl
theorem ref08_At.F_eq (l : (List (Int × Int))) (g_From : Int) (g_Step : Int) (g_Count : Int) (g_Rule : Int) (g_Reach : Int) (time : Int) : ref08_At.F ((l, (g_From, g_Step, g_Count, g_Rule, g_Reach, ()), time, ()), ()) = ref08_At.f ref08_at.F ref08_At.L0 l g_From g_Step g_Count g_Rule g_Reach time := rfl
theorem ref08_At.ok : FOK Go.Proofs.Try.prog [] 24 (FE.of [true, true, true] false ref08_At.sh ref08_At.osh ref08_At.F) := by
  refine fn_keeps (E := (ref08_At.E ref08_check.F ref08_Valid.F ref08_at.F ref08_At.L0)) (c := ref08_At.c) (fn := Go.Proofs.Try.f24) (hs := ref08_At.hs) (by kernel_rfl) Go.Proofs.Try.func24 ⟨by kernel_rfl, by kernel_rfl, tb, by kernel_rfl, by kernel_rfl, by kernel_rfl, by kernel_rfl, by kernel_rfl⟩ (fun g fe h => ?_) ?_ (fun x => ref08_At.eq ref08_check.F ref08_Valid.F ref08_at.F ref08_At.L0 x)
  · rcases c_cons h with ⟨rfl, rfl⟩ | h
    · exact ref08_check.ok
    rcases c_cons h with ⟨rfl, rfl⟩ | h
    · exact ref08_Valid.ok
    rcases c_cons h with ⟨rfl, rfl⟩ | h
    · exact ref08_at.ok
    cases h
  · refine known_at 1 (by kernel_rfl) fun i hi => ?_
    match i, hi with
    | 0, _ => exact atom_at (id := 0) (live := [0, 2, 4]) (outs := [(0, [0, 2, 4, 23])]) (loop := false) (by kernel_rfl) (cut_ok (E := (ref08_At.E ref08_check.F ref08_Valid.F ref08_at.F ref08_At.L0)) (sh := ref08_At.s0) (es := ref08_At.x0) rfl (fun L x => ref08_At.eq0 ref08_check.F ref08_Valid.F ref08_at.F ref08_At.L0 L x))
    | n + 1, h => exact absurd h (by omega)
end Go.Proofs.Ytknkiogjibpooab.V
