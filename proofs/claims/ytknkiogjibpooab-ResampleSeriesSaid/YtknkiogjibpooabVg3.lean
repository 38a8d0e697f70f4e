import Derived.Test.YtknkiogjibpooabVg2
set_option linter.unusedVariables false
set_option maxRecDepth 100000
namespace Go.Proofs.Ytknkiogjibpooab.V
open Go.VI
/-! keep_Src_Wrong -/
def keep_Src_Wrong.f (g_keep_Src_Pick : ((Unit × (List Int) × Unit) × (((List Int) × Int × Unit) × Unit)) → Option ((Int × Unit) × (((List Int) × Int × Unit) × Unit))) (g_keep_Src_N : ((Unit × Int × Unit) × (((List Int) × Int × Unit) × Unit)) → Option ((Int × Unit) × (((List Int) × Int × Unit) × Unit))) (l : (List (Int × Int))) (o0_0 : (List Int)) (o0_1 : Int) : Option ((Unit × Unit) × (((List Int) × Int × Unit) × (List (Int × Int)) × Unit)) :=
  (bif (decide ((((List.length ([] : List (Int × Int))) + (List.length l)) * (16:Nat)) ≤ (140737488355328:Nat))) then
   (bif ((((List.length (([] : List (Int × Int)) ++ l)) : Nat) : Int) == (0:Int)) then
    (Option.bind (g_keep_Src_Pick (((), ([(-(1:Int)), (1099511627776:Int), (1099511627777:Int)], ())), ((o0_0, (o0_1, ())), ()))) (fun y2 =>
    (Option.bind (g_keep_Src_Pick (((), ([(0:Int), (1001:Int)], ())), ((y2.2.1.1, (y2.2.1.2.1, ())), ()))) (fun y3 =>
    (bif (decide ((((List.length (([] : List (Int × Int)) ++ l)) + (List.length [(y2.1.1, y3.1.1)])) * (16:Nat)) ≤ (140737488355328:Nat))) then
     (some (((), ()), ((y3.2.1.1, (y3.2.1.2.1, ())), (((([] : List (Int × Int)) ++ l) ++ [(y2.1.1, y3.1.1)]), ()))))
    else
     none)))))
   else
    (Option.bind (g_keep_Src_N (((), ((((List.length (([] : List (Int × Int)) ++ l)) : Nat) : Int), ())), ((o0_0, (o0_1, ())), ()))) (fun y2 =>
    (Option.bind (g_keep_Src_N (((), ((3:Int), ())), ((y2.2.1.1, (y2.2.1.2.1, ())), ()))) (fun y3 =>
    (bif (y3.1.1 == (0:Int)) then
     (Option.bind (g_keep_Src_Pick (((), ([(-(1:Int)), (0:Int), (1099511627776:Int), (1099511627777:Int), (4611686018427387904:Int), (-(9223372036854775808:Int))], ())), ((y3.2.1.1, (y3.2.1.2.1, ())), ()))) (fun y5 =>
     (bif (decide ((0:Int) ≤ y2.1.1)) then
      (bif (decide (y2.1.1 < (((List.length (([] : List (Int × Int)) ++ l)) : Nat) : Int))) then
       (some (((), ()), ((y5.2.1.1, (y5.2.1.2.1, ())), ((List.set (([] : List (Int × Int)) ++ l) (Int.toNat y2.1.1) (y5.1.1, (List.getD (([] : List (Int × Int)) ++ l) (Int.toNat y2.1.1) ((0:Int), (0:Int))).2)), ()))))
      else
       none)
     else
      none)))
    else
     (bif (y3.1.1 == (1:Int)) then
      (Option.bind (g_keep_Src_Pick (((), ([(1000:Int), (1001:Int), (-(1001:Int)), (9223372036854775807:Int), (-(9223372036854775808:Int))], ())), ((y3.2.1.1, (y3.2.1.2.1, ())), ()))) (fun y6 =>
      (bif (decide ((0:Int) ≤ y2.1.1)) then
       (bif (decide (y2.1.1 < (((List.length (([] : List (Int × Int)) ++ l)) : Nat) : Int))) then
        (some (((), ()), ((y6.2.1.1, (y6.2.1.2.1, ())), ((List.set (([] : List (Int × Int)) ++ l) (Int.toNat y2.1.1) ((List.getD (([] : List (Int × Int)) ++ l) (Int.toNat y2.1.1) ((0:Int), (0:Int))).1, y6.1.1)), ()))))
       else
        none)
      else
       none)))
     else
      (bif (decide ((0:Int) ≤ y2.1.1)) then
       (bif (decide (y2.1.1 < (((List.length (([] : List (Int × Int)) ++ l)) : Nat) : Int))) then
        (bif (decide ((((List.length (([] : List (Int × Int)) ++ l)) + (List.length [((List.getD (([] : List (Int × Int)) ++ l) (Int.toNat y2.1.1) ((0:Int), (0:Int))).1, (List.getD (([] : List (Int × Int)) ++ l) (Int.toNat y2.1.1) ((0:Int), (0:Int))).2)])) * (16:Nat)) ≤ (140737488355328:Nat))) then
         (some (((), ()), ((y3.2.1.1, (y3.2.1.2.1, ())), (((([] : List (Int × Int)) ++ l) ++ [((List.getD (([] : List (Int × Int)) ++ l) (Int.toNat y2.1.1) ((0:Int), (0:Int))).1, (List.getD (([] : List (Int × Int)) ++ l) (Int.toNat y2.1.1) ((0:Int), (0:Int))).2)]), ()))))
        else
         none)
       else
        none)
      else
       none))))))))
  else
   none)
theorem keep_Src_Wrong.eq (g_keep_Src_Pick : keep_Src_Pick.sh.X → Option keep_Src_Pick.osh.X) (g_keep_Src_N : keep_Src_N.sh.X → Option keep_Src_N.osh.X) (x : ((Unit × (List (Int × Int)) × Unit) × (((List Int) × Int × Unit) × Unit))) : (bodyO (keep_Src_Wrong.E g_keep_Src_Pick g_keep_Src_N) (mk keep_Src_Wrong.hs keep_Src_Wrong.c []) Go.Proofs.Try.f19.results.toList keep_Src_Wrong.sh keep_Src_Wrong.osh x).run _ some = keep_Src_Wrong.f g_keep_Src_Pick g_keep_Src_N x.1.2.1 x.2.1.1 x.2.1.2.1 := by
  show _ = (_ : Option _)
  kernel_rfl
noncomputable def keep_Src_Wrong (l : (List (Int × Int))) (o0_0 : (List Int)) (o0_1 : Int) : Option ((Unit × Unit) × (((List Int) × Int × Unit) × (List (Int × Int)) × Unit)) := keep_Src_Wrong.f keep_Src_Pick.F keep_Src_N.F l o0_0 o0_1
noncomputable def keep_Src_Wrong.F (x : ((Unit × (List (Int × Int)) × Unit) × (((List Int) × Int × Unit) × Unit))) : Option ((Unit × Unit) × (((List Int) × Int × Unit) × (List (Int × Int)) × Unit)) := keep_Src_Wrong x.1.2.1 x.2.1.1 x.2.1.2.1
theorem keep_Src_Wrong.F_eq (l : (List (Int × Int))) (o0_0 : (List Int)) (o0_1 : Int) : keep_Src_Wrong.F (((), l, ()), ((o0_0, o0_1, ()), ())) = keep_Src_Wrong.f keep_Src_Pick.F keep_Src_N.F l o0_0 o0_1 := rfl
theorem keep_Src_Wrong.ok : FOK Go.Proofs.Try.prog [] 19 (FE.of [true, true] true keep_Src_Wrong.sh keep_Src_Wrong.osh keep_Src_Wrong.F) := by
  refine fn_keeps (E := (keep_Src_Wrong.E keep_Src_Pick.F keep_Src_N.F)) (c := keep_Src_Wrong.c) (fn := Go.Proofs.Try.f19) (hs := keep_Src_Wrong.hs) (by kernel_rfl) Go.Proofs.Try.func19 ⟨by kernel_rfl, by kernel_rfl, tb, by kernel_rfl, by kernel_rfl, by kernel_rfl, by kernel_rfl, by kernel_rfl⟩ (fun g fe h => ?_) ?_ (fun x => keep_Src_Wrong.eq keep_Src_Pick.F keep_Src_N.F x)
  · rcases c_cons h with ⟨rfl, rfl⟩ | h
    · exact keep_Src_Pick.ok
    rcases c_cons h with ⟨rfl, rfl⟩ | h
    · exact keep_Src_N.ok
    cases h
  · exact known_at 0 (by kernel_rfl) fun i hi => absurd hi (Nat.not_lt_zero i)

/-! ref04_Sample -/
def ref04_Sample.f (n : Int) : Option ((Bool × Unit) × (Unit)) :=
  (bif (decide (n ≥ (-(1000:Int)))) then
   (some (((decide (n ≤ (1000:Int))), ()), ()))
  else
   (some ((Bool.false, ()), ())))
theorem ref04_Sample.eq (x : ((Int × Unit) × (Unit))) : (bodyO (ref04_Sample.E) (mk ref04_Sample.hs ref04_Sample.c []) Go.Proofs.Try.f43.results.toList ref04_Sample.sh ref04_Sample.osh x).run _ some = ref04_Sample.f x.1.1 := by
  show _ = (_ : Option _)
  kernel_rfl
noncomputable def ref04_Sample (n : Int) : Option ((Bool × Unit) × (Unit)) := ref04_Sample.f n
noncomputable def ref04_Sample.F (x : ((Int × Unit) × (Unit))) : Option ((Bool × Unit) × (Unit)) := ref04_Sample x.1.1
theorem ref04_Sample.F_eq (n : Int) : ref04_Sample.F ((n, ()), ()) = ref04_Sample.f n := rfl
theorem ref04_Sample.ok : FOK Go.Proofs.Try.prog [] 43 (FE.of [true] false ref04_Sample.sh ref04_Sample.osh ref04_Sample.F) := by
  refine fn_keeps (E := (ref04_Sample.E)) (c := ref04_Sample.c) (fn := Go.Proofs.Try.f43) (hs := ref04_Sample.hs) (by kernel_rfl) Go.Proofs.Try.func43 ⟨by kernel_rfl, by kernel_rfl, tb, by kernel_rfl, by kernel_rfl, by kernel_rfl, by kernel_rfl, by kernel_rfl⟩ (fun g fe h => ?_) ?_ (fun x => ref04_Sample.eq x)
  · cases h
  · exact known_at 0 (by kernel_rfl) fun i hi => absurd hi (Nat.not_lt_zero i)

/-! ref05_Valid -/
def ref05_Valid.f (g_ref04_Sample : ((Int × Unit) × (Unit)) → Option ((Bool × Unit) × (Unit))) (x_Time : Int) (x_Value : Int) : Option ((Bool × Unit) × (Unit)) :=
  (bif (decide (x_Time ≥ (0:Int))) then
   (bif (decide (x_Time ≤ (1099511627776:Int))) then
    (Option.bind (g_ref04_Sample ((x_Value, ()), ())) (fun y2 =>
    (some ((y2.1.1, ()), ()))))
   else
    (some ((Bool.false, ()), ())))
  else
   (some ((Bool.false, ()), ())))
theorem ref05_Valid.eq (g_ref04_Sample : ref04_Sample.sh.X → Option ref04_Sample.osh.X) (x : (((Int × Int × Unit) × Unit) × (Unit))) : (bodyO (ref05_Valid.E g_ref04_Sample) (mk ref05_Valid.hs ref05_Valid.c []) Go.Proofs.Try.f40.results.toList ref05_Valid.sh ref05_Valid.osh x).run _ some = ref05_Valid.f g_ref04_Sample x.1.1.1 x.1.1.2.1 := by
  show _ = (_ : Option _)
  kernel_rfl
noncomputable def ref05_Valid (x_Time : Int) (x_Value : Int) : Option ((Bool × Unit) × (Unit)) := ref05_Valid.f ref04_Sample.F x_Time x_Value
noncomputable def ref05_Valid.F (x : (((Int × Int × Unit) × Unit) × (Unit))) : Option ((Bool × Unit) × (Unit)) := ref05_Valid x.1.1.1 x.1.1.2.1
theorem ref05_Valid.F_eq (x_Time : Int) (x_Value : Int) : ref05_Valid.F (((x_Time, x_Value, ()), ()), ()) = ref05_Valid.f ref04_Sample.F x_Time x_Value := rfl
theorem ref05_Valid.ok : FOK Go.Proofs.Try.prog [] 40 (FE.of [true] false ref05_Valid.sh ref05_Valid.osh ref05_Valid.F) := by
  refine fn_keeps (E := (ref05_Valid.E ref04_Sample.F)) (c := ref05_Valid.c) (fn := Go.Proofs.Try.f40) (hs := ref05_Valid.hs) (by kernel_rfl) Go.Proofs.Try.func40 ⟨by kernel_rfl, by kernel_rfl, tb, by kernel_rfl, by kernel_rfl, by kernel_rfl, by kernel_rfl, by kernel_rfl⟩ (fun g fe h => ?_) ?_ (fun x => ref05_Valid.eq ref04_Sample.F x)
  · rcases c_cons h with ⟨rfl, rfl⟩ | h
    · exact ref04_Sample.ok
    cases h
  · exact known_at 0 (by kernel_rfl) fun i hi => absurd hi (Nat.not_lt_zero i)

/-! ref05_Check -/
def ref05_Check.f0 (g_ref05_Valid : (((Int × Int × Unit) × Unit) × (Unit)) → Option ((Bool × Unit) × (Unit))) (L : (((List (Int × Int)) × Int × Int × Unit) × (Unit)) → Option (((Unit) × (Unit)) ⊕ ((Int × Unit) × (Unit)) ⊕ Empty)) (l_0 : (List (Int × Int))) (v8 : Int) (v9 : Int) : Option (((Unit) × (Unit)) ⊕ ((Int × Unit) × (Unit)) ⊕ Empty) :=
  (bif (decide (v9 < v8)) then
   (bif (decide ((0:Int) ≤ v9)) then
    (bif (decide (v9 < (((List.length l_0) : Nat) : Int))) then
     (Option.bind (g_ref05_Valid ((((List.getD l_0 (Int.toNat v9) ((0:Int), (0:Int))).1, ((List.getD l_0 (Int.toNat v9) ((0:Int), (0:Int))).2, ())), ()), ())) (fun y3 =>
     (bif (!y3.1.1) then
      (some (Sum.inr (Sum.inl (((1:Int), ()), ()))))
     else
      (Option.bind (L ((l_0, (v8, ((Go.IntKind.wrap Go.IntKind.i64 (v9 + (1:Int))), ()))), ())) (fun y5 =>
      (some y5))))))
    else
     none)
   else
    none)
  else
   (some (Sum.inl ((), ()))))
theorem ref05_Check.eq0 (g_ref05_Valid : ref05_Valid.sh.X → Option ref05_Valid.osh.X) (l0 : ref05_Check.s0.X → Option (sumX ref05_Check.x0)) (L : (((List (Int × Int)) × Int × Int × Unit) × (Unit)) → Option (((Unit) × (Unit)) ⊕ ((Int × Unit) × (Unit)) ⊕ Empty)) (x : (((List (Int × Int)) × Int × Int × Unit) × (Unit))) : (roundK (ref05_Check.E g_ref05_Valid l0) ref05_Check.s0 [0, 8, 9] [(2, []), (1, [2])] true (((mk ref05_Check.hs ref05_Check.c []).atoms.getD 0 .bad).body) ref05_Check.x0 L x).run _ some = ref05_Check.f0 g_ref05_Valid L x.1.1 x.1.2.1 x.1.2.2.1 := by
  show _ = (_ : Option _)
  kernel_rfl
noncomputable def ref05_Check.L0 : (((List (Int × Int)) × Int × Int × Unit) × (Unit)) → Option (((Unit) × (Unit)) ⊕ ((Int × Unit) × (Unit)) ⊕ Empty) := loop fun L x => ref05_Check.f0 ref05_Valid.F L x.1.1 x.1.2.1 x.1.2.2.1
def ref05_Check.f (l0 : (((List (Int × Int)) × Int × Int × Unit) × (Unit)) → Option (((Unit) × (Unit)) ⊕ ((Int × Unit) × (Unit)) ⊕ Empty)) (l : (List (Int × Int))) : Option ((Int × Unit) × (Unit)) :=
  (bif (decide ((((List.length l) : Nat) : Int) > (2000:Int))) then
   (some (((4:Int), ()), ()))
  else
   (Option.bind (l0 ((l, ((((List.length l) : Nat) : Int), ((0:Int), ()))), ())) (fun y1 =>
   (Sum.elim (fun a2 =>
    (some (((0:Int), ()), ()))) (fun b2 =>
    (Sum.elim (fun a3 =>
     (some ((a3.1.1, ()), ()))) (fun b3 =>
     (Empty.elim b3)) b2)) y1))))
theorem ref05_Check.eq (g_ref05_Valid : ref05_Valid.sh.X → Option ref05_Valid.osh.X) (l0 : ref05_Check.s0.X → Option (sumX ref05_Check.x0)) (x : (((List (Int × Int)) × Unit) × (Unit))) : (bodyO (ref05_Check.E g_ref05_Valid l0) (mk ref05_Check.hs ref05_Check.c []) Go.Proofs.Try.f35.results.toList ref05_Check.sh ref05_Check.osh x).run _ some = ref05_Check.f l0 x.1.1 := by
  show _ = (_ : Option _)
  kernel_rfl
noncomputable def ref05_Check (l : (List (Int × Int))) : Option ((Int × Unit) × (Unit)) := ref05_Check.f ref05_Check.L0 l
noncomputable def ref05_Check.F (x : (((List (Int × Int)) × Unit) × (Unit))) : Option ((Int × Unit) × (Unit)) := ref05_Check x.1.1
theorem ref05_Check.L0_eq (l_0 : (List (Int × Int))) (v8 : Int) (v9 : Int) : ref05_Check.L0 ((l_0, v8, v9, ()), ()) = ref05_Check.f0 ref05_Valid.F ref05_Check.L0 l_0 v8 v9 :=
  loop_eq (E := (ref05_Check.E ref05_Valid.F ref05_Check.L0)) (sh := ref05_Check.s0) (es := ref05_Check.x0) (lp := true) (H := fun L x => ref05_Check.eq0 ref05_Valid.F ref05_Check.L0 L x) ((l_0, v8, v9, ()), ())
theorem ref05_Check.F_eq (l : (List (Int × Int))) : ref05_Check.F ((l, ()), ()) = ref05_Check.f ref05_Check.L0 l := rfl
theorem ref05_Check.ok : FOK Go.Proofs.Try.prog [] 35 (FE.of [true] false ref05_Check.sh ref05_Check.osh ref05_Check.F) := by
  refine fn_keeps (E := (ref05_Check.E ref05_Valid.F ref05_Check.L0)) (c := ref05_Check.c) (fn := Go.Proofs.Try.f35) (hs := ref05_Check.hs) (by kernel_rfl) Go.Proofs.Try.func35 ⟨by kernel_rfl, by kernel_rfl, tb, by kernel_rfl, by kernel_rfl, by kernel_rfl, by kernel_rfl, by kernel_rfl⟩ (fun g fe h => ?_) ?_ (fun x => ref05_Check.eq ref05_Valid.F ref05_Check.L0 x)
  · rcases c_cons h with ⟨rfl, rfl⟩ | h
    · exact ref05_Valid.ok
    cases h
  · refine known_at 1 (by kernel_rfl) fun i hi => ?_
    match i, hi with
    | 0, _ => exact atom_at (id := 0) (live := [0, 8, 9]) (outs := [(2, []), (1, [2])]) (loop := true) (by kernel_rfl) (loop_ok (E := (ref05_Check.E ref05_Valid.F ref05_Check.L0)) (sh := ref05_Check.s0) (es := ref05_Check.x0) rfl (fun L x => ref05_Check.eq0 ref05_Valid.F ref05_Check.L0 L x))
    | n + 1, h => exact absurd h (by omega)

/-! ref08_check -/
def ref08_check.f0 (L : (((List (Int × Int)) × Int × Unit) × (Unit)) → Option (((Unit) × (Unit)) ⊕ ((Int × Unit) × (Unit)) ⊕ Empty)) (l_0 : (List (Int × Int))) (i_4 : Int) : Option (((Unit) × (Unit)) ⊕ ((Int × Unit) × (Unit)) ⊕ Empty) :=
  (bif (decide (i_4 < (((List.length l_0) : Nat) : Int))) then
   (bif (decide ((0:Int) ≤ i_4)) then
    (bif (decide (i_4 < (((List.length l_0) : Nat) : Int))) then
     (bif (decide ((0:Int) ≤ (Go.IntKind.wrap Go.IntKind.i64 (i_4 - (1:Int))))) then
      (bif (decide ((Go.IntKind.wrap Go.IntKind.i64 (i_4 - (1:Int))) < (((List.length l_0) : Nat) : Int))) then
       (bif (decide ((List.getD l_0 (Int.toNat i_4) ((0:Int), (0:Int))).1 ≤ (List.getD l_0 (Int.toNat (Go.IntKind.wrap Go.IntKind.i64 (i_4 - (1:Int)))) ((0:Int), (0:Int))).1)) then
        (some (Sum.inr (Sum.inl (((6:Int), ()), ()))))
       else
        (Option.bind (L ((l_0, ((Go.IntKind.wrap Go.IntKind.i64 (i_4 + (1:Int))), ())), ())) (fun y6 =>
        (some y6))))
      else
       none)
     else
      none)
    else
     none)
   else
    none)
  else
   (some (Sum.inl ((), ()))))
theorem ref08_check.eq0 (g_ref05_Check : ref05_Check.sh.X → Option ref05_Check.osh.X) (l0 : ref08_check.s0.X → Option (sumX ref08_check.x0)) (L : (((List (Int × Int)) × Int × Unit) × (Unit)) → Option (((Unit) × (Unit)) ⊕ ((Int × Unit) × (Unit)) ⊕ Empty)) (x : (((List (Int × Int)) × Int × Unit) × (Unit))) : (roundK (ref08_check.E g_ref05_Check l0) ref08_check.s0 [0, 4] [(2, []), (1, [2])] true (((mk ref08_check.hs ref08_check.c []).atoms.getD 0 .bad).body) ref08_check.x0 L x).run _ some = ref08_check.f0 L x.1.1 x.1.2.1 := by
  show _ = (_ : Option _)
  kernel_rfl
noncomputable def ref08_check.L0 : (((List (Int × Int)) × Int × Unit) × (Unit)) → Option (((Unit) × (Unit)) ⊕ ((Int × Unit) × (Unit)) ⊕ Empty) := loop fun L x => ref08_check.f0 L x.1.1 x.1.2.1
def ref08_check.f (g_ref05_Check : (((List (Int × Int)) × Unit) × (Unit)) → Option ((Int × Unit) × (Unit))) (l0 : (((List (Int × Int)) × Int × Unit) × (Unit)) → Option (((Unit) × (Unit)) ⊕ ((Int × Unit) × (Unit)) ⊕ Empty)) (l : (List (Int × Int))) : Option ((Int × Unit) × (Unit)) :=
  (Option.bind (g_ref05_Check ((l, ()), ())) (fun y0 =>
  (bif (y0.1.1 != (0:Int)) then
   (some ((y0.1.1, ()), ()))
  else
   (Option.bind (l0 ((l, ((1:Int), ())), ())) (fun y2 =>
   (Sum.elim (fun a3 =>
    (some (((0:Int), ()), ()))) (fun b3 =>
    (Sum.elim (fun a4 =>
     (some ((a4.1.1, ()), ()))) (fun b4 =>
     (Empty.elim b4)) b3)) y2))))))
theorem ref08_check.eq (g_ref05_Check : ref05_Check.sh.X → Option ref05_Check.osh.X) (l0 : ref08_check.s0.X → Option (sumX ref08_check.x0)) (x : (((List (Int × Int)) × Unit) × (Unit))) : (bodyO (ref08_check.E g_ref05_Check l0) (mk ref08_check.hs ref08_check.c []) Go.Proofs.Try.f31.results.toList ref08_check.sh ref08_check.osh x).run _ some = ref08_check.f g_ref05_Check l0 x.1.1 := by
  show _ = (_ : Option _)
  kernel_rfl
noncomputable def ref08_check (l : (List (Int × Int))) : Option ((Int × Unit) × (Unit)) := ref08_check.f ref05_Check.F ref08_check.L0 l
noncomputable def ref08_check.F (x : (((List (Int × Int)) × Unit) × (Unit))) : Option ((Int × Unit) × (Unit)) := ref08_check x.1.1
theorem ref08_check.L0_eq (l_0 : (List (Int × Int))) (i_4 : Int) : ref08_check.L0 ((l_0, i_4, ()), ()) = ref08_check.f0 ref08_check.L0 l_0 i_4 :=
  loop_eq (E := (ref08_check.E ref05_Check.F ref08_check.L0)) (sh := ref08_check.s0) (es := ref08_check.x0) (lp := true) (H := fun L x => ref08_check.eq0 ref05_Check.F ref08_check.L0 L x) ((l_0, i_4, ()), ())
theorem ref08_check.F_eq (l : (List (Int × Int))) : ref08_check.F ((l, ()), ()) = ref08_check.f ref05_Check.F ref08_check.L0 l := rfl
theorem ref08_check.ok : FOK Go.Proofs.Try.prog [] 31 (FE.of [true] false ref08_check.sh ref08_check.osh ref08_check.F) := by
  refine fn_keeps (E := (ref08_check.E ref05_Check.F ref08_check.L0)) (c := ref08_check.c) (fn := Go.Proofs.Try.f31) (hs := ref08_check.hs) (by kernel_rfl) Go.Proofs.Try.func31 ⟨by kernel_rfl, by kernel_rfl, tb, by kernel_rfl, by kernel_rfl, by kernel_rfl, by kernel_rfl, by kernel_rfl⟩ (fun g fe h => ?_) ?_ (fun x => ref08_check.eq ref05_Check.F ref08_check.L0 x)
  · rcases c_cons h with ⟨rfl, rfl⟩ | h
    · exact ref05_Check.ok
    cases h
  · refine known_at 1 (by kernel_rfl) fun i hi => ?_
    match i, hi with
    | 0, _ => exact atom_at (id := 0) (live := [0, 4]) (outs := [(2, []), (1, [2])]) (loop := true) (by kernel_rfl) (loop_ok (E := (ref08_check.E ref05_Check.F ref08_check.L0)) (sh := ref08_check.s0) (es := ref08_check.x0) rfl (fun L x => ref08_check.eq0 ref05_Check.F ref08_check.L0 L x))
    | n + 1, h => exact absurd h (by omega)

/-! ref04_Down -/
def ref04_Down.f (a : Int) (b : Int) : Option ((Int × Unit) × (Unit)) :=
  (bif (!(decide (b = (0:Int)))) then
   (bif (!(decide (b = (0:Int)))) then
    (bif (decide ((Int.tmod a b) < (0:Int))) then
     (some (((Go.IntKind.wrap Go.IntKind.i64 ((Go.IntKind.wrap Go.IntKind.i64 (Int.tdiv a b)) - (1:Int))), ()), ()))
    else
     (some (((Go.IntKind.wrap Go.IntKind.i64 (Int.tdiv a b)), ()), ())))
   else
    none)
  else
   none)
theorem ref04_Down.eq (x : ((Int × Int × Unit) × (Unit))) : (bodyO (ref04_Down.E) (mk ref04_Down.hs ref04_Down.c []) Go.Proofs.Try.f41.results.toList ref04_Down.sh ref04_Down.osh x).run _ some = ref04_Down.f x.1.1 x.1.2.1 := by
  show _ = (_ : Option _)
  kernel_rfl
noncomputable def ref04_Down (a : Int) (b : Int) : Option ((Int × Unit) × (Unit)) := ref04_Down.f a b
noncomputable def ref04_Down.F (x : ((Int × Int × Unit) × (Unit))) : Option ((Int × Unit) × (Unit)) := ref04_Down x.1.1 x.1.2.1
theorem ref04_Down.F_eq (a : Int) (b : Int) : ref04_Down.F ((a, b, ()), ()) = ref04_Down.f a b := rfl
theorem ref04_Down.ok : FOK Go.Proofs.Try.prog [] 41 (FE.of [true, true] false ref04_Down.sh ref04_Down.osh ref04_Down.F) := by
  refine fn_keeps (E := (ref04_Down.E)) (c := ref04_Down.c) (fn := Go.Proofs.Try.f41) (hs := ref04_Down.hs) (by kernel_rfl) Go.Proofs.Try.func41 ⟨by kernel_rfl, by kernel_rfl, tb, by kernel_rfl, by kernel_rfl, by kernel_rfl, by kernel_rfl, by kernel_rfl⟩ (fun g fe h => ?_) ?_ (fun x => ref04_Down.eq x)
  · cases h
  · exact known_at 0 (by kernel_rfl) fun i hi => absurd hi (Nat.not_lt_zero i)

/-! ref04_Half -/
def ref04_Half.f (g_ref04_Down : ((Int × Int × Unit) × (Unit)) → Option ((Int × Unit) × (Unit))) (a : Int) (b : Int) : Option ((Int × Unit) × (Unit)) :=
  (Option.bind (g_ref04_Down (((Go.IntKind.wrap Go.IntKind.i64 ((Go.IntKind.wrap Go.IntKind.i64 ((2:Int) * a)) + b)), ((Go.IntKind.wrap Go.IntKind.i64 ((2:Int) * b)), ())), ())) (fun y0 =>
  (some ((y0.1.1, ()), ()))))
theorem ref04_Half.eq (g_ref04_Down : ref04_Down.sh.X → Option ref04_Down.osh.X) (x : ((Int × Int × Unit) × (Unit))) : (bodyO (ref04_Half.E g_ref04_Down) (mk ref04_Half.hs ref04_Half.c []) Go.Proofs.Try.f36.results.toList ref04_Half.sh ref04_Half.osh x).run _ some = ref04_Half.f g_ref04_Down x.1.1 x.1.2.1 := by
  show _ = (_ : Option _)
  kernel_rfl
noncomputable def ref04_Half (a : Int) (b : Int) : Option ((Int × Unit) × (Unit)) := ref04_Half.f ref04_Down.F a b
noncomputable def ref04_Half.F (x : ((Int × Int × Unit) × (Unit))) : Option ((Int × Unit) × (Unit)) := ref04_Half x.1.1 x.1.2.1
theorem ref04_Half.F_eq (a : Int) (b : Int) : ref04_Half.F ((a, b, ()), ()) = ref04_Half.f ref04_Down.F a b := rfl
theorem ref04_Half.ok : FOK Go.Proofs.Try.prog [] 36 (FE.of [true, true] false ref04_Half.sh ref04_Half.osh ref04_Half.F) := by
  refine fn_keeps (E := (ref04_Half.E ref04_Down.F)) (c := ref04_Half.c) (fn := Go.Proofs.Try.f36) (hs := ref04_Half.hs) (by kernel_rfl) Go.Proofs.Try.func36 ⟨by kernel_rfl, by kernel_rfl, tb, by kernel_rfl, by kernel_rfl, by kernel_rfl, by kernel_rfl, by kernel_rfl⟩ (fun g fe h => ?_) ?_ (fun x => ref04_Half.eq ref04_Down.F x)
  · rcases c_cons h with ⟨rfl, rfl⟩ | h
    · exact ref04_Down.ok
    cases h
  · exact known_at 0 (by kernel_rfl) fun i hi => absurd hi (Nat.not_lt_zero i)

/-! ref08_at -/
def ref08_at.f0 (L : (((List (Int × Int)) × Int × Unit × Int × Int × Int × Int × Unit) × ((Int × Int × Int × Int × Int × Unit) × Unit)) → Option ((((List (Int × Int)) × Int × Unit × Int × Int × Unit) × ((Int × Int × Int × Int × Int × Unit) × Unit)) ⊕ Empty)) (l_0 : (List (Int × Int))) (t_2 : Int) (a_8 : Int) (b_9 : Int) (v16 : Int) (v17 : Int) (o0_0 : Int) (o0_1 : Int) (o0_2 : Int) (o0_3 : Int) (o0_4 : Int) : Option ((((List (Int × Int)) × Int × Unit × Int × Int × Unit) × ((Int × Int × Int × Int × Int × Unit) × Unit)) ⊕ Empty) :=
  (bif (decide (v17 < v16)) then
   (bif (decide ((0:Int) ≤ v17)) then
    (bif (decide (v17 < (((List.length l_0) : Nat) : Int))) then
     (bif (decide ((List.getD l_0 (Int.toNat v17) ((0:Int), (0:Int))).1 ≤ t_2)) then
      (bif (decide ((0:Int) ≤ v17)) then
       (bif (decide (v17 < (((List.length l_0) : Nat) : Int))) then
        (bif (decide ((List.getD l_0 (Int.toNat v17) ((0:Int), (0:Int))).1 ≥ t_2)) then
         (bif (decide (b_9 < (0:Int))) then
          (Option.bind (L ((l_0, (t_2, ((), (v17, (v17, (v16, ((Go.IntKind.wrap Go.IntKind.i64 (v17 + (1:Int))), ()))))))), ((o0_0, (o0_1, (o0_2, (o0_3, (o0_4, ()))))), ()))) (fun y8 =>
          (some y8)))
         else
          (Option.bind (L ((l_0, (t_2, ((), (v17, (b_9, (v16, ((Go.IntKind.wrap Go.IntKind.i64 (v17 + (1:Int))), ()))))))), ((o0_0, (o0_1, (o0_2, (o0_3, (o0_4, ()))))), ()))) (fun y8 =>
          (some y8))))
        else
         (Option.bind (L ((l_0, (t_2, ((), (v17, (b_9, (v16, ((Go.IntKind.wrap Go.IntKind.i64 (v17 + (1:Int))), ()))))))), ((o0_0, (o0_1, (o0_2, (o0_3, (o0_4, ()))))), ()))) (fun y7 =>
         (some y7))))
       else
        none)
      else
       none)
     else
      (bif (decide ((0:Int) ≤ v17)) then
       (bif (decide (v17 < (((List.length l_0) : Nat) : Int))) then
        (bif (decide ((List.getD l_0 (Int.toNat v17) ((0:Int), (0:Int))).1 ≥ t_2)) then
         (bif (decide (b_9 < (0:Int))) then
          (Option.bind (L ((l_0, (t_2, ((), (a_8, (v17, (v16, ((Go.IntKind.wrap Go.IntKind.i64 (v17 + (1:Int))), ()))))))), ((o0_0, (o0_1, (o0_2, (o0_3, (o0_4, ()))))), ()))) (fun y8 =>
          (some y8)))
         else
          (Option.bind (L ((l_0, (t_2, ((), (a_8, (b_9, (v16, ((Go.IntKind.wrap Go.IntKind.i64 (v17 + (1:Int))), ()))))))), ((o0_0, (o0_1, (o0_2, (o0_3, (o0_4, ()))))), ()))) (fun y8 =>
          (some y8))))
        else
         (Option.bind (L ((l_0, (t_2, ((), (a_8, (b_9, (v16, ((Go.IntKind.wrap Go.IntKind.i64 (v17 + (1:Int))), ()))))))), ((o0_0, (o0_1, (o0_2, (o0_3, (o0_4, ()))))), ()))) (fun y7 =>
         (some y7))))
       else
        none)
      else
       none))
    else
     none)
   else
    none)
  else
   (some (Sum.inl ((l_0, (t_2, ((), (a_8, (b_9, ()))))), ((o0_0, (o0_1, (o0_2, (o0_3, (o0_4, ()))))), ())))))
theorem ref08_at.eq0 (g_ref04_Half : ref04_Half.sh.X → Option ref04_Half.osh.X) (l0 : ref08_at.s0.X → Option (sumX ref08_at.x0)) (l1 : ref08_at.s1.X → Option (sumX ref08_at.x1)) (l2 : ref08_at.s2.X → Option (sumX ref08_at.x2)) (l3 : ref08_at.s3.X → Option (sumX ref08_at.x3)) (l4 : ref08_at.s4.X → Option (sumX ref08_at.x4)) (l5 : ref08_at.s5.X → Option (sumX ref08_at.x5)) (l6 : ref08_at.s6.X → Option (sumX ref08_at.x6)) (L : (((List (Int × Int)) × Int × Unit × Int × Int × Int × Int × Unit) × ((Int × Int × Int × Int × Int × Unit) × Unit)) → Option ((((List (Int × Int)) × Int × Unit × Int × Int × Unit) × ((Int × Int × Int × Int × Int × Unit) × Unit)) ⊕ Empty)) (x : (((List (Int × Int)) × Int × Unit × Int × Int × Int × Int × Unit) × ((Int × Int × Int × Int × Int × Unit) × Unit))) : (roundK (ref08_at.E g_ref04_Half l0 l1 l2 l3 l4 l5 l6) ref08_at.s0 [0, 2, 4, 8, 9, 16, 17] [(2, [0, 2, 4, 8, 9])] true (((mk ref08_at.hs ref08_at.c []).atoms.getD 0 .bad).body) ref08_at.x0 L x).run _ some = ref08_at.f0 L x.1.1 x.1.2.1 x.1.2.2.2.1 x.1.2.2.2.2.1 x.1.2.2.2.2.2.1 x.1.2.2.2.2.2.2.1 x.2.1.1 x.2.1.2.1 x.2.1.2.2.1 x.2.1.2.2.2.1 x.2.1.2.2.2.2.1 := by
  show _ = (_ : Option _)
  kernel_rfl
noncomputable def ref08_at.L0 : (((List (Int × Int)) × Int × Unit × Int × Int × Int × Int × Unit) × ((Int × Int × Int × Int × Int × Unit) × Unit)) → Option ((((List (Int × Int)) × Int × Unit × Int × Int × Unit) × ((Int × Int × Int × Int × Int × Unit) × Unit)) ⊕ Empty) := loop fun L x => ref08_at.f0 L x.1.1 x.1.2.1 x.1.2.2.2.1 x.1.2.2.2.2.1 x.1.2.2.2.2.2.1 x.1.2.2.2.2.2.2.1 x.2.1.1 x.2.1.2.1 x.2.1.2.2.1 x.2.1.2.2.2.1 x.2.1.2.2.2.2.1
def ref08_at.f1 (l_0 : (List (Int × Int))) (t_2 : Int) (a_8 : Int) (b_9 : Int) (o0_0 : Int) (o0_1 : Int) (o0_2 : Int) (o0_3 : Int) (o0_4 : Int) : Option ((((List (Int × Int)) × Int × Unit × Int × Int × Bool × Bool × Unit) × ((Int × Int × Int × Int × Int × Unit) × Unit)) ⊕ Empty) :=
  (bif (decide (a_8 ≥ (0:Int))) then
   (bif (decide ((0:Int) ≤ (Go.VI.mx a_8 (0:Int)))) then
    (bif (decide ((Go.VI.mx a_8 (0:Int)) < (((List.length l_0) : Nat) : Int))) then
     (bif (decide (b_9 ≥ (0:Int))) then
      (bif (decide ((0:Int) ≤ (Go.VI.mx b_9 (0:Int)))) then
       (bif (decide ((Go.VI.mx b_9 (0:Int)) < (((List.length l_0) : Nat) : Int))) then
        (some (Sum.inl ((l_0, (t_2, ((), (a_8, (b_9, ((decide ((Go.IntKind.wrap Go.IntKind.i64 (t_2 - (List.getD l_0 (Int.toNat (Go.VI.mx a_8 (0:Int))) ((0:Int), (0:Int))).1)) ≤ o0_4)), ((decide ((Go.IntKind.wrap Go.IntKind.i64 ((List.getD l_0 (Int.toNat (Go.VI.mx b_9 (0:Int))) ((0:Int), (0:Int))).1 - t_2)) ≤ o0_4)), ()))))))), ((o0_0, (o0_1, (o0_2, (o0_3, (o0_4, ()))))), ()))))
       else
        none)
      else
       none)
     else
      (some (Sum.inl ((l_0, (t_2, ((), (a_8, (b_9, ((decide ((Go.IntKind.wrap Go.IntKind.i64 (t_2 - (List.getD l_0 (Int.toNat (Go.VI.mx a_8 (0:Int))) ((0:Int), (0:Int))).1)) ≤ o0_4)), (Bool.false, ()))))))), ((o0_0, (o0_1, (o0_2, (o0_3, (o0_4, ()))))), ())))))
    else
     none)
   else
    none)
  else
   (bif (decide (b_9 ≥ (0:Int))) then
    (bif (decide ((0:Int) ≤ (Go.VI.mx b_9 (0:Int)))) then
     (bif (decide ((Go.VI.mx b_9 (0:Int)) < (((List.length l_0) : Nat) : Int))) then
      (some (Sum.inl ((l_0, (t_2, ((), (a_8, (b_9, (Bool.false, ((decide ((Go.IntKind.wrap Go.IntKind.i64 ((List.getD l_0 (Int.toNat (Go.VI.mx b_9 (0:Int))) ((0:Int), (0:Int))).1 - t_2)) ≤ o0_4)), ()))))))), ((o0_0, (o0_1, (o0_2, (o0_3, (o0_4, ()))))), ()))))
     else
      none)
    else
     none)
   else
    (some (Sum.inl ((l_0, (t_2, ((), (a_8, (b_9, (Bool.false, (Bool.false, ()))))))), ((o0_0, (o0_1, (o0_2, (o0_3, (o0_4, ()))))), ()))))))
theorem ref08_at.eq1 (g_ref04_Half : ref04_Half.sh.X → Option ref04_Half.osh.X) (l0 : ref08_at.s0.X → Option (sumX ref08_at.x0)) (l1 : ref08_at.s1.X → Option (sumX ref08_at.x1)) (l2 : ref08_at.s2.X → Option (sumX ref08_at.x2)) (l3 : ref08_at.s3.X → Option (sumX ref08_at.x3)) (l4 : ref08_at.s4.X → Option (sumX ref08_at.x4)) (l5 : ref08_at.s5.X → Option (sumX ref08_at.x5)) (l6 : ref08_at.s6.X → Option (sumX ref08_at.x6)) (L : (((List (Int × Int)) × Int × Unit × Int × Int × Unit) × ((Int × Int × Int × Int × Int × Unit) × Unit)) → Option ((((List (Int × Int)) × Int × Unit × Int × Int × Bool × Bool × Unit) × ((Int × Int × Int × Int × Int × Unit) × Unit)) ⊕ Empty)) (x : (((List (Int × Int)) × Int × Unit × Int × Int × Unit) × ((Int × Int × Int × Int × Int × Unit) × Unit))) : (roundK (ref08_at.E g_ref04_Half l0 l1 l2 l3 l4 l5 l6) ref08_at.s1 [0, 2, 4, 8, 9] [(0, [0, 2, 4, 8, 9, 11, 12])] false (((mk ref08_at.hs ref08_at.c []).atoms.getD 1 .bad).body) ref08_at.x1 L x).run _ some = ref08_at.f1 x.1.1 x.1.2.1 x.1.2.2.2.1 x.1.2.2.2.2.1 x.2.1.1 x.2.1.2.1 x.2.1.2.2.1 x.2.1.2.2.2.1 x.2.1.2.2.2.2.1 := by
  show _ = (_ : Option _)
  kernel_rfl
noncomputable def ref08_at.L1 : (((List (Int × Int)) × Int × Unit × Int × Int × Unit) × ((Int × Int × Int × Int × Int × Unit) × Unit)) → Option ((((List (Int × Int)) × Int × Unit × Int × Int × Bool × Bool × Unit) × ((Int × Int × Int × Int × Int × Unit) × Unit)) ⊕ Empty) := fun x => ref08_at.f1 x.1.1 x.1.2.1 x.1.2.2.2.1 x.1.2.2.2.2.1 x.2.1.1 x.2.1.2.1 x.2.1.2.2.1 x.2.1.2.2.2.1 x.2.1.2.2.2.2.1
def ref08_at.f2 (l_0 : (List (Int × Int))) (t_2 : Int) (a_8 : Int) (b_9 : Int) (left_11 : Bool) (right_12 : Bool) (o0_0 : Int) (o0_1 : Int) (o0_2 : Int) (o0_3 : Int) (o0_4 : Int) : Option ((((List (Int × Int)) × Int × Unit × Int × Int × Bool × Bool × Bool × Unit) × ((Int × Int × Int × Int × Int × Unit) × Unit)) ⊕ Empty) :=
  (bif (o0_3 == (1:Int)) then
   (some (Sum.inl ((l_0, (t_2, ((), (a_8, (b_9, (left_11, (right_12, (left_11, ())))))))), ((o0_0, (o0_1, (o0_2, (o0_3, (o0_4, ()))))), ()))))
  else
   (some (Sum.inl ((l_0, (t_2, ((), (a_8, (b_9, (left_11, (right_12, (Bool.false, ())))))))), ((o0_0, (o0_1, (o0_2, (o0_3, (o0_4, ()))))), ())))))
theorem ref08_at.eq2 (g_ref04_Half : ref04_Half.sh.X → Option ref04_Half.osh.X) (l0 : ref08_at.s0.X → Option (sumX ref08_at.x0)) (l1 : ref08_at.s1.X → Option (sumX ref08_at.x1)) (l2 : ref08_at.s2.X → Option (sumX ref08_at.x2)) (l3 : ref08_at.s3.X → Option (sumX ref08_at.x3)) (l4 : ref08_at.s4.X → Option (sumX ref08_at.x4)) (l5 : ref08_at.s5.X → Option (sumX ref08_at.x5)) (l6 : ref08_at.s6.X → Option (sumX ref08_at.x6)) (L : (((List (Int × Int)) × Int × Unit × Int × Int × Bool × Bool × Unit) × ((Int × Int × Int × Int × Int × Unit) × Unit)) → Option ((((List (Int × Int)) × Int × Unit × Int × Int × Bool × Bool × Bool × Unit) × ((Int × Int × Int × Int × Int × Unit) × Unit)) ⊕ Empty)) (x : (((List (Int × Int)) × Int × Unit × Int × Int × Bool × Bool × Unit) × ((Int × Int × Int × Int × Int × Unit) × Unit))) : (roundK (ref08_at.E g_ref04_Half l0 l1 l2 l3 l4 l5 l6) ref08_at.s2 [0, 2, 4, 8, 9, 11, 12] [(0, [0, 2, 4, 8, 9, 11, 12, 71])] false (((mk ref08_at.hs ref08_at.c []).atoms.getD 2 .bad).body) ref08_at.x2 L x).run _ some = ref08_at.f2 x.1.1 x.1.2.1 x.1.2.2.2.1 x.1.2.2.2.2.1 x.1.2.2.2.2.2.1 x.1.2.2.2.2.2.2.1 x.2.1.1 x.2.1.2.1 x.2.1.2.2.1 x.2.1.2.2.2.1 x.2.1.2.2.2.2.1 := by
  show _ = (_ : Option _)
  kernel_rfl
noncomputable def ref08_at.L2 : (((List (Int × Int)) × Int × Unit × Int × Int × Bool × Bool × Unit) × ((Int × Int × Int × Int × Int × Unit) × Unit)) → Option ((((List (Int × Int)) × Int × Unit × Int × Int × Bool × Bool × Bool × Unit) × ((Int × Int × Int × Int × Int × Unit) × Unit)) ⊕ Empty) := fun x => ref08_at.f2 x.1.1 x.1.2.1 x.1.2.2.2.1 x.1.2.2.2.2.1 x.1.2.2.2.2.2.1 x.1.2.2.2.2.2.2.1 x.2.1.1 x.2.1.2.1 x.2.1.2.2.1 x.2.1.2.2.2.1 x.2.1.2.2.2.2.1
def ref08_at.f3 (l_0 : (List (Int × Int))) (t_2 : Int) (a_8 : Int) (b_9 : Int) (left_11 : Bool) (right_12 : Bool) (o0_0 : Int) (o0_1 : Int) (o0_2 : Int) (o0_3 : Int) (o0_4 : Int) : Option ((((List (Int × Int)) × Int × Unit × Int × Int × Bool × Bool × Bool × Unit) × ((Int × Int × Int × Int × Int × Unit) × Unit)) ⊕ Empty) :=
  (bif (o0_3 == (2:Int)) then
   (bif left_11 then
    (bif (!right_12) then
     (some (Sum.inl ((l_0, (t_2, ((), (a_8, (b_9, (left_11, (right_12, (Bool.true, ())))))))), ((o0_0, (o0_1, (o0_2, (o0_3, (o0_4, ()))))), ()))))
    else
     (bif (decide ((0:Int) ≤ a_8)) then
      (bif (decide (a_8 < (((List.length l_0) : Nat) : Int))) then
       (bif (decide ((0:Int) ≤ b_9)) then
        (bif (decide (b_9 < (((List.length l_0) : Nat) : Int))) then
         (some (Sum.inl ((l_0, (t_2, ((), (a_8, (b_9, (left_11, (right_12, ((decide ((Go.IntKind.wrap Go.IntKind.i64 (t_2 - (List.getD l_0 (Int.toNat a_8) ((0:Int), (0:Int))).1)) ≤ (Go.IntKind.wrap Go.IntKind.i64 ((List.getD l_0 (Int.toNat b_9) ((0:Int), (0:Int))).1 - t_2)))), ())))))))), ((o0_0, (o0_1, (o0_2, (o0_3, (o0_4, ()))))), ()))))
        else
         none)
       else
        none)
      else
       none)
     else
      none))
   else
    (some (Sum.inl ((l_0, (t_2, ((), (a_8, (b_9, (left_11, (right_12, (Bool.false, ())))))))), ((o0_0, (o0_1, (o0_2, (o0_3, (o0_4, ()))))), ())))))
  else
   (some (Sum.inl ((l_0, (t_2, ((), (a_8, (b_9, (left_11, (right_12, (Bool.false, ())))))))), ((o0_0, (o0_1, (o0_2, (o0_3, (o0_4, ()))))), ())))))
theorem ref08_at.eq3 (g_ref04_Half : ref04_Half.sh.X → Option ref04_Half.osh.X) (l0 : ref08_at.s0.X → Option (sumX ref08_at.x0)) (l1 : ref08_at.s1.X → Option (sumX ref08_at.x1)) (l2 : ref08_at.s2.X → Option (sumX ref08_at.x2)) (l3 : ref08_at.s3.X → Option (sumX ref08_at.x3)) (l4 : ref08_at.s4.X → Option (sumX ref08_at.x4)) (l5 : ref08_at.s5.X → Option (sumX ref08_at.x5)) (l6 : ref08_at.s6.X → Option (sumX ref08_at.x6)) (L : (((List (Int × Int)) × Int × Unit × Int × Int × Bool × Bool × Unit) × ((Int × Int × Int × Int × Int × Unit) × Unit)) → Option ((((List (Int × Int)) × Int × Unit × Int × Int × Bool × Bool × Bool × Unit) × ((Int × Int × Int × Int × Int × Unit) × Unit)) ⊕ Empty)) (x : (((List (Int × Int)) × Int × Unit × Int × Int × Bool × Bool × Unit) × ((Int × Int × Int × Int × Int × Unit) × Unit))) : (roundK (ref08_at.E g_ref04_Half l0 l1 l2 l3 l4 l5 l6) ref08_at.s3 [0, 2, 4, 8, 9, 11, 12] [(0, [0, 2, 4, 8, 9, 11, 12, 83])] false (((mk ref08_at.hs ref08_at.c []).atoms.getD 3 .bad).body) ref08_at.x3 L x).run _ some = ref08_at.f3 x.1.1 x.1.2.1 x.1.2.2.2.1 x.1.2.2.2.2.1 x.1.2.2.2.2.2.1 x.1.2.2.2.2.2.2.1 x.2.1.1 x.2.1.2.1 x.2.1.2.2.1 x.2.1.2.2.2.1 x.2.1.2.2.2.2.1 := by
  show _ = (_ : Option _)
  kernel_rfl
noncomputable def ref08_at.L3 : (((List (Int × Int)) × Int × Unit × Int × Int × Bool × Bool × Unit) × ((Int × Int × Int × Int × Int × Unit) × Unit)) → Option ((((List (Int × Int)) × Int × Unit × Int × Int × Bool × Bool × Bool × Unit) × ((Int × Int × Int × Int × Int × Unit) × Unit)) ⊕ Empty) := fun x => ref08_at.f3 x.1.1 x.1.2.1 x.1.2.2.2.1 x.1.2.2.2.2.1 x.1.2.2.2.2.2.1 x.1.2.2.2.2.2.2.1 x.2.1.1 x.2.1.2.1 x.2.1.2.2.1 x.2.1.2.2.2.1 x.2.1.2.2.2.2.1
def ref08_at.f4 (l_0 : (List (Int × Int))) (t_2 : Int) (a_8 : Int) (b_9 : Int) (left_11 : Bool) (right_12 : Bool) (o0_0 : Int) (o0_1 : Int) (o0_2 : Int) (o0_3 : Int) (o0_4 : Int) : Option ((((List (Int × Int)) × Int × Unit × Int × Int × Bool × Bool × Bool × Unit) × ((Int × Int × Int × Int × Int × Unit) × Unit)) ⊕ Empty) :=
  (bif (o0_3 == (2:Int)) then
   (some (Sum.inl ((l_0, (t_2, ((), (a_8, (b_9, (left_11, (right_12, (right_12, ())))))))), ((o0_0, (o0_1, (o0_2, (o0_3, (o0_4, ()))))), ()))))
  else
   (some (Sum.inl ((l_0, (t_2, ((), (a_8, (b_9, (left_11, (right_12, (Bool.false, ())))))))), ((o0_0, (o0_1, (o0_2, (o0_3, (o0_4, ()))))), ())))))
theorem ref08_at.eq4 (g_ref04_Half : ref04_Half.sh.X → Option ref04_Half.osh.X) (l0 : ref08_at.s0.X → Option (sumX ref08_at.x0)) (l1 : ref08_at.s1.X → Option (sumX ref08_at.x1)) (l2 : ref08_at.s2.X → Option (sumX ref08_at.x2)) (l3 : ref08_at.s3.X → Option (sumX ref08_at.x3)) (l4 : ref08_at.s4.X → Option (sumX ref08_at.x4)) (l5 : ref08_at.s5.X → Option (sumX ref08_at.x5)) (l6 : ref08_at.s6.X → Option (sumX ref08_at.x6)) (L : (((List (Int × Int)) × Int × Unit × Int × Int × Bool × Bool × Unit) × ((Int × Int × Int × Int × Int × Unit) × Unit)) → Option ((((List (Int × Int)) × Int × Unit × Int × Int × Bool × Bool × Bool × Unit) × ((Int × Int × Int × Int × Int × Unit) × Unit)) ⊕ Empty)) (x : (((List (Int × Int)) × Int × Unit × Int × Int × Bool × Bool × Unit) × ((Int × Int × Int × Int × Int × Unit) × Unit))) : (roundK (ref08_at.E g_ref04_Half l0 l1 l2 l3 l4 l5 l6) ref08_at.s4 [0, 2, 4, 8, 9, 11, 12] [(0, [0, 2, 4, 8, 9, 11, 12, 116])] false (((mk ref08_at.hs ref08_at.c []).atoms.getD 4 .bad).body) ref08_at.x4 L x).run _ some = ref08_at.f4 x.1.1 x.1.2.1 x.1.2.2.2.1 x.1.2.2.2.2.1 x.1.2.2.2.2.2.1 x.1.2.2.2.2.2.2.1 x.2.1.1 x.2.1.2.1 x.2.1.2.2.1 x.2.1.2.2.2.1 x.2.1.2.2.2.2.1 := by
  show _ = (_ : Option _)
  kernel_rfl
noncomputable def ref08_at.L4 : (((List (Int × Int)) × Int × Unit × Int × Int × Bool × Bool × Unit) × ((Int × Int × Int × Int × Int × Unit) × Unit)) → Option ((((List (Int × Int)) × Int × Unit × Int × Int × Bool × Bool × Bool × Unit) × ((Int × Int × Int × Int × Int × Unit) × Unit)) ⊕ Empty) := fun x => ref08_at.f4 x.1.1 x.1.2.1 x.1.2.2.2.1 x.1.2.2.2.2.1 x.1.2.2.2.2.2.1 x.1.2.2.2.2.2.2.1 x.2.1.1 x.2.1.2.1 x.2.1.2.2.1 x.2.1.2.2.2.1 x.2.1.2.2.2.2.1
def ref08_at.f5 (l_0 : (List (Int × Int))) (t_2 : Int) (a_8 : Int) (b_9 : Int) (left_11 : Bool) (right_12 : Bool) (o0_0 : Int) (o0_1 : Int) (o0_2 : Int) (o0_3 : Int) (o0_4 : Int) : Option ((((List (Int × Int)) × Int × Unit × Int × Int × Bool × Bool × Bool × Unit) × ((Int × Int × Int × Int × Int × Unit) × Unit)) ⊕ Empty) :=
  (bif (o0_3 == (3:Int)) then
   (bif left_11 then
    (bif right_12 then
     (some (Sum.inl ((l_0, (t_2, ((), (a_8, (b_9, (left_11, (right_12, ((a_8 == b_9), ())))))))), ((o0_0, (o0_1, (o0_2, (o0_3, (o0_4, ()))))), ()))))
    else
     (some (Sum.inl ((l_0, (t_2, ((), (a_8, (b_9, (left_11, (right_12, (Bool.false, ())))))))), ((o0_0, (o0_1, (o0_2, (o0_3, (o0_4, ()))))), ())))))
   else
    (some (Sum.inl ((l_0, (t_2, ((), (a_8, (b_9, (left_11, (right_12, (Bool.false, ())))))))), ((o0_0, (o0_1, (o0_2, (o0_3, (o0_4, ()))))), ())))))
  else
   (some (Sum.inl ((l_0, (t_2, ((), (a_8, (b_9, (left_11, (right_12, (Bool.false, ())))))))), ((o0_0, (o0_1, (o0_2, (o0_3, (o0_4, ()))))), ())))))
theorem ref08_at.eq5 (g_ref04_Half : ref04_Half.sh.X → Option ref04_Half.osh.X) (l0 : ref08_at.s0.X → Option (sumX ref08_at.x0)) (l1 : ref08_at.s1.X → Option (sumX ref08_at.x1)) (l2 : ref08_at.s2.X → Option (sumX ref08_at.x2)) (l3 : ref08_at.s3.X → Option (sumX ref08_at.x3)) (l4 : ref08_at.s4.X → Option (sumX ref08_at.x4)) (l5 : ref08_at.s5.X → Option (sumX ref08_at.x5)) (l6 : ref08_at.s6.X → Option (sumX ref08_at.x6)) (L : (((List (Int × Int)) × Int × Unit × Int × Int × Bool × Bool × Unit) × ((Int × Int × Int × Int × Int × Unit) × Unit)) → Option ((((List (Int × Int)) × Int × Unit × Int × Int × Bool × Bool × Bool × Unit) × ((Int × Int × Int × Int × Int × Unit) × Unit)) ⊕ Empty)) (x : (((List (Int × Int)) × Int × Unit × Int × Int × Bool × Bool × Unit) × ((Int × Int × Int × Int × Int × Unit) × Unit))) : (roundK (ref08_at.E g_ref04_Half l0 l1 l2 l3 l4 l5 l6) ref08_at.s5 [0, 2, 4, 8, 9, 11, 12] [(0, [0, 2, 4, 8, 9, 11, 12, 128])] false (((mk ref08_at.hs ref08_at.c []).atoms.getD 5 .bad).body) ref08_at.x5 L x).run _ some = ref08_at.f5 x.1.1 x.1.2.1 x.1.2.2.2.1 x.1.2.2.2.2.1 x.1.2.2.2.2.2.1 x.1.2.2.2.2.2.2.1 x.2.1.1 x.2.1.2.1 x.2.1.2.2.1 x.2.1.2.2.2.1 x.2.1.2.2.2.2.1 := by
  show _ = (_ : Option _)
  kernel_rfl
noncomputable def ref08_at.L5 : (((List (Int × Int)) × Int × Unit × Int × Int × Bool × Bool × Unit) × ((Int × Int × Int × Int × Int × Unit) × Unit)) → Option ((((List (Int × Int)) × Int × Unit × Int × Int × Bool × Bool × Bool × Unit) × ((Int × Int × Int × Int × Int × Unit) × Unit)) ⊕ Empty) := fun x => ref08_at.f5 x.1.1 x.1.2.1 x.1.2.2.2.1 x.1.2.2.2.2.1 x.1.2.2.2.2.2.1 x.1.2.2.2.2.2.2.1 x.2.1.1 x.2.1.2.1 x.2.1.2.2.1 x.2.1.2.2.2.1 x.2.1.2.2.2.2.1
def ref08_at.f6 (l_0 : (List (Int × Int))) (t_2 : Int) (a_8 : Int) (b_9 : Int) (left_11 : Bool) (right_12 : Bool) (o0_0 : Int) (o0_1 : Int) (o0_2 : Int) (o0_3 : Int) (o0_4 : Int) : Option ((((List (Int × Int)) × Int × Int × Int × Bool × Unit) × (Unit)) ⊕ Empty) :=
  (bif (o0_3 == (3:Int)) then
   (bif left_11 then
    (some (Sum.inl ((l_0, (t_2, (a_8, (b_9, (right_12, ()))))), ())))
   else
    (some (Sum.inl ((l_0, (t_2, (a_8, (b_9, (Bool.false, ()))))), ()))))
  else
   (some (Sum.inl ((l_0, (t_2, (a_8, (b_9, (Bool.false, ()))))), ()))))
theorem ref08_at.eq6 (g_ref04_Half : ref04_Half.sh.X → Option ref04_Half.osh.X) (l0 : ref08_at.s0.X → Option (sumX ref08_at.x0)) (l1 : ref08_at.s1.X → Option (sumX ref08_at.x1)) (l2 : ref08_at.s2.X → Option (sumX ref08_at.x2)) (l3 : ref08_at.s3.X → Option (sumX ref08_at.x3)) (l4 : ref08_at.s4.X → Option (sumX ref08_at.x4)) (l5 : ref08_at.s5.X → Option (sumX ref08_at.x5)) (l6 : ref08_at.s6.X → Option (sumX ref08_at.x6)) (L : (((List (Int × Int)) × Int × Unit × Int × Int × Bool × Bool × Unit) × ((Int × Int × Int × Int × Int × Unit) × Unit)) → Option ((((List (Int × Int)) × Int × Int × Int × Bool × Unit) × (Unit)) ⊕ Empty)) (x : (((List (Int × Int)) × Int × Unit × Int × Int × Bool × Bool × Unit) × ((Int × Int × Int × Int × Int × Unit) × Unit))) : (roundK (ref08_at.E g_ref04_Half l0 l1 l2 l3 l4 l5 l6) ref08_at.s6 [0, 2, 4, 8, 9, 11, 12] [(0, [0, 2, 8, 9, 148])] false (((mk ref08_at.hs ref08_at.c []).atoms.getD 6 .bad).body) ref08_at.x6 L x).run _ some = ref08_at.f6 x.1.1 x.1.2.1 x.1.2.2.2.1 x.1.2.2.2.2.1 x.1.2.2.2.2.2.1 x.1.2.2.2.2.2.2.1 x.2.1.1 x.2.1.2.1 x.2.1.2.2.1 x.2.1.2.2.2.1 x.2.1.2.2.2.2.1 := by
  show _ = (_ : Option _)
  kernel_rfl
noncomputable def ref08_at.L6 : (((List (Int × Int)) × Int × Unit × Int × Int × Bool × Bool × Unit) × ((Int × Int × Int × Int × Int × Unit) × Unit)) → Option ((((List (Int × Int)) × Int × Int × Int × Bool × Unit) × (Unit)) ⊕ Empty) := fun x => ref08_at.f6 x.1.1 x.1.2.1 x.1.2.2.2.1 x.1.2.2.2.2.1 x.1.2.2.2.2.2.1 x.1.2.2.2.2.2.2.1 x.2.1.1 x.2.1.2.1 x.2.1.2.2.1 x.2.1.2.2.2.1 x.2.1.2.2.2.2.1
def ref08_at.f (g_ref04_Half : ((Int × Int × Unit) × (Unit)) → Option ((Int × Unit) × (Unit))) (l0 : (((List (Int × Int)) × Int × Unit × Int × Int × Int × Int × Unit) × ((Int × Int × Int × Int × Int × Unit) × Unit)) → Option ((((List (Int × Int)) × Int × Unit × Int × Int × Unit) × ((Int × Int × Int × Int × Int × Unit) × Unit)) ⊕ Empty)) (l1 : (((List (Int × Int)) × Int × Unit × Int × Int × Unit) × ((Int × Int × Int × Int × Int × Unit) × Unit)) → Option ((((List (Int × Int)) × Int × Unit × Int × Int × Bool × Bool × Unit) × ((Int × Int × Int × Int × Int × Unit) × Unit)) ⊕ Empty)) (l2 : (((List (Int × Int)) × Int × Unit × Int × Int × Bool × Bool × Unit) × ((Int × Int × Int × Int × Int × Unit) × Unit)) → Option ((((List (Int × Int)) × Int × Unit × Int × Int × Bool × Bool × Bool × Unit) × ((Int × Int × Int × Int × Int × Unit) × Unit)) ⊕ Empty)) (l3 : (((List (Int × Int)) × Int × Unit × Int × Int × Bool × Bool × Unit) × ((Int × Int × Int × Int × Int × Unit) × Unit)) → Option ((((List (Int × Int)) × Int × Unit × Int × Int × Bool × Bool × Bool × Unit) × ((Int × Int × Int × Int × Int × Unit) × Unit)) ⊕ Empty)) (l4 : (((List (Int × Int)) × Int × Unit × Int × Int × Bool × Bool × Unit) × ((Int × Int × Int × Int × Int × Unit) × Unit)) → Option ((((List (Int × Int)) × Int × Unit × Int × Int × Bool × Bool × Bool × Unit) × ((Int × Int × Int × Int × Int × Unit) × Unit)) ⊕ Empty)) (l5 : (((List (Int × Int)) × Int × Unit × Int × Int × Bool × Bool × Unit) × ((Int × Int × Int × Int × Int × Unit) × Unit)) → Option ((((List (Int × Int)) × Int × Unit × Int × Int × Bool × Bool × Bool × Unit) × ((Int × Int × Int × Int × Int × Unit) × Unit)) ⊕ Empty)) (l6 : (((List (Int × Int)) × Int × Unit × Int × Int × Bool × Bool × Unit) × ((Int × Int × Int × Int × Int × Unit) × Unit)) → Option ((((List (Int × Int)) × Int × Int × Int × Bool × Unit) × (Unit)) ⊕ Empty)) (l : (List (Int × Int))) (g_From : Int) (g_Step : Int) (g_Count : Int) (g_Rule : Int) (g_Reach : Int) (t : Int) : Option ((Int × Bool × Unit) × (Unit)) :=
  (Option.bind (l0 ((l, (t, ((), ((-(1:Int)), ((-(1:Int)), ((((List.length l) : Nat) : Int), ((0:Int), ()))))))), ((g_From, (g_Step, (g_Count, (g_Rule, (g_Reach, ()))))), ()))) (fun y0 =>
  (Sum.elim (fun a1 =>
   (Option.bind (l1 ((a1.1.1, (a1.1.2.1, ((), (a1.1.2.2.2.1, (a1.1.2.2.2.2.1, ()))))), ((a1.2.1.1, (a1.2.1.2.1, (a1.2.1.2.2.1, (a1.2.1.2.2.2.1, (a1.2.1.2.2.2.2.1, ()))))), ()))) (fun y2 =>
   (Sum.elim (fun a3 =>
    (Option.bind (l2 ((a3.1.1, (a3.1.2.1, ((), (a3.1.2.2.2.1, (a3.1.2.2.2.2.1, (a3.1.2.2.2.2.2.1, (a3.1.2.2.2.2.2.2.1, ()))))))), ((a3.2.1.1, (a3.2.1.2.1, (a3.2.1.2.2.1, (a3.2.1.2.2.2.1, (a3.2.1.2.2.2.2.1, ()))))), ()))) (fun y4 =>
    (Sum.elim (fun a5 =>
     (bif a5.1.2.2.2.2.2.2.2.1 then
      (bif (decide ((0:Int) ≤ a5.1.2.2.2.1)) then
       (bif (decide (a5.1.2.2.2.1 < (((List.length a5.1.1) : Nat) : Int))) then
        (some (((List.getD a5.1.1 (Int.toNat a5.1.2.2.2.1) ((0:Int), (0:Int))).2, (Bool.true, ())), ()))
       else
        none)
      else
       none)
     else
      (Option.bind (l3 ((a5.1.1, (a5.1.2.1, ((), (a5.1.2.2.2.1, (a5.1.2.2.2.2.1, (a5.1.2.2.2.2.2.1, (a5.1.2.2.2.2.2.2.1, ()))))))), ((a5.2.1.1, (a5.2.1.2.1, (a5.2.1.2.2.1, (a5.2.1.2.2.2.1, (a5.2.1.2.2.2.2.1, ()))))), ()))) (fun y7 =>
      (Sum.elim (fun a8 =>
       (bif a8.1.2.2.2.2.2.2.2.1 then
        (bif (decide ((0:Int) ≤ a8.1.2.2.2.1)) then
         (bif (decide (a8.1.2.2.2.1 < (((List.length a8.1.1) : Nat) : Int))) then
          (some (((List.getD a8.1.1 (Int.toNat a8.1.2.2.2.1) ((0:Int), (0:Int))).2, (Bool.true, ())), ()))
         else
          none)
        else
         none)
       else
        (Option.bind (l4 ((a8.1.1, (a8.1.2.1, ((), (a8.1.2.2.2.1, (a8.1.2.2.2.2.1, (a8.1.2.2.2.2.2.1, (a8.1.2.2.2.2.2.2.1, ()))))))), ((a8.2.1.1, (a8.2.1.2.1, (a8.2.1.2.2.1, (a8.2.1.2.2.2.1, (a8.2.1.2.2.2.2.1, ()))))), ()))) (fun y10 =>
        (Sum.elim (fun a11 =>
         (bif a11.1.2.2.2.2.2.2.2.1 then
          (bif (decide ((0:Int) ≤ a11.1.2.2.2.2.1)) then
           (bif (decide (a11.1.2.2.2.2.1 < (((List.length a11.1.1) : Nat) : Int))) then
            (some (((List.getD a11.1.1 (Int.toNat a11.1.2.2.2.2.1) ((0:Int), (0:Int))).2, (Bool.true, ())), ()))
           else
            none)
          else
           none)
         else
          (Option.bind (l5 ((a11.1.1, (a11.1.2.1, ((), (a11.1.2.2.2.1, (a11.1.2.2.2.2.1, (a11.1.2.2.2.2.2.1, (a11.1.2.2.2.2.2.2.1, ()))))))), ((a11.2.1.1, (a11.2.1.2.1, (a11.2.1.2.2.1, (a11.2.1.2.2.2.1, (a11.2.1.2.2.2.2.1, ()))))), ()))) (fun y13 =>
          (Sum.elim (fun a14 =>
           (bif a14.1.2.2.2.2.2.2.2.1 then
            (bif (decide ((0:Int) ≤ a14.1.2.2.2.1)) then
             (bif (decide (a14.1.2.2.2.1 < (((List.length a14.1.1) : Nat) : Int))) then
              (some (((List.getD a14.1.1 (Int.toNat a14.1.2.2.2.1) ((0:Int), (0:Int))).2, (Bool.true, ())), ()))
             else
              none)
            else
             none)
           else
            (Option.bind (l6 ((a14.1.1, (a14.1.2.1, ((), (a14.1.2.2.2.1, (a14.1.2.2.2.2.1, (a14.1.2.2.2.2.2.1, (a14.1.2.2.2.2.2.2.1, ()))))))), ((a14.2.1.1, (a14.2.1.2.1, (a14.2.1.2.2.1, (a14.2.1.2.2.2.1, (a14.2.1.2.2.2.2.1, ()))))), ()))) (fun y16 =>
            (Sum.elim (fun a17 =>
             (bif a17.1.2.2.2.2.1 then
              (bif (decide ((0:Int) ≤ a17.1.2.2.1)) then
               (bif (decide (a17.1.2.2.1 < (((List.length a17.1.1) : Nat) : Int))) then
                (bif (decide ((0:Int) ≤ a17.1.2.2.2.1)) then
                 (bif (decide (a17.1.2.2.2.1 < (((List.length a17.1.1) : Nat) : Int))) then
                  (Option.bind (g_ref04_Half (((Go.IntKind.wrap Go.IntKind.i64 ((Go.IntKind.wrap Go.IntKind.i64 ((List.getD a17.1.1 (Int.toNat a17.1.2.2.1) ((0:Int), (0:Int))).2 * (Go.IntKind.wrap Go.IntKind.i64 ((List.getD a17.1.1 (Int.toNat a17.1.2.2.2.1) ((0:Int), (0:Int))).1 - a17.1.2.1)))) + (Go.IntKind.wrap Go.IntKind.i64 ((List.getD a17.1.1 (Int.toNat a17.1.2.2.2.1) ((0:Int), (0:Int))).2 * (Go.IntKind.wrap Go.IntKind.i64 (a17.1.2.1 - (List.getD a17.1.1 (Int.toNat a17.1.2.2.1) ((0:Int), (0:Int))).1)))))), ((Go.IntKind.wrap Go.IntKind.i64 ((List.getD a17.1.1 (Int.toNat a17.1.2.2.2.1) ((0:Int), (0:Int))).1 - (List.getD a17.1.1 (Int.toNat a17.1.2.2.1) ((0:Int), (0:Int))).1)), ())), ())) (fun y23 =>
                  (some ((y23.1.1, (Bool.true, ())), ()))))
                 else
                  none)
                else
                 none)
               else
                none)
              else
               none)
             else
              (some (((0:Int), (Bool.false, ())), ())))) (fun b17 =>
             (Empty.elim b17)) y16))))) (fun b14 =>
           (Empty.elim b14)) y13))))) (fun b11 =>
         (Empty.elim b11)) y10))))) (fun b8 =>
       (Empty.elim b8)) y7))))) (fun b5 =>
     (Empty.elim b5)) y4)))) (fun b3 =>
    (Empty.elim b3)) y2)))) (fun b1 =>
   (Empty.elim b1)) y0)))
theorem ref08_at.eq (g_ref04_Half : ref04_Half.sh.X → Option ref04_Half.osh.X) (l0 : ref08_at.s0.X → Option (sumX ref08_at.x0)) (l1 : ref08_at.s1.X → Option (sumX ref08_at.x1)) (l2 : ref08_at.s2.X → Option (sumX ref08_at.x2)) (l3 : ref08_at.s3.X → Option (sumX ref08_at.x3)) (l4 : ref08_at.s4.X → Option (sumX ref08_at.x4)) (l5 : ref08_at.s5.X → Option (sumX ref08_at.x5)) (l6 : ref08_at.s6.X → Option (sumX ref08_at.x6)) (x : (((List (Int × Int)) × (Int × Int × Int × Int × Int × Unit) × Int × Unit) × (Unit))) : (bodyO (ref08_at.E g_ref04_Half l0 l1 l2 l3 l4 l5 l6) (mk ref08_at.hs ref08_at.c []) Go.Proofs.Try.f32.results.toList ref08_at.sh ref08_at.osh x).run _ some = ref08_at.f g_ref04_Half l0 l1 l2 l3 l4 l5 l6 x.1.1 x.1.2.1.1 x.1.2.1.2.1 x.1.2.1.2.2.1 x.1.2.1.2.2.2.1 x.1.2.1.2.2.2.2.1 x.1.2.2.1 := by
  show _ = (_ : Option _)
  kernel_rfl
noncomputable def ref08_at (l : (List (Int × Int))) (g_From : Int) (g_Step : Int) (g_Count : Int) (g_Rule : Int) (g_Reach : Int) (t : Int) : Option ((Int × Bool × Unit) × (Unit)) := ref08_at.f ref04_Half.F ref08_at.L0 ref08_at.L1 ref08_at.L2 ref08_at.L3 ref08_at.L4 ref08_at.L5 ref08_at.L6 l g_From g_Step g_Count g_Rule g_Reach t
noncomputable def ref08_at.F (x : (((List (Int × Int)) × (Int × Int × Int × Int × Int × Unit) × Int × Unit) × (Unit))) : Option ((Int × Bool × Unit) × (Unit)) := ref08_at x.1.1 x.1.2.1.1 x.1.2.1.2.1 x.1.2.1.2.2.1 x.1.2.1.2.2.2.1 x.1.2.1.2.2.2.2.1 x.1.2.2.1
theorem ref08_at.L0_eq (l_0 : (List (Int × Int))) (t_2 : Int) (a_8 : Int) (b_9 : Int) (v16 : Int) (v17 : Int) (o0_0 : Int) (o0_1 : Int) (o0_2 : Int) (o0_3 : Int) (o0_4 : Int) : ref08_at.L0 ((l_0, t_2, (), a_8, b_9, v16, v17, ()), ((o0_0, o0_1, o0_2, o0_3, o0_4, ()), ())) = ref08_at.f0 ref08_at.L0 l_0 t_2 a_8 b_9 v16 v17 o0_0 o0_1 o0_2 o0_3 o0_4 :=
  loop_eq (E := (ref08_at.E ref04_Half.F ref08_at.L0 ref08_at.L1 ref08_at.L2 ref08_at.L3 ref08_at.L4 ref08_at.L5 ref08_at.L6)) (sh := ref08_at.s0) (es := ref08_at.x0) (lp := true) (H := fun L x => ref08_at.eq0 ref04_Half.F ref08_at.L0 ref08_at.L1 ref08_at.L2 ref08_at.L3 ref08_at.L4 ref08_at.L5 ref08_at.L6 L x) ((l_0, t_2, (), a_8, b_9, v16, v17, ()), ((o0_0, o0_1, o0_2, o0_3, o0_4, ()), ()))
theorem ref08_at.L1_eq (l_0 : (List (Int × Int))) (t_2 : Int) (a_8 : Int) (b_9 : Int) (o0_0 : Int) (o0_1 : Int) (o0_2 : Int) (o0_3 : Int) (o0_4 : Int) : ref08_at.L1 ((l_0, t_2, (), a_8, b_9, ()), ((o0_0, o0_1, o0_2, o0_3, o0_4, ()), ())) = ref08_at.f1 l_0 t_2 a_8 b_9 o0_0 o0_1 o0_2 o0_3 o0_4 := rfl
theorem ref08_at.L2_eq (l_0 : (List (Int × Int))) (t_2 : Int) (a_8 : Int) (b_9 : Int) (left_11 : Bool) (right_12 : Bool) (o0_0 : Int) (o0_1 : Int) (o0_2 : Int) (o0_3 : Int) (o0_4 : Int) : ref08_at.L2 ((l_0, t_2, (), a_8, b_9, left_11, right_12, ()), ((o0_0, o0_1, o0_2, o0_3, o0_4, ()), ())) = ref08_at.f2 l_0 t_2 a_8 b_9 left_11 right_12 o0_0 o0_1 o0_2 o0_3 o0_4 := rfl
theorem ref08_at.L3_eq (l_0 : (List (Int × Int))) (t_2 : Int) (a_8 : Int) (b_9 : Int) (left_11 : Bool) (right_12 : Bool) (o0_0 : Int) (o0_1 : Int) (o0_2 : Int) (o0_3 : Int) (o0_4 : Int) : ref08_at.L3 ((l_0, t_2, (), a_8, b_9, left_11, right_12, ()), ((o0_0, o0_1, o0_2, o0_3, o0_4, ()), ())) = ref08_at.f3 l_0 t_2 a_8 b_9 left_11 right_12 o0_0 o0_1 o0_2 o0_3 o0_4 := rfl
theorem ref08_at.L4_eq (l_0 : (List (Int × Int))) (t_2 : Int) (a_8 : Int) (b_9 : Int) (left_11 : Bool) (right_12 : Bool) (o0_0 : Int) (o0_1 : Int) (o0_2 : Int) (o0_3 : Int) (o0_4 : Int) : ref08_at.L4 ((l_0, t_2, (), a_8, b_9, left_11, right_12, ()), ((o0_0, o0_1, o0_2, o0_3, o0_4, ()), ())) = ref08_at.f4 l_0 t_2 a_8 b_9 left_11 right_12 o0_0 o0_1 o0_2 o0_3 o0_4 := rfl
theorem ref08_at.L5_eq (l_0 : (List (Int × Int))) (t_2 : Int) (a_8 : Int) (b_9 : Int) (left_11 : Bool) (right_12 : Bool) (o0_0 : Int) (o0_1 : Int) (o0_2 : Int) (o0_3 : Int) (o0_4 : Int) : ref08_at.L5 ((l_0, t_2, (), a_8, b_9, left_11, right_12, ()), ((o0_0, o0_1, o0_2, o0_3, o0_4, ()), ())) = ref08_at.f5 l_0 t_2 a_8 b_9 left_11 right_12 o0_0 o0_1 o0_2 o0_3 o0_4 := rfl
theorem ref08_at.L6_eq (l_0 : (List (Int × Int))) (t_2 : Int) (a_8 : Int) (b_9 : Int) (left_11 : Bool) (right_12 : Bool) (o0_0 : Int) (o0_1 : Int) (o0_2 : Int) (o0_3 : Int) (o0_4 : Int) : ref08_at.L6 ((l_0, t_2, (), a_8, b_9, left_11, right_12, ()), ((o0_0, o0_1, o0_2, o0_3, o0_4, ()), ())) = ref08_at.f6 l_0 t_2 a_8 b_9 left_11 right_12 o0_0 o0_1 o0_2 o0_3 o0_4 := rfl
theorem ref08_at.F_eq (l : (List (Int × Int))) (g_From : Int) (g_Step : Int) (g_Count : Int) (g_Rule : Int) (g_Reach : Int) (t : Int) : ref08_at.F ((l, (g_From, g_Step, g_Count, g_Rule, g_Reach, ()), t, ()), ()) = ref08_at.f ref04_Half.F ref08_at.L0 ref08_at.L1 ref08_at.L2 ref08_at.L3 ref08_at.L4 ref08_at.L5 ref08_at.L6 l g_From g_Step g_Count g_Rule g_Reach t := rfl
theorem ref08_at.ok : FOK Go.Proofs.Try.prog [] 32 (FE.of [true, true, true] false ref08_at.sh ref08_at.osh ref08_at.F) := by
  refine fn_keeps (E := (ref08_at.E ref04_Half.F ref08_at.L0 ref08_at.L1 ref08_at.L2 ref08_at.L3 ref08_at.L4 ref08_at.L5 ref08_at.L6)) (c := ref08_at.c) (fn := Go.Proofs.Try.f32) (hs := ref08_at.hs) (by kernel_rfl) Go.Proofs.Try.func32 ⟨by kernel_rfl, by kernel_rfl, tb, by kernel_rfl, by kernel_rfl, by kernel_rfl, by kernel_rfl, by kernel_rfl⟩ (fun g fe h => ?_) ?_ (fun x => ref08_at.eq ref04_Half.F ref08_at.L0 ref08_at.L1 ref08_at.L2 ref08_at.L3 ref08_at.L4 ref08_at.L5 ref08_at.L6 x)
  · rcases c_cons h with ⟨rfl, rfl⟩ | h
    · exact ref04_Half.ok
    cases h
  · refine known_at 7 (by kernel_rfl) fun i hi => ?_
    match i, hi with
    | 0, _ => exact atom_at (id := 0) (live := [0, 2, 4, 8, 9, 16, 17]) (outs := [(2, [0, 2, 4, 8, 9])]) (loop := true) (by kernel_rfl) (loop_ok (E := (ref08_at.E ref04_Half.F ref08_at.L0 ref08_at.L1 ref08_at.L2 ref08_at.L3 ref08_at.L4 ref08_at.L5 ref08_at.L6)) (sh := ref08_at.s0) (es := ref08_at.x0) rfl (fun L x => ref08_at.eq0 ref04_Half.F ref08_at.L0 ref08_at.L1 ref08_at.L2 ref08_at.L3 ref08_at.L4 ref08_at.L5 ref08_at.L6 L x))
    | 1, _ => exact atom_at (id := 1) (live := [0, 2, 4, 8, 9]) (outs := [(0, [0, 2, 4, 8, 9, 11, 12])]) (loop := false) (by kernel_rfl) (cut_ok (E := (ref08_at.E ref04_Half.F ref08_at.L0 ref08_at.L1 ref08_at.L2 ref08_at.L3 ref08_at.L4 ref08_at.L5 ref08_at.L6)) (sh := ref08_at.s1) (es := ref08_at.x1) rfl (fun L x => ref08_at.eq1 ref04_Half.F ref08_at.L0 ref08_at.L1 ref08_at.L2 ref08_at.L3 ref08_at.L4 ref08_at.L5 ref08_at.L6 L x))
    | 2, _ => exact atom_at (id := 2) (live := [0, 2, 4, 8, 9, 11, 12]) (outs := [(0, [0, 2, 4, 8, 9, 11, 12, 71])]) (loop := false) (by kernel_rfl) (cut_ok (E := (ref08_at.E ref04_Half.F ref08_at.L0 ref08_at.L1 ref08_at.L2 ref08_at.L3 ref08_at.L4 ref08_at.L5 ref08_at.L6)) (sh := ref08_at.s2) (es := ref08_at.x2) rfl (fun L x => ref08_at.eq2 ref04_Half.F ref08_at.L0 ref08_at.L1 ref08_at.L2 ref08_at.L3 ref08_at.L4 ref08_at.L5 ref08_at.L6 L x))
    | 3, _ => exact atom_at (id := 3) (live := [0, 2, 4, 8, 9, 11, 12]) (outs := [(0, [0, 2, 4, 8, 9, 11, 12, 83])]) (loop := false) (by kernel_rfl) (cut_ok (E := (ref08_at.E ref04_Half.F ref08_at.L0 ref08_at.L1 ref08_at.L2 ref08_at.L3 ref08_at.L4 ref08_at.L5 ref08_at.L6)) (sh := ref08_at.s3) (es := ref08_at.x3) rfl (fun L x => ref08_at.eq3 ref04_Half.F ref08_at.L0 ref08_at.L1 ref08_at.L2 ref08_at.L3 ref08_at.L4 ref08_at.L5 ref08_at.L6 L x))
    | 4, _ => exact atom_at (id := 4) (live := [0, 2, 4, 8, 9, 11, 12]) (outs := [(0, [0, 2, 4, 8, 9, 11, 12, 116])]) (loop := false) (by kernel_rfl) (cut_ok (E := (ref08_at.E ref04_Half.F ref08_at.L0 ref08_at.L1 ref08_at.L2 ref08_at.L3 ref08_at.L4 ref08_at.L5 ref08_at.L6)) (sh := ref08_at.s4) (es := ref08_at.x4) rfl (fun L x => ref08_at.eq4 ref04_Half.F ref08_at.L0 ref08_at.L1 ref08_at.L2 ref08_at.L3 ref08_at.L4 ref08_at.L5 ref08_at.L6 L x))
    | 5, _ => exact atom_at (id := 5) (live := [0, 2, 4, 8, 9, 11, 12]) (outs := [(0, [0, 2, 4, 8, 9, 11, 12, 128])]) (loop := false) (by kernel_rfl) (cut_ok (E := (ref08_at.E ref04_Half.F ref08_at.L0 ref08_at.L1 ref08_at.L2 ref08_at.L3 ref08_at.L4 ref08_at.L5 ref08_at.L6)) (sh := ref08_at.s5) (es := ref08_at.x5) rfl (fun L x => ref08_at.eq5 ref04_Half.F ref08_at.L0 ref08_at.L1 ref08_at.L2 ref08_at.L3 ref08_at.L4 ref08_at.L5 ref08_at.L6 L x))
    | 6, _ => exact atom_at (id := 6) (live := [0, 2, 4, 8, 9, 11, 12]) (outs := [(0, [0, 2, 8, 9, 148])]) (loop := false) (by kernel_rfl) (cut_ok (E := (ref08_at.E ref04_Half.F ref08_at.L0 ref08_at.L1 ref08_at.L2 ref08_at.L3 ref08_at.L4 ref08_at.L5 ref08_at.L6)) (sh := ref08_at.s6) (es := ref08_at.x6) rfl (fun L x => ref08_at.eq6 ref04_Half.F ref08_at.L0 ref08_at.L1 ref08_at.L2 ref08_at.L3 ref08_at.L4 ref08_at.L5 ref08_at.L6 L x))
    | n + 7, h => exact absurd h (by omega)
end Go.Proofs.Ytknkiogjibpooab.V
