import Derived.Test.YtefcciajemkicaaVg3
import Derived.WalkKit
set_option linter.unusedVariables false
set_option maxRecDepth 100000
namespace Go.Proofs.Ytefcciajemkicaa.V
open Go.VI
/-! ratio_Cmp -/
def ratio_Cmp.f0 (g_ratio_Valid : (((Int × Int × Unit) × Unit) × (Unit)) → Option ((Bool × Unit) × (Unit))) (o0_0 : Int) (o0_1 : Int) (o1_0 : Int) (o1_1 : Int) : Option (((Unit × Unit × Bool × Unit) × ((Int × Int × Unit) × (Int × Int × Unit) × Unit)) ⊕ Empty) :=
  (Option.bind (g_ratio_Valid (((o0_0, (o0_1, ())), ()), ())) (fun y0 =>
  (bif (!y0.1.1) then
   (some (Sum.inl (((), ((), (Bool.true, ()))), ((o0_0, (o0_1, ())), ((o1_0, (o1_1, ())), ())))))
  else
   (Option.bind (g_ratio_Valid (((o1_0, (o1_1, ())), ()), ())) (fun y2 =>
   (some (Sum.inl (((), ((), ((!y2.1.1), ()))), ((o0_0, (o0_1, ())), ((o1_0, (o1_1, ())), ()))))))))))
theorem ratio_Cmp.eq0 (g_ratio_Valid : ratio_Valid.sh.X → Option ratio_Valid.osh.X) (g_bits_Mul64 : bits_Mul64.sh.X → Option bits_Mul64.osh.X) (l0 : ratio_Cmp.s0.X → Option (sumX ratio_Cmp.x0)) (l1 : ratio_Cmp.s1.X → Option (sumX ratio_Cmp.x1)) (L : ((Unit × Unit × Unit) × ((Int × Int × Unit) × (Int × Int × Unit) × Unit)) → Option (((Unit × Unit × Bool × Unit) × ((Int × Int × Unit) × (Int × Int × Unit) × Unit)) ⊕ Empty)) (x : ((Unit × Unit × Unit) × ((Int × Int × Unit) × (Int × Int × Unit) × Unit))) : (roundK (ratio_Cmp.E g_ratio_Valid g_bits_Mul64 l0 l1) ratio_Cmp.s0 [2, 3] [(0, [2, 3, 16])] false (((mk ratio_Cmp.hs ratio_Cmp.c []).atoms.getD 0 .bad).body) ratio_Cmp.x0 L x).run _ some = ratio_Cmp.f0 g_ratio_Valid x.2.1.1 x.2.1.2.1 x.2.2.1.1 x.2.2.1.2.1 := by
  show _ = (_ : Option _)
  kernel_rfl
noncomputable def ratio_Cmp.L0 : ((Unit × Unit × Unit) × ((Int × Int × Unit) × (Int × Int × Unit) × Unit)) → Option (((Unit × Unit × Bool × Unit) × ((Int × Int × Unit) × (Int × Int × Unit) × Unit)) ⊕ Empty) := fun x => ratio_Cmp.f0 ratio_Valid.F x.2.1.1 x.2.1.2.1 x.2.2.1.1 x.2.2.1.2.1
def ratio_Cmp.f1 (high_5 : Int) (low_6 : Int) (other_7 : Int) (rest_8 : Int) : Option (((Int × Int × Int × Int × Bool × Unit) × (Unit)) ⊕ Empty) :=
  (bif (decide (high_5 < other_7)) then
   (some (Sum.inl ((high_5, (low_6, (other_7, (rest_8, (Bool.true, ()))))), ())))
  else
   (bif (high_5 == other_7) then
    (some (Sum.inl ((high_5, (low_6, (other_7, (rest_8, ((decide (low_6 < rest_8)), ()))))), ())))
   else
    (some (Sum.inl ((high_5, (low_6, (other_7, (rest_8, (Bool.false, ()))))), ())))))
theorem ratio_Cmp.eq1 (g_ratio_Valid : ratio_Valid.sh.X → Option ratio_Valid.osh.X) (g_bits_Mul64 : bits_Mul64.sh.X → Option bits_Mul64.osh.X) (l0 : ratio_Cmp.s0.X → Option (sumX ratio_Cmp.x0)) (l1 : ratio_Cmp.s1.X → Option (sumX ratio_Cmp.x1)) (L : ((Int × Int × Int × Int × Unit) × (Unit)) → Option (((Int × Int × Int × Int × Bool × Unit) × (Unit)) ⊕ Empty)) (x : ((Int × Int × Int × Int × Unit) × (Unit))) : (roundK (ratio_Cmp.E g_ratio_Valid g_bits_Mul64 l0 l1) ratio_Cmp.s1 [5, 6, 7, 8] [(0, [5, 6, 7, 8, 37])] false (((mk ratio_Cmp.hs ratio_Cmp.c []).atoms.getD 1 .bad).body) ratio_Cmp.x1 L x).run _ some = ratio_Cmp.f1 x.1.1 x.1.2.1 x.1.2.2.1 x.1.2.2.2.1 := by
  show _ = (_ : Option _)
  kernel_rfl
noncomputable def ratio_Cmp.L1 : ((Int × Int × Int × Int × Unit) × (Unit)) → Option (((Int × Int × Int × Int × Bool × Unit) × (Unit)) ⊕ Empty) := fun x => ratio_Cmp.f1 x.1.1 x.1.2.1 x.1.2.2.1 x.1.2.2.2.1
def ratio_Cmp.f (g_bits_Mul64 : ((Int × Int × Unit) × (Unit)) → Option ((Int × Int × Unit) × (Unit))) (l0 : ((Unit × Unit × Unit) × ((Int × Int × Unit) × (Int × Int × Unit) × Unit)) → Option (((Unit × Unit × Bool × Unit) × ((Int × Int × Unit) × (Int × Int × Unit) × Unit)) ⊕ Empty)) (l1 : ((Int × Int × Int × Int × Unit) × (Unit)) → Option (((Int × Int × Int × Int × Bool × Unit) × (Unit)) ⊕ Empty)) (a_Num : Int) (a_Den : Int) (b_Num : Int) (b_Den : Int) : Option ((Int × Unit) × (Unit)) :=
  (Option.bind (l0 (((), ((), ())), ((a_Num, (a_Den, ())), ((b_Num, (b_Den, ())), ())))) (fun y0 =>
  (Sum.elim (fun a1 =>
   (bif a1.1.2.2.1 then
    (some (((0:Int), ()), ()))
   else
    (Option.bind (g_bits_Mul64 (((Go.IntKind.wrap Go.IntKind.u64 a1.2.1.1), ((Go.IntKind.wrap Go.IntKind.u64 a1.2.2.1.2.1), ())), ())) (fun y3 =>
    (Option.bind (g_bits_Mul64 (((Go.IntKind.wrap Go.IntKind.u64 a1.2.2.1.1), ((Go.IntKind.wrap Go.IntKind.u64 a1.2.1.2.1), ())), ())) (fun y4 =>
    (Option.bind (l1 ((y3.1.1, (y3.1.2.1, (y4.1.1, (y4.1.2.1, ())))), ())) (fun y5 =>
    (Sum.elim (fun a6 =>
     (bif a6.1.2.2.2.2.1 then
      (some (((-(1:Int)), ()), ()))
     else
      (bif (a6.1.1 == a6.1.2.2.1) then
       (bif (a6.1.2.1 == a6.1.2.2.2.1) then
        (some (((0:Int), ()), ()))
       else
        (some (((1:Int), ()), ())))
      else
       (some (((1:Int), ()), ()))))) (fun b6 =>
     (Empty.elim b6)) y5))))))))) (fun b1 =>
   (Empty.elim b1)) y0)))
theorem ratio_Cmp.eq (g_ratio_Valid : ratio_Valid.sh.X → Option ratio_Valid.osh.X) (g_bits_Mul64 : bits_Mul64.sh.X → Option bits_Mul64.osh.X) (l0 : ratio_Cmp.s0.X → Option (sumX ratio_Cmp.x0)) (l1 : ratio_Cmp.s1.X → Option (sumX ratio_Cmp.x1)) (x : (((Int × Int × Unit) × (Int × Int × Unit) × Unit) × (Unit))) : (bodyO (ratio_Cmp.E g_ratio_Valid g_bits_Mul64 l0 l1) (mk ratio_Cmp.hs ratio_Cmp.c []) Go.Proofs.Try.f55.results.toList ratio_Cmp.sh ratio_Cmp.osh x).run _ some = ratio_Cmp.f g_bits_Mul64 l0 l1 x.1.1.1 x.1.1.2.1 x.1.2.1.1 x.1.2.1.2.1 := by
  show _ = (_ : Option _)
  kernel_rfl
noncomputable def ratio_Cmp (a_Num : Int) (a_Den : Int) (b_Num : Int) (b_Den : Int) : Option ((Int × Unit) × (Unit)) := ratio_Cmp.f bits_Mul64.F ratio_Cmp.L0 ratio_Cmp.L1 a_Num a_Den b_Num b_Den
noncomputable def ratio_Cmp.F (x : (((Int × Int × Unit) × (Int × Int × Unit) × Unit) × (Unit))) : Option ((Int × Unit) × (Unit)) := ratio_Cmp x.1.1.1 x.1.1.2.1 x.1.2.1.1 x.1.2.1.2.1
theorem ratio_Cmp.L0_eq (o0_0 : Int) (o0_1 : Int) (o1_0 : Int) (o1_1 : Int) : ratio_Cmp.L0 (((), (), ()), ((o0_0, o0_1, ()), (o1_0, o1_1, ()), ())) = ratio_Cmp.f0 ratio_Valid.F o0_0 o0_1 o1_0 o1_1 := rfl
theorem ratio_Cmp.L1_eq (high_5 : Int) (low_6 : Int) (other_7 : Int) (rest_8 : Int) : ratio_Cmp.L1 ((high_5, low_6, other_7, rest_8, ()), ()) = ratio_Cmp.f1 high_5 low_6 other_7 rest_8 := rfl
theorem ratio_Cmp.F_eq (a_Num : Int) (a_Den : Int) (b_Num : Int) (b_Den : Int) : ratio_Cmp.F (((a_Num, a_Den, ()), (b_Num, b_Den, ()), ()), ()) = ratio_Cmp.f bits_Mul64.F ratio_Cmp.L0 ratio_Cmp.L1 a_Num a_Den b_Num b_Den := rfl
theorem ratio_Cmp.ok {tabs : List (Nat × Go.Obj)} (ht : TabsOk tabs) : FOK Go.Proofs.Try.prog tabs 55 (FE.of [true, true] false ratio_Cmp.sh ratio_Cmp.osh ratio_Cmp.F) := by
  refine fn_keeps (E := (ratio_Cmp.E ratio_Valid.F bits_Mul64.F ratio_Cmp.L0 ratio_Cmp.L1)) (c := ratio_Cmp.c) (fn := Go.Proofs.Try.f55) (hs := ratio_Cmp.hs) (by kernel_rfl) Go.Proofs.Try.func55 ⟨by kernel_rfl, by kernel_rfl, tb, by kernel_rfl, by kernel_rfl, by kernel_rfl, by kernel_rfl, by kernel_rfl⟩ ⟨fun g ks fe h => ?_, gt_ok ht⟩ ?_ (fun x => ratio_Cmp.eq ratio_Valid.F bits_Mul64.F ratio_Cmp.L0 ratio_Cmp.L1 x)
  · rcases c_cons h with ⟨rfl, rfl⟩ | h
    · exact ratio_Valid.ok ht
    rcases c_cons h with ⟨rfl, rfl⟩ | h
    · exact bits_Mul64.ok ht
    cases h
  · refine known_at 2 (by kernel_rfl) fun i hi => ?_
    match i, hi with
    | 0, _ => exact atom_at (id := 0) (live := [2, 3]) (outs := [(0, [2, 3, 16])]) (loop := false) (by kernel_rfl) (cut_ok (E := (ratio_Cmp.E ratio_Valid.F bits_Mul64.F ratio_Cmp.L0 ratio_Cmp.L1)) (sh := ratio_Cmp.s0) (es := ratio_Cmp.x0) rfl (fun L x => ratio_Cmp.eq0 ratio_Valid.F bits_Mul64.F ratio_Cmp.L0 ratio_Cmp.L1 L x))
    | 1, _ => exact atom_at (id := 1) (live := [5, 6, 7, 8]) (outs := [(0, [5, 6, 7, 8, 37])]) (loop := false) (by kernel_rfl) (cut_ok (E := (ratio_Cmp.E ratio_Valid.F bits_Mul64.F ratio_Cmp.L0 ratio_Cmp.L1)) (sh := ratio_Cmp.s1) (es := ratio_Cmp.x1) rfl (fun L x => ratio_Cmp.eq1 ratio_Valid.F bits_Mul64.F ratio_Cmp.L0 ratio_Cmp.L1 L x))
    | n + 2, h => exact absurd h (by omega)

/-! ratio_Less -/
def ratio_Less.f (g_ratio_Cmp : (((Int × Int × Unit) × (Int × Int × Unit) × Unit) × (Unit)) → Option ((Int × Unit) × (Unit))) (a_Num : Int) (a_Den : Int) (b_Num : Int) (b_Den : Int) : Option ((Bool × Unit) × (Unit)) :=
  (Option.bind (g_ratio_Cmp (((a_Num, (a_Den, ())), ((b_Num, (b_Den, ())), ())), ())) (fun y0 =>
  (some (((decide (y0.1.1 < (0:Int))), ()), ()))))
theorem ratio_Less.eq (g_ratio_Cmp : ratio_Cmp.sh.X → Option ratio_Cmp.osh.X) (x : (((Int × Int × Unit) × (Int × Int × Unit) × Unit) × (Unit))) : (bodyO (ratio_Less.E g_ratio_Cmp) (mk ratio_Less.hs ratio_Less.c []) Go.Proofs.Try.f34.results.toList ratio_Less.sh ratio_Less.osh x).run _ some = ratio_Less.f g_ratio_Cmp x.1.1.1 x.1.1.2.1 x.1.2.1.1 x.1.2.1.2.1 := by
  show _ = (_ : Option _)
  kernel_rfl
noncomputable def ratio_Less (a_Num : Int) (a_Den : Int) (b_Num : Int) (b_Den : Int) : Option ((Bool × Unit) × (Unit)) := ratio_Less.f ratio_Cmp.F a_Num a_Den b_Num b_Den
noncomputable def ratio_Less.F (x : (((Int × Int × Unit) × (Int × Int × Unit) × Unit) × (Unit))) : Option ((Bool × Unit) × (Unit)) := ratio_Less x.1.1.1 x.1.1.2.1 x.1.2.1.1 x.1.2.1.2.1
theorem ratio_Less.F_eq (a_Num : Int) (a_Den : Int) (b_Num : Int) (b_Den : Int) : ratio_Less.F (((a_Num, a_Den, ()), (b_Num, b_Den, ()), ()), ()) = ratio_Less.f ratio_Cmp.F a_Num a_Den b_Num b_Den := rfl
theorem ratio_Less.ok {tabs : List (Nat × Go.Obj)} (ht : TabsOk tabs) : FOK Go.Proofs.Try.prog tabs 34 (FE.of [true, true] false ratio_Less.sh ratio_Less.osh ratio_Less.F) := by
  refine fn_keeps (E := (ratio_Less.E ratio_Cmp.F)) (c := ratio_Less.c) (fn := Go.Proofs.Try.f34) (hs := ratio_Less.hs) (by kernel_rfl) Go.Proofs.Try.func34 ⟨by kernel_rfl, by kernel_rfl, tb, by kernel_rfl, by kernel_rfl, by kernel_rfl, by kernel_rfl, by kernel_rfl⟩ ⟨fun g ks fe h => ?_, gt_ok ht⟩ ?_ (fun x => ratio_Less.eq ratio_Cmp.F x)
  · rcases c_cons h with ⟨rfl, rfl⟩ | h
    · exact ratio_Cmp.ok ht
    cases h
  · exact known_at 0 (by kernel_rfl) fun i hi => absurd hi (Nat.not_lt_zero i)

/-! profile_Nearer -/
def profile_Nearer.f0 (o0_0 : Int) (o0_1 : Int) (o0_2 : Int) (o1_0 : Int) (o1_1 : Int) (o1_2 : Int) : Option (((Unit × Unit × Bool × Unit) × ((Int × Int × Int × Unit) × (Int × Int × Int × Unit) × Unit)) ⊕ Empty) :=
  (bif ((o0_0 == o1_0) && (((o0_1 == o1_1) && ((o0_2 == o1_2) && Bool.true)) && Bool.true)) then
   (some (Sum.inl (((), ((), (Bool.true, ()))), ((o0_0, (o0_1, (o0_2, ()))), ((o1_0, (o1_1, (o1_2, ()))), ())))))
  else
   (some (Sum.inl (((), ((), ((decide (o0_0 < (0:Int))), ()))), ((o0_0, (o0_1, (o0_2, ()))), ((o1_0, (o1_1, (o1_2, ()))), ()))))))
theorem profile_Nearer.eq0 (g_ratio_Less : ratio_Less.sh.X → Option ratio_Less.osh.X) (l0 : profile_Nearer.s0.X → Option (sumX profile_Nearer.x0)) (L : ((Unit × Unit × Unit) × ((Int × Int × Int × Unit) × (Int × Int × Int × Unit) × Unit)) → Option (((Unit × Unit × Bool × Unit) × ((Int × Int × Int × Unit) × (Int × Int × Int × Unit) × Unit)) ⊕ Empty)) (x : ((Unit × Unit × Unit) × ((Int × Int × Int × Unit) × (Int × Int × Int × Unit) × Unit))) : (roundK (profile_Nearer.E g_ratio_Less l0) profile_Nearer.s0 [2, 3] [(0, [2, 3, 12])] false (((mk profile_Nearer.hs profile_Nearer.c []).atoms.getD 0 .bad).body) profile_Nearer.x0 L x).run _ some = profile_Nearer.f0 x.2.1.1 x.2.1.2.1 x.2.1.2.2.1 x.2.2.1.1 x.2.2.1.2.1 x.2.2.1.2.2.1 := by
  show _ = (_ : Option _)
  kernel_rfl
noncomputable def profile_Nearer.L0 : ((Unit × Unit × Unit) × ((Int × Int × Int × Unit) × (Int × Int × Int × Unit) × Unit)) → Option (((Unit × Unit × Bool × Unit) × ((Int × Int × Int × Unit) × (Int × Int × Int × Unit) × Unit)) ⊕ Empty) := fun x => profile_Nearer.f0 x.2.1.1 x.2.1.2.1 x.2.1.2.2.1 x.2.2.1.1 x.2.2.1.2.1 x.2.2.1.2.2.1
def profile_Nearer.f (g_ratio_Less : (((Int × Int × Unit) × (Int × Int × Unit) × Unit) × (Unit)) → Option ((Bool × Unit) × (Unit))) (l0 : ((Unit × Unit × Unit) × ((Int × Int × Int × Unit) × (Int × Int × Int × Unit) × Unit)) → Option (((Unit × Unit × Bool × Unit) × ((Int × Int × Int × Unit) × (Int × Int × Int × Unit) × Unit)) ⊕ Empty)) (a_At : Int) (a_Distance_Num : Int) (a_Distance_Den : Int) (b_At : Int) (b_Distance_Num : Int) (b_Distance_Den : Int) : Option ((Bool × Unit) × (Unit)) :=
  (Option.bind (l0 (((), ((), ())), ((a_At, (a_Distance_Num, (a_Distance_Den, ()))), ((b_At, (b_Distance_Num, (b_Distance_Den, ()))), ())))) (fun y0 =>
  (Sum.elim (fun a1 =>
   (bif a1.1.2.2.1 then
    (some ((Bool.false, ()), ()))
   else
    (bif (decide (a1.2.2.1.1 < (0:Int))) then
     (some ((Bool.true, ()), ()))
    else
     (Option.bind (g_ratio_Less (((a1.2.1.2.1, (a1.2.1.2.2.1, ())), ((a1.2.2.1.2.1, (a1.2.2.1.2.2.1, ())), ())), ())) (fun y4 =>
     (bif y4.1.1 then
      (some ((Bool.true, ()), ()))
     else
      (Option.bind (g_ratio_Less (((a1.2.2.1.2.1, (a1.2.2.1.2.2.1, ())), ((a1.2.1.2.1, (a1.2.1.2.2.1, ())), ())), ())) (fun y6 =>
      (bif (!y6.1.1) then
       (some (((decide (a1.2.1.1 < a1.2.2.1.1)), ()), ()))
      else
       (some ((Bool.false, ()), ()))))))))))) (fun b1 =>
   (Empty.elim b1)) y0)))
theorem profile_Nearer.eq (g_ratio_Less : ratio_Less.sh.X → Option ratio_Less.osh.X) (l0 : profile_Nearer.s0.X → Option (sumX profile_Nearer.x0)) (x : (((Int × Int × Int × Unit) × (Int × Int × Int × Unit) × Unit) × (Unit))) : (bodyO (profile_Nearer.E g_ratio_Less l0) (mk profile_Nearer.hs profile_Nearer.c []) Go.Proofs.Try.f15.results.toList profile_Nearer.sh profile_Nearer.osh x).run _ some = profile_Nearer.f g_ratio_Less l0 x.1.1.1 x.1.1.2.1 x.1.1.2.2.1 x.1.2.1.1 x.1.2.1.2.1 x.1.2.1.2.2.1 := by
  show _ = (_ : Option _)
  kernel_rfl
noncomputable def profile_Nearer (a_At : Int) (a_Distance_Num : Int) (a_Distance_Den : Int) (b_At : Int) (b_Distance_Num : Int) (b_Distance_Den : Int) : Option ((Bool × Unit) × (Unit)) := profile_Nearer.f ratio_Less.F profile_Nearer.L0 a_At a_Distance_Num a_Distance_Den b_At b_Distance_Num b_Distance_Den
noncomputable def profile_Nearer.F (x : (((Int × Int × Int × Unit) × (Int × Int × Int × Unit) × Unit) × (Unit))) : Option ((Bool × Unit) × (Unit)) := profile_Nearer x.1.1.1 x.1.1.2.1 x.1.1.2.2.1 x.1.2.1.1 x.1.2.1.2.1 x.1.2.1.2.2.1
theorem profile_Nearer.L0_eq (o0_0 : Int) (o0_1 : Int) (o0_2 : Int) (o1_0 : Int) (o1_1 : Int) (o1_2 : Int) : profile_Nearer.L0 (((), (), ()), ((o0_0, o0_1, o0_2, ()), (o1_0, o1_1, o1_2, ()), ())) = profile_Nearer.f0 o0_0 o0_1 o0_2 o1_0 o1_1 o1_2 := rfl
theorem profile_Nearer.F_eq (a_At : Int) (a_Distance_Num : Int) (a_Distance_Den : Int) (b_At : Int) (b_Distance_Num : Int) (b_Distance_Den : Int) : profile_Nearer.F (((a_At, a_Distance_Num, a_Distance_Den, ()), (b_At, b_Distance_Num, b_Distance_Den, ()), ()), ()) = profile_Nearer.f ratio_Less.F profile_Nearer.L0 a_At a_Distance_Num a_Distance_Den b_At b_Distance_Num b_Distance_Den := rfl
theorem profile_Nearer.ok {tabs : List (Nat × Go.Obj)} (ht : TabsOk tabs) : FOK Go.Proofs.Try.prog tabs 15 (FE.of [true, true] false profile_Nearer.sh profile_Nearer.osh profile_Nearer.F) := by
  refine fn_keeps (E := (profile_Nearer.E ratio_Less.F profile_Nearer.L0)) (c := profile_Nearer.c) (fn := Go.Proofs.Try.f15) (hs := profile_Nearer.hs) (by kernel_rfl) Go.Proofs.Try.func15 ⟨by kernel_rfl, by kernel_rfl, tb, by kernel_rfl, by kernel_rfl, by kernel_rfl, by kernel_rfl, by kernel_rfl⟩ ⟨fun g ks fe h => ?_, gt_ok ht⟩ ?_ (fun x => profile_Nearer.eq ratio_Less.F profile_Nearer.L0 x)
  · rcases c_cons h with ⟨rfl, rfl⟩ | h
    · exact ratio_Less.ok ht
    cases h
  · refine known_at 1 (by kernel_rfl) fun i hi => ?_
    match i, hi with
    | 0, _ => exact atom_at (id := 0) (live := [2, 3]) (outs := [(0, [2, 3, 12])]) (loop := false) (by kernel_rfl) (cut_ok (E := (profile_Nearer.E ratio_Less.F profile_Nearer.L0)) (sh := profile_Nearer.s0) (es := profile_Nearer.x0) rfl (fun L x => profile_Nearer.eq0 ratio_Less.F profile_Nearer.L0 L x))
    | n + 1, h => exact absurd h (by omega)

/-! profile_Best -/
def profile_Best.f (g_profile_Nearer : (((Int × Int × Int × Unit) × (Int × Int × Int × Unit) × Unit) × (Unit)) → Option ((Bool × Unit) × (Unit))) (x_At : Int) (x_Distance_Num : Int) (x_Distance_Den : Int) (o0_0 : Int) (o0_1 : Int) (o0_2 : Int) : Option ((Unit) × ((Int × Int × Int × Unit) × Unit)) :=
  (Option.bind (g_profile_Nearer (((x_At, (x_Distance_Num, (x_Distance_Den, ()))), ((o0_0, (o0_1, (o0_2, ()))), ())), ())) (fun y0 =>
  (bif y0.1.1 then
   (some ((), ((x_At, (x_Distance_Num, (x_Distance_Den, ()))), ())))
  else
   (some ((), ((o0_0, (o0_1, (o0_2, ()))), ()))))))
theorem profile_Best.eq (g_profile_Nearer : profile_Nearer.sh.X → Option profile_Nearer.osh.X) (x : ((Unit × (Int × Int × Int × Unit) × Unit) × ((Int × Int × Int × Unit) × Unit))) : (bodyO (profile_Best.E g_profile_Nearer) (mk profile_Best.hs profile_Best.c []) Go.Proofs.Try.f30.results.toList profile_Best.sh profile_Best.osh x).run _ some = profile_Best.f g_profile_Nearer x.1.2.1.1 x.1.2.1.2.1 x.1.2.1.2.2.1 x.2.1.1 x.2.1.2.1 x.2.1.2.2.1 := by
  show _ = (_ : Option _)
  kernel_rfl
noncomputable def profile_Best (x_At : Int) (x_Distance_Num : Int) (x_Distance_Den : Int) (o0_0 : Int) (o0_1 : Int) (o0_2 : Int) : Option ((Unit) × ((Int × Int × Int × Unit) × Unit)) := profile_Best.f profile_Nearer.F x_At x_Distance_Num x_Distance_Den o0_0 o0_1 o0_2
noncomputable def profile_Best.F (x : ((Unit × (Int × Int × Int × Unit) × Unit) × ((Int × Int × Int × Unit) × Unit))) : Option ((Unit) × ((Int × Int × Int × Unit) × Unit)) := profile_Best x.1.2.1.1 x.1.2.1.2.1 x.1.2.1.2.2.1 x.2.1.1 x.2.1.2.1 x.2.1.2.2.1
theorem profile_Best.F_eq (x_At : Int) (x_Distance_Num : Int) (x_Distance_Den : Int) (o0_0 : Int) (o0_1 : Int) (o0_2 : Int) : profile_Best.F (((), (x_At, x_Distance_Num, x_Distance_Den, ()), ()), ((o0_0, o0_1, o0_2, ()), ())) = profile_Best.f profile_Nearer.F x_At x_Distance_Num x_Distance_Den o0_0 o0_1 o0_2 := rfl
theorem profile_Best.ok {tabs : List (Nat × Go.Obj)} (ht : TabsOk tabs) : FOK Go.Proofs.Try.prog tabs 30 (FE.of [true, true] false profile_Best.sh profile_Best.osh profile_Best.F) := by
  refine fn_keeps (E := (profile_Best.E profile_Nearer.F)) (c := profile_Best.c) (fn := Go.Proofs.Try.f30) (hs := profile_Best.hs) (by kernel_rfl) Go.Proofs.Try.func30 ⟨by kernel_rfl, by kernel_rfl, tb, by kernel_rfl, by kernel_rfl, by kernel_rfl, by kernel_rfl, by kernel_rfl⟩ ⟨fun g ks fe h => ?_, gt_ok ht⟩ ?_ (fun x => profile_Best.eq profile_Nearer.F x)
  · rcases c_cons h with ⟨rfl, rfl⟩ | h
    · exact profile_Nearer.ok ht
    cases h
  · exact known_at 0 (by kernel_rfl) fun i hi => absurd hi (Nat.not_lt_zero i)
end Go.Proofs.Ytefcciajemkicaa.V
