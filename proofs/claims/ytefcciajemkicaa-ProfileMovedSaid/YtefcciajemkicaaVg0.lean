import Derived.Test.YtefcciajemkicaaVgEnv
import Derived.WalkKit
set_option linter.unusedVariables false
set_option maxRecDepth 100000
namespace Go.Proofs.Ytefcciajemkicaa.V
open Go.VI
/-! second_Few -/
def second_Few.f (l : (List Int)) : Option ((Bool × Unit) × (Unit)) :=
  (some (((decide ((((List.length l) : Nat) : Int) ≤ (400:Int))), ()), ()))
theorem second_Few.eq (x : (((List Int) × Unit) × (Unit))) : (bodyO (second_Few.E) (mk second_Few.hs second_Few.c []) Go.Proofs.Try.f8.results.toList second_Few.sh second_Few.osh x).run _ some = second_Few.f x.1.1 := by
  show _ = (_ : Option _)
  kernel_rfl
noncomputable def second_Few (l : (List Int)) : Option ((Bool × Unit) × (Unit)) := second_Few.f l
noncomputable def second_Few.F (x : (((List Int) × Unit) × (Unit))) : Option ((Bool × Unit) × (Unit)) := second_Few x.1.1
theorem second_Few.F_eq (l : (List Int)) : second_Few.F ((l, ()), ()) = second_Few.f l := rfl
theorem second_Few.ok {tabs : List (Nat × Go.Obj)} (ht : TabsOk tabs) : FOK Go.Proofs.Try.prog tabs 8 (FE.of [true] false second_Few.sh second_Few.osh second_Few.F) := by
  refine fn_keeps (E := (second_Few.E)) (c := second_Few.c) (fn := Go.Proofs.Try.f8) (hs := second_Few.hs) (by kernel_rfl) Go.Proofs.Try.func8 ⟨by kernel_rfl, by kernel_rfl, tb, by kernel_rfl, by kernel_rfl, by kernel_rfl, by kernel_rfl, by kernel_rfl⟩ ⟨fun g ks fe h => ?_, gt_ok ht⟩ ?_ (fun x => second_Few.eq x)
  · cases h
  · exact known_at 0 (by kernel_rfl) fun i hi => absurd hi (Nat.not_lt_zero i)

/-! measure_name -/
def measure_name.f (kind : Int) : Option ((ByteArray × Unit) × (Unit)) :=
  (bif (kind == (1:Int)) then
   (some (((ByteArray.mk #[(101:UInt8), (117:UInt8), (99:UInt8), (108:UInt8), (105:UInt8), (100:UInt8)]), ()), ()))
  else
   (bif (kind == (2:Int)) then
    (some (((ByteArray.mk #[(115:UInt8), (104:UInt8), (105:UInt8), (102:UInt8), (116:UInt8), (101:UInt8), (100:UInt8)]), ()), ()))
   else
    (bif (kind == (3:Int)) then
     (some (((ByteArray.mk #[(110:UInt8), (111:UInt8), (114:UInt8), (109:UInt8), (97:UInt8), (108:UInt8)]), ()), ()))
    else
     (bif (kind == (4:Int)) then
      (some (((ByteArray.mk #[(119:UInt8), (97:UInt8), (114:UInt8), (112:UInt8)]), ()), ()))
     else
      (bif (kind == (5:Int)) then
       (some (((ByteArray.mk #[(101:UInt8), (100:UInt8), (105:UInt8), (116:UInt8)]), ()), ()))
      else
       (some (((ByteArray.mk #[]), ()), ())))))))
theorem measure_name.eq (x : ((Int × Unit) × (Unit))) : (bodyO (measure_name.E) (mk measure_name.hs measure_name.c []) Go.Proofs.Try.f51.results.toList measure_name.sh measure_name.osh x).run _ some = measure_name.f x.1.1 := by
  show _ = (_ : Option _)
  kernel_rfl
noncomputable def measure_name (kind : Int) : Option ((ByteArray × Unit) × (Unit)) := measure_name.f kind
noncomputable def measure_name.F (x : ((Int × Unit) × (Unit))) : Option ((ByteArray × Unit) × (Unit)) := measure_name x.1.1
theorem measure_name.F_eq (kind : Int) : measure_name.F ((kind, ()), ()) = measure_name.f kind := rfl
theorem measure_name.ok {tabs : List (Nat × Go.Obj)} (ht : TabsOk tabs) : FOK Go.Proofs.Try.prog tabs 51 (FE.of [true] false measure_name.sh measure_name.osh measure_name.F) := by
  refine fn_keeps (E := (measure_name.E)) (c := measure_name.c) (fn := Go.Proofs.Try.f51) (hs := measure_name.hs) (by kernel_rfl) Go.Proofs.Try.func51 ⟨by kernel_rfl, by kernel_rfl, tb, by kernel_rfl, by kernel_rfl, by kernel_rfl, by kernel_rfl, by kernel_rfl⟩ ⟨fun g ks fe h => ?_, gt_ok ht⟩ ?_ (fun x => measure_name.eq x)
  · cases h
  · exact known_at 0 (by kernel_rfl) fun i hi => absurd hi (Nat.not_lt_zero i)

/-! measure_Check -/
def measure_Check.f1 (o0_0 : Int) (o0_1 : Int) (o0_2 : Int) : Option (((Unit × Bool × Unit) × ((Int × Int × Int × Unit) × Unit)) ⊕ Empty) :=
  (bif (decide (o0_1 < (0:Int))) then
   (some (Sum.inl (((), (Bool.true, ())), ((o0_0, (o0_1, (o0_2, ()))), ()))))
  else
   (bif (decide (o0_1 > (32:Int))) then
    (some (Sum.inl (((), (Bool.true, ())), ((o0_0, (o0_1, (o0_2, ()))), ()))))
   else
    (bif (o0_1 != (0:Int)) then
     (some (Sum.inl (((), ((o0_0 != (4:Int)), ())), ((o0_0, (o0_1, (o0_2, ()))), ()))))
    else
     (some (Sum.inl (((), (Bool.false, ())), ((o0_0, (o0_1, (o0_2, ()))), ())))))))
theorem measure_Check.eq1 (g_measure_name : measure_name.sh.X → Option measure_name.osh.X) (l0 : measure_Check.s0.X → Option (sumX measure_Check.x0)) (l1 : measure_Check.s1.X → Option (sumX measure_Check.x1)) (l2 : measure_Check.s2.X → Option (sumX measure_Check.x2)) (L : ((Unit × Unit) × ((Int × Int × Int × Unit) × Unit)) → Option (((Unit × Bool × Unit) × ((Int × Int × Int × Unit) × Unit)) ⊕ Empty)) (x : ((Unit × Unit) × ((Int × Int × Int × Unit) × Unit))) : (roundK (measure_Check.E g_measure_name l0 l1 l2) measure_Check.s1 [1] [(0, [1, 3])] false (((mk measure_Check.hs measure_Check.c []).atoms.getD 1 .bad).body) measure_Check.x1 L x).run _ some = measure_Check.f1 x.2.1.1 x.2.1.2.1 x.2.1.2.2.1 := by
  show _ = (_ : Option _)
  kernel_rfl
noncomputable def measure_Check.L1 : ((Unit × Unit) × ((Int × Int × Int × Unit) × Unit)) → Option (((Unit × Bool × Unit) × ((Int × Int × Int × Unit) × Unit)) ⊕ Empty) := fun x => measure_Check.f1 x.2.1.1 x.2.1.2.1 x.2.1.2.2.1
def measure_Check.f2 (v3 : Bool) (o0_0 : Int) (o0_1 : Int) (o0_2 : Int) : Option (((Bool × Unit) × (Unit)) ⊕ Empty) :=
  (bif v3 then
   (some (Sum.inl ((v3, ()), ())))
  else
   (bif (decide (o0_2 < (-(1000:Int)))) then
    (some (Sum.inl ((Bool.true, ()), ())))
   else
    (bif (decide (o0_2 > (1000:Int))) then
     (some (Sum.inl ((Bool.true, ()), ())))
    else
     (bif (o0_2 != (0:Int)) then
      (some (Sum.inl (((o0_0 != (5:Int)), ()), ())))
     else
      (some (Sum.inl ((Bool.false, ()), ())))))))
theorem measure_Check.eq2 (g_measure_name : measure_name.sh.X → Option measure_name.osh.X) (l0 : measure_Check.s0.X → Option (sumX measure_Check.x0)) (l1 : measure_Check.s1.X → Option (sumX measure_Check.x1)) (l2 : measure_Check.s2.X → Option (sumX measure_Check.x2)) (L : ((Unit × Bool × Unit) × ((Int × Int × Int × Unit) × Unit)) → Option (((Bool × Unit) × (Unit)) ⊕ Empty)) (x : ((Unit × Bool × Unit) × ((Int × Int × Int × Unit) × Unit))) : (roundK (measure_Check.E g_measure_name l0 l1 l2) measure_Check.s2 [1, 3] [(0, [3])] false (((mk measure_Check.hs measure_Check.c []).atoms.getD 2 .bad).body) measure_Check.x2 L x).run _ some = measure_Check.f2 x.1.2.1 x.2.1.1 x.2.1.2.1 x.2.1.2.2.1 := by
  show _ = (_ : Option _)
  kernel_rfl
noncomputable def measure_Check.L2 : ((Unit × Bool × Unit) × ((Int × Int × Int × Unit) × Unit)) → Option (((Bool × Unit) × (Unit)) ⊕ Empty) := fun x => measure_Check.f2 x.1.2.1 x.2.1.1 x.2.1.2.1 x.2.1.2.2.1
def measure_Check.f0 (l1 : ((Unit × Unit) × ((Int × Int × Int × Unit) × Unit)) → Option (((Unit × Bool × Unit) × ((Int × Int × Int × Unit) × Unit)) ⊕ Empty)) (l2 : ((Unit × Bool × Unit) × ((Int × Int × Int × Unit) × Unit)) → Option (((Bool × Unit) × (Unit)) ⊕ Empty)) (v3 : Bool) (o0_0 : Int) (o0_1 : Int) (o0_2 : Int) : Option (((Bool × Unit) × (Unit)) ⊕ Empty) :=
  (bif v3 then
   (some (Sum.inl ((v3, ()), ())))
  else
   (Option.bind (l1 (((), ()), ((o0_0, (o0_1, (o0_2, ()))), ()))) (fun y1 =>
   (Sum.elim (fun a2 =>
    (Option.bind (l2 (((), (a2.1.2.1, ())), ((a2.2.1.1, (a2.2.1.2.1, (a2.2.1.2.2.1, ()))), ()))) (fun y3 =>
    (Sum.elim (fun a4 =>
     (some (Sum.inl ((a4.1.1, ()), ())))) (fun b4 =>
     (Empty.elim b4)) y3)))) (fun b2 =>
    (Empty.elim b2)) y1))))
theorem measure_Check.eq0 (g_measure_name : measure_name.sh.X → Option measure_name.osh.X) (l0 : measure_Check.s0.X → Option (sumX measure_Check.x0)) (l1 : measure_Check.s1.X → Option (sumX measure_Check.x1)) (l2 : measure_Check.s2.X → Option (sumX measure_Check.x2)) (L : ((Unit × Bool × Unit) × ((Int × Int × Int × Unit) × Unit)) → Option (((Bool × Unit) × (Unit)) ⊕ Empty)) (x : ((Unit × Bool × Unit) × ((Int × Int × Int × Unit) × Unit))) : (roundK (measure_Check.E g_measure_name l0 l1 l2) measure_Check.s0 [1, 3] [(0, [3])] false (((mk measure_Check.hs measure_Check.c []).atoms.getD 0 .bad).body) measure_Check.x0 L x).run _ some = measure_Check.f0 l1 l2 x.1.2.1 x.2.1.1 x.2.1.2.1 x.2.1.2.2.1 := by
  show _ = (_ : Option _)
  kernel_rfl
noncomputable def measure_Check.L0 : ((Unit × Bool × Unit) × ((Int × Int × Int × Unit) × Unit)) → Option (((Bool × Unit) × (Unit)) ⊕ Empty) := fun x => measure_Check.f0 measure_Check.L1 measure_Check.L2 x.1.2.1 x.2.1.1 x.2.1.2.1 x.2.1.2.2.1
def measure_Check.f (g_measure_name : ((Int × Unit) × (Unit)) → Option ((ByteArray × Unit) × (Unit))) (l0 : ((Unit × Bool × Unit) × ((Int × Int × Int × Unit) × Unit)) → Option (((Bool × Unit) × (Unit)) ⊕ Empty)) (m_Kind : Int) (m_Band : Int) (m_Gap : Int) : Option ((Int × Unit) × (Unit)) :=
  (Option.bind (g_measure_name ((m_Kind, ()), ())) (fun y0 =>
  (Option.bind (l0 (((), (((ByteArray.toList y0.1.1) == (ByteArray.toList (ByteArray.mk #[]))), ())), ((m_Kind, (m_Band, (m_Gap, ()))), ()))) (fun y1 =>
  (Sum.elim (fun a2 =>
   (bif a2.1.1 then
    (some (((9:Int), ()), ()))
   else
    (some (((0:Int), ()), ())))) (fun b2 =>
   (Empty.elim b2)) y1)))))
theorem measure_Check.eq (g_measure_name : measure_name.sh.X → Option measure_name.osh.X) (l0 : measure_Check.s0.X → Option (sumX measure_Check.x0)) (l1 : measure_Check.s1.X → Option (sumX measure_Check.x1)) (l2 : measure_Check.s2.X → Option (sumX measure_Check.x2)) (x : (((Int × Int × Int × Unit) × Unit) × (Unit))) : (bodyO (measure_Check.E g_measure_name l0 l1 l2) (mk measure_Check.hs measure_Check.c []) Go.Proofs.Try.f27.results.toList measure_Check.sh measure_Check.osh x).run _ some = measure_Check.f g_measure_name l0 x.1.1.1 x.1.1.2.1 x.1.1.2.2.1 := by
  show _ = (_ : Option _)
  kernel_rfl
noncomputable def measure_Check (m_Kind : Int) (m_Band : Int) (m_Gap : Int) : Option ((Int × Unit) × (Unit)) := measure_Check.f measure_name.F measure_Check.L0 m_Kind m_Band m_Gap
noncomputable def measure_Check.F (x : (((Int × Int × Int × Unit) × Unit) × (Unit))) : Option ((Int × Unit) × (Unit)) := measure_Check x.1.1.1 x.1.1.2.1 x.1.1.2.2.1
theorem measure_Check.L0_eq (v3 : Bool) (o0_0 : Int) (o0_1 : Int) (o0_2 : Int) : measure_Check.L0 (((), v3, ()), ((o0_0, o0_1, o0_2, ()), ())) = measure_Check.f0 measure_Check.L1 measure_Check.L2 v3 o0_0 o0_1 o0_2 := rfl
theorem measure_Check.L1_eq (o0_0 : Int) (o0_1 : Int) (o0_2 : Int) : measure_Check.L1 (((), ()), ((o0_0, o0_1, o0_2, ()), ())) = measure_Check.f1 o0_0 o0_1 o0_2 := rfl
theorem measure_Check.L2_eq (v3 : Bool) (o0_0 : Int) (o0_1 : Int) (o0_2 : Int) : measure_Check.L2 (((), v3, ()), ((o0_0, o0_1, o0_2, ()), ())) = measure_Check.f2 v3 o0_0 o0_1 o0_2 := rfl
theorem measure_Check.F_eq (m_Kind : Int) (m_Band : Int) (m_Gap : Int) : measure_Check.F (((m_Kind, m_Band, m_Gap, ()), ()), ()) = measure_Check.f measure_name.F measure_Check.L0 m_Kind m_Band m_Gap := rfl
theorem measure_Check.ok {tabs : List (Nat × Go.Obj)} (ht : TabsOk tabs) : FOK Go.Proofs.Try.prog tabs 27 (FE.of [true] false measure_Check.sh measure_Check.osh measure_Check.F) := by
  refine fn_keeps (E := (measure_Check.E measure_name.F measure_Check.L0 measure_Check.L1 measure_Check.L2)) (c := measure_Check.c) (fn := Go.Proofs.Try.f27) (hs := measure_Check.hs) (by kernel_rfl) Go.Proofs.Try.func27 ⟨by kernel_rfl, by kernel_rfl, tb, by kernel_rfl, by kernel_rfl, by kernel_rfl, by kernel_rfl, by kernel_rfl⟩ ⟨fun g ks fe h => ?_, gt_ok ht⟩ ?_ (fun x => measure_Check.eq measure_name.F measure_Check.L0 measure_Check.L1 measure_Check.L2 x)
  · rcases c_cons h with ⟨rfl, rfl⟩ | h
    · exact measure_name.ok ht
    cases h
  · refine known_at 3 (by kernel_rfl) fun i hi => ?_
    match i, hi with
    | 0, _ => exact atom_at (id := 0) (live := [1, 3]) (outs := [(0, [3])]) (loop := false) (by kernel_rfl) (cut_ok (E := (measure_Check.E measure_name.F measure_Check.L0 measure_Check.L1 measure_Check.L2)) (sh := measure_Check.s0) (es := measure_Check.x0) rfl (fun L x => measure_Check.eq0 measure_name.F measure_Check.L0 measure_Check.L1 measure_Check.L2 L x))
    | 1, _ => exact atom_at (id := 1) (live := [1]) (outs := [(0, [1, 3])]) (loop := false) (by kernel_rfl) (cut_ok (E := (measure_Check.E measure_name.F measure_Check.L0 measure_Check.L1 measure_Check.L2)) (sh := measure_Check.s1) (es := measure_Check.x1) rfl (fun L x => measure_Check.eq1 measure_name.F measure_Check.L0 measure_Check.L1 measure_Check.L2 L x))
    | 2, _ => exact atom_at (id := 2) (live := [1, 3]) (outs := [(0, [3])]) (loop := false) (by kernel_rfl) (cut_ok (E := (measure_Check.E measure_name.F measure_Check.L0 measure_Check.L1 measure_Check.L2)) (sh := measure_Check.s2) (es := measure_Check.x2) rfl (fun L x => measure_Check.eq2 measure_name.F measure_Check.L0 measure_Check.L1 measure_Check.L2 L x))
    | n + 3, h => exact absurd h (by omega)

/-! profile_Sample -/
def profile_Sample.f (n : Int) : Option ((Bool × Unit) × (Unit)) :=
  (bif (n == (1073741824:Int)) then
   (some ((Bool.true, ()), ()))
  else
   (bif (decide (n ≥ (-(1000:Int)))) then
    (some (((decide (n ≤ (1000:Int))), ()), ()))
   else
    (some ((Bool.false, ()), ()))))
theorem profile_Sample.eq (x : ((Int × Unit) × (Unit))) : (bodyO (profile_Sample.E) (mk profile_Sample.hs profile_Sample.c []) Go.Proofs.Try.f40.results.toList profile_Sample.sh profile_Sample.osh x).run _ some = profile_Sample.f x.1.1 := by
  show _ = (_ : Option _)
  kernel_rfl
noncomputable def profile_Sample (n : Int) : Option ((Bool × Unit) × (Unit)) := profile_Sample.f n
noncomputable def profile_Sample.F (x : ((Int × Unit) × (Unit))) : Option ((Bool × Unit) × (Unit)) := profile_Sample x.1.1
theorem profile_Sample.F_eq (n : Int) : profile_Sample.F ((n, ()), ()) = profile_Sample.f n := rfl
theorem profile_Sample.ok {tabs : List (Nat × Go.Obj)} (ht : TabsOk tabs) : FOK Go.Proofs.Try.prog tabs 40 (FE.of [true] false profile_Sample.sh profile_Sample.osh profile_Sample.F) := by
  refine fn_keeps (E := (profile_Sample.E)) (c := profile_Sample.c) (fn := Go.Proofs.Try.f40) (hs := profile_Sample.hs) (by kernel_rfl) Go.Proofs.Try.func40 ⟨by kernel_rfl, by kernel_rfl, tb, by kernel_rfl, by kernel_rfl, by kernel_rfl, by kernel_rfl, by kernel_rfl⟩ ⟨fun g ks fe h => ?_, gt_ok ht⟩ ?_ (fun x => profile_Sample.eq x)
  · cases h
  · exact known_at 0 (by kernel_rfl) fun i hi => absurd hi (Nat.not_lt_zero i)

/-! profile_Windows_1 -/
def profile_Windows_1.f (g_profile_Sample : ((Int × Unit) × (Unit)) → Option ((Bool × Unit) × (Unit))) (n : Int) : Option ((Bool × Unit) × (Unit)) :=
  (Option.bind (g_profile_Sample ((n, ()), ())) (fun y0 =>
  (some (((!y0.1.1), ()), ()))))
theorem profile_Windows_1.eq (g_profile_Sample : profile_Sample.sh.X → Option profile_Sample.osh.X) (x : ((Int × Unit) × (Unit))) : (bodyO (profile_Windows_1.E g_profile_Sample) (mk profile_Windows_1.hs profile_Windows_1.c []) Go.Proofs.Try.f39.results.toList profile_Windows_1.sh profile_Windows_1.osh x).run _ some = profile_Windows_1.f g_profile_Sample x.1.1 := by
  show _ = (_ : Option _)
  kernel_rfl
noncomputable def profile_Windows_1 (n : Int) : Option ((Bool × Unit) × (Unit)) := profile_Windows_1.f profile_Sample.F n
noncomputable def profile_Windows_1.F (x : ((Int × Unit) × (Unit))) : Option ((Bool × Unit) × (Unit)) := profile_Windows_1 x.1.1
theorem profile_Windows_1.F_eq (n : Int) : profile_Windows_1.F ((n, ()), ()) = profile_Windows_1.f profile_Sample.F n := rfl
theorem profile_Windows_1.ok {tabs : List (Nat × Go.Obj)} (ht : TabsOk tabs) : FOK Go.Proofs.Try.prog tabs 39 (FE.of [true] false profile_Windows_1.sh profile_Windows_1.osh profile_Windows_1.F) := by
  refine fn_keeps (E := (profile_Windows_1.E profile_Sample.F)) (c := profile_Windows_1.c) (fn := Go.Proofs.Try.f39) (hs := profile_Windows_1.hs) (by kernel_rfl) Go.Proofs.Try.func39 ⟨by kernel_rfl, by kernel_rfl, tb, by kernel_rfl, by kernel_rfl, by kernel_rfl, by kernel_rfl, by kernel_rfl⟩ ⟨fun g ks fe h => ?_, gt_ok ht⟩ ?_ (fun x => profile_Windows_1.eq profile_Sample.F x)
  · rcases c_cons h with ⟨rfl, rfl⟩ | h
    · exact profile_Sample.ok ht
    cases h
  · exact known_at 0 (by kernel_rfl) fun i hi => absurd hi (Nat.not_lt_zero i)

/-! slices_IndexFunc -/
def slices_IndexFunc.f0 (g_profile_Windows_1 : ((Int × Unit) × (Unit)) → Option ((Bool × Unit) × (Unit))) (L : (((List Int) × Unit × Int × Int × Unit) × (Unit)) → Option (((Unit) × (Unit)) ⊕ ((Int × Unit) × (Unit)) ⊕ Empty)) (s_0 : (List Int)) (v7 : Int) (v8 : Int) : Option (((Unit) × (Unit)) ⊕ ((Int × Unit) × (Unit)) ⊕ Empty) :=
  (bif (decide (v8 < v7)) then
   (bif (decide ((0:Int) ≤ v8)) then
    (bif (decide (v8 < (((List.length s_0) : Nat) : Int))) then
     (Option.bind (g_profile_Windows_1 (((List.getD s_0 (Int.toNat v8) (0:Int)), ()), ())) (fun y3 =>
     (bif y3.1.1 then
      (some (Sum.inr (Sum.inl ((v8, ()), ()))))
     else
      (Option.bind (L ((s_0, ((), (v7, ((Go.IntKind.wrap Go.IntKind.i64 (v8 + (1:Int))), ())))), ())) (fun y5 =>
      (some y5))))))
    else
     none)
   else
    none)
  else
   (some (Sum.inl ((), ()))))
theorem slices_IndexFunc.eq0 (g_profile_Windows_1 : profile_Windows_1.sh.X → Option profile_Windows_1.osh.X) (l0 : slices_IndexFunc.s0.X → Option (sumX slices_IndexFunc.x0)) (L : (((List Int) × Unit × Int × Int × Unit) × (Unit)) → Option (((Unit) × (Unit)) ⊕ ((Int × Unit) × (Unit)) ⊕ Empty)) (x : (((List Int) × Unit × Int × Int × Unit) × (Unit))) : (roundK (slices_IndexFunc.E g_profile_Windows_1 l0) slices_IndexFunc.s0 [0, 1, 7, 8] [(2, []), (1, [4])] true (((mk slices_IndexFunc.hs slices_IndexFunc.c []).atoms.getD 0 .bad).body) slices_IndexFunc.x0 L x).run _ some = slices_IndexFunc.f0 g_profile_Windows_1 L x.1.1 x.1.2.2.1 x.1.2.2.2.1 := by
  show _ = (_ : Option _)
  kernel_rfl
noncomputable def slices_IndexFunc.L0 : (((List Int) × Unit × Int × Int × Unit) × (Unit)) → Option (((Unit) × (Unit)) ⊕ ((Int × Unit) × (Unit)) ⊕ Empty) := loop fun L x => slices_IndexFunc.f0 profile_Windows_1.F L x.1.1 x.1.2.2.1 x.1.2.2.2.1
def slices_IndexFunc.f (l0 : (((List Int) × Unit × Int × Int × Unit) × (Unit)) → Option (((Unit) × (Unit)) ⊕ ((Int × Unit) × (Unit)) ⊕ Empty)) (s : (List Int)) : Option ((Int × Unit) × (Unit)) :=
  (Option.bind (l0 ((s, ((), ((((List.length s) : Nat) : Int), ((0:Int), ())))), ())) (fun y0 =>
  (Sum.elim (fun a1 =>
   (some (((-(1:Int)), ()), ()))) (fun b1 =>
   (Sum.elim (fun a2 =>
    (some ((a2.1.1, ()), ()))) (fun b2 =>
    (Empty.elim b2)) b1)) y0)))
theorem slices_IndexFunc.eq (g_profile_Windows_1 : profile_Windows_1.sh.X → Option profile_Windows_1.osh.X) (l0 : slices_IndexFunc.s0.X → Option (sumX slices_IndexFunc.x0)) (x : (((List Int) × Unit × Unit) × (Unit))) : (bodyO (slices_IndexFunc.E g_profile_Windows_1 l0) (mk slices_IndexFunc.hs slices_IndexFunc.c []) Go.Proofs.Try.f57.results.toList slices_IndexFunc.sh slices_IndexFunc.osh x).run _ some = slices_IndexFunc.f l0 x.1.1 := by
  show _ = (_ : Option _)
  kernel_rfl
noncomputable def slices_IndexFunc (s : (List Int)) : Option ((Int × Unit) × (Unit)) := slices_IndexFunc.f slices_IndexFunc.L0 s
noncomputable def slices_IndexFunc.F (x : (((List Int) × Unit × Unit) × (Unit))) : Option ((Int × Unit) × (Unit)) := slices_IndexFunc x.1.1
theorem slices_IndexFunc.L0_eq (s_0 : (List Int)) (v7 : Int) (v8 : Int) : slices_IndexFunc.L0 ((s_0, (), v7, v8, ()), ()) = slices_IndexFunc.f0 profile_Windows_1.F slices_IndexFunc.L0 s_0 v7 v8 :=
  loop_eq (E := (slices_IndexFunc.E profile_Windows_1.F slices_IndexFunc.L0)) (sh := slices_IndexFunc.s0) (es := slices_IndexFunc.x0) (lp := true) (H := fun L x => slices_IndexFunc.eq0 profile_Windows_1.F slices_IndexFunc.L0 L x) ((s_0, (), v7, v8, ()), ())
theorem slices_IndexFunc.F_eq (s : (List Int)) : slices_IndexFunc.F ((s, (), ()), ()) = slices_IndexFunc.f slices_IndexFunc.L0 s := rfl
theorem slices_IndexFunc.ok {tabs : List (Nat × Go.Obj)} (ht : TabsOk tabs) : FOK Go.Proofs.Try.prog tabs 57 (FE.of [true, true] false slices_IndexFunc.sh slices_IndexFunc.osh slices_IndexFunc.F) := by
  refine fn_keeps (E := (slices_IndexFunc.E profile_Windows_1.F slices_IndexFunc.L0)) (c := slices_IndexFunc.c) (fn := Go.Proofs.Try.f57) (hs := slices_IndexFunc.hs) (by kernel_rfl) Go.Proofs.Try.func57 ⟨by kernel_rfl, by kernel_rfl, tb, by kernel_rfl, by kernel_rfl, by kernel_rfl, by kernel_rfl, by kernel_rfl⟩ ⟨fun g ks fe h => ?_, gt_ok ht⟩ ?_ (fun x => slices_IndexFunc.eq profile_Windows_1.F slices_IndexFunc.L0 x)
  · rcases c_cons h with ⟨rfl, rfl⟩ | h
    · exact profile_Windows_1.ok ht
    cases h
  · refine known_at 1 (by kernel_rfl) fun i hi => ?_
    match i, hi with
    | 0, _ => exact atom_at (id := 0) (live := [0, 1, 7, 8]) (outs := [(2, []), (1, [4])]) (loop := true) (by kernel_rfl) (loop_ok (E := (slices_IndexFunc.E profile_Windows_1.F slices_IndexFunc.L0)) (sh := slices_IndexFunc.s0) (es := slices_IndexFunc.x0) rfl (fun L x => slices_IndexFunc.eq0 profile_Windows_1.F slices_IndexFunc.L0 L x))
    | n + 1, h => exact absurd h (by omega)

/-! slices_ContainsFunc -/
def slices_ContainsFunc.f (g_slices_IndexFunc : (((List Int) × Unit × Unit) × (Unit)) → Option ((Int × Unit) × (Unit))) (s : (List Int)) : Option ((Bool × Unit) × (Unit)) :=
  (Option.bind (g_slices_IndexFunc ((s, ((), ())), ())) (fun y0 =>
  (some (((decide (y0.1.1 ≥ (0:Int))), ()), ()))))
theorem slices_ContainsFunc.eq (g_slices_IndexFunc : slices_IndexFunc.sh.X → Option slices_IndexFunc.osh.X) (x : (((List Int) × Unit × Unit) × (Unit))) : (bodyO (slices_ContainsFunc.E g_slices_IndexFunc) (mk slices_ContainsFunc.hs slices_ContainsFunc.c []) Go.Proofs.Try.f38.results.toList slices_ContainsFunc.sh slices_ContainsFunc.osh x).run _ some = slices_ContainsFunc.f g_slices_IndexFunc x.1.1 := by
  show _ = (_ : Option _)
  kernel_rfl
noncomputable def slices_ContainsFunc (s : (List Int)) : Option ((Bool × Unit) × (Unit)) := slices_ContainsFunc.f slices_IndexFunc.F s
noncomputable def slices_ContainsFunc.F (x : (((List Int) × Unit × Unit) × (Unit))) : Option ((Bool × Unit) × (Unit)) := slices_ContainsFunc x.1.1
theorem slices_ContainsFunc.F_eq (s : (List Int)) : slices_ContainsFunc.F ((s, (), ()), ()) = slices_ContainsFunc.f slices_IndexFunc.F s := rfl
theorem slices_ContainsFunc.ok {tabs : List (Nat × Go.Obj)} (ht : TabsOk tabs) : FOK Go.Proofs.Try.prog tabs 38 (FE.of [true, true] false slices_ContainsFunc.sh slices_ContainsFunc.osh slices_ContainsFunc.F) := by
  refine fn_keeps (E := (slices_ContainsFunc.E slices_IndexFunc.F)) (c := slices_ContainsFunc.c) (fn := Go.Proofs.Try.f38) (hs := slices_ContainsFunc.hs) (by kernel_rfl) Go.Proofs.Try.func38 ⟨by kernel_rfl, by kernel_rfl, tb, by kernel_rfl, by kernel_rfl, by kernel_rfl, by kernel_rfl, by kernel_rfl⟩ ⟨fun g ks fe h => ?_, gt_ok ht⟩ ?_ (fun x => slices_ContainsFunc.eq slices_IndexFunc.F x)
  · rcases c_cons h with ⟨rfl, rfl⟩ | h
    · exact slices_IndexFunc.ok ht
    cases h
  · exact known_at 0 (by kernel_rfl) fun i hi => absurd hi (Nat.not_lt_zero i)

/-! profile_Length -/
def profile_Length.f (n : Int) : Option ((Bool × Unit) × (Unit)) :=
  (bif (decide (n ≥ (2:Int))) then
   (some (((decide (n ≤ (32:Int))), ()), ()))
  else
   (some ((Bool.false, ()), ())))
theorem profile_Length.eq (x : ((Int × Unit) × (Unit))) : (bodyO (profile_Length.E) (mk profile_Length.hs profile_Length.c []) Go.Proofs.Try.f28.results.toList profile_Length.sh profile_Length.osh x).run _ some = profile_Length.f x.1.1 := by
  show _ = (_ : Option _)
  kernel_rfl
noncomputable def profile_Length (n : Int) : Option ((Bool × Unit) × (Unit)) := profile_Length.f n
noncomputable def profile_Length.F (x : ((Int × Unit) × (Unit))) : Option ((Bool × Unit) × (Unit)) := profile_Length x.1.1
theorem profile_Length.F_eq (n : Int) : profile_Length.F ((n, ()), ()) = profile_Length.f n := rfl
theorem profile_Length.ok {tabs : List (Nat × Go.Obj)} (ht : TabsOk tabs) : FOK Go.Proofs.Try.prog tabs 28 (FE.of [true] false profile_Length.sh profile_Length.osh profile_Length.F) := by
  refine fn_keeps (E := (profile_Length.E)) (c := profile_Length.c) (fn := Go.Proofs.Try.f28) (hs := profile_Length.hs) (by kernel_rfl) Go.Proofs.Try.func28 ⟨by kernel_rfl, by kernel_rfl, tb, by kernel_rfl, by kernel_rfl, by kernel_rfl, by kernel_rfl, by kernel_rfl⟩ ⟨fun g ks fe h => ?_, gt_ok ht⟩ ?_ (fun x => profile_Length.eq x)
  · cases h
  · exact known_at 0 (by kernel_rfl) fun i hi => absurd hi (Nat.not_lt_zero i)

/-! slices_Index -/
def slices_Index.f0 (L : (((List Int) × Int × Int × Int × Unit) × (Unit)) → Option (((Unit) × (Unit)) ⊕ ((Int × Unit) × (Unit)) ⊕ Empty)) (s_0 : (List Int)) (v_1 : Int) (v7 : Int) (v8 : Int) : Option (((Unit) × (Unit)) ⊕ ((Int × Unit) × (Unit)) ⊕ Empty) :=
  (bif (decide (v8 < v7)) then
   (bif (decide ((0:Int) ≤ v8)) then
    (bif (decide (v8 < (((List.length s_0) : Nat) : Int))) then
     (bif (v_1 == (List.getD s_0 (Int.toNat v8) (0:Int))) then
      (some (Sum.inr (Sum.inl ((v8, ()), ()))))
     else
      (Option.bind (L ((s_0, (v_1, (v7, ((Go.IntKind.wrap Go.IntKind.i64 (v8 + (1:Int))), ())))), ())) (fun y4 =>
      (some y4))))
    else
     none)
   else
    none)
  else
   (some (Sum.inl ((), ()))))
theorem slices_Index.eq0 (l0 : slices_Index.s0.X → Option (sumX slices_Index.x0)) (L : (((List Int) × Int × Int × Int × Unit) × (Unit)) → Option (((Unit) × (Unit)) ⊕ ((Int × Unit) × (Unit)) ⊕ Empty)) (x : (((List Int) × Int × Int × Int × Unit) × (Unit))) : (roundK (slices_Index.E l0) slices_Index.s0 [0, 1, 7, 8] [(2, []), (1, [4])] true (((mk slices_Index.hs slices_Index.c []).atoms.getD 0 .bad).body) slices_Index.x0 L x).run _ some = slices_Index.f0 L x.1.1 x.1.2.1 x.1.2.2.1 x.1.2.2.2.1 := by
  show _ = (_ : Option _)
  kernel_rfl
noncomputable def slices_Index.L0 : (((List Int) × Int × Int × Int × Unit) × (Unit)) → Option (((Unit) × (Unit)) ⊕ ((Int × Unit) × (Unit)) ⊕ Empty) := loop fun L x => slices_Index.f0 L x.1.1 x.1.2.1 x.1.2.2.1 x.1.2.2.2.1
def slices_Index.f (l0 : (((List Int) × Int × Int × Int × Unit) × (Unit)) → Option (((Unit) × (Unit)) ⊕ ((Int × Unit) × (Unit)) ⊕ Empty)) (s : (List Int)) (v : Int) : Option ((Int × Unit) × (Unit)) :=
  (Option.bind (l0 ((s, (v, ((((List.length s) : Nat) : Int), ((0:Int), ())))), ())) (fun y0 =>
  (Sum.elim (fun a1 =>
   (some (((-(1:Int)), ()), ()))) (fun b1 =>
   (Sum.elim (fun a2 =>
    (some ((a2.1.1, ()), ()))) (fun b2 =>
    (Empty.elim b2)) b1)) y0)))
theorem slices_Index.eq (l0 : slices_Index.s0.X → Option (sumX slices_Index.x0)) (x : (((List Int) × Int × Unit) × (Unit))) : (bodyO (slices_Index.E l0) (mk slices_Index.hs slices_Index.c []) Go.Proofs.Try.f58.results.toList slices_Index.sh slices_Index.osh x).run _ some = slices_Index.f l0 x.1.1 x.1.2.1 := by
  show _ = (_ : Option _)
  kernel_rfl
noncomputable def slices_Index (s : (List Int)) (v : Int) : Option ((Int × Unit) × (Unit)) := slices_Index.f slices_Index.L0 s v
noncomputable def slices_Index.F (x : (((List Int) × Int × Unit) × (Unit))) : Option ((Int × Unit) × (Unit)) := slices_Index x.1.1 x.1.2.1
theorem slices_Index.L0_eq (s_0 : (List Int)) (v_1 : Int) (v7 : Int) (v8 : Int) : slices_Index.L0 ((s_0, v_1, v7, v8, ()), ()) = slices_Index.f0 slices_Index.L0 s_0 v_1 v7 v8 :=
  loop_eq (E := (slices_Index.E slices_Index.L0)) (sh := slices_Index.s0) (es := slices_Index.x0) (lp := true) (H := fun L x => slices_Index.eq0 slices_Index.L0 L x) ((s_0, v_1, v7, v8, ()), ())
theorem slices_Index.F_eq (s : (List Int)) (v : Int) : slices_Index.F ((s, v, ()), ()) = slices_Index.f slices_Index.L0 s v := rfl
theorem slices_Index.ok {tabs : List (Nat × Go.Obj)} (ht : TabsOk tabs) : FOK Go.Proofs.Try.prog tabs 58 (FE.of [true, true] false slices_Index.sh slices_Index.osh slices_Index.F) := by
  refine fn_keeps (E := (slices_Index.E slices_Index.L0)) (c := slices_Index.c) (fn := Go.Proofs.Try.f58) (hs := slices_Index.hs) (by kernel_rfl) Go.Proofs.Try.func58 ⟨by kernel_rfl, by kernel_rfl, tb, by kernel_rfl, by kernel_rfl, by kernel_rfl, by kernel_rfl, by kernel_rfl⟩ ⟨fun g ks fe h => ?_, gt_ok ht⟩ ?_ (fun x => slices_Index.eq slices_Index.L0 x)
  · cases h
  · refine known_at 1 (by kernel_rfl) fun i hi => ?_
    match i, hi with
    | 0, _ => exact atom_at (id := 0) (live := [0, 1, 7, 8]) (outs := [(2, []), (1, [4])]) (loop := true) (by kernel_rfl) (loop_ok (E := (slices_Index.E slices_Index.L0)) (sh := slices_Index.s0) (es := slices_Index.x0) rfl (fun L x => slices_Index.eq0 slices_Index.L0 L x))
    | n + 1, h => exact absurd h (by omega)

/-! slices_Contains -/
def slices_Contains.f (g_slices_Index : (((List Int) × Int × Unit) × (Unit)) → Option ((Int × Unit) × (Unit))) (s : (List Int)) (v : Int) : Option ((Bool × Unit) × (Unit)) :=
  (Option.bind (g_slices_Index ((s, (v, ())), ())) (fun y0 =>
  (some (((decide (y0.1.1 ≥ (0:Int))), ()), ()))))
theorem slices_Contains.eq (g_slices_Index : slices_Index.sh.X → Option slices_Index.osh.X) (x : (((List Int) × Int × Unit) × (Unit))) : (bodyO (slices_Contains.E g_slices_Index) (mk slices_Contains.hs slices_Contains.c []) Go.Proofs.Try.f41.results.toList slices_Contains.sh slices_Contains.osh x).run _ some = slices_Contains.f g_slices_Index x.1.1 x.1.2.1 := by
  show _ = (_ : Option _)
  kernel_rfl
noncomputable def slices_Contains (s : (List Int)) (v : Int) : Option ((Bool × Unit) × (Unit)) := slices_Contains.f slices_Index.F s v
noncomputable def slices_Contains.F (x : (((List Int) × Int × Unit) × (Unit))) : Option ((Bool × Unit) × (Unit)) := slices_Contains x.1.1 x.1.2.1
theorem slices_Contains.F_eq (s : (List Int)) (v : Int) : slices_Contains.F ((s, v, ()), ()) = slices_Contains.f slices_Index.F s v := rfl
theorem slices_Contains.ok {tabs : List (Nat × Go.Obj)} (ht : TabsOk tabs) : FOK Go.Proofs.Try.prog tabs 41 (FE.of [true, true] false slices_Contains.sh slices_Contains.osh slices_Contains.F) := by
  refine fn_keeps (E := (slices_Contains.E slices_Index.F)) (c := slices_Contains.c) (fn := Go.Proofs.Try.f41) (hs := slices_Contains.hs) (by kernel_rfl) Go.Proofs.Try.func41 ⟨by kernel_rfl, by kernel_rfl, tb, by kernel_rfl, by kernel_rfl, by kernel_rfl, by kernel_rfl, by kernel_rfl⟩ ⟨fun g ks fe h => ?_, gt_ok ht⟩ ?_ (fun x => slices_Contains.eq slices_Index.F x)
  · rcases c_cons h with ⟨rfl, rfl⟩ | h
    · exact slices_Index.ok ht
    cases h
  · exact known_at 0 (by kernel_rfl) fun i hi => absurd hi (Nat.not_lt_zero i)

/-! profile_Windows -/
def profile_Windows.f0 (g_slices_Contains : (((List Int) × Int × Unit) × (Unit)) → Option ((Bool × Unit) × (Unit))) (L : (((List Int) × Int × Unit × Int × Int × Unit) × ((List Bool) × Unit)) → Option (((Unit × Unit) × ((List Bool) × Unit)) ⊕ Empty)) (l_0 : (List Int)) (length_1 : Int) (v27 : Int) (v28 : Int) (o0 : List Bool) : Option (((Unit × Unit) × ((List Bool) × Unit)) ⊕ Empty) :=
  (bif (decide (v28 < v27)) then
   (bif (decide ((0:Int) ≤ v28)) then
    (bif (decide (v28 ≤ (Go.IntKind.wrap Go.IntKind.i64 (v28 + length_1)))) then
     (bif (decide ((Go.IntKind.wrap Go.IntKind.i64 (v28 + length_1)) ≤ (((List.length l_0) : Nat) : Int))) then
      (Option.bind (g_slices_Contains (((List.drop (Int.toNat v28) (List.take (Int.toNat (Go.IntKind.wrap Go.IntKind.i64 (v28 + length_1))) l_0)), ((1073741824:Int), ())), ())) (fun y4 =>
      (bif (decide ((0:Int) ≤ v28)) then
       (bif (decide (v28 < (((List.length o0) : Nat) : Int))) then
        (Option.bind (L ((l_0, (length_1, ((), (v27, ((Go.IntKind.wrap Go.IntKind.i64 (v28 + (1:Int))), ()))))), ((List.set o0 (Int.toNat v28) (!y4.1.1)), ()))) (fun y7 =>
        (some y7)))
       else
        none)
      else
       none)))
     else
      none)
    else
     none)
   else
    none)
  else
   (some (Sum.inl (((), ()), (o0, ())))))
theorem profile_Windows.eq0 (g_slices_ContainsFunc : slices_ContainsFunc.sh.X → Option slices_ContainsFunc.osh.X) (g_profile_Length : profile_Length.sh.X → Option profile_Length.osh.X) (g_slices_Contains : slices_Contains.sh.X → Option slices_Contains.osh.X) (l0 : profile_Windows.s0.X → Option (sumX profile_Windows.x0)) (L : (((List Int) × Int × Unit × Int × Int × Unit) × ((List Bool) × Unit)) → Option (((Unit × Unit) × ((List Bool) × Unit)) ⊕ Empty)) (x : (((List Int) × Int × Unit × Int × Int × Unit) × ((List Bool) × Unit))) : (roundK (profile_Windows.E g_slices_ContainsFunc g_profile_Length g_slices_Contains l0) profile_Windows.s0 [0, 1, 6, 27, 28] [(3, [6])] true (((mk profile_Windows.hs profile_Windows.c []).atoms.getD 0 .bad).body) profile_Windows.x0 L x).run _ some = profile_Windows.f0 g_slices_Contains L x.1.1 x.1.2.1 x.1.2.2.2.1 x.1.2.2.2.2.1 x.2.1 := by
  show _ = (_ : Option _)
  kernel_rfl
noncomputable def profile_Windows.L0 : (((List Int) × Int × Unit × Int × Int × Unit) × ((List Bool) × Unit)) → Option (((Unit × Unit) × ((List Bool) × Unit)) ⊕ Empty) := loop fun L x => profile_Windows.f0 slices_Contains.F L x.1.1 x.1.2.1 x.1.2.2.2.1 x.1.2.2.2.2.1 x.2.1
def profile_Windows.f (g_slices_ContainsFunc : (((List Int) × Unit × Unit) × (Unit)) → Option ((Bool × Unit) × (Unit))) (g_profile_Length : ((Int × Unit) × (Unit)) → Option ((Bool × Unit) × (Unit))) (l0 : (((List Int) × Int × Unit × Int × Int × Unit) × ((List Bool) × Unit)) → Option (((Unit × Unit) × ((List Bool) × Unit)) ⊕ Empty)) (l : (List Int)) (length : Int) : Option ((Unit × Int × Unit) × ((List Bool) × Unit)) :=
  (bif (decide ((((List.length l) : Nat) : Int) > (2000:Int))) then
   (some (((), ((4:Int), ())), (([] : List Bool), ())))
  else
   (Option.bind (g_slices_ContainsFunc ((l, ((), ())), ())) (fun y1 =>
   (bif y1.1.1 then
    (some (((), ((12:Int), ())), (([] : List Bool), ())))
   else
    (Option.bind (g_profile_Length ((length, ()), ())) (fun y3 =>
    (bif (!y3.1.1) then
     (some (((), ((8:Int), ())), (([] : List Bool), ())))
    else
     (bif (decide ((Go.VI.mx (0:Int) (Go.IntKind.wrap Go.IntKind.i64 ((Go.IntKind.wrap Go.IntKind.i64 ((((List.length l) : Nat) : Int) + (1:Int))) - length))) = (Go.VI.mx (0:Int) (Go.IntKind.wrap Go.IntKind.i64 ((Go.IntKind.wrap Go.IntKind.i64 ((((List.length l) : Nat) : Int) + (1:Int))) - length))))) then
      (bif (decide ((0:Int) ≤ (Go.VI.mx (0:Int) (Go.IntKind.wrap Go.IntKind.i64 ((Go.IntKind.wrap Go.IntKind.i64 ((((List.length l) : Nat) : Int) + (1:Int))) - length))))) then
       (bif ((decide (((((1:Nat) : Nat) : Int) * (Go.VI.mx (0:Int) (Go.IntKind.wrap Go.IntKind.i64 ((Go.IntKind.wrap Go.IntKind.i64 ((((List.length l) : Nat) : Int) + (1:Int))) - length)))) ≤ (281474976710656:Int))) && Bool.true) then
        (Option.bind (l0 ((l, (length, ((), ((((List.length (List.replicate (Int.toNat (Go.VI.mx (0:Int) (Go.IntKind.wrap Go.IntKind.i64 ((Go.IntKind.wrap Go.IntKind.i64 ((((List.length l) : Nat) : Int) + (1:Int))) - length)))) Bool.false)) : Nat) : Int), ((0:Int), ()))))), ((List.replicate (Int.toNat (Go.VI.mx (0:Int) (Go.IntKind.wrap Go.IntKind.i64 ((Go.IntKind.wrap Go.IntKind.i64 ((((List.length l) : Nat) : Int) + (1:Int))) - length)))) Bool.false), ()))) (fun y8 =>
        (Sum.elim (fun a9 =>
         (some (((), ((0:Int), ())), (a9.2.1, ())))) (fun b9 =>
         (Empty.elim b9)) y8)))
       else
        none)
      else
       none)
     else
      none))))))))
theorem profile_Windows.eq (g_slices_ContainsFunc : slices_ContainsFunc.sh.X → Option slices_ContainsFunc.osh.X) (g_profile_Length : profile_Length.sh.X → Option profile_Length.osh.X) (g_slices_Contains : slices_Contains.sh.X → Option slices_Contains.osh.X) (l0 : profile_Windows.s0.X → Option (sumX profile_Windows.x0)) (x : (((List Int) × Int × Unit) × (Unit))) : (bodyO (profile_Windows.E g_slices_ContainsFunc g_profile_Length g_slices_Contains l0) (mk profile_Windows.hs profile_Windows.c []) Go.Proofs.Try.f22.results.toList profile_Windows.sh profile_Windows.osh x).run _ some = profile_Windows.f g_slices_ContainsFunc g_profile_Length l0 x.1.1 x.1.2.1 := by
  show _ = (_ : Option _)
  kernel_rfl
noncomputable def profile_Windows (l : (List Int)) (length : Int) : Option ((Unit × Int × Unit) × ((List Bool) × Unit)) := profile_Windows.f slices_ContainsFunc.F profile_Length.F profile_Windows.L0 l length
noncomputable def profile_Windows.F (x : (((List Int) × Int × Unit) × (Unit))) : Option ((Unit × Int × Unit) × ((List Bool) × Unit)) := profile_Windows x.1.1 x.1.2.1
theorem profile_Windows.L0_eq (l_0 : (List Int)) (length_1 : Int) (v27 : Int) (v28 : Int) (o0 : List Bool) : profile_Windows.L0 ((l_0, length_1, (), v27, v28, ()), (o0, ())) = profile_Windows.f0 slices_Contains.F profile_Windows.L0 l_0 length_1 v27 v28 o0 :=
  loop_eq (E := (profile_Windows.E slices_ContainsFunc.F profile_Length.F slices_Contains.F profile_Windows.L0)) (sh := profile_Windows.s0) (es := profile_Windows.x0) (lp := true) (H := fun L x => profile_Windows.eq0 slices_ContainsFunc.F profile_Length.F slices_Contains.F profile_Windows.L0 L x) ((l_0, length_1, (), v27, v28, ()), (o0, ()))
theorem profile_Windows.F_eq (l : (List Int)) (length : Int) : profile_Windows.F ((l, length, ()), ()) = profile_Windows.f slices_ContainsFunc.F profile_Length.F profile_Windows.L0 l length := rfl
theorem profile_Windows.ok {tabs : List (Nat × Go.Obj)} (ht : TabsOk tabs) : FOK Go.Proofs.Try.prog tabs 22 (FE.of [true, true] false profile_Windows.sh profile_Windows.osh profile_Windows.F) := by
  refine fn_keeps (E := (profile_Windows.E slices_ContainsFunc.F profile_Length.F slices_Contains.F profile_Windows.L0)) (c := profile_Windows.c) (fn := Go.Proofs.Try.f22) (hs := profile_Windows.hs) (by kernel_rfl) Go.Proofs.Try.func22 ⟨by kernel_rfl, by kernel_rfl, tb, by kernel_rfl, by kernel_rfl, by kernel_rfl, by kernel_rfl, by kernel_rfl⟩ ⟨fun g ks fe h => ?_, gt_ok ht⟩ ?_ (fun x => profile_Windows.eq slices_ContainsFunc.F profile_Length.F slices_Contains.F profile_Windows.L0 x)
  · rcases c_cons h with ⟨rfl, rfl⟩ | h
    · exact slices_ContainsFunc.ok ht
    rcases c_cons h with ⟨rfl, rfl⟩ | h
    · exact profile_Length.ok ht
    rcases c_cons h with ⟨rfl, rfl⟩ | h
    · exact slices_Contains.ok ht
    cases h
  · refine known_at 1 (by kernel_rfl) fun i hi => ?_
    match i, hi with
    | 0, _ => exact atom_at (id := 0) (live := [0, 1, 6, 27, 28]) (outs := [(3, [6])]) (loop := true) (by kernel_rfl) (loop_ok (E := (profile_Windows.E slices_ContainsFunc.F profile_Length.F slices_Contains.F profile_Windows.L0)) (sh := profile_Windows.s0) (es := profile_Windows.x0) rfl (fun L x => profile_Windows.eq0 slices_ContainsFunc.F profile_Length.F slices_Contains.F profile_Windows.L0 L x))
    | n + 1, h => exact absurd h (by omega)

/-! profile_Zone -/
def profile_Zone.f (n : Int) : Option ((Bool × Unit) × (Unit)) :=
  (bif (decide (n ≥ (1:Int))) then
   (some (((decide (n ≤ (64:Int))), ()), ()))
  else
   (some ((Bool.false, ()), ())))
theorem profile_Zone.eq (x : ((Int × Unit) × (Unit))) : (bodyO (profile_Zone.E) (mk profile_Zone.hs profile_Zone.c []) Go.Proofs.Try.f29.results.toList profile_Zone.sh profile_Zone.osh x).run _ some = profile_Zone.f x.1.1 := by
  show _ = (_ : Option _)
  kernel_rfl
noncomputable def profile_Zone (n : Int) : Option ((Bool × Unit) × (Unit)) := profile_Zone.f n
noncomputable def profile_Zone.F (x : ((Int × Unit) × (Unit))) : Option ((Bool × Unit) × (Unit)) := profile_Zone x.1.1
theorem profile_Zone.F_eq (n : Int) : profile_Zone.F ((n, ()), ()) = profile_Zone.f n := rfl
theorem profile_Zone.ok {tabs : List (Nat × Go.Obj)} (ht : TabsOk tabs) : FOK Go.Proofs.Try.prog tabs 29 (FE.of [true] false profile_Zone.sh profile_Zone.osh profile_Zone.F) := by
  refine fn_keeps (E := (profile_Zone.E)) (c := profile_Zone.c) (fn := Go.Proofs.Try.f29) (hs := profile_Zone.hs) (by kernel_rfl) Go.Proofs.Try.func29 ⟨by kernel_rfl, by kernel_rfl, tb, by kernel_rfl, by kernel_rfl, by kernel_rfl, by kernel_rfl, by kernel_rfl⟩ ⟨fun g ks fe h => ?_, gt_ok ht⟩ ?_ (fun x => profile_Zone.eq x)
  · cases h
  · exact known_at 0 (by kernel_rfl) fun i hi => absurd hi (Nat.not_lt_zero i)

/-! profile_None -/
def profile_None.f : Option (((Int × Int × Int × Unit) × Unit) × (Unit)) :=
  (some ((((-(1:Int)), ((0:Int), ((1:Int), ()))), ()), ()))
theorem profile_None.eq (x : ((Unit) × (Unit))) : (bodyO (profile_None.E) (mk profile_None.hs profile_None.c []) Go.Proofs.Try.f36.results.toList profile_None.sh profile_None.osh x).run _ some = profile_None.f := by
  show _ = (_ : Option _)
  kernel_rfl
noncomputable def profile_None : Option (((Int × Int × Int × Unit) × Unit) × (Unit)) := profile_None.f
noncomputable def profile_None.F (x : ((Unit) × (Unit))) : Option (((Int × Int × Int × Unit) × Unit) × (Unit)) := profile_None
theorem profile_None.F_eq : profile_None.F ((), ()) = profile_None.f := rfl
theorem profile_None.ok {tabs : List (Nat × Go.Obj)} (ht : TabsOk tabs) : FOK Go.Proofs.Try.prog tabs 36 (FE.of [] false profile_None.sh profile_None.osh profile_None.F) := by
  refine fn_keeps (E := (profile_None.E)) (c := profile_None.c) (fn := Go.Proofs.Try.f36) (hs := profile_None.hs) (by kernel_rfl) Go.Proofs.Try.func36 ⟨by kernel_rfl, by kernel_rfl, tb, by kernel_rfl, by kernel_rfl, by kernel_rfl, by kernel_rfl, by kernel_rfl⟩ ⟨fun g ks fe h => ?_, gt_ok ht⟩ ?_ (fun x => profile_None.eq x)
  · cases h
  · exact known_at 0 (by kernel_rfl) fun i hi => absurd hi (Nat.not_lt_zero i)

/-! measure_distances -/
def measure_distances.ents : List (Int × Nat × List (Nat × Nat)) := [(1, 76, []), (2, 79, []), (3, 80, []), (4, 81, [(0, 0)]), (5, 83, [(0, 0)])]
noncomputable def measure_distances.F : measure_distances.sh.X → Option measure_distances.osh.X := mapF measure_distances.ents
theorem measure_distances.F_eq (k b g : Int) : measure_distances.F (((k, b, g, ()), ()), ()) = some (((), ()), ((k, b, g, ()), ())) := rfl
section
open Go.RowKit
theorem measure_distances.walk (k b g : Int) (w : Go.World) : Go.Calls Go.Proofs.Try.prog 56 #[.agg #[.int .i64 k, .int .i64 b, .int .i64 g]] w fun e w' => e = .returned (.map (some (w.heap.size + 1))) ∧
    w' = mapW w (.cells #[.int .i64 k, .int .i64 b, .int .i64 g] 24) #[{ key := .int .i64 1, val := .func (.func 76) #[] #[], born := 0 }, { key := .int .i64 2, val := .func (.func 79) #[] #[], born := 1 }, { key := .int .i64 3, val := .func (.func 80) #[] #[], born := 2 }, { key := .int .i64 4, val := .func (.func 81) #[] #[.pointer (some ⟨w.heap.size, 0, none⟩)], born := 3 }, { key := .int .i64 5, val := .func (.func 83) #[] #[.pointer (some ⟨w.heap.size, 0, none⟩)], born := 4 }] 5 := by
  have hmf : ∀ (fn : Go.Fn) (first cap : Array Go.Value) (w : Go.World), (Go.Instr.makeFunc fn first cap).run Go.Proofs.Try.prog w = .ok (.func fn first cap) w := fun _ _ _ _ => rfl
  have hmm := @run_makeMap_mapW Go.Proofs.Try.prog 78 w (.cells #[.int .i64 k, .int .i64 b, .int .i64 g] 24)
  have hi0 := @run_insert_mapW Go.Proofs.Try.prog 78 3 77 w (.cells #[.int .i64 k, .int .i64 b, .int .i64 g] 24) #[] 0 1 (.func (.func 76) #[] #[]) Go.Proofs.Try.underlying78 Go.Proofs.Try.underlying3 rfl
  have hi1 := @run_insert_mapW Go.Proofs.Try.prog 78 3 77 w (.cells #[.int .i64 k, .int .i64 b, .int .i64 g] 24) #[{ key := .int .i64 1, val := .func (.func 76) #[] #[], born := 0 }] 1 2 (.func (.func 79) #[] #[]) Go.Proofs.Try.underlying78 Go.Proofs.Try.underlying3 rfl
  have hi2 := @run_insert_mapW Go.Proofs.Try.prog 78 3 77 w (.cells #[.int .i64 k, .int .i64 b, .int .i64 g] 24) #[{ key := .int .i64 1, val := .func (.func 76) #[] #[], born := 0 }, { key := .int .i64 2, val := .func (.func 79) #[] #[], born := 1 }] 2 3 (.func (.func 80) #[] #[]) Go.Proofs.Try.underlying78 Go.Proofs.Try.underlying3 rfl
  have hi3 := @run_insert_mapW Go.Proofs.Try.prog 78 3 77 w (.cells #[.int .i64 k, .int .i64 b, .int .i64 g] 24) #[{ key := .int .i64 1, val := .func (.func 76) #[] #[], born := 0 }, { key := .int .i64 2, val := .func (.func 79) #[] #[], born := 1 }, { key := .int .i64 3, val := .func (.func 80) #[] #[], born := 2 }] 3 4 (.func (.func 81) #[] #[.pointer (some ⟨w.heap.size, 0, none⟩)]) Go.Proofs.Try.underlying78 Go.Proofs.Try.underlying3 rfl
  have hi4 := @run_insert_mapW Go.Proofs.Try.prog 78 3 77 w (.cells #[.int .i64 k, .int .i64 b, .int .i64 g] 24) #[{ key := .int .i64 1, val := .func (.func 76) #[] #[], born := 0 }, { key := .int .i64 2, val := .func (.func 79) #[] #[], born := 1 }, { key := .int .i64 3, val := .func (.func 80) #[] #[], born := 2 }, { key := .int .i64 4, val := .func (.func 81) #[] #[.pointer (some ⟨w.heap.size, 0, none⟩)], born := 3 }] 4 5 (.func (.func 83) #[] #[.pointer (some ⟨w.heap.size, 0, none⟩)]) Go.Proofs.Try.underlying78 Go.Proofs.Try.underlying3 rfl
  simp only [List.push_toArray, List.cons_append, List.nil_append, Nat.zero_add, Nat.reduceAdd] at hi0 hi1 hi2 hi3 hi4
  go_enter Go.Proofs.Try.func56, Go.Proofs.Try.ntmps56
  go_wp2
  simp [Go.bodyPost, Go.results, Go.Proofs.Try.results56]
end
theorem measure_distances.ok {tabs : List (Nat × Go.Obj)} (ht : TabsOk tabs) : FOK Go.Proofs.Try.prog tabs 56 (FE.of [true] true measure_distances.sh measure_distances.osh measure_distances.F) :=
  fok_map Go.Proofs.Try.func56 (c := measure_distances.c) (by kernel_rfl) (by kernel_rfl) (fun B => #[{ key := .int .i64 1, val := .func (.func 76) #[] #[], born := 0 }, { key := .int .i64 2, val := .func (.func 79) #[] #[], born := 1 }, { key := .int .i64 3, val := .func (.func 80) #[] #[], born := 2 }, { key := .int .i64 4, val := .func (.func 81) #[] #[B], born := 3 }, { key := .int .i64 5, val := .func (.func 83) #[] #[B], born := 4 }]) (fun k b g w => measure_distances.walk k b g w) (fun α h B hB => ⟨⟨rfl, _, rfl, trivial⟩, ⟨rfl, _, rfl, trivial⟩, ⟨rfl, _, rfl, trivial⟩, ⟨rfl, _, rfl, ⟨hB, trivial⟩⟩, ⟨rfl, _, rfl, ⟨hB, trivial⟩⟩, trivial⟩)


/-! euclid_length -/
def euclid_length.f (x_ : (List Int)) : Option ((Bool × Unit) × (Unit)) :=
  (bif (decide ((((List.length x_) : Nat) : Int) ≥ (2:Int))) then
   (some (((decide ((((List.length x_) : Nat) : Int) ≤ (32:Int))), ()), ()))
  else
   (some ((Bool.false, ()), ())))
theorem euclid_length.eq (x : (((List Int) × Unit) × (Unit))) : (bodyO (euclid_length.E) (mk euclid_length.hs euclid_length.c []) Go.Proofs.Try.f98.results.toList euclid_length.sh euclid_length.osh x).run _ some = euclid_length.f x.1.1 := by
  show _ = (_ : Option _)
  kernel_rfl
noncomputable def euclid_length (x_ : (List Int)) : Option ((Bool × Unit) × (Unit)) := euclid_length.f x_
noncomputable def euclid_length.F (x : (((List Int) × Unit) × (Unit))) : Option ((Bool × Unit) × (Unit)) := euclid_length x.1.1
theorem euclid_length.F_eq (x_ : (List Int)) : euclid_length.F ((x_, ()), ()) = euclid_length.f x_ := rfl
theorem euclid_length.ok {tabs : List (Nat × Go.Obj)} (ht : TabsOk tabs) : FOK Go.Proofs.Try.prog tabs 98 (FE.of [true] false euclid_length.sh euclid_length.osh euclid_length.F) := by
  refine fn_keeps (E := (euclid_length.E)) (c := euclid_length.c) (fn := Go.Proofs.Try.f98) (hs := euclid_length.hs) (by kernel_rfl) Go.Proofs.Try.func98 ⟨by kernel_rfl, by kernel_rfl, tb, by kernel_rfl, by kernel_rfl, by kernel_rfl, by kernel_rfl, by kernel_rfl⟩ ⟨fun g ks fe h => ?_, gt_ok ht⟩ ?_ (fun x => euclid_length.eq x)
  · cases h
  · exact known_at 0 (by kernel_rfl) fun i hi => absurd hi (Nat.not_lt_zero i)

/-! euclid_samples -/
def euclid_samples.f0 (L : (((List Int) × Int × Int × Unit) × (Unit)) → Option (((Unit) × (Unit)) ⊕ ((Bool × Unit) × (Unit)) ⊕ Empty)) (v5 : (List Int)) (v6 : Int) (v7 : Int) : Option (((Unit) × (Unit)) ⊕ ((Bool × Unit) × (Unit)) ⊕ Empty) :=
  (bif (decide (v7 < v6)) then
   (bif (decide ((0:Int) ≤ v7)) then
    (bif (decide (v7 < (((List.length v5) : Nat) : Int))) then
     (bif (decide ((List.getD v5 (Int.toNat v7) (0:Int)) < (-(1000:Int)))) then
      (some (Sum.inr (Sum.inl ((Bool.false, ()), ()))))
     else
      (bif (decide ((List.getD v5 (Int.toNat v7) (0:Int)) > (1000:Int))) then
       (some (Sum.inr (Sum.inl ((Bool.false, ()), ()))))
      else
       (Option.bind (L ((v5, (v6, ((Go.IntKind.wrap Go.IntKind.i64 (v7 + (1:Int))), ()))), ())) (fun y5 =>
       (some y5)))))
    else
     none)
   else
    none)
  else
   (some (Sum.inl ((), ()))))
theorem euclid_samples.eq0 (l0 : euclid_samples.s0.X → Option (sumX euclid_samples.x0)) (L : (((List Int) × Int × Int × Unit) × (Unit)) → Option (((Unit) × (Unit)) ⊕ ((Bool × Unit) × (Unit)) ⊕ Empty)) (x : (((List Int) × Int × Int × Unit) × (Unit))) : (roundK (euclid_samples.E l0) euclid_samples.s0 [5, 6, 7] [(2, []), (1, [2])] true (((mk euclid_samples.hs euclid_samples.c []).atoms.getD 0 .bad).body) euclid_samples.x0 L x).run _ some = euclid_samples.f0 L x.1.1 x.1.2.1 x.1.2.2.1 := by
  show _ = (_ : Option _)
  kernel_rfl
noncomputable def euclid_samples.L0 : (((List Int) × Int × Int × Unit) × (Unit)) → Option (((Unit) × (Unit)) ⊕ ((Bool × Unit) × (Unit)) ⊕ Empty) := loop fun L x => euclid_samples.f0 L x.1.1 x.1.2.1 x.1.2.2.1
def euclid_samples.f (l0 : (((List Int) × Int × Int × Unit) × (Unit)) → Option (((Unit) × (Unit)) ⊕ ((Bool × Unit) × (Unit)) ⊕ Empty)) (x_ : (List Int)) : Option ((Bool × Unit) × (Unit)) :=
  (Option.bind (l0 ((x_, ((((List.length x_) : Nat) : Int), ((0:Int), ()))), ())) (fun y0 =>
  (Sum.elim (fun a1 =>
   (some ((Bool.true, ()), ()))) (fun b1 =>
   (Sum.elim (fun a2 =>
    (some ((a2.1.1, ()), ()))) (fun b2 =>
    (Empty.elim b2)) b1)) y0)))
theorem euclid_samples.eq (l0 : euclid_samples.s0.X → Option (sumX euclid_samples.x0)) (x : (((List Int) × Unit) × (Unit))) : (bodyO (euclid_samples.E l0) (mk euclid_samples.hs euclid_samples.c []) Go.Proofs.Try.f99.results.toList euclid_samples.sh euclid_samples.osh x).run _ some = euclid_samples.f l0 x.1.1 := by
  show _ = (_ : Option _)
  kernel_rfl
noncomputable def euclid_samples (x_ : (List Int)) : Option ((Bool × Unit) × (Unit)) := euclid_samples.f euclid_samples.L0 x_
noncomputable def euclid_samples.F (x : (((List Int) × Unit) × (Unit))) : Option ((Bool × Unit) × (Unit)) := euclid_samples x.1.1
theorem euclid_samples.L0_eq (v5 : (List Int)) (v6 : Int) (v7 : Int) : euclid_samples.L0 ((v5, v6, v7, ()), ()) = euclid_samples.f0 euclid_samples.L0 v5 v6 v7 :=
  loop_eq (E := (euclid_samples.E euclid_samples.L0)) (sh := euclid_samples.s0) (es := euclid_samples.x0) (lp := true) (H := fun L x => euclid_samples.eq0 euclid_samples.L0 L x) ((v5, v6, v7, ()), ())
theorem euclid_samples.F_eq (x_ : (List Int)) : euclid_samples.F ((x_, ()), ()) = euclid_samples.f euclid_samples.L0 x_ := rfl
theorem euclid_samples.ok {tabs : List (Nat × Go.Obj)} (ht : TabsOk tabs) : FOK Go.Proofs.Try.prog tabs 99 (FE.of [true] false euclid_samples.sh euclid_samples.osh euclid_samples.F) := by
  refine fn_keeps (E := (euclid_samples.E euclid_samples.L0)) (c := euclid_samples.c) (fn := Go.Proofs.Try.f99) (hs := euclid_samples.hs) (by kernel_rfl) Go.Proofs.Try.func99 ⟨by kernel_rfl, by kernel_rfl, tb, by kernel_rfl, by kernel_rfl, by kernel_rfl, by kernel_rfl, by kernel_rfl⟩ ⟨fun g ks fe h => ?_, gt_ok ht⟩ ?_ (fun x => euclid_samples.eq euclid_samples.L0 x)
  · cases h
  · refine known_at 1 (by kernel_rfl) fun i hi => ?_
    match i, hi with
    | 0, _ => exact atom_at (id := 0) (live := [5, 6, 7]) (outs := [(2, []), (1, [2])]) (loop := true) (by kernel_rfl) (loop_ok (E := (euclid_samples.E euclid_samples.L0)) (sh := euclid_samples.s0) (es := euclid_samples.x0) rfl (fun L x => euclid_samples.eq0 euclid_samples.L0 L x))
    | n + 1, h => exact absurd h (by omega)

/-! euclid_check -/
def euclid_check.f0 (g_euclid_length : (((List Int) × Unit) × (Unit)) → Option ((Bool × Unit) × (Unit))) (x_0 : (List Int)) (y_1 : (List Int)) : Option ((((List Int) × (List Int) × Bool × Unit) × (Unit)) ⊕ Empty) :=
  (Option.bind (g_euclid_length ((x_0, ()), ())) (fun y0 =>
  (bif (!y0.1.1) then
   (some (Sum.inl ((x_0, (y_1, (Bool.true, ()))), ())))
  else
   (Option.bind (g_euclid_length ((y_1, ()), ())) (fun y2 =>
   (some (Sum.inl ((x_0, (y_1, ((!y2.1.1), ()))), ()))))))))
theorem euclid_check.eq0 (g_euclid_length : euclid_length.sh.X → Option euclid_length.osh.X) (g_euclid_samples : euclid_samples.sh.X → Option euclid_samples.osh.X) (l0 : euclid_check.s0.X → Option (sumX euclid_check.x0)) (l1 : euclid_check.s1.X → Option (sumX euclid_check.x1)) (L : (((List Int) × (List Int) × Unit) × (Unit)) → Option ((((List Int) × (List Int) × Bool × Unit) × (Unit)) ⊕ Empty)) (x : (((List Int) × (List Int) × Unit) × (Unit))) : (roundK (euclid_check.E g_euclid_length g_euclid_samples l0 l1) euclid_check.s0 [0, 1] [(0, [0, 1, 5])] false (((mk euclid_check.hs euclid_check.c []).atoms.getD 0 .bad).body) euclid_check.x0 L x).run _ some = euclid_check.f0 g_euclid_length x.1.1 x.1.2.1 := by
  show _ = (_ : Option _)
  kernel_rfl
noncomputable def euclid_check.L0 : (((List Int) × (List Int) × Unit) × (Unit)) → Option ((((List Int) × (List Int) × Bool × Unit) × (Unit)) ⊕ Empty) := fun x => euclid_check.f0 euclid_length.F x.1.1 x.1.2.1
def euclid_check.f1 (g_euclid_samples : (((List Int) × Unit) × (Unit)) → Option ((Bool × Unit) × (Unit))) (x_0 : (List Int)) (y_1 : (List Int)) : Option ((((List Int) × (List Int) × Bool × Unit) × (Unit)) ⊕ Empty) :=
  (Option.bind (g_euclid_samples ((x_0, ()), ())) (fun y0 =>
  (bif (!y0.1.1) then
   (some (Sum.inl ((x_0, (y_1, (Bool.true, ()))), ())))
  else
   (Option.bind (g_euclid_samples ((y_1, ()), ())) (fun y2 =>
   (some (Sum.inl ((x_0, (y_1, ((!y2.1.1), ()))), ()))))))))
theorem euclid_check.eq1 (g_euclid_length : euclid_length.sh.X → Option euclid_length.osh.X) (g_euclid_samples : euclid_samples.sh.X → Option euclid_samples.osh.X) (l0 : euclid_check.s0.X → Option (sumX euclid_check.x0)) (l1 : euclid_check.s1.X → Option (sumX euclid_check.x1)) (L : (((List Int) × (List Int) × Unit) × (Unit)) → Option ((((List Int) × (List Int) × Bool × Unit) × (Unit)) ⊕ Empty)) (x : (((List Int) × (List Int) × Unit) × (Unit))) : (roundK (euclid_check.E g_euclid_length g_euclid_samples l0 l1) euclid_check.s1 [0, 1] [(0, [0, 1, 14])] false (((mk euclid_check.hs euclid_check.c []).atoms.getD 1 .bad).body) euclid_check.x1 L x).run _ some = euclid_check.f1 g_euclid_samples x.1.1 x.1.2.1 := by
  show _ = (_ : Option _)
  kernel_rfl
noncomputable def euclid_check.L1 : (((List Int) × (List Int) × Unit) × (Unit)) → Option ((((List Int) × (List Int) × Bool × Unit) × (Unit)) ⊕ Empty) := fun x => euclid_check.f1 euclid_samples.F x.1.1 x.1.2.1
def euclid_check.f (l0 : (((List Int) × (List Int) × Unit) × (Unit)) → Option ((((List Int) × (List Int) × Bool × Unit) × (Unit)) ⊕ Empty)) (l1 : (((List Int) × (List Int) × Unit) × (Unit)) → Option ((((List Int) × (List Int) × Bool × Unit) × (Unit)) ⊕ Empty)) (x_ : (List Int)) (y : (List Int)) : Option ((Int × Unit) × (Unit)) :=
  (Option.bind (l0 ((x_, (y, ())), ())) (fun y0 =>
  (Sum.elim (fun a1 =>
   (bif a1.1.2.2.1 then
    (some (((8:Int), ()), ()))
   else
    (Option.bind (l1 ((a1.1.1, (a1.1.2.1, ())), ())) (fun y3 =>
    (Sum.elim (fun a4 =>
     (bif a4.1.2.2.1 then
      (some (((12:Int), ()), ()))
     else
      (bif ((((List.length a4.1.1) : Nat) : Int) != (((List.length a4.1.2.1) : Nat) : Int)) then
       (some (((8:Int), ()), ()))
      else
       (some (((0:Int), ()), ()))))) (fun b4 =>
     (Empty.elim b4)) y3))))) (fun b1 =>
   (Empty.elim b1)) y0)))
theorem euclid_check.eq (g_euclid_length : euclid_length.sh.X → Option euclid_length.osh.X) (g_euclid_samples : euclid_samples.sh.X → Option euclid_samples.osh.X) (l0 : euclid_check.s0.X → Option (sumX euclid_check.x0)) (l1 : euclid_check.s1.X → Option (sumX euclid_check.x1)) (x : (((List Int) × (List Int) × Unit) × (Unit))) : (bodyO (euclid_check.E g_euclid_length g_euclid_samples l0 l1) (mk euclid_check.hs euclid_check.c []) Go.Proofs.Try.f91.results.toList euclid_check.sh euclid_check.osh x).run _ some = euclid_check.f l0 l1 x.1.1 x.1.2.1 := by
  show _ = (_ : Option _)
  kernel_rfl
noncomputable def euclid_check (x_ : (List Int)) (y : (List Int)) : Option ((Int × Unit) × (Unit)) := euclid_check.f euclid_check.L0 euclid_check.L1 x_ y
noncomputable def euclid_check.F (x : (((List Int) × (List Int) × Unit) × (Unit))) : Option ((Int × Unit) × (Unit)) := euclid_check x.1.1 x.1.2.1
theorem euclid_check.L0_eq (x_0 : (List Int)) (y_1 : (List Int)) : euclid_check.L0 ((x_0, y_1, ()), ()) = euclid_check.f0 euclid_length.F x_0 y_1 := rfl
theorem euclid_check.L1_eq (x_0 : (List Int)) (y_1 : (List Int)) : euclid_check.L1 ((x_0, y_1, ()), ()) = euclid_check.f1 euclid_samples.F x_0 y_1 := rfl
theorem euclid_check.F_eq (x_ : (List Int)) (y : (List Int)) : euclid_check.F ((x_, y, ()), ()) = euclid_check.f euclid_check.L0 euclid_check.L1 x_ y := rfl
theorem euclid_check.ok {tabs : List (Nat × Go.Obj)} (ht : TabsOk tabs) : FOK Go.Proofs.Try.prog tabs 91 (FE.of [true, true] false euclid_check.sh euclid_check.osh euclid_check.F) := by
  refine fn_keeps (E := (euclid_check.E euclid_length.F euclid_samples.F euclid_check.L0 euclid_check.L1)) (c := euclid_check.c) (fn := Go.Proofs.Try.f91) (hs := euclid_check.hs) (by kernel_rfl) Go.Proofs.Try.func91 ⟨by kernel_rfl, by kernel_rfl, tb, by kernel_rfl, by kernel_rfl, by kernel_rfl, by kernel_rfl, by kernel_rfl⟩ ⟨fun g ks fe h => ?_, gt_ok ht⟩ ?_ (fun x => euclid_check.eq euclid_length.F euclid_samples.F euclid_check.L0 euclid_check.L1 x)
  · rcases c_cons h with ⟨rfl, rfl⟩ | h
    · exact euclid_length.ok ht
    rcases c_cons h with ⟨rfl, rfl⟩ | h
    · exact euclid_samples.ok ht
    cases h
  · refine known_at 2 (by kernel_rfl) fun i hi => ?_
    match i, hi with
    | 0, _ => exact atom_at (id := 0) (live := [0, 1]) (outs := [(0, [0, 1, 5])]) (loop := false) (by kernel_rfl) (cut_ok (E := (euclid_check.E euclid_length.F euclid_samples.F euclid_check.L0 euclid_check.L1)) (sh := euclid_check.s0) (es := euclid_check.x0) rfl (fun L x => euclid_check.eq0 euclid_length.F euclid_samples.F euclid_check.L0 euclid_check.L1 L x))
    | 1, _ => exact atom_at (id := 1) (live := [0, 1]) (outs := [(0, [0, 1, 14])]) (loop := false) (by kernel_rfl) (cut_ok (E := (euclid_check.E euclid_length.F euclid_samples.F euclid_check.L0 euclid_check.L1)) (sh := euclid_check.s1) (es := euclid_check.x1) rfl (fun L x => euclid_check.eq1 euclid_length.F euclid_samples.F euclid_check.L0 euclid_check.L1 L x))
    | n + 2, h => exact absurd h (by omega)
end Go.Proofs.Ytefcciajemkicaa.V
