import Derived.Test.YthbphpmiandmbaaDoorVg2
import Derived.Test.YthbphpmiandmbaaDoorShelf
set_option linter.unusedVariables false
set_option maxRecDepth 100000
namespace Go.Proofs.YthbphpmiandmbaaDoor.V
open Go.VI
/-! ref04_Valid -/
def ref04_Valid.f0 (L : ((Unit × Int × Unit) × ((ByteArray × Int × Int × Int × Unit) × Unit)) → Option (((Unit × Unit) × ((ByteArray × Int × Int × Int × Unit) × Unit)) ⊕ ((Bool × Unit) × (Unit)) ⊕ Empty)) (i_3 : Int) (o0_0 : ByteArray) (o0_1 : Int) (o0_2 : Int) (o0_3 : Int) : Option (((Unit × Unit) × ((ByteArray × Int × Int × Int × Unit) × Unit)) ⊕ ((Bool × Unit) × (Unit)) ⊕ Empty) :=
  (bif (decide (i_3 < (((ByteArray.size o0_0) : Nat) : Int))) then
   (bif (decide ((0:Int) ≤ i_3)) then
    (bif (decide (i_3 < (((ByteArray.size o0_0) : Nat) : Int))) then
     (bif (decide ((((UInt8.toNat (Array.getD (ByteArray.data o0_0) (Int.toNat i_3) (0:UInt8))) : Nat) : Int) < (97:Int))) then
      (some (Sum.inr (Sum.inl ((Bool.false, ()), ()))))
     else
      (bif (decide ((0:Int) ≤ i_3)) then
       (bif (decide (i_3 < (((ByteArray.size o0_0) : Nat) : Int))) then
        (bif (decide ((((UInt8.toNat (Array.getD (ByteArray.data o0_0) (Int.toNat i_3) (0:UInt8))) : Nat) : Int) > (122:Int))) then
         (some (Sum.inr (Sum.inl ((Bool.false, ()), ()))))
        else
         (Option.bind (L (((), ((Go.IntKind.wrap Go.IntKind.i64 (i_3 + (1:Int))), ())), ((o0_0, (o0_1, (o0_2, (o0_3, ())))), ()))) (fun y7 =>
         (some y7))))
       else
        none)
      else
       none))
    else
     none)
   else
    none)
  else
   (some (Sum.inl (((), ()), ((o0_0, (o0_1, (o0_2, (o0_3, ())))), ())))))
theorem ref04_Valid.eq0 (l0 : ref04_Valid.s0.X → Option (sumX ref04_Valid.x0)) (l1 : ref04_Valid.s1.X → Option (sumX ref04_Valid.x1)) (L : ((Unit × Int × Unit) × ((ByteArray × Int × Int × Int × Unit) × Unit)) → Option (((Unit × Unit) × ((ByteArray × Int × Int × Int × Unit) × Unit)) ⊕ ((Bool × Unit) × (Unit)) ⊕ Empty)) (x : ((Unit × Int × Unit) × ((ByteArray × Int × Int × Int × Unit) × Unit))) : (roundK (ref04_Valid.E l0 l1) ref04_Valid.s0 [1, 3] [(2, [1]), (1, [2])] true (((mk ref04_Valid.hs ref04_Valid.c []).atoms.getD 0 .bad).body) ref04_Valid.x0 L x).run _ some = ref04_Valid.f0 L x.1.2.1 x.2.1.1 x.2.1.2.1 x.2.1.2.2.1 x.2.1.2.2.2.1 := by
  show _ = (_ : Option _)
  kernel_rfl
noncomputable def ref04_Valid.L0 : ((Unit × Int × Unit) × ((ByteArray × Int × Int × Int × Unit) × Unit)) → Option (((Unit × Unit) × ((ByteArray × Int × Int × Int × Unit) × Unit)) ⊕ ((Bool × Unit) × (Unit)) ⊕ Empty) := loop fun L x => ref04_Valid.f0 L x.1.2.1 x.2.1.1 x.2.1.2.1 x.2.1.2.2.1 x.2.1.2.2.2.1
def ref04_Valid.f1 (o0_0 : ByteArray) (o0_1 : Int) (o0_2 : Int) (o0_3 : Int) : Option (((Bool × Unit) × (Unit)) ⊕ Empty) :=
  (bif (decide ((((ByteArray.size o0_0) : Nat) : Int) ≥ (1:Int))) then
   (bif (decide ((((ByteArray.size o0_0) : Nat) : Int) ≤ (12:Int))) then
    (bif (decide (o0_1 ≥ (1:Int))) then
     (bif (decide (o0_1 ≤ (1000000:Int))) then
      (bif (decide (o0_2 ≥ (-(1000000000:Int)))) then
       (bif (decide (o0_2 ≤ (1000000000:Int))) then
        (bif (decide (o0_3 ≥ (1:Int))) then
         (some (Sum.inl (((decide (o0_3 ≤ (1000000:Int))), ()), ())))
        else
         (some (Sum.inl ((Bool.false, ()), ()))))
       else
        (some (Sum.inl ((Bool.false, ()), ()))))
      else
       (some (Sum.inl ((Bool.false, ()), ()))))
     else
      (some (Sum.inl ((Bool.false, ()), ()))))
    else
     (some (Sum.inl ((Bool.false, ()), ()))))
   else
    (some (Sum.inl ((Bool.false, ()), ()))))
  else
   (some (Sum.inl ((Bool.false, ()), ()))))
theorem ref04_Valid.eq1 (l0 : ref04_Valid.s0.X → Option (sumX ref04_Valid.x0)) (l1 : ref04_Valid.s1.X → Option (sumX ref04_Valid.x1)) (L : ((Unit × Unit) × ((ByteArray × Int × Int × Int × Unit) × Unit)) → Option (((Bool × Unit) × (Unit)) ⊕ Empty)) (x : ((Unit × Unit) × ((ByteArray × Int × Int × Int × Unit) × Unit))) : (roundK (ref04_Valid.E l0 l1) ref04_Valid.s1 [1] [(0, [2])] false (((mk ref04_Valid.hs ref04_Valid.c []).atoms.getD 1 .bad).body) ref04_Valid.x1 L x).run _ some = ref04_Valid.f1 x.2.1.1 x.2.1.2.1 x.2.1.2.2.1 x.2.1.2.2.2.1 := by
  show _ = (_ : Option _)
  kernel_rfl
noncomputable def ref04_Valid.L1 : ((Unit × Unit) × ((ByteArray × Int × Int × Int × Unit) × Unit)) → Option (((Bool × Unit) × (Unit)) ⊕ Empty) := fun x => ref04_Valid.f1 x.2.1.1 x.2.1.2.1 x.2.1.2.2.1 x.2.1.2.2.2.1
def ref04_Valid.f (l0 : ((Unit × Int × Unit) × ((ByteArray × Int × Int × Int × Unit) × Unit)) → Option (((Unit × Unit) × ((ByteArray × Int × Int × Int × Unit) × Unit)) ⊕ ((Bool × Unit) × (Unit)) ⊕ Empty)) (l1 : ((Unit × Unit) × ((ByteArray × Int × Int × Int × Unit) × Unit)) → Option (((Bool × Unit) × (Unit)) ⊕ Empty)) (u_Name : ByteArray) (u_Mul : Int) (u_Add : Int) (u_Div : Int) : Option ((Bool × Unit) × (Unit)) :=
  (Option.bind (l0 (((), ((0:Int), ())), ((u_Name, (u_Mul, (u_Add, (u_Div, ())))), ()))) (fun y0 =>
  (Sum.elim (fun a1 =>
   (Option.bind (l1 (((), ()), ((a1.2.1.1, (a1.2.1.2.1, (a1.2.1.2.2.1, (a1.2.1.2.2.2.1, ())))), ()))) (fun y2 =>
   (Sum.elim (fun a3 =>
    (some ((a3.1.1, ()), ()))) (fun b3 =>
    (Empty.elim b3)) y2)))) (fun b1 =>
   (Sum.elim (fun a2 =>
    (some ((a2.1.1, ()), ()))) (fun b2 =>
    (Empty.elim b2)) b1)) y0)))
theorem ref04_Valid.eq (l0 : ref04_Valid.s0.X → Option (sumX ref04_Valid.x0)) (l1 : ref04_Valid.s1.X → Option (sumX ref04_Valid.x1)) (x : (((ByteArray × Int × Int × Int × Unit) × Unit) × (Unit))) : (bodyO (ref04_Valid.E l0 l1) (mk ref04_Valid.hs ref04_Valid.c []) Go.Proofs.Tryd.f18.results.toList ref04_Valid.sh ref04_Valid.osh x).run _ some = ref04_Valid.f l0 l1 x.1.1.1 x.1.1.2.1 x.1.1.2.2.1 x.1.1.2.2.2.1 := by
  show _ = (_ : Option _)
  kernel_rfl
noncomputable def ref04_Valid (u_Name : ByteArray) (u_Mul : Int) (u_Add : Int) (u_Div : Int) : Option ((Bool × Unit) × (Unit)) := ref04_Valid.f ref04_Valid.L0 ref04_Valid.L1 u_Name u_Mul u_Add u_Div
noncomputable def ref04_Valid.F (x : (((ByteArray × Int × Int × Int × Unit) × Unit) × (Unit))) : Option ((Bool × Unit) × (Unit)) := ref04_Valid x.1.1.1 x.1.1.2.1 x.1.1.2.2.1 x.1.1.2.2.2.1
theorem ref04_Valid.L0_eq (i_3 : Int) (o0_0 : ByteArray) (o0_1 : Int) (o0_2 : Int) (o0_3 : Int) : ref04_Valid.L0 (((), i_3, ()), ((o0_0, o0_1, o0_2, o0_3, ()), ())) = ref04_Valid.f0 ref04_Valid.L0 i_3 o0_0 o0_1 o0_2 o0_3 :=
  loop_eq (E := (ref04_Valid.E ref04_Valid.L0 ref04_Valid.L1)) (sh := ref04_Valid.s0) (es := ref04_Valid.x0) (lp := true) (H := fun L x => ref04_Valid.eq0 ref04_Valid.L0 ref04_Valid.L1 L x) (((), i_3, ()), ((o0_0, o0_1, o0_2, o0_3, ()), ()))
theorem ref04_Valid.L1_eq (o0_0 : ByteArray) (o0_1 : Int) (o0_2 : Int) (o0_3 : Int) : ref04_Valid.L1 (((), ()), ((o0_0, o0_1, o0_2, o0_3, ()), ())) = ref04_Valid.f1 o0_0 o0_1 o0_2 o0_3 := rfl
theorem ref04_Valid.F_eq (u_Name : ByteArray) (u_Mul : Int) (u_Add : Int) (u_Div : Int) : ref04_Valid.F (((u_Name, u_Mul, u_Add, u_Div, ()), ()), ()) = ref04_Valid.f ref04_Valid.L0 ref04_Valid.L1 u_Name u_Mul u_Add u_Div := rfl
theorem ref04_Valid.ok {tabs : List (Nat × Go.Obj)} (ht : TabsOk tabs) : FOK Go.Proofs.Tryd.prog tabs 18 (FE.of [true] false ref04_Valid.sh ref04_Valid.osh ref04_Valid.F) := by
  refine fn_keeps (E := (ref04_Valid.E ref04_Valid.L0 ref04_Valid.L1)) (c := ref04_Valid.c) (fn := Go.Proofs.Tryd.f18) (hs := ref04_Valid.hs) (by kernel_rfl) Go.Proofs.Tryd.func18 ⟨by kernel_rfl, by kernel_rfl, tb, by kernel_rfl, by kernel_rfl, by kernel_rfl, by kernel_rfl, by kernel_rfl⟩ ⟨fun g ks fe h => ?_, gt_ok ht⟩ ?_ (fun x => ref04_Valid.eq ref04_Valid.L0 ref04_Valid.L1 x)
  · cases h
  · refine known_at 2 (by kernel_rfl) fun i hi => ?_
    match i, hi with
    | 0, _ => exact atom_at (id := 0) (live := [1, 3]) (outs := [(2, [1]), (1, [2])]) (loop := true) (by kernel_rfl) (loop_ok (E := (ref04_Valid.E ref04_Valid.L0 ref04_Valid.L1)) (sh := ref04_Valid.s0) (es := ref04_Valid.x0) rfl (fun L x => ref04_Valid.eq0 ref04_Valid.L0 ref04_Valid.L1 L x))
    | 1, _ => exact atom_at (id := 1) (live := [1]) (outs := [(0, [2])]) (loop := false) (by kernel_rfl) (cut_ok (E := (ref04_Valid.E ref04_Valid.L0 ref04_Valid.L1)) (sh := ref04_Valid.s1) (es := ref04_Valid.x1) rfl (fun L x => ref04_Valid.eq1 ref04_Valid.L0 ref04_Valid.L1 L x))
    | n + 2, h => exact absurd h (by omega)

/-! ref04_Down -/
def ref04_Down.f (a : Int) (b : Int) : Option ((Int × Unit) × (Unit)) :=
  (bif (!(decide (b = (0:Int)))) then
   (bif (!(decide (b = (0:Int)))) then
    (bif (decide ((Int.tmod a b) < (0:Int))) then
     (some (((Go.IntKind.wrap Go.IntKind.i64 ((Go.IntKind.wrap Go.IntKind.i64 (Int.tdiv a b)) - (1:Int))), ()), ()))
    else
     (some (((Go.IntKind.wrap Go.IntKind.i64 (Int.tdiv a b)), ()), ())))
   else
    none)
  else
   none)
theorem ref04_Down.eq (x : ((Int × Int × Unit) × (Unit))) : (bodyO (ref04_Down.E) (mk ref04_Down.hs ref04_Down.c []) Go.Proofs.Tryd.f53.results.toList ref04_Down.sh ref04_Down.osh x).run _ some = ref04_Down.f x.1.1 x.1.2.1 := by
  show _ = (_ : Option _)
  kernel_rfl
noncomputable def ref04_Down (a : Int) (b : Int) : Option ((Int × Unit) × (Unit)) := ref04_Down.f a b
noncomputable def ref04_Down.F (x : ((Int × Int × Unit) × (Unit))) : Option ((Int × Unit) × (Unit)) := ref04_Down x.1.1 x.1.2.1
theorem ref04_Down.F_eq (a : Int) (b : Int) : ref04_Down.F ((a, b, ()), ()) = ref04_Down.f a b := rfl
theorem ref04_Down.ok {tabs : List (Nat × Go.Obj)} (ht : TabsOk tabs) : FOK Go.Proofs.Tryd.prog tabs 53 (FE.of [true, true] false ref04_Down.sh ref04_Down.osh ref04_Down.F) := by
  refine fn_keeps (E := (ref04_Down.E)) (c := ref04_Down.c) (fn := Go.Proofs.Tryd.f53) (hs := ref04_Down.hs) (by kernel_rfl) Go.Proofs.Tryd.func53 ⟨by kernel_rfl, by kernel_rfl, tb, by kernel_rfl, by kernel_rfl, by kernel_rfl, by kernel_rfl, by kernel_rfl⟩ ⟨fun g ks fe h => ?_, gt_ok ht⟩ ?_ (fun x => ref04_Down.eq x)
  · cases h
  · exact known_at 0 (by kernel_rfl) fun i hi => absurd hi (Nat.not_lt_zero i)

/-! ref04_Half -/
def ref04_Half.f (g_ref04_Down : ((Int × Int × Unit) × (Unit)) → Option ((Int × Unit) × (Unit))) (a : Int) (b : Int) : Option ((Int × Unit) × (Unit)) :=
  (Option.bind (g_ref04_Down (((Go.IntKind.wrap Go.IntKind.i64 ((Go.IntKind.wrap Go.IntKind.i64 ((2:Int) * a)) + b)), ((Go.IntKind.wrap Go.IntKind.i64 ((2:Int) * b)), ())), ())) (fun y0 =>
  (some ((y0.1.1, ()), ()))))
theorem ref04_Half.eq (g_ref04_Down : ref04_Down.sh.X → Option ref04_Down.osh.X) (x : ((Int × Int × Unit) × (Unit))) : (bodyO (ref04_Half.E g_ref04_Down) (mk ref04_Half.hs ref04_Half.c []) Go.Proofs.Tryd.f35.results.toList ref04_Half.sh ref04_Half.osh x).run _ some = ref04_Half.f g_ref04_Down x.1.1 x.1.2.1 := by
  show _ = (_ : Option _)
  kernel_rfl
noncomputable def ref04_Half (a : Int) (b : Int) : Option ((Int × Unit) × (Unit)) := ref04_Half.f ref04_Down.F a b
noncomputable def ref04_Half.F (x : ((Int × Int × Unit) × (Unit))) : Option ((Int × Unit) × (Unit)) := ref04_Half x.1.1 x.1.2.1
theorem ref04_Half.F_eq (a : Int) (b : Int) : ref04_Half.F ((a, b, ()), ()) = ref04_Half.f ref04_Down.F a b := rfl
theorem ref04_Half.ok {tabs : List (Nat × Go.Obj)} (ht : TabsOk tabs) : FOK Go.Proofs.Tryd.prog tabs 35 (FE.of [true, true] false ref04_Half.sh ref04_Half.osh ref04_Half.F) := by
  refine fn_keeps (E := (ref04_Half.E ref04_Down.F)) (c := ref04_Half.c) (fn := Go.Proofs.Tryd.f35) (hs := ref04_Half.hs) (by kernel_rfl) Go.Proofs.Tryd.func35 ⟨by kernel_rfl, by kernel_rfl, tb, by kernel_rfl, by kernel_rfl, by kernel_rfl, by kernel_rfl, by kernel_rfl⟩ ⟨fun g ks fe h => ?_, gt_ok ht⟩ ?_ (fun x => ref04_Half.eq ref04_Down.F x)
  · rcases c_cons h with ⟨rfl, rfl⟩ | h
    · exact ref04_Down.ok ht
    cases h
  · exact known_at 0 (by kernel_rfl) fun i hi => absurd hi (Nat.not_lt_zero i)

/-! ref04_Sample -/
def ref04_Sample.f (n : Int) : Option ((Bool × Unit) × (Unit)) :=
  (bif (decide (n ≥ (-(1000:Int)))) then
   (some (((decide (n ≤ (1000:Int))), ()), ()))
  else
   (some ((Bool.false, ()), ())))
theorem ref04_Sample.eq (x : ((Int × Unit) × (Unit))) : (bodyO (ref04_Sample.E) (mk ref04_Sample.hs ref04_Sample.c []) Go.Proofs.Tryd.f36.results.toList ref04_Sample.sh ref04_Sample.osh x).run _ some = ref04_Sample.f x.1.1 := by
  show _ = (_ : Option _)
  kernel_rfl
noncomputable def ref04_Sample (n : Int) : Option ((Bool × Unit) × (Unit)) := ref04_Sample.f n
noncomputable def ref04_Sample.F (x : ((Int × Unit) × (Unit))) : Option ((Bool × Unit) × (Unit)) := ref04_Sample x.1.1
theorem ref04_Sample.F_eq (n : Int) : ref04_Sample.F ((n, ()), ()) = ref04_Sample.f n := rfl
theorem ref04_Sample.ok {tabs : List (Nat × Go.Obj)} (ht : TabsOk tabs) : FOK Go.Proofs.Tryd.prog tabs 36 (FE.of [true] false ref04_Sample.sh ref04_Sample.osh ref04_Sample.F) := by
  refine fn_keeps (E := (ref04_Sample.E)) (c := ref04_Sample.c) (fn := Go.Proofs.Tryd.f36) (hs := ref04_Sample.hs) (by kernel_rfl) Go.Proofs.Tryd.func36 ⟨by kernel_rfl, by kernel_rfl, tb, by kernel_rfl, by kernel_rfl, by kernel_rfl, by kernel_rfl, by kernel_rfl⟩ ⟨fun g ks fe h => ?_, gt_ok ht⟩ ?_ (fun x => ref04_Sample.eq x)
  · cases h
  · exact known_at 0 (by kernel_rfl) fun i hi => absurd hi (Nat.not_lt_zero i)

/-! ref04_Convert -/
def ref04_Convert.f (g_ref04_proper : (((Int × Int × Unit) × Unit) × (Unit)) → Option ((Bool × Unit) × (Unit))) (g_ref04_Valid : (((ByteArray × Int × Int × Int × Unit) × Unit) × (Unit)) → Option ((Bool × Unit) × (Unit))) (g_ref04_Power : ((Int × Unit) × (Unit)) → Option ((Int × Unit) × (Unit))) (g_ref04_Half : ((Int × Int × Unit) × (Unit)) → Option ((Int × Unit) × (Unit))) (g_ref04_Sample : ((Int × Unit) × (Unit)) → Option ((Bool × Unit) × (Unit))) (d_Digits : Int) (d_Places : Int) (u_Name : ByteArray) (u_Mul : Int) (u_Add : Int) (u_Div : Int) : Option ((Int × Int × Unit) × (Unit)) :=
  (Option.bind (g_ref04_proper (((d_Digits, (d_Places, ())), ()), ())) (fun y0 =>
  (bif (!y0.1.1) then
   (some (((0:Int), ((3:Int), ())), ()))
  else
   (Option.bind (g_ref04_Valid (((u_Name, (u_Mul, (u_Add, (u_Div, ())))), ()), ())) (fun y2 =>
   (bif (!y2.1.1) then
    (some (((0:Int), ((7:Int), ())), ()))
   else
    (Option.bind (g_ref04_Power ((d_Places, ()), ())) (fun y4 =>
    (Option.bind (g_ref04_Half (((Go.IntKind.wrap Go.IntKind.i64 ((Go.IntKind.wrap Go.IntKind.i64 (d_Digits * u_Mul)) + (Go.IntKind.wrap Go.IntKind.i64 (u_Add * y4.1.1)))), ((Go.IntKind.wrap Go.IntKind.i64 (u_Div * y4.1.1)), ())), ())) (fun y5 =>
    (Option.bind (g_ref04_Sample ((y5.1.1, ()), ())) (fun y6 =>
    (bif (!y6.1.1) then
     (some (((0:Int), ((12:Int), ())), ()))
    else
     (some ((y5.1.1, ((0:Int), ())), ())))))))))))))))
theorem ref04_Convert.eq (g_ref04_proper : ref04_proper.sh.X → Option ref04_proper.osh.X) (g_ref04_Valid : ref04_Valid.sh.X → Option ref04_Valid.osh.X) (g_ref04_Power : ref04_Power.sh.X → Option ref04_Power.osh.X) (g_ref04_Half : ref04_Half.sh.X → Option ref04_Half.osh.X) (g_ref04_Sample : ref04_Sample.sh.X → Option ref04_Sample.osh.X) (x : (((Int × Int × Unit) × (ByteArray × Int × Int × Int × Unit) × Unit) × (Unit))) : (bodyO (ref04_Convert.E g_ref04_proper g_ref04_Valid g_ref04_Power g_ref04_Half g_ref04_Sample) (mk ref04_Convert.hs ref04_Convert.c []) Go.Proofs.Tryd.f16.results.toList ref04_Convert.sh ref04_Convert.osh x).run _ some = ref04_Convert.f g_ref04_proper g_ref04_Valid g_ref04_Power g_ref04_Half g_ref04_Sample x.1.1.1 x.1.1.2.1 x.1.2.1.1 x.1.2.1.2.1 x.1.2.1.2.2.1 x.1.2.1.2.2.2.1 := by
  show _ = (_ : Option _)
  kernel_rfl
noncomputable def ref04_Convert (d_Digits : Int) (d_Places : Int) (u_Name : ByteArray) (u_Mul : Int) (u_Add : Int) (u_Div : Int) : Option ((Int × Int × Unit) × (Unit)) := ref04_Convert.f ref04_proper.F ref04_Valid.F ref04_Power.F ref04_Half.F ref04_Sample.F d_Digits d_Places u_Name u_Mul u_Add u_Div
noncomputable def ref04_Convert.F (x : (((Int × Int × Unit) × (ByteArray × Int × Int × Int × Unit) × Unit) × (Unit))) : Option ((Int × Int × Unit) × (Unit)) := ref04_Convert x.1.1.1 x.1.1.2.1 x.1.2.1.1 x.1.2.1.2.1 x.1.2.1.2.2.1 x.1.2.1.2.2.2.1
theorem ref04_Convert.F_eq (d_Digits : Int) (d_Places : Int) (u_Name : ByteArray) (u_Mul : Int) (u_Add : Int) (u_Div : Int) : ref04_Convert.F (((d_Digits, d_Places, ()), (u_Name, u_Mul, u_Add, u_Div, ()), ()), ()) = ref04_Convert.f ref04_proper.F ref04_Valid.F ref04_Power.F ref04_Half.F ref04_Sample.F d_Digits d_Places u_Name u_Mul u_Add u_Div := rfl
theorem ref04_Convert.ok {tabs : List (Nat × Go.Obj)} (ht : TabsOk tabs) : FOK Go.Proofs.Tryd.prog tabs 16 (FE.of [true, true] false ref04_Convert.sh ref04_Convert.osh ref04_Convert.F) := by
  refine fn_keeps (E := (ref04_Convert.E ref04_proper.F ref04_Valid.F ref04_Power.F ref04_Half.F ref04_Sample.F)) (c := ref04_Convert.c) (fn := Go.Proofs.Tryd.f16) (hs := ref04_Convert.hs) (by kernel_rfl) Go.Proofs.Tryd.func16 ⟨by kernel_rfl, by kernel_rfl, tb, by kernel_rfl, by kernel_rfl, by kernel_rfl, by kernel_rfl, by kernel_rfl⟩ ⟨fun g ks fe h => ?_, gt_ok ht⟩ ?_ (fun x => ref04_Convert.eq ref04_proper.F ref04_Valid.F ref04_Power.F ref04_Half.F ref04_Sample.F x)
  · rcases c_cons h with ⟨rfl, rfl⟩ | h
    · exact ref04_proper.ok ht
    rcases c_cons h with ⟨rfl, rfl⟩ | h
    · exact ref04_Valid.ok ht
    rcases c_cons h with ⟨rfl, rfl⟩ | h
    · exact ref04_Power.ok ht
    rcases c_cons h with ⟨rfl, rfl⟩ | h
    · exact ref04_Half.ok ht
    rcases c_cons h with ⟨rfl, rfl⟩ | h
    · exact ref04_Sample.ok ht
    cases h
  · exact known_at 0 (by kernel_rfl) fun i hi => absurd hi (Nat.not_lt_zero i)
end Go.Proofs.YthbphpmiandmbaaDoor.V
