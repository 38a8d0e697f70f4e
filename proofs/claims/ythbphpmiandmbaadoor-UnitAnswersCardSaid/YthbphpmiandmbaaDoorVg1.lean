import Derived.Test.YthbphpmiandmbaaDoorVg0
import Derived.Test.YthbphpmiandmbaaDoorShelf
set_option linter.unusedVariables false
set_option maxRecDepth 100000
namespace Go.Proofs.YthbphpmiandmbaaDoor.V
open Go.VI
/-! unit_Valid -/
def unit_Valid.f0 (o0_0 : ByteArray) (o0_1 : Int) (o0_2 : Int) (o0_3 : Int) : Option (((Unit × Bool × Unit) × ((ByteArray × Int × Int × Int × Unit) × Unit)) ⊕ Empty) :=
  (bif (decide ((((ByteArray.size o0_0) : Nat) : Int) < (1:Int))) then
   (some (Sum.inl (((), (Bool.true, ())), ((o0_0, (o0_1, (o0_2, (o0_3, ())))), ()))))
  else
   (some (Sum.inl (((), ((decide ((((ByteArray.size o0_0) : Nat) : Int) > (12:Int))), ())), ((o0_0, (o0_1, (o0_2, (o0_3, ())))), ())))))
theorem unit_Valid.eq0 (l0 : unit_Valid.s0.X → Option (sumX unit_Valid.x0)) (l1 : unit_Valid.s1.X → Option (sumX unit_Valid.x1)) (l2 : unit_Valid.s2.X → Option (sumX unit_Valid.x2)) (L : ((Unit × Unit) × ((ByteArray × Int × Int × Int × Unit) × Unit)) → Option (((Unit × Bool × Unit) × ((ByteArray × Int × Int × Int × Unit) × Unit)) ⊕ Empty)) (x : ((Unit × Unit) × ((ByteArray × Int × Int × Int × Unit) × Unit))) : (roundK (unit_Valid.E l0 l1 l2) unit_Valid.s0 [1] [(0, [1, 13])] false (((mk unit_Valid.hs unit_Valid.c []).atoms.getD 0 .bad).body) unit_Valid.x0 L x).run _ some = unit_Valid.f0 x.2.1.1 x.2.1.2.1 x.2.1.2.2.1 x.2.1.2.2.2.1 := by
  show _ = (_ : Option _)
  kernel_rfl
noncomputable def unit_Valid.L0 : ((Unit × Unit) × ((ByteArray × Int × Int × Int × Unit) × Unit)) → Option (((Unit × Bool × Unit) × ((ByteArray × Int × Int × Int × Unit) × Unit)) ⊕ Empty) := fun x => unit_Valid.f0 x.2.1.1 x.2.1.2.1 x.2.1.2.2.1 x.2.1.2.2.2.1
def unit_Valid.f1 (L : ((Unit × Int × Int × Unit) × ((ByteArray × Int × Int × Int × Unit) × Unit)) → Option (((Unit × Unit) × ((ByteArray × Int × Int × Int × Unit) × Unit)) ⊕ ((Bool × Unit) × (Unit)) ⊕ Empty)) (v16 : Int) (v17 : Int) (o0_0 : ByteArray) (o0_1 : Int) (o0_2 : Int) (o0_3 : Int) : Option (((Unit × Unit) × ((ByteArray × Int × Int × Int × Unit) × Unit)) ⊕ ((Bool × Unit) × (Unit)) ⊕ Empty) :=
  (bif (decide (v17 < v16)) then
   (bif (decide ((0:Int) ≤ v17)) then
    (bif (decide (v17 < (((ByteArray.size o0_0) : Nat) : Int))) then
     (bif (decide ((((UInt8.toNat (Array.getD (ByteArray.data o0_0) (Int.toNat v17) (0:UInt8))) : Nat) : Int) < (97:Int))) then
      (some (Sum.inr (Sum.inl ((Bool.false, ()), ()))))
     else
      (bif (decide ((0:Int) ≤ v17)) then
       (bif (decide (v17 < (((ByteArray.size o0_0) : Nat) : Int))) then
        (bif (decide ((((UInt8.toNat (Array.getD (ByteArray.data o0_0) (Int.toNat v17) (0:UInt8))) : Nat) : Int) > (122:Int))) then
         (some (Sum.inr (Sum.inl ((Bool.false, ()), ()))))
        else
         (Option.bind (L (((), (v16, ((Go.IntKind.wrap Go.IntKind.i64 (v17 + (1:Int))), ()))), ((o0_0, (o0_1, (o0_2, (o0_3, ())))), ()))) (fun y7 =>
         (some y7))))
       else
        none)
      else
       none))
    else
     none)
   else
    none)
  else
   (some (Sum.inl (((), ()), ((o0_0, (o0_1, (o0_2, (o0_3, ())))), ())))))
theorem unit_Valid.eq1 (l0 : unit_Valid.s0.X → Option (sumX unit_Valid.x0)) (l1 : unit_Valid.s1.X → Option (sumX unit_Valid.x1)) (l2 : unit_Valid.s2.X → Option (sumX unit_Valid.x2)) (L : ((Unit × Int × Int × Unit) × ((ByteArray × Int × Int × Int × Unit) × Unit)) → Option (((Unit × Unit) × ((ByteArray × Int × Int × Int × Unit) × Unit)) ⊕ ((Bool × Unit) × (Unit)) ⊕ Empty)) (x : ((Unit × Int × Int × Unit) × ((ByteArray × Int × Int × Int × Unit) × Unit))) : (roundK (unit_Valid.E l0 l1 l2) unit_Valid.s1 [1, 16, 17] [(2, [1]), (1, [2])] true (((mk unit_Valid.hs unit_Valid.c []).atoms.getD 1 .bad).body) unit_Valid.x1 L x).run _ some = unit_Valid.f1 L x.1.2.1 x.1.2.2.1 x.2.1.1 x.2.1.2.1 x.2.1.2.2.1 x.2.1.2.2.2.1 := by
  show _ = (_ : Option _)
  kernel_rfl
noncomputable def unit_Valid.L1 : ((Unit × Int × Int × Unit) × ((ByteArray × Int × Int × Int × Unit) × Unit)) → Option (((Unit × Unit) × ((ByteArray × Int × Int × Int × Unit) × Unit)) ⊕ ((Bool × Unit) × (Unit)) ⊕ Empty) := loop fun L x => unit_Valid.f1 L x.1.2.1 x.1.2.2.1 x.2.1.1 x.2.1.2.1 x.2.1.2.2.1 x.2.1.2.2.2.1
def unit_Valid.f2 (o0_0 : ByteArray) (o0_1 : Int) (o0_2 : Int) (o0_3 : Int) : Option (((Bool × Unit) × (Unit)) ⊕ Empty) :=
  (bif (decide (o0_1 ≥ (1:Int))) then
   (bif (decide (o0_1 ≤ (1000000:Int))) then
    (bif (decide (o0_2 ≥ (-(1000000000:Int)))) then
     (bif (decide (o0_2 ≤ (1000000000:Int))) then
      (bif (decide (o0_3 ≥ (1:Int))) then
       (some (Sum.inl (((decide (o0_3 ≤ (1000000:Int))), ()), ())))
      else
       (some (Sum.inl ((Bool.false, ()), ()))))
     else
      (some (Sum.inl ((Bool.false, ()), ()))))
    else
     (some (Sum.inl ((Bool.false, ()), ()))))
   else
    (some (Sum.inl ((Bool.false, ()), ()))))
  else
   (some (Sum.inl ((Bool.false, ()), ()))))
theorem unit_Valid.eq2 (l0 : unit_Valid.s0.X → Option (sumX unit_Valid.x0)) (l1 : unit_Valid.s1.X → Option (sumX unit_Valid.x1)) (l2 : unit_Valid.s2.X → Option (sumX unit_Valid.x2)) (L : ((Unit × Unit) × ((ByteArray × Int × Int × Int × Unit) × Unit)) → Option (((Bool × Unit) × (Unit)) ⊕ Empty)) (x : ((Unit × Unit) × ((ByteArray × Int × Int × Int × Unit) × Unit))) : (roundK (unit_Valid.E l0 l1 l2) unit_Valid.s2 [1] [(0, [2])] false (((mk unit_Valid.hs unit_Valid.c []).atoms.getD 2 .bad).body) unit_Valid.x2 L x).run _ some = unit_Valid.f2 x.2.1.1 x.2.1.2.1 x.2.1.2.2.1 x.2.1.2.2.2.1 := by
  show _ = (_ : Option _)
  kernel_rfl
noncomputable def unit_Valid.L2 : ((Unit × Unit) × ((ByteArray × Int × Int × Int × Unit) × Unit)) → Option (((Bool × Unit) × (Unit)) ⊕ Empty) := fun x => unit_Valid.f2 x.2.1.1 x.2.1.2.1 x.2.1.2.2.1 x.2.1.2.2.2.1
def unit_Valid.f (l0 : ((Unit × Unit) × ((ByteArray × Int × Int × Int × Unit) × Unit)) → Option (((Unit × Bool × Unit) × ((ByteArray × Int × Int × Int × Unit) × Unit)) ⊕ Empty)) (l1 : ((Unit × Int × Int × Unit) × ((ByteArray × Int × Int × Int × Unit) × Unit)) → Option (((Unit × Unit) × ((ByteArray × Int × Int × Int × Unit) × Unit)) ⊕ ((Bool × Unit) × (Unit)) ⊕ Empty)) (l2 : ((Unit × Unit) × ((ByteArray × Int × Int × Int × Unit) × Unit)) → Option (((Bool × Unit) × (Unit)) ⊕ Empty)) (u_Name : ByteArray) (u_Mul : Int) (u_Add : Int) (u_Div : Int) : Option ((Bool × Unit) × (Unit)) :=
  (Option.bind (l0 (((), ()), ((u_Name, (u_Mul, (u_Add, (u_Div, ())))), ()))) (fun y0 =>
  (Sum.elim (fun a1 =>
   (bif a1.1.2.1 then
    (some ((Bool.false, ()), ()))
   else
    (Option.bind (l1 (((), ((((ByteArray.size a1.2.1.1) : Nat) : Int), ((0:Int), ()))), ((a1.2.1.1, (a1.2.1.2.1, (a1.2.1.2.2.1, (a1.2.1.2.2.2.1, ())))), ()))) (fun y3 =>
    (Sum.elim (fun a4 =>
     (Option.bind (l2 (((), ()), ((a4.2.1.1, (a4.2.1.2.1, (a4.2.1.2.2.1, (a4.2.1.2.2.2.1, ())))), ()))) (fun y5 =>
     (Sum.elim (fun a6 =>
      (some ((a6.1.1, ()), ()))) (fun b6 =>
      (Empty.elim b6)) y5)))) (fun b4 =>
     (Sum.elim (fun a5 =>
      (some ((a5.1.1, ()), ()))) (fun b5 =>
      (Empty.elim b5)) b4)) y3))))) (fun b1 =>
   (Empty.elim b1)) y0)))
theorem unit_Valid.eq (l0 : unit_Valid.s0.X → Option (sumX unit_Valid.x0)) (l1 : unit_Valid.s1.X → Option (sumX unit_Valid.x1)) (l2 : unit_Valid.s2.X → Option (sumX unit_Valid.x2)) (x : (((ByteArray × Int × Int × Int × Unit) × Unit) × (Unit))) : (bodyO (unit_Valid.E l0 l1 l2) (mk unit_Valid.hs unit_Valid.c []) Go.Proofs.Tryd.f17.results.toList unit_Valid.sh unit_Valid.osh x).run _ some = unit_Valid.f l0 l1 l2 x.1.1.1 x.1.1.2.1 x.1.1.2.2.1 x.1.1.2.2.2.1 := by
  show _ = (_ : Option _)
  kernel_rfl
noncomputable def unit_Valid (u_Name : ByteArray) (u_Mul : Int) (u_Add : Int) (u_Div : Int) : Option ((Bool × Unit) × (Unit)) := unit_Valid.f unit_Valid.L0 unit_Valid.L1 unit_Valid.L2 u_Name u_Mul u_Add u_Div
noncomputable def unit_Valid.F (x : (((ByteArray × Int × Int × Int × Unit) × Unit) × (Unit))) : Option ((Bool × Unit) × (Unit)) := unit_Valid x.1.1.1 x.1.1.2.1 x.1.1.2.2.1 x.1.1.2.2.2.1
theorem unit_Valid.L0_eq (o0_0 : ByteArray) (o0_1 : Int) (o0_2 : Int) (o0_3 : Int) : unit_Valid.L0 (((), ()), ((o0_0, o0_1, o0_2, o0_3, ()), ())) = unit_Valid.f0 o0_0 o0_1 o0_2 o0_3 := rfl
theorem unit_Valid.L1_eq (v16 : Int) (v17 : Int) (o0_0 : ByteArray) (o0_1 : Int) (o0_2 : Int) (o0_3 : Int) : unit_Valid.L1 (((), v16, v17, ()), ((o0_0, o0_1, o0_2, o0_3, ()), ())) = unit_Valid.f1 unit_Valid.L1 v16 v17 o0_0 o0_1 o0_2 o0_3 :=
  loop_eq (E := (unit_Valid.E unit_Valid.L0 unit_Valid.L1 unit_Valid.L2)) (sh := unit_Valid.s1) (es := unit_Valid.x1) (lp := true) (H := fun L x => unit_Valid.eq1 unit_Valid.L0 unit_Valid.L1 unit_Valid.L2 L x) (((), v16, v17, ()), ((o0_0, o0_1, o0_2, o0_3, ()), ()))
theorem unit_Valid.L2_eq (o0_0 : ByteArray) (o0_1 : Int) (o0_2 : Int) (o0_3 : Int) : unit_Valid.L2 (((), ()), ((o0_0, o0_1, o0_2, o0_3, ()), ())) = unit_Valid.f2 o0_0 o0_1 o0_2 o0_3 := rfl
theorem unit_Valid.F_eq (u_Name : ByteArray) (u_Mul : Int) (u_Add : Int) (u_Div : Int) : unit_Valid.F (((u_Name, u_Mul, u_Add, u_Div, ()), ()), ()) = unit_Valid.f unit_Valid.L0 unit_Valid.L1 unit_Valid.L2 u_Name u_Mul u_Add u_Div := rfl
theorem unit_Valid.ok {tabs : List (Nat × Go.Obj)} (ht : TabsOk tabs) : FOK Go.Proofs.Tryd.prog tabs 17 (FE.of [true] false unit_Valid.sh unit_Valid.osh unit_Valid.F) := by
  refine fn_keeps (E := (unit_Valid.E unit_Valid.L0 unit_Valid.L1 unit_Valid.L2)) (c := unit_Valid.c) (fn := Go.Proofs.Tryd.f17) (hs := unit_Valid.hs) (by kernel_rfl) Go.Proofs.Tryd.func17 ⟨by kernel_rfl, by kernel_rfl, tb, by kernel_rfl, by kernel_rfl, by kernel_rfl, by kernel_rfl, by kernel_rfl⟩ ⟨fun g ks fe h => ?_, gt_ok ht⟩ ?_ (fun x => unit_Valid.eq unit_Valid.L0 unit_Valid.L1 unit_Valid.L2 x)
  · cases h
  · refine known_at 3 (by kernel_rfl) fun i hi => ?_
    match i, hi with
    | 0, _ => exact atom_at (id := 0) (live := [1]) (outs := [(0, [1, 13])]) (loop := false) (by kernel_rfl) (cut_ok (E := (unit_Valid.E unit_Valid.L0 unit_Valid.L1 unit_Valid.L2)) (sh := unit_Valid.s0) (es := unit_Valid.x0) rfl (fun L x => unit_Valid.eq0 unit_Valid.L0 unit_Valid.L1 unit_Valid.L2 L x))
    | 1, _ => exact atom_at (id := 1) (live := [1, 16, 17]) (outs := [(2, [1]), (1, [2])]) (loop := true) (by kernel_rfl) (loop_ok (E := (unit_Valid.E unit_Valid.L0 unit_Valid.L1 unit_Valid.L2)) (sh := unit_Valid.s1) (es := unit_Valid.x1) rfl (fun L x => unit_Valid.eq1 unit_Valid.L0 unit_Valid.L1 unit_Valid.L2 L x))
    | 2, _ => exact atom_at (id := 2) (live := [1]) (outs := [(0, [2])]) (loop := false) (by kernel_rfl) (cut_ok (E := (unit_Valid.E unit_Valid.L0 unit_Valid.L1 unit_Valid.L2)) (sh := unit_Valid.s2) (es := unit_Valid.x2) rfl (fun L x => unit_Valid.eq2 unit_Valid.L0 unit_Valid.L1 unit_Valid.L2 L x))
    | n + 3, h => exact absurd h (by omega)

/-! unit_half -/
def unit_half.f (a : Int) (b : Int) : Option ((Int × Unit) × (Unit)) :=
  (bif (!(decide ((Go.IntKind.wrap Go.IntKind.i64 ((2:Int) * b)) = (0:Int)))) then
   (bif (!(decide ((Go.IntKind.wrap Go.IntKind.i64 ((2:Int) * b)) = (0:Int)))) then
    (bif (decide ((Int.tmod (Go.IntKind.wrap Go.IntKind.i64 ((Go.IntKind.wrap Go.IntKind.i64 ((2:Int) * a)) + b)) (Go.IntKind.wrap Go.IntKind.i64 ((2:Int) * b))) < (0:Int))) then
     (some (((Go.IntKind.wrap Go.IntKind.i64 ((Go.IntKind.wrap Go.IntKind.i64 (Int.tdiv (Go.IntKind.wrap Go.IntKind.i64 ((Go.IntKind.wrap Go.IntKind.i64 ((2:Int) * a)) + b)) (Go.IntKind.wrap Go.IntKind.i64 ((2:Int) * b)))) - (1:Int))), ()), ()))
    else
     (some (((Go.IntKind.wrap Go.IntKind.i64 (Int.tdiv (Go.IntKind.wrap Go.IntKind.i64 ((Go.IntKind.wrap Go.IntKind.i64 ((2:Int) * a)) + b)) (Go.IntKind.wrap Go.IntKind.i64 ((2:Int) * b)))), ()), ())))
   else
    none)
  else
   none)
theorem unit_half.eq (x : ((Int × Int × Unit) × (Unit))) : (bodyO (unit_half.E) (mk unit_half.hs unit_half.c []) Go.Proofs.Tryd.f20.results.toList unit_half.sh unit_half.osh x).run _ some = unit_half.f x.1.1 x.1.2.1 := by
  show _ = (_ : Option _)
  kernel_rfl
noncomputable def unit_half (a : Int) (b : Int) : Option ((Int × Unit) × (Unit)) := unit_half.f a b
noncomputable def unit_half.F (x : ((Int × Int × Unit) × (Unit))) : Option ((Int × Unit) × (Unit)) := unit_half x.1.1 x.1.2.1
theorem unit_half.F_eq (a : Int) (b : Int) : unit_half.F ((a, b, ()), ()) = unit_half.f a b := rfl
theorem unit_half.ok {tabs : List (Nat × Go.Obj)} (ht : TabsOk tabs) : FOK Go.Proofs.Tryd.prog tabs 20 (FE.of [true, true] false unit_half.sh unit_half.osh unit_half.F) := by
  refine fn_keeps (E := (unit_half.E)) (c := unit_half.c) (fn := Go.Proofs.Tryd.f20) (hs := unit_half.hs) (by kernel_rfl) Go.Proofs.Tryd.func20 ⟨by kernel_rfl, by kernel_rfl, tb, by kernel_rfl, by kernel_rfl, by kernel_rfl, by kernel_rfl, by kernel_rfl⟩ ⟨fun g ks fe h => ?_, gt_ok ht⟩ ?_ (fun x => unit_half.eq x)
  · cases h
  · exact known_at 0 (by kernel_rfl) fun i hi => absurd hi (Nat.not_lt_zero i)

/-! unit_Convert -/
def unit_Convert.f (g_unit_proper : (((Int × Int × Unit) × Unit) × (Unit)) → Option ((Bool × Unit) × (Unit))) (g_unit_Valid : (((ByteArray × Int × Int × Int × Unit) × Unit) × (Unit)) → Option ((Bool × Unit) × (Unit))) (g_unit_half : ((Int × Int × Unit) × (Unit)) → Option ((Int × Unit) × (Unit))) (d_Digits : Int) (d_Places : Int) (u_Name : ByteArray) (u_Mul : Int) (u_Add : Int) (u_Div : Int) : Option ((Int × Int × Unit) × (Unit)) :=
  (Option.bind (g_unit_proper (((d_Digits, (d_Places, ())), ()), ())) (fun y0 =>
  (bif (!y0.1.1) then
   (some (((0:Int), ((3:Int), ())), ()))
  else
   (Option.bind (g_unit_Valid (((u_Name, (u_Mul, (u_Add, (u_Div, ())))), ()), ())) (fun y2 =>
   (bif (!y2.1.1) then
    (some (((0:Int), ((7:Int), ())), ()))
   else
    (bif (decide ((0:Int) ≤ d_Places)) then
     (bif (decide (d_Places < (((7:Nat) : Nat) : Int))) then
      (bif (decide ((0:Int) ≤ d_Places)) then
       (bif (decide (d_Places < (((7:Nat) : Nat) : Int))) then
        (Option.bind (g_unit_half (((Go.IntKind.wrap Go.IntKind.i64 ((Go.IntKind.wrap Go.IntKind.i64 (d_Digits * u_Mul)) + (Go.IntKind.wrap Go.IntKind.i64 (u_Add * (List.getD [(1:Int), (10:Int), (100:Int), (1000:Int), (10000:Int), (100000:Int), (1000000:Int)] (Int.toNat d_Places) (0:Int)))))), ((Go.IntKind.wrap Go.IntKind.i64 (u_Div * (List.getD [(1:Int), (10:Int), (100:Int), (1000:Int), (10000:Int), (100000:Int), (1000000:Int)] (Int.toNat d_Places) (0:Int)))), ())), ())) (fun y8 =>
        (bif (decide (y8.1.1 < (-(1000:Int)))) then
         (some (((0:Int), ((12:Int), ())), ()))
        else
         (bif (decide (y8.1.1 > (1000:Int))) then
          (some (((0:Int), ((12:Int), ())), ()))
         else
          (some ((y8.1.1, ((0:Int), ())), ()))))))
       else
        none)
      else
       none)
     else
      none)
    else
     none)))))))
theorem unit_Convert.eq (g_unit_proper : unit_proper.sh.X → Option unit_proper.osh.X) (g_unit_Valid : unit_Valid.sh.X → Option unit_Valid.osh.X) (g_unit_half : unit_half.sh.X → Option unit_half.osh.X) (x : (((Int × Int × Unit) × (ByteArray × Int × Int × Int × Unit) × Unit) × (Unit))) : (bodyO (unit_Convert.E g_unit_proper g_unit_Valid g_unit_half) (mk unit_Convert.hs unit_Convert.c []) Go.Proofs.Tryd.f8.results.toList unit_Convert.sh unit_Convert.osh x).run _ some = unit_Convert.f g_unit_proper g_unit_Valid g_unit_half x.1.1.1 x.1.1.2.1 x.1.2.1.1 x.1.2.1.2.1 x.1.2.1.2.2.1 x.1.2.1.2.2.2.1 := by
  show _ = (_ : Option _)
  kernel_rfl
noncomputable def unit_Convert (d_Digits : Int) (d_Places : Int) (u_Name : ByteArray) (u_Mul : Int) (u_Add : Int) (u_Div : Int) : Option ((Int × Int × Unit) × (Unit)) := unit_Convert.f unit_proper.F unit_Valid.F unit_half.F d_Digits d_Places u_Name u_Mul u_Add u_Div
noncomputable def unit_Convert.F (x : (((Int × Int × Unit) × (ByteArray × Int × Int × Int × Unit) × Unit) × (Unit))) : Option ((Int × Int × Unit) × (Unit)) := unit_Convert x.1.1.1 x.1.1.2.1 x.1.2.1.1 x.1.2.1.2.1 x.1.2.1.2.2.1 x.1.2.1.2.2.2.1
theorem unit_Convert.F_eq (d_Digits : Int) (d_Places : Int) (u_Name : ByteArray) (u_Mul : Int) (u_Add : Int) (u_Div : Int) : unit_Convert.F (((d_Digits, d_Places, ()), (u_Name, u_Mul, u_Add, u_Div, ()), ()), ()) = unit_Convert.f unit_proper.F unit_Valid.F unit_half.F d_Digits d_Places u_Name u_Mul u_Add u_Div := rfl
theorem unit_Convert.ok {tabs : List (Nat × Go.Obj)} (ht : TabsOk tabs) : FOK Go.Proofs.Tryd.prog tabs 8 (FE.of [true, true] false unit_Convert.sh unit_Convert.osh unit_Convert.F) := by
  refine fn_keeps (E := (unit_Convert.E unit_proper.F unit_Valid.F unit_half.F)) (c := unit_Convert.c) (fn := Go.Proofs.Tryd.f8) (hs := unit_Convert.hs) (by kernel_rfl) Go.Proofs.Tryd.func8 ⟨by kernel_rfl, by kernel_rfl, tb, by kernel_rfl, by kernel_rfl, by kernel_rfl, by kernel_rfl, by kernel_rfl⟩ ⟨fun g ks fe h => ?_, gt_ok ht⟩ ?_ (fun x => unit_Convert.eq unit_proper.F unit_Valid.F unit_half.F x)
  · rcases c_cons h with ⟨rfl, rfl⟩ | h
    · exact unit_proper.ok ht
    rcases c_cons h with ⟨rfl, rfl⟩ | h
    · exact unit_Valid.ok ht
    rcases c_cons h with ⟨rfl, rfl⟩ | h
    · exact unit_half.ok ht
    cases h
  · exact known_at 0 (by kernel_rfl) fun i hi => absurd hi (Nat.not_lt_zero i)

/-! law04_awake -/
def law04_awake.f0 (e_2 : Int) (n_3 : Int) (f_4 : Int) (k_5 : Int) (g_6 : Int) (o0_0 : Int) (o0_1 : Int) : Option (((Bool × Unit) × (Unit)) ⊕ Empty) :=
  (bif (e_2 == (0:Int)) then
   (bif ((o0_0 == (-(1250:Int))) && ((o0_1 == (2:Int)) && Bool.true)) then
    (bif (f_4 == (0:Int)) then
     (bif (n_3 == (-(2:Int))) then
      (bif (g_6 == (0:Int)) then
       (some (Sum.inl (((k_5 == (98:Int)), ()), ())))
      else
       (some (Sum.inl ((Bool.false, ()), ()))))
     else
      (some (Sum.inl ((Bool.false, ()), ()))))
    else
     (some (Sum.inl ((Bool.false, ()), ()))))
   else
    (some (Sum.inl ((Bool.false, ()), ()))))
  else
   (some (Sum.inl ((Bool.false, ()), ()))))
theorem law04_awake.eq0 (g_unit_Parse : unit_Parse.sh.X → Option unit_Parse.osh.X) (g_law04_raw : law04_raw.sh.X → Option law04_raw.osh.X) (g_unit_Convert : unit_Convert.sh.X → Option unit_Convert.osh.X) (l0 : law04_awake.s0.X → Option (sumX law04_awake.x0)) (L : ((Unit × Int × Int × Int × Int × Int × Unit) × ((Int × Int × Unit) × Unit)) → Option (((Bool × Unit) × (Unit)) ⊕ Empty)) (x : ((Unit × Int × Int × Int × Int × Int × Unit) × ((Int × Int × Unit) × Unit))) : (roundK (law04_awake.E g_unit_Parse g_law04_raw g_unit_Convert l0) law04_awake.s0 [1, 2, 3, 4, 5, 6] [(0, [0])] false (((mk law04_awake.hs law04_awake.c []).atoms.getD 0 .bad).body) law04_awake.x0 L x).run _ some = law04_awake.f0 x.1.2.1 x.1.2.2.1 x.1.2.2.2.1 x.1.2.2.2.2.1 x.1.2.2.2.2.2.1 x.2.1.1 x.2.1.2.1 := by
  show _ = (_ : Option _)
  kernel_rfl
noncomputable def law04_awake.L0 : ((Unit × Int × Int × Int × Int × Int × Unit) × ((Int × Int × Unit) × Unit)) → Option (((Bool × Unit) × (Unit)) ⊕ Empty) := fun x => law04_awake.f0 x.1.2.1 x.1.2.2.1 x.1.2.2.2.1 x.1.2.2.2.2.1 x.1.2.2.2.2.2.1 x.2.1.1 x.2.1.2.1
def law04_awake.f (g_unit_Parse : ((ByteArray × Unit) × (Unit)) → Option (((Int × Int × Unit) × Int × Unit) × (Unit))) (g_law04_raw : ((Unit) × (Unit)) → Option (((ByteArray × Int × Int × Int × Unit) × Unit) × (Unit))) (g_unit_Convert : (((Int × Int × Unit) × (ByteArray × Int × Int × Int × Unit) × Unit) × (Unit)) → Option ((Int × Int × Unit) × (Unit))) (l0 : ((Unit × Int × Int × Int × Int × Int × Unit) × ((Int × Int × Unit) × Unit)) → Option (((Bool × Unit) × (Unit)) ⊕ Empty)) : Option ((Bool × Unit) × (Unit)) :=
  (Option.bind (g_unit_Parse (((ByteArray.mk #[(45:UInt8), (49:UInt8), (50:UInt8), (46:UInt8), (53:UInt8), (48:UInt8)]), ()), ())) (fun y0 =>
  (Option.bind (g_law04_raw ((), ())) (fun y1 =>
  (Option.bind (g_unit_Convert ((((-(25:Int)), ((1:Int), ())), ((y1.1.1.1, (y1.1.1.2.1, (y1.1.1.2.2.1, (y1.1.1.2.2.2.1, ())))), ())), ())) (fun y2 =>
  (Option.bind (g_unit_Convert ((((366:Int), ((1:Int), ())), (((ByteArray.mk #[(102:UInt8)]), ((9:Int), ((160:Int), ((5:Int), ())))), ())), ())) (fun y3 =>
  (Option.bind (l0 (((), (y0.1.2.1, (y2.1.1, (y2.1.2.1, (y3.1.1, (y3.1.2.1, ())))))), ((y0.1.1.1, (y0.1.1.2.1, ())), ()))) (fun y4 =>
  (Sum.elim (fun a5 =>
   (some ((a5.1.1, ()), ()))) (fun b5 =>
   (Empty.elim b5)) y4)))))))))))
theorem law04_awake.eq (g_unit_Parse : unit_Parse.sh.X → Option unit_Parse.osh.X) (g_law04_raw : law04_raw.sh.X → Option law04_raw.osh.X) (g_unit_Convert : unit_Convert.sh.X → Option unit_Convert.osh.X) (l0 : law04_awake.s0.X → Option (sumX law04_awake.x0)) (x : ((Unit) × (Unit))) : (bodyO (law04_awake.E g_unit_Parse g_law04_raw g_unit_Convert l0) (mk law04_awake.hs law04_awake.c []) Go.Proofs.Tryd.f9.results.toList law04_awake.sh law04_awake.osh x).run _ some = law04_awake.f g_unit_Parse g_law04_raw g_unit_Convert l0 := by
  show _ = (_ : Option _)
  kernel_rfl
noncomputable def law04_awake : Option ((Bool × Unit) × (Unit)) := law04_awake.f unit_Parse.F law04_raw.F unit_Convert.F law04_awake.L0
noncomputable def law04_awake.F (x : ((Unit) × (Unit))) : Option ((Bool × Unit) × (Unit)) := law04_awake
theorem law04_awake.L0_eq (e_2 : Int) (n_3 : Int) (f_4 : Int) (k_5 : Int) (g_6 : Int) (o0_0 : Int) (o0_1 : Int) : law04_awake.L0 (((), e_2, n_3, f_4, k_5, g_6, ()), ((o0_0, o0_1, ()), ())) = law04_awake.f0 e_2 n_3 f_4 k_5 g_6 o0_0 o0_1 := rfl
theorem law04_awake.F_eq : law04_awake.F ((), ()) = law04_awake.f unit_Parse.F law04_raw.F unit_Convert.F law04_awake.L0 := rfl
theorem law04_awake.ok {tabs : List (Nat × Go.Obj)} (ht : TabsOk tabs) : FOK Go.Proofs.Tryd.prog tabs 9 (FE.of [] false law04_awake.sh law04_awake.osh law04_awake.F) := by
  refine fn_keeps (E := (law04_awake.E unit_Parse.F law04_raw.F unit_Convert.F law04_awake.L0)) (c := law04_awake.c) (fn := Go.Proofs.Tryd.f9) (hs := law04_awake.hs) (by kernel_rfl) Go.Proofs.Tryd.func9 ⟨by kernel_rfl, by kernel_rfl, tb, by kernel_rfl, by kernel_rfl, by kernel_rfl, by kernel_rfl, by kernel_rfl⟩ ⟨fun g ks fe h => ?_, gt_ok ht⟩ ?_ (fun x => law04_awake.eq unit_Parse.F law04_raw.F unit_Convert.F law04_awake.L0 x)
  · rcases c_cons h with ⟨rfl, rfl⟩ | h
    · exact unit_Parse.ok ht
    rcases c_cons h with ⟨rfl, rfl⟩ | h
    · exact law04_raw.ok ht
    rcases c_cons h with ⟨rfl, rfl⟩ | h
    · exact unit_Convert.ok ht
    cases h
  · refine known_at 1 (by kernel_rfl) fun i hi => ?_
    match i, hi with
    | 0, _ => exact atom_at (id := 0) (live := [1, 2, 3, 4, 5, 6]) (outs := [(0, [0])]) (loop := false) (by kernel_rfl) (cut_ok (E := (law04_awake.E unit_Parse.F law04_raw.F unit_Convert.F law04_awake.L0)) (sh := law04_awake.s0) (es := law04_awake.x0) rfl (fun L x => law04_awake.eq0 unit_Parse.F law04_raw.F unit_Convert.F law04_awake.L0 L x))
    | n + 1, h => exact absurd h (by omega)

/-! keep_New -/
def keep_New.f (l : (List Int)) : Option ((Unit × Unit) × (((List Int) × Int × Unit) × Unit)) :=
  (bif (decide ((0:Int) ≤ (Go.VI.mn (((List.length l) : Nat) : Int) (2000:Int)))) then
   (bif (decide ((Go.VI.mn (((List.length l) : Nat) : Int) (2000:Int)) ≤ (((List.length l) : Nat) : Int))) then
    (some (((), ()), (((List.drop (Int.toNat (0:Int)) (List.take (Int.toNat (Go.VI.mn (((List.length l) : Nat) : Int) (2000:Int))) l)), ((0:Int), ())), ())))
   else
    none)
  else
   none)
theorem keep_New.eq (x : (((List Int) × Unit) × (Unit))) : (bodyO (keep_New.E) (mk keep_New.hs keep_New.c []) Go.Proofs.Tryd.f21.results.toList keep_New.sh keep_New.osh x).run _ some = keep_New.f x.1.1 := by
  show _ = (_ : Option _)
  kernel_rfl
noncomputable def keep_New (l : (List Int)) : Option ((Unit × Unit) × (((List Int) × Int × Unit) × Unit)) := keep_New.f l
noncomputable def keep_New.F (x : (((List Int) × Unit) × (Unit))) : Option ((Unit × Unit) × (((List Int) × Int × Unit) × Unit)) := keep_New x.1.1
theorem keep_New.F_eq (l : (List Int)) : keep_New.F ((l, ()), ()) = keep_New.f l := rfl
theorem keep_New.ok {tabs : List (Nat × Go.Obj)} (ht : TabsOk tabs) : FOK Go.Proofs.Tryd.prog tabs 21 (FE.of [true] true keep_New.sh keep_New.osh keep_New.F) := by
  refine fn_keeps (E := (keep_New.E)) (c := keep_New.c) (fn := Go.Proofs.Tryd.f21) (hs := keep_New.hs) (by kernel_rfl) Go.Proofs.Tryd.func21 ⟨by kernel_rfl, by kernel_rfl, tb, by kernel_rfl, by kernel_rfl, by kernel_rfl, by kernel_rfl, by kernel_rfl⟩ ⟨fun g ks fe h => ?_, gt_ok ht⟩ ?_ (fun x => keep_New.eq x)
  · cases h
  · exact known_at 0 (by kernel_rfl) fun i hi => absurd hi (Nat.not_lt_zero i)

/-! keep_Src_Raw -/
def keep_Src_Raw.f (o0_0 : (List Int)) (o0_1 : Int) : Option ((Int × Unit) × (((List Int) × Int × Unit) × Unit)) :=
  (bif (decide (o0_1 ≥ (((List.length o0_0) : Nat) : Int))) then
   (some (((0:Int), ()), ((o0_0, (o0_1, ())), ())))
  else
   (bif (decide ((0:Int) ≤ (Go.IntKind.wrap Go.IntKind.i64 ((Go.IntKind.wrap Go.IntKind.i64 (o0_1 + (1:Int))) - (1:Int))))) then
    (bif (decide ((Go.IntKind.wrap Go.IntKind.i64 ((Go.IntKind.wrap Go.IntKind.i64 (o0_1 + (1:Int))) - (1:Int))) < (((List.length o0_0) : Nat) : Int))) then
     (some (((List.getD o0_0 (Int.toNat (Go.IntKind.wrap Go.IntKind.i64 ((Go.IntKind.wrap Go.IntKind.i64 (o0_1 + (1:Int))) - (1:Int)))) (0:Int)), ()), ((o0_0, ((Go.IntKind.wrap Go.IntKind.i64 (o0_1 + (1:Int))), ())), ())))
    else
     none)
   else
    none))
theorem keep_Src_Raw.eq (x : ((Unit × Unit) × (((List Int) × Int × Unit) × Unit))) : (bodyO (keep_Src_Raw.E) (mk keep_Src_Raw.hs keep_Src_Raw.c []) Go.Proofs.Tryd.f38.results.toList keep_Src_Raw.sh keep_Src_Raw.osh x).run _ some = keep_Src_Raw.f x.2.1.1 x.2.1.2.1 := by
  show _ = (_ : Option _)
  kernel_rfl
noncomputable def keep_Src_Raw (o0_0 : (List Int)) (o0_1 : Int) : Option ((Int × Unit) × (((List Int) × Int × Unit) × Unit)) := keep_Src_Raw.f o0_0 o0_1
noncomputable def keep_Src_Raw.F (x : ((Unit × Unit) × (((List Int) × Int × Unit) × Unit))) : Option ((Int × Unit) × (((List Int) × Int × Unit) × Unit)) := keep_Src_Raw x.2.1.1 x.2.1.2.1
theorem keep_Src_Raw.F_eq (o0_0 : (List Int)) (o0_1 : Int) : keep_Src_Raw.F (((), ()), ((o0_0, o0_1, ()), ())) = keep_Src_Raw.f o0_0 o0_1 := rfl
theorem keep_Src_Raw.ok {tabs : List (Nat × Go.Obj)} (ht : TabsOk tabs) : FOK Go.Proofs.Tryd.prog tabs 38 (FE.of [true] true keep_Src_Raw.sh keep_Src_Raw.osh keep_Src_Raw.F) := by
  refine fn_keeps (E := (keep_Src_Raw.E)) (c := keep_Src_Raw.c) (fn := Go.Proofs.Tryd.f38) (hs := keep_Src_Raw.hs) (by kernel_rfl) Go.Proofs.Tryd.func38 ⟨by kernel_rfl, by kernel_rfl, tb, by kernel_rfl, by kernel_rfl, by kernel_rfl, by kernel_rfl, by kernel_rfl⟩ ⟨fun g ks fe h => ?_, gt_ok ht⟩ ?_ (fun x => keep_Src_Raw.eq x)
  · cases h
  · exact known_at 0 (by kernel_rfl) fun i hi => absurd hi (Nat.not_lt_zero i)

/-! keep_Mod -/
def keep_Mod.f (x_ : Int) (n : Int) : Option ((Int × Unit) × (Unit)) :=
  (bif (decide (n < (1:Int))) then
   (some (((0:Int), ()), ()))
  else
   (bif (!(decide (n = (0:Int)))) then
    (bif (decide ((Int.tmod x_ n) < (0:Int))) then
     (some (((Go.IntKind.wrap Go.IntKind.i64 ((Int.tmod x_ n) + n)), ()), ()))
    else
     (some (((Int.tmod x_ n), ()), ())))
   else
    none))
theorem keep_Mod.eq (x : ((Int × Int × Unit) × (Unit))) : (bodyO (keep_Mod.E) (mk keep_Mod.hs keep_Mod.c []) Go.Proofs.Tryd.f37.results.toList keep_Mod.sh keep_Mod.osh x).run _ some = keep_Mod.f x.1.1 x.1.2.1 := by
  show _ = (_ : Option _)
  kernel_rfl
noncomputable def keep_Mod (x_ : Int) (n : Int) : Option ((Int × Unit) × (Unit)) := keep_Mod.f x_ n
noncomputable def keep_Mod.F (x : ((Int × Int × Unit) × (Unit))) : Option ((Int × Unit) × (Unit)) := keep_Mod x.1.1 x.1.2.1
theorem keep_Mod.F_eq (x_ : Int) (n : Int) : keep_Mod.F ((x_, n, ()), ()) = keep_Mod.f x_ n := rfl
theorem keep_Mod.ok {tabs : List (Nat × Go.Obj)} (ht : TabsOk tabs) : FOK Go.Proofs.Tryd.prog tabs 37 (FE.of [true, true] false keep_Mod.sh keep_Mod.osh keep_Mod.F) := by
  refine fn_keeps (E := (keep_Mod.E)) (c := keep_Mod.c) (fn := Go.Proofs.Tryd.f37) (hs := keep_Mod.hs) (by kernel_rfl) Go.Proofs.Tryd.func37 ⟨by kernel_rfl, by kernel_rfl, tb, by kernel_rfl, by kernel_rfl, by kernel_rfl, by kernel_rfl, by kernel_rfl⟩ ⟨fun g ks fe h => ?_, gt_ok ht⟩ ?_ (fun x => keep_Mod.eq x)
  · cases h
  · exact known_at 0 (by kernel_rfl) fun i hi => absurd hi (Nat.not_lt_zero i)

/-! keep_Src_N -/
def keep_Src_N.f (g_keep_Src_Raw : ((Unit × Unit) × (((List Int) × Int × Unit) × Unit)) → Option ((Int × Unit) × (((List Int) × Int × Unit) × Unit))) (g_keep_Mod : ((Int × Int × Unit) × (Unit)) → Option ((Int × Unit) × (Unit))) (n : Int) (o0_0 : (List Int)) (o0_1 : Int) : Option ((Int × Unit) × (((List Int) × Int × Unit) × Unit)) :=
  (Option.bind (g_keep_Src_Raw (((), ()), ((o0_0, (o0_1, ())), ()))) (fun y0 =>
  (Option.bind (g_keep_Mod ((y0.1.1, (n, ())), ())) (fun y1 =>
  (some ((y1.1.1, ()), ((y0.2.1.1, (y0.2.1.2.1, ())), ())))))))
theorem keep_Src_N.eq (g_keep_Src_Raw : keep_Src_Raw.sh.X → Option keep_Src_Raw.osh.X) (g_keep_Mod : keep_Mod.sh.X → Option keep_Mod.osh.X) (x : ((Unit × Int × Unit) × (((List Int) × Int × Unit) × Unit))) : (bodyO (keep_Src_N.E g_keep_Src_Raw g_keep_Mod) (mk keep_Src_N.hs keep_Src_N.c []) Go.Proofs.Tryd.f24.results.toList keep_Src_N.sh keep_Src_N.osh x).run _ some = keep_Src_N.f g_keep_Src_Raw g_keep_Mod x.1.2.1 x.2.1.1 x.2.1.2.1 := by
  show _ = (_ : Option _)
  kernel_rfl
noncomputable def keep_Src_N (n : Int) (o0_0 : (List Int)) (o0_1 : Int) : Option ((Int × Unit) × (((List Int) × Int × Unit) × Unit)) := keep_Src_N.f keep_Src_Raw.F keep_Mod.F n o0_0 o0_1
noncomputable def keep_Src_N.F (x : ((Unit × Int × Unit) × (((List Int) × Int × Unit) × Unit))) : Option ((Int × Unit) × (((List Int) × Int × Unit) × Unit)) := keep_Src_N x.1.2.1 x.2.1.1 x.2.1.2.1
theorem keep_Src_N.F_eq (n : Int) (o0_0 : (List Int)) (o0_1 : Int) : keep_Src_N.F (((), n, ()), ((o0_0, o0_1, ()), ())) = keep_Src_N.f keep_Src_Raw.F keep_Mod.F n o0_0 o0_1 := rfl
theorem keep_Src_N.ok {tabs : List (Nat × Go.Obj)} (ht : TabsOk tabs) : FOK Go.Proofs.Tryd.prog tabs 24 (FE.of [true, true] true keep_Src_N.sh keep_Src_N.osh keep_Src_N.F) := by
  refine fn_keeps (E := (keep_Src_N.E keep_Src_Raw.F keep_Mod.F)) (c := keep_Src_N.c) (fn := Go.Proofs.Tryd.f24) (hs := keep_Src_N.hs) (by kernel_rfl) Go.Proofs.Tryd.func24 ⟨by kernel_rfl, by kernel_rfl, tb, by kernel_rfl, by kernel_rfl, by kernel_rfl, by kernel_rfl, by kernel_rfl⟩ ⟨fun g ks fe h => ?_, gt_ok ht⟩ ?_ (fun x => keep_Src_N.eq keep_Src_Raw.F keep_Mod.F x)
  · rcases c_cons h with ⟨rfl, rfl⟩ | h
    · exact keep_Src_Raw.ok ht
    rcases c_cons h with ⟨rfl, rfl⟩ | h
    · exact keep_Mod.ok ht
    cases h
  · exact known_at 0 (by kernel_rfl) fun i hi => absurd hi (Nat.not_lt_zero i)

/-! keep_Src_Pick -/
def keep_Src_Pick.f (g_keep_Src_N : ((Unit × Int × Unit) × (((List Int) × Int × Unit) × Unit)) → Option ((Int × Unit) × (((List Int) × Int × Unit) × Unit))) (l : (List Int)) (o0_0 : (List Int)) (o0_1 : Int) : Option ((Int × Unit) × (((List Int) × Int × Unit) × Unit)) :=
  (Option.bind (g_keep_Src_N (((), ((((List.length l) : Nat) : Int), ())), ((o0_0, (o0_1, ())), ()))) (fun y0 =>
  (bif (decide ((0:Int) ≤ y0.1.1)) then
   (bif (decide (y0.1.1 < (((List.length l) : Nat) : Int))) then
    (some (((List.getD l (Int.toNat y0.1.1) (0:Int)), ()), ((y0.2.1.1, (y0.2.1.2.1, ())), ())))
   else
    none)
  else
   none)))
theorem keep_Src_Pick.eq (g_keep_Src_N : keep_Src_N.sh.X → Option keep_Src_N.osh.X) (x : ((Unit × (List Int) × Unit) × (((List Int) × Int × Unit) × Unit))) : (bodyO (keep_Src_Pick.E g_keep_Src_N) (mk keep_Src_Pick.hs keep_Src_Pick.c []) Go.Proofs.Tryd.f23.results.toList keep_Src_Pick.sh keep_Src_Pick.osh x).run _ some = keep_Src_Pick.f g_keep_Src_N x.1.2.1 x.2.1.1 x.2.1.2.1 := by
  show _ = (_ : Option _)
  kernel_rfl
noncomputable def keep_Src_Pick (l : (List Int)) (o0_0 : (List Int)) (o0_1 : Int) : Option ((Int × Unit) × (((List Int) × Int × Unit) × Unit)) := keep_Src_Pick.f keep_Src_N.F l o0_0 o0_1
noncomputable def keep_Src_Pick.F (x : ((Unit × (List Int) × Unit) × (((List Int) × Int × Unit) × Unit))) : Option ((Int × Unit) × (((List Int) × Int × Unit) × Unit)) := keep_Src_Pick x.1.2.1 x.2.1.1 x.2.1.2.1
theorem keep_Src_Pick.F_eq (l : (List Int)) (o0_0 : (List Int)) (o0_1 : Int) : keep_Src_Pick.F (((), l, ()), ((o0_0, o0_1, ()), ())) = keep_Src_Pick.f keep_Src_N.F l o0_0 o0_1 := rfl
theorem keep_Src_Pick.ok {tabs : List (Nat × Go.Obj)} (ht : TabsOk tabs) : FOK Go.Proofs.Tryd.prog tabs 23 (FE.of [true, true] true keep_Src_Pick.sh keep_Src_Pick.osh keep_Src_Pick.F) := by
  refine fn_keeps (E := (keep_Src_Pick.E keep_Src_N.F)) (c := keep_Src_Pick.c) (fn := Go.Proofs.Tryd.f23) (hs := keep_Src_Pick.hs) (by kernel_rfl) Go.Proofs.Tryd.func23 ⟨by kernel_rfl, by kernel_rfl, tb, by kernel_rfl, by kernel_rfl, by kernel_rfl, by kernel_rfl, by kernel_rfl⟩ ⟨fun g ks fe h => ?_, gt_ok ht⟩ ?_ (fun x => keep_Src_Pick.eq keep_Src_N.F x)
  · rcases c_cons h with ⟨rfl, rfl⟩ | h
    · exact keep_Src_N.ok ht
    cases h
  · exact known_at 0 (by kernel_rfl) fun i hi => absurd hi (Nat.not_lt_zero i)

/-! keep_Src_Range -/
def keep_Src_Range.f (g_keep_Src_N : ((Unit × Int × Unit) × (((List Int) × Int × Unit) × Unit)) → Option ((Int × Unit) × (((List Int) × Int × Unit) × Unit))) (lo : Int) (hi : Int) (o0_0 : (List Int)) (o0_1 : Int) : Option ((Int × Unit) × (((List Int) × Int × Unit) × Unit)) :=
  (Option.bind (g_keep_Src_N (((), ((Go.IntKind.wrap Go.IntKind.i64 ((Go.IntKind.wrap Go.IntKind.i64 (hi - lo)) + (1:Int))), ())), ((o0_0, (o0_1, ())), ()))) (fun y0 =>
  (some (((Go.IntKind.wrap Go.IntKind.i64 (lo + y0.1.1)), ()), ((y0.2.1.1, (y0.2.1.2.1, ())), ())))))
theorem keep_Src_Range.eq (g_keep_Src_N : keep_Src_N.sh.X → Option keep_Src_N.osh.X) (x : ((Unit × Int × Int × Unit) × (((List Int) × Int × Unit) × Unit))) : (bodyO (keep_Src_Range.E g_keep_Src_N) (mk keep_Src_Range.hs keep_Src_Range.c []) Go.Proofs.Tryd.f22.results.toList keep_Src_Range.sh keep_Src_Range.osh x).run _ some = keep_Src_Range.f g_keep_Src_N x.1.2.1 x.1.2.2.1 x.2.1.1 x.2.1.2.1 := by
  show _ = (_ : Option _)
  kernel_rfl
noncomputable def keep_Src_Range (lo : Int) (hi : Int) (o0_0 : (List Int)) (o0_1 : Int) : Option ((Int × Unit) × (((List Int) × Int × Unit) × Unit)) := keep_Src_Range.f keep_Src_N.F lo hi o0_0 o0_1
noncomputable def keep_Src_Range.F (x : ((Unit × Int × Int × Unit) × (((List Int) × Int × Unit) × Unit))) : Option ((Int × Unit) × (((List Int) × Int × Unit) × Unit)) := keep_Src_Range x.1.2.1 x.1.2.2.1 x.2.1.1 x.2.1.2.1
theorem keep_Src_Range.F_eq (lo : Int) (hi : Int) (o0_0 : (List Int)) (o0_1 : Int) : keep_Src_Range.F (((), lo, hi, ()), ((o0_0, o0_1, ()), ())) = keep_Src_Range.f keep_Src_N.F lo hi o0_0 o0_1 := rfl
theorem keep_Src_Range.ok {tabs : List (Nat × Go.Obj)} (ht : TabsOk tabs) : FOK Go.Proofs.Tryd.prog tabs 22 (FE.of [true, true, true] true keep_Src_Range.sh keep_Src_Range.osh keep_Src_Range.F) := by
  refine fn_keeps (E := (keep_Src_Range.E keep_Src_N.F)) (c := keep_Src_Range.c) (fn := Go.Proofs.Tryd.f22) (hs := keep_Src_Range.hs) (by kernel_rfl) Go.Proofs.Tryd.func22 ⟨by kernel_rfl, by kernel_rfl, tb, by kernel_rfl, by kernel_rfl, by kernel_rfl, by kernel_rfl, by kernel_rfl⟩ ⟨fun g ks fe h => ?_, gt_ok ht⟩ ?_ (fun x => keep_Src_Range.eq keep_Src_N.F x)
  · rcases c_cons h with ⟨rfl, rfl⟩ | h
    · exact keep_Src_N.ok ht
    cases h
  · exact known_at 0 (by kernel_rfl) fun i hi => absurd hi (Nat.not_lt_zero i)

/-! keep_Src_Text -/
def keep_Src_Text.f (g_keep_Src_N : ((Unit × Int × Unit) × (((List Int) × Int × Unit) × Unit)) → Option ((Int × Unit) × (((List Int) × Int × Unit) × Unit))) (l : (List ByteArray)) (o0_0 : (List Int)) (o0_1 : Int) : Option ((ByteArray × Unit) × (((List Int) × Int × Unit) × Unit)) :=
  (Option.bind (g_keep_Src_N (((), ((((List.length l) : Nat) : Int), ())), ((o0_0, (o0_1, ())), ()))) (fun y0 =>
  (bif (decide ((0:Int) ≤ y0.1.1)) then
   (bif (decide (y0.1.1 < (((List.length l) : Nat) : Int))) then
    (some (((List.getD l (Int.toNat y0.1.1) (ByteArray.mk #[])), ()), ((y0.2.1.1, (y0.2.1.2.1, ())), ())))
   else
    none)
  else
   none)))
theorem keep_Src_Text.eq (g_keep_Src_N : keep_Src_N.sh.X → Option keep_Src_N.osh.X) (x : ((Unit × (List ByteArray) × Unit) × (((List Int) × Int × Unit) × Unit))) : (bodyO (keep_Src_Text.E g_keep_Src_N) (mk keep_Src_Text.hs keep_Src_Text.c []) Go.Proofs.Tryd.f25.results.toList keep_Src_Text.sh keep_Src_Text.osh x).run _ some = keep_Src_Text.f g_keep_Src_N x.1.2.1 x.2.1.1 x.2.1.2.1 := by
  show _ = (_ : Option _)
  kernel_rfl
noncomputable def keep_Src_Text (l : (List ByteArray)) (o0_0 : (List Int)) (o0_1 : Int) : Option ((ByteArray × Unit) × (((List Int) × Int × Unit) × Unit)) := keep_Src_Text.f keep_Src_N.F l o0_0 o0_1
noncomputable def keep_Src_Text.F (x : ((Unit × (List ByteArray) × Unit) × (((List Int) × Int × Unit) × Unit))) : Option ((ByteArray × Unit) × (((List Int) × Int × Unit) × Unit)) := keep_Src_Text x.1.2.1 x.2.1.1 x.2.1.2.1
theorem keep_Src_Text.F_eq (l : (List ByteArray)) (o0_0 : (List Int)) (o0_1 : Int) : keep_Src_Text.F (((), l, ()), ((o0_0, o0_1, ()), ())) = keep_Src_Text.f keep_Src_N.F l o0_0 o0_1 := rfl
theorem keep_Src_Text.ok {tabs : List (Nat × Go.Obj)} (ht : TabsOk tabs) : FOK Go.Proofs.Tryd.prog tabs 25 (FE.of [true, true] true keep_Src_Text.sh keep_Src_Text.osh keep_Src_Text.F) := by
  refine fn_keeps (E := (keep_Src_Text.E keep_Src_N.F)) (c := keep_Src_Text.c) (fn := Go.Proofs.Tryd.f25) (hs := keep_Src_Text.hs) (by kernel_rfl) Go.Proofs.Tryd.func25 ⟨by kernel_rfl, by kernel_rfl, tb, by kernel_rfl, by kernel_rfl, by kernel_rfl, by kernel_rfl, by kernel_rfl⟩ ⟨fun g ks fe h => ?_, gt_ok ht⟩ ?_ (fun x => keep_Src_Text.eq keep_Src_N.F x)
  · rcases c_cons h with ⟨rfl, rfl⟩ | h
    · exact keep_Src_N.ok ht
    cases h
  · exact known_at 0 (by kernel_rfl) fun i hi => absurd hi (Nat.not_lt_zero i)

/-! law04_made -/
def law04_made.f (g_keep_New : (((List Int) × Unit) × (Unit)) → Option ((Unit × Unit) × (((List Int) × Int × Unit) × Unit))) (g_keep_Src_Pick : ((Unit × (List Int) × Unit) × (((List Int) × Int × Unit) × Unit)) → Option ((Int × Unit) × (((List Int) × Int × Unit) × Unit))) (g_keep_Src_Range : ((Unit × Int × Int × Unit) × (((List Int) × Int × Unit) × Unit)) → Option ((Int × Unit) × (((List Int) × Int × Unit) × Unit))) (g_keep_Src_N : ((Unit × Int × Unit) × (((List Int) × Int × Unit) × Unit)) → Option ((Int × Unit) × (((List Int) × Int × Unit) × Unit))) (g_keep_Src_Text : ((Unit × (List ByteArray) × Unit) × (((List Int) × Int × Unit) × Unit)) → Option ((ByteArray × Unit) × (((List Int) × Int × Unit) × Unit))) (l : (List Int)) : Option (((Int × Int × Unit) × (ByteArray × Int × Int × Int × Unit) × Unit) × (Unit)) :=
  (Option.bind (g_keep_New ((l, ()), ())) (fun y0 =>
  (Option.bind (g_keep_Src_Pick (((), ([(9:Int), (1000:Int), (1000000000:Int)], ())), ((y0.2.1.1, (y0.2.1.2.1, ())), ()))) (fun y1 =>
  (Option.bind (g_keep_Src_Pick (((), ([(9:Int), (1000:Int), (1000000000:Int)], ())), ((y1.2.1.1, (y1.2.1.2.1, ())), ()))) (fun y2 =>
  (Option.bind (g_keep_Src_Range (((), ((Go.IntKind.wrap Go.IntKind.i64 ((0:Int) - y1.1.1)), (y2.1.1, ()))), ((y2.2.1.1, (y2.2.1.2.1, ())), ()))) (fun y3 =>
  (Option.bind (g_keep_Src_N (((), ((7:Int), ())), ((y3.2.1.1, (y3.2.1.2.1, ())), ()))) (fun y4 =>
  (Option.bind (g_keep_Src_Text (((), ([(ByteArray.mk #[(99:UInt8)]), (ByteArray.mk #[(114:UInt8), (97:UInt8), (119:UInt8)]), (ByteArray.mk #[(97:UInt8), (98:UInt8), (99:UInt8), (100:UInt8), (101:UInt8), (102:UInt8), (103:UInt8), (104:UInt8), (105:UInt8), (106:UInt8), (107:UInt8), (108:UInt8)])], ())), ((y4.2.1.1, (y4.2.1.2.1, ())), ()))) (fun y5 =>
  (Option.bind (g_keep_Src_Pick (((), ([(1:Int), (9:Int), (1000000:Int)], ())), ((y5.2.1.1, (y5.2.1.2.1, ())), ()))) (fun y6 =>
  (Option.bind (g_keep_Src_Range (((), ((1:Int), (y6.1.1, ()))), ((y6.2.1.1, (y6.2.1.2.1, ())), ()))) (fun y7 =>
  (Option.bind (g_keep_Src_Pick (((), ([(0:Int), (500:Int), (1000000000:Int)], ())), ((y7.2.1.1, (y7.2.1.2.1, ())), ()))) (fun y8 =>
  (Option.bind (g_keep_Src_Range (((), ((-(9:Int)), (y8.1.1, ()))), ((y8.2.1.1, (y8.2.1.2.1, ())), ()))) (fun y9 =>
  (Option.bind (g_keep_Src_Pick (((), ([(1:Int), (9:Int), (1000000:Int)], ())), ((y9.2.1.1, (y9.2.1.2.1, ())), ()))) (fun y10 =>
  (Option.bind (g_keep_Src_Range (((), ((1:Int), (y10.1.1, ()))), ((y10.2.1.1, (y10.2.1.2.1, ())), ()))) (fun y11 =>
  (some (((y3.1.1, (y4.1.1, ())), ((y5.1.1, (y7.1.1, (y9.1.1, (y11.1.1, ())))), ())), ()))))))))))))))))))))))))))
theorem law04_made.eq (g_keep_New : keep_New.sh.X → Option keep_New.osh.X) (g_keep_Src_Pick : keep_Src_Pick.sh.X → Option keep_Src_Pick.osh.X) (g_keep_Src_Range : keep_Src_Range.sh.X → Option keep_Src_Range.osh.X) (g_keep_Src_N : keep_Src_N.sh.X → Option keep_Src_N.osh.X) (g_keep_Src_Text : keep_Src_Text.sh.X → Option keep_Src_Text.osh.X) (x : (((List Int) × Unit) × (Unit))) : (bodyO (law04_made.E g_keep_New g_keep_Src_Pick g_keep_Src_Range g_keep_Src_N g_keep_Src_Text) (mk law04_made.hs law04_made.c []) Go.Proofs.Tryd.f10.results.toList law04_made.sh law04_made.osh x).run _ some = law04_made.f g_keep_New g_keep_Src_Pick g_keep_Src_Range g_keep_Src_N g_keep_Src_Text x.1.1 := by
  show _ = (_ : Option _)
  kernel_rfl
noncomputable def law04_made (l : (List Int)) : Option (((Int × Int × Unit) × (ByteArray × Int × Int × Int × Unit) × Unit) × (Unit)) := law04_made.f keep_New.F keep_Src_Pick.F keep_Src_Range.F keep_Src_N.F keep_Src_Text.F l
noncomputable def law04_made.F (x : (((List Int) × Unit) × (Unit))) : Option (((Int × Int × Unit) × (ByteArray × Int × Int × Int × Unit) × Unit) × (Unit)) := law04_made x.1.1
theorem law04_made.F_eq (l : (List Int)) : law04_made.F ((l, ()), ()) = law04_made.f keep_New.F keep_Src_Pick.F keep_Src_Range.F keep_Src_N.F keep_Src_Text.F l := rfl
theorem law04_made.ok {tabs : List (Nat × Go.Obj)} (ht : TabsOk tabs) : FOK Go.Proofs.Tryd.prog tabs 10 (FE.of [true] false law04_made.sh law04_made.osh law04_made.F) := by
  refine fn_keeps (E := (law04_made.E keep_New.F keep_Src_Pick.F keep_Src_Range.F keep_Src_N.F keep_Src_Text.F)) (c := law04_made.c) (fn := Go.Proofs.Tryd.f10) (hs := law04_made.hs) (by kernel_rfl) Go.Proofs.Tryd.func10 ⟨by kernel_rfl, by kernel_rfl, tb, by kernel_rfl, by kernel_rfl, by kernel_rfl, by kernel_rfl, by kernel_rfl⟩ ⟨fun g ks fe h => ?_, gt_ok ht⟩ ?_ (fun x => law04_made.eq keep_New.F keep_Src_Pick.F keep_Src_Range.F keep_Src_N.F keep_Src_Text.F x)
  · rcases c_cons h with ⟨rfl, rfl⟩ | h
    · exact keep_New.ok ht
    rcases c_cons h with ⟨rfl, rfl⟩ | h
    · exact keep_Src_Pick.ok ht
    rcases c_cons h with ⟨rfl, rfl⟩ | h
    · exact keep_Src_Range.ok ht
    rcases c_cons h with ⟨rfl, rfl⟩ | h
    · exact keep_Src_N.ok ht
    rcases c_cons h with ⟨rfl, rfl⟩ | h
    · exact keep_Src_Text.ok ht
    cases h
  · exact known_at 0 (by kernel_rfl) fun i hi => absurd hi (Nat.not_lt_zero i)

/-! strconv_Itoa -/
noncomputable def strconv_Itoa.F (x : ((Int × Unit) × (Unit))) : Option ((ByteArray × Unit) × (Unit)) := bif decide (-9223372036854775808 ≤ x.1.1 ∧ x.1.1 ≤ 9223372036854775807) then some ((⟨(Go.Lib.itoa x.1.1).toArray⟩, ()), ()) else none
theorem strconv_Itoa.F_eq (n : Int) : strconv_Itoa.F ((n, ()), ()) = bif decide (-9223372036854775808 ≤ n ∧ n ≤ 9223372036854775807) then some ((⟨(Go.Lib.itoa n).toArray⟩, ()), ()) else none := rfl
theorem strconv_Itoa.ok {tabs : List (Nat × Go.Obj)} (ht : TabsOk tabs) : FOK Go.Proofs.Tryd.prog tabs 33 (FE.of [true] false strconv_Itoa.sh strconv_Itoa.osh strconv_Itoa.F) := by
  refine fok_shelf Go.Proofs.Tryd.func33 (c := strconv_Itoa.c) (by kernel_rfl) (by kernel_rfl) rfl rfl fun x y h => ?_
  unfold strconv_Itoa.F at h
  by_cases c : -9223372036854775808 ≤ x.1.1 ∧ x.1.1 ≤ 9223372036854775807
  · rw [decide_eq_true c] at h
    cases h
    refine ⟨_, _, rfl, rfl, fun w hw => (Go.Proofs.Tryd.strconv_Itoa x.1.1 c.1 c.2 w (Go.VI.tabIs_of (by kernel_rfl) (by unfold TabsOk at ht; first | exact ht.1 | exact ht.2.1 | exact ht.2.2.1) hw)).mono fun e w' h => ?_⟩
    obtain ⟨h1, k, os, h2⟩ := h
    subst h2
    exact ⟨h1, rfl, rfl, rfl, by simp [Go.Sort.grow, Go.World.drewN], fun b hb => by simp only [Go.Sort.grow]; exact Array.getElem?_append_left hb⟩
  · rw [decide_eq_false c] at h
    cases h


/-! strings_Repeat -/
noncomputable def strings_Repeat.F (x : ((ByteArray × Int × Unit) × (Unit))) : Option ((ByteArray × Unit) × (Unit)) := bif decide (0 ≤ x.1.2.1 ∧ x.1.2.1 ≤ 9223372036854775807 ∧ x.1.1.size * x.1.2.1.toNat ≤ 140737488355328) then some ((⟨(Go.Lib.repeatL x.1.1.data.toList x.1.2.1.toNat).toArray⟩, ()), ()) else none
theorem strings_Repeat.F_eq (s : ByteArray) (c : Int) : strings_Repeat.F ((s, (c, ())), ()) = bif decide (0 ≤ c ∧ c ≤ 9223372036854775807 ∧ s.size * c.toNat ≤ 140737488355328) then some ((⟨(Go.Lib.repeatL s.data.toList c.toNat).toArray⟩, ()), ()) else none := rfl
theorem strings_Repeat.ok {tabs : List (Nat × Go.Obj)} (ht : TabsOk tabs) : FOK Go.Proofs.Tryd.prog tabs 34 (FE.of [true, true] false strings_Repeat.sh strings_Repeat.osh strings_Repeat.F) := by
  refine fok_shelf Go.Proofs.Tryd.func34 (c := strings_Repeat.c) (by kernel_rfl) (by kernel_rfl) rfl rfl fun x y h => ?_
  unfold strings_Repeat.F at h
  by_cases c : 0 ≤ x.1.2.1 ∧ x.1.2.1 ≤ 9223372036854775807 ∧ x.1.1.size * x.1.2.1.toNat ≤ 140737488355328
  · rw [decide_eq_true c] at h
    cases h
    have hc : ((x.1.2.1.toNat : Nat) : Int) = x.1.2.1 := Int.toNat_of_nonneg c.1
    refine ⟨_, _, rfl, rfl, fun w hw => ?_⟩
    have := Go.Proofs.Tryd.strings_Repeat x.1.1 x.1.2.1.toNat w (Int.ofNat_le.1 (by rw [hc]; exact c.2.1)) c.2.2
    rw [hc] at this
    exact this
  · rw [decide_eq_false c] at h
    cases h


/-! unit_Format -/
def unit_Format.f (g_unit_proper : (((Int × Int × Unit) × Unit) × (Unit)) → Option ((Bool × Unit) × (Unit))) (g_strconv_Itoa : ((Int × Unit) × (Unit)) → Option ((ByteArray × Unit) × (Unit))) (g_strings_CutPrefix : ((ByteArray × ByteArray × Unit) × (Unit)) → Option ((ByteArray × Bool × Unit) × (Unit))) (g_strings_Repeat : ((ByteArray × Int × Unit) × (Unit)) → Option ((ByteArray × Unit) × (Unit))) (d_Digits : Int) (d_Places : Int) : Option ((ByteArray × Unit) × (Unit)) :=
  (Option.bind (g_unit_proper (((d_Digits, (d_Places, ())), ()), ())) (fun y0 =>
  (bif (!y0.1.1) then
   (some (((ByteArray.mk #[]), ()), ()))
  else
   (Option.bind (g_strconv_Itoa ((d_Digits, ()), ())) (fun y2 =>
   (Option.bind (g_strings_CutPrefix ((y2.1.1, ((ByteArray.mk #[(45:UInt8)]), ())), ())) (fun y3 =>
   (bif (decide ((Go.IntKind.wrap Go.IntKind.i64 ((Go.IntKind.wrap Go.IntKind.i64 (d_Places + (1:Int))) - (((ByteArray.size y3.1.1) : Nat) : Int))) > (0:Int))) then
    (Option.bind (g_strings_Repeat (((ByteArray.mk #[(48:UInt8)]), ((Go.IntKind.wrap Go.IntKind.i64 ((Go.IntKind.wrap Go.IntKind.i64 (d_Places + (1:Int))) - (((ByteArray.size y3.1.1) : Nat) : Int))), ())), ())) (fun y5 =>
    (bif (decide (((ByteArray.size y5.1.1) + (ByteArray.size y3.1.1)) ≤ (9223372036854775807:Nat))) then
     (bif (decide (d_Places > (0:Int))) then
      (bif (decide ((0:Int) ≤ (Go.IntKind.wrap Go.IntKind.i64 ((((ByteArray.size (y5.1.1 ++ y3.1.1)) : Nat) : Int) - d_Places)))) then
       (bif (decide ((Go.IntKind.wrap Go.IntKind.i64 ((((ByteArray.size (y5.1.1 ++ y3.1.1)) : Nat) : Int) - d_Places)) ≤ (((ByteArray.size (y5.1.1 ++ y3.1.1)) : Nat) : Int))) then
        (bif (decide (((ByteArray.size (ByteArray.extract (y5.1.1 ++ y3.1.1) (Int.toNat (0:Int)) (Int.toNat (Go.IntKind.wrap Go.IntKind.i64 ((((ByteArray.size (y5.1.1 ++ y3.1.1)) : Nat) : Int) - d_Places))))) + (ByteArray.size (ByteArray.mk #[(46:UInt8)]))) ≤ (9223372036854775807:Nat))) then
         (bif (decide ((0:Int) ≤ (Go.IntKind.wrap Go.IntKind.i64 ((((ByteArray.size (y5.1.1 ++ y3.1.1)) : Nat) : Int) - d_Places)))) then
          (bif (decide ((Go.IntKind.wrap Go.IntKind.i64 ((((ByteArray.size (y5.1.1 ++ y3.1.1)) : Nat) : Int) - d_Places)) ≤ (((ByteArray.size (y5.1.1 ++ y3.1.1)) : Nat) : Int))) then
           (bif (decide (((ByteArray.size ((ByteArray.extract (y5.1.1 ++ y3.1.1) (Int.toNat (0:Int)) (Int.toNat (Go.IntKind.wrap Go.IntKind.i64 ((((ByteArray.size (y5.1.1 ++ y3.1.1)) : Nat) : Int) - d_Places)))) ++ (ByteArray.mk #[(46:UInt8)]))) + (ByteArray.size (ByteArray.extract (y5.1.1 ++ y3.1.1) (Int.toNat (Go.IntKind.wrap Go.IntKind.i64 ((((ByteArray.size (y5.1.1 ++ y3.1.1)) : Nat) : Int) - d_Places))) (Int.toNat (((ByteArray.size (y5.1.1 ++ y3.1.1)) : Nat) : Int))))) ≤ (9223372036854775807:Nat))) then
            (bif y3.1.2.1 then
             (bif (decide (((ByteArray.size (ByteArray.mk #[(45:UInt8)])) + (ByteArray.size (((ByteArray.extract (y5.1.1 ++ y3.1.1) (Int.toNat (0:Int)) (Int.toNat (Go.IntKind.wrap Go.IntKind.i64 ((((ByteArray.size (y5.1.1 ++ y3.1.1)) : Nat) : Int) - d_Places)))) ++ (ByteArray.mk #[(46:UInt8)])) ++ (ByteArray.extract (y5.1.1 ++ y3.1.1) (Int.toNat (Go.IntKind.wrap Go.IntKind.i64 ((((ByteArray.size (y5.1.1 ++ y3.1.1)) : Nat) : Int) - d_Places))) (Int.toNat (((ByteArray.size (y5.1.1 ++ y3.1.1)) : Nat) : Int)))))) ≤ (9223372036854775807:Nat))) then
              (some ((((ByteArray.mk #[(45:UInt8)]) ++ (((ByteArray.extract (y5.1.1 ++ y3.1.1) (Int.toNat (0:Int)) (Int.toNat (Go.IntKind.wrap Go.IntKind.i64 ((((ByteArray.size (y5.1.1 ++ y3.1.1)) : Nat) : Int) - d_Places)))) ++ (ByteArray.mk #[(46:UInt8)])) ++ (ByteArray.extract (y5.1.1 ++ y3.1.1) (Int.toNat (Go.IntKind.wrap Go.IntKind.i64 ((((ByteArray.size (y5.1.1 ++ y3.1.1)) : Nat) : Int) - d_Places))) (Int.toNat (((ByteArray.size (y5.1.1 ++ y3.1.1)) : Nat) : Int))))), ()), ()))
             else
              none)
            else
             (some (((((ByteArray.extract (y5.1.1 ++ y3.1.1) (Int.toNat (0:Int)) (Int.toNat (Go.IntKind.wrap Go.IntKind.i64 ((((ByteArray.size (y5.1.1 ++ y3.1.1)) : Nat) : Int) - d_Places)))) ++ (ByteArray.mk #[(46:UInt8)])) ++ (ByteArray.extract (y5.1.1 ++ y3.1.1) (Int.toNat (Go.IntKind.wrap Go.IntKind.i64 ((((ByteArray.size (y5.1.1 ++ y3.1.1)) : Nat) : Int) - d_Places))) (Int.toNat (((ByteArray.size (y5.1.1 ++ y3.1.1)) : Nat) : Int)))), ()), ())))
           else
            none)
          else
           none)
         else
          none)
        else
         none)
       else
        none)
      else
       none)
     else
      (bif y3.1.2.1 then
       (bif (decide (((ByteArray.size (ByteArray.mk #[(45:UInt8)])) + (ByteArray.size (y5.1.1 ++ y3.1.1))) ≤ (9223372036854775807:Nat))) then
        (some ((((ByteArray.mk #[(45:UInt8)]) ++ (y5.1.1 ++ y3.1.1)), ()), ()))
       else
        none)
      else
       (some (((y5.1.1 ++ y3.1.1), ()), ()))))
    else
     none)))
   else
    (bif (decide (d_Places > (0:Int))) then
     (bif (decide ((0:Int) ≤ (Go.IntKind.wrap Go.IntKind.i64 ((((ByteArray.size y3.1.1) : Nat) : Int) - d_Places)))) then
      (bif (decide ((Go.IntKind.wrap Go.IntKind.i64 ((((ByteArray.size y3.1.1) : Nat) : Int) - d_Places)) ≤ (((ByteArray.size y3.1.1) : Nat) : Int))) then
       (bif (decide (((ByteArray.size (ByteArray.extract y3.1.1 (Int.toNat (0:Int)) (Int.toNat (Go.IntKind.wrap Go.IntKind.i64 ((((ByteArray.size y3.1.1) : Nat) : Int) - d_Places))))) + (ByteArray.size (ByteArray.mk #[(46:UInt8)]))) ≤ (9223372036854775807:Nat))) then
        (bif (decide ((0:Int) ≤ (Go.IntKind.wrap Go.IntKind.i64 ((((ByteArray.size y3.1.1) : Nat) : Int) - d_Places)))) then
         (bif (decide ((Go.IntKind.wrap Go.IntKind.i64 ((((ByteArray.size y3.1.1) : Nat) : Int) - d_Places)) ≤ (((ByteArray.size y3.1.1) : Nat) : Int))) then
          (bif (decide (((ByteArray.size ((ByteArray.extract y3.1.1 (Int.toNat (0:Int)) (Int.toNat (Go.IntKind.wrap Go.IntKind.i64 ((((ByteArray.size y3.1.1) : Nat) : Int) - d_Places)))) ++ (ByteArray.mk #[(46:UInt8)]))) + (ByteArray.size (ByteArray.extract y3.1.1 (Int.toNat (Go.IntKind.wrap Go.IntKind.i64 ((((ByteArray.size y3.1.1) : Nat) : Int) - d_Places))) (Int.toNat (((ByteArray.size y3.1.1) : Nat) : Int))))) ≤ (9223372036854775807:Nat))) then
           (bif y3.1.2.1 then
            (bif (decide (((ByteArray.size (ByteArray.mk #[(45:UInt8)])) + (ByteArray.size (((ByteArray.extract y3.1.1 (Int.toNat (0:Int)) (Int.toNat (Go.IntKind.wrap Go.IntKind.i64 ((((ByteArray.size y3.1.1) : Nat) : Int) - d_Places)))) ++ (ByteArray.mk #[(46:UInt8)])) ++ (ByteArray.extract y3.1.1 (Int.toNat (Go.IntKind.wrap Go.IntKind.i64 ((((ByteArray.size y3.1.1) : Nat) : Int) - d_Places))) (Int.toNat (((ByteArray.size y3.1.1) : Nat) : Int)))))) ≤ (9223372036854775807:Nat))) then
             (some ((((ByteArray.mk #[(45:UInt8)]) ++ (((ByteArray.extract y3.1.1 (Int.toNat (0:Int)) (Int.toNat (Go.IntKind.wrap Go.IntKind.i64 ((((ByteArray.size y3.1.1) : Nat) : Int) - d_Places)))) ++ (ByteArray.mk #[(46:UInt8)])) ++ (ByteArray.extract y3.1.1 (Int.toNat (Go.IntKind.wrap Go.IntKind.i64 ((((ByteArray.size y3.1.1) : Nat) : Int) - d_Places))) (Int.toNat (((ByteArray.size y3.1.1) : Nat) : Int))))), ()), ()))
            else
             none)
           else
            (some (((((ByteArray.extract y3.1.1 (Int.toNat (0:Int)) (Int.toNat (Go.IntKind.wrap Go.IntKind.i64 ((((ByteArray.size y3.1.1) : Nat) : Int) - d_Places)))) ++ (ByteArray.mk #[(46:UInt8)])) ++ (ByteArray.extract y3.1.1 (Int.toNat (Go.IntKind.wrap Go.IntKind.i64 ((((ByteArray.size y3.1.1) : Nat) : Int) - d_Places))) (Int.toNat (((ByteArray.size y3.1.1) : Nat) : Int)))), ()), ())))
          else
           none)
         else
          none)
        else
         none)
       else
        none)
      else
       none)
     else
      none)
    else
     (bif y3.1.2.1 then
      (bif (decide (((ByteArray.size (ByteArray.mk #[(45:UInt8)])) + (ByteArray.size y3.1.1)) ≤ (9223372036854775807:Nat))) then
       (some ((((ByteArray.mk #[(45:UInt8)]) ++ y3.1.1), ()), ()))
      else
       none)
     else
      (some ((y3.1.1, ()), ()))))))))))))
theorem unit_Format.eq (g_unit_proper : unit_proper.sh.X → Option unit_proper.osh.X) (g_strconv_Itoa : strconv_Itoa.sh.X → Option strconv_Itoa.osh.X) (g_strings_CutPrefix : strings_CutPrefix.sh.X → Option strings_CutPrefix.osh.X) (g_strings_Repeat : strings_Repeat.sh.X → Option strings_Repeat.osh.X) (x : (((Int × Int × Unit) × Unit) × (Unit))) : (bodyO (unit_Format.E g_unit_proper g_strconv_Itoa g_strings_CutPrefix g_strings_Repeat) (mk unit_Format.hs unit_Format.c []) Go.Proofs.Tryd.f15.results.toList unit_Format.sh unit_Format.osh x).run _ some = unit_Format.f g_unit_proper g_strconv_Itoa g_strings_CutPrefix g_strings_Repeat x.1.1.1 x.1.1.2.1 := by
  show _ = (_ : Option _)
  kernel_rfl
noncomputable def unit_Format (d_Digits : Int) (d_Places : Int) : Option ((ByteArray × Unit) × (Unit)) := unit_Format.f unit_proper.F strconv_Itoa.F strings_CutPrefix.F strings_Repeat.F d_Digits d_Places
noncomputable def unit_Format.F (x : (((Int × Int × Unit) × Unit) × (Unit))) : Option ((ByteArray × Unit) × (Unit)) := unit_Format x.1.1.1 x.1.1.2.1
theorem unit_Format.F_eq (d_Digits : Int) (d_Places : Int) : unit_Format.F (((d_Digits, d_Places, ()), ()), ()) = unit_Format.f unit_proper.F strconv_Itoa.F strings_CutPrefix.F strings_Repeat.F d_Digits d_Places := rfl
theorem unit_Format.ok {tabs : List (Nat × Go.Obj)} (ht : TabsOk tabs) : FOK Go.Proofs.Tryd.prog tabs 15 (FE.of [true] false unit_Format.sh unit_Format.osh unit_Format.F) := by
  refine fn_keeps (E := (unit_Format.E unit_proper.F strconv_Itoa.F strings_CutPrefix.F strings_Repeat.F)) (c := unit_Format.c) (fn := Go.Proofs.Tryd.f15) (hs := unit_Format.hs) (by kernel_rfl) Go.Proofs.Tryd.func15 ⟨by kernel_rfl, by kernel_rfl, tb, by kernel_rfl, by kernel_rfl, by kernel_rfl, by kernel_rfl, by kernel_rfl⟩ ⟨fun g ks fe h => ?_, gt_ok ht⟩ ?_ (fun x => unit_Format.eq unit_proper.F strconv_Itoa.F strings_CutPrefix.F strings_Repeat.F x)
  · rcases c_cons h with ⟨rfl, rfl⟩ | h
    · exact unit_proper.ok ht
    rcases c_cons h with ⟨rfl, rfl⟩ | h
    · exact strconv_Itoa.ok ht
    rcases c_cons h with ⟨rfl, rfl⟩ | h
    · exact strings_CutPrefix.ok ht
    rcases c_cons h with ⟨rfl, rfl⟩ | h
    · exact strings_Repeat.ok ht
    cases h
  · exact known_at 0 (by kernel_rfl) fun i hi => absurd hi (Nat.not_lt_zero i)
end Go.Proofs.YthbphpmiandmbaaDoor.V
