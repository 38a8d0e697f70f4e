import Derived.Test.YthbphpmiandmbaaDoorVg1
import Derived.Test.YthbphpmiandmbaaDoorShelf
set_option linter.unusedVariables false
set_option maxRecDepth 100000
namespace Go.Proofs.YthbphpmiandmbaaDoor.V
open Go.VI
/-! law04_UnitWholes -/
def law04_UnitWholes.f0 (k_5 : Int) (m_6 : Int) (v_7 : Int) (e_8 : Int) (half_9 : Int) (f_10 : Int) (w_11 : Int) (g_12 : Int) : Option (((Int × Int × Int × Int × Bool × Unit) × (Unit)) ⊕ Empty) :=
  (bif (e_8 != (0:Int)) then
   (some (Sum.inl ((k_5, (m_6, (w_11, (g_12, (Bool.true, ()))))), ())))
  else
   (bif (v_7 != k_5) then
    (some (Sum.inl ((k_5, (m_6, (w_11, (g_12, (Bool.true, ()))))), ())))
   else
    (bif (decide (k_5 < (1000:Int))) then
     (bif (f_10 != (0:Int)) then
      (some (Sum.inl ((k_5, (m_6, (w_11, (g_12, (Bool.true, ()))))), ())))
     else
      (some (Sum.inl ((k_5, (m_6, (w_11, (g_12, ((half_9 != (Go.IntKind.wrap Go.IntKind.i64 (k_5 + (1:Int)))), ()))))), ()))))
    else
     (some (Sum.inl ((k_5, (m_6, (w_11, (g_12, (Bool.false, ()))))), ()))))))
theorem law04_UnitWholes.eq0 (g_law04_raw : law04_raw.sh.X → Option law04_raw.osh.X) (g_unit_Convert : unit_Convert.sh.X → Option unit_Convert.osh.X) (g_law04_awake : law04_awake.sh.X → Option law04_awake.osh.X) (l0 : law04_UnitWholes.s0.X → Option (sumX law04_UnitWholes.x0)) (l1 : law04_UnitWholes.s1.X → Option (sumX law04_UnitWholes.x1)) (l2 : law04_UnitWholes.s2.X → Option (sumX law04_UnitWholes.x2)) (L : ((Int × Int × Int × Int × Int × Int × Int × Int × Unit) × (Unit)) → Option (((Int × Int × Int × Int × Bool × Unit) × (Unit)) ⊕ Empty)) (x : ((Int × Int × Int × Int × Int × Int × Int × Int × Unit) × (Unit))) : (roundK (law04_UnitWholes.E g_law04_raw g_unit_Convert g_law04_awake l0 l1 l2) law04_UnitWholes.s0 [5, 6, 7, 8, 9, 10, 11, 12] [(0, [5, 6, 11, 12, 63])] false (((mk law04_UnitWholes.hs law04_UnitWholes.c []).atoms.getD 0 .bad).body) law04_UnitWholes.x0 L x).run _ some = law04_UnitWholes.f0 x.1.1 x.1.2.1 x.1.2.2.1 x.1.2.2.2.1 x.1.2.2.2.2.1 x.1.2.2.2.2.2.1 x.1.2.2.2.2.2.2.1 x.1.2.2.2.2.2.2.2.1 := by
  show _ = (_ : Option _)
  kernel_rfl
noncomputable def law04_UnitWholes.L0 : ((Int × Int × Int × Int × Int × Int × Int × Int × Unit) × (Unit)) → Option (((Int × Int × Int × Int × Bool × Unit) × (Unit)) ⊕ Empty) := fun x => law04_UnitWholes.f0 x.1.1 x.1.2.1 x.1.2.2.1 x.1.2.2.2.1 x.1.2.2.2.2.1 x.1.2.2.2.2.2.1 x.1.2.2.2.2.2.2.1 x.1.2.2.2.2.2.2.2.1
def law04_UnitWholes.f1 (k_5 : Int) (m_6 : Int) (w_11 : Int) (g_12 : Int) : Option (((Int × Int × Int × Int × Bool × Unit) × (Unit)) ⊕ Empty) :=
  (bif (decide ((Go.IntKind.wrap Go.IntKind.i64 (k_5 + m_6)) > (1000:Int))) then
   (some (Sum.inl ((k_5, (m_6, (w_11, (g_12, (Bool.true, ()))))), ())))
  else
   (some (Sum.inl ((k_5, (m_6, (w_11, (g_12, ((decide ((Go.IntKind.wrap Go.IntKind.i64 (k_5 + m_6)) < (-(1000:Int)))), ()))))), ()))))
theorem law04_UnitWholes.eq1 (g_law04_raw : law04_raw.sh.X → Option law04_raw.osh.X) (g_unit_Convert : unit_Convert.sh.X → Option unit_Convert.osh.X) (g_law04_awake : law04_awake.sh.X → Option law04_awake.osh.X) (l0 : law04_UnitWholes.s0.X → Option (sumX law04_UnitWholes.x0)) (l1 : law04_UnitWholes.s1.X → Option (sumX law04_UnitWholes.x1)) (l2 : law04_UnitWholes.s2.X → Option (sumX law04_UnitWholes.x2)) (L : ((Int × Int × Int × Int × Unit) × (Unit)) → Option (((Int × Int × Int × Int × Bool × Unit) × (Unit)) ⊕ Empty)) (x : ((Int × Int × Int × Int × Unit) × (Unit))) : (roundK (law04_UnitWholes.E g_law04_raw g_unit_Convert g_law04_awake l0 l1 l2) law04_UnitWholes.s1 [5, 6, 11, 12] [(0, [5, 6, 11, 12, 73])] false (((mk law04_UnitWholes.hs law04_UnitWholes.c []).atoms.getD 1 .bad).body) law04_UnitWholes.x1 L x).run _ some = law04_UnitWholes.f1 x.1.1 x.1.2.1 x.1.2.2.1 x.1.2.2.2.1 := by
  show _ = (_ : Option _)
  kernel_rfl
noncomputable def law04_UnitWholes.L1 : ((Int × Int × Int × Int × Unit) × (Unit)) → Option (((Int × Int × Int × Int × Bool × Unit) × (Unit)) ⊕ Empty) := fun x => law04_UnitWholes.f1 x.1.1 x.1.2.1 x.1.2.2.1 x.1.2.2.2.1
def law04_UnitWholes.f2 (g_law04_awake : ((Unit) × (Unit)) → Option ((Bool × Unit) × (Unit))) (g_12 : Int) : Option (((Bool × Unit) × (Unit)) ⊕ Empty) :=
  (bif (g_12 == (12:Int)) then
   (Option.bind (g_law04_awake ((), ())) (fun y1 =>
   (some (Sum.inl ((y1.1.1, ()), ())))))
  else
   (some (Sum.inl ((Bool.false, ()), ()))))
theorem law04_UnitWholes.eq2 (g_law04_raw : law04_raw.sh.X → Option law04_raw.osh.X) (g_unit_Convert : unit_Convert.sh.X → Option unit_Convert.osh.X) (g_law04_awake : law04_awake.sh.X → Option law04_awake.osh.X) (l0 : law04_UnitWholes.s0.X → Option (sumX law04_UnitWholes.x0)) (l1 : law04_UnitWholes.s1.X → Option (sumX law04_UnitWholes.x1)) (l2 : law04_UnitWholes.s2.X → Option (sumX law04_UnitWholes.x2)) (L : ((Int × Unit) × (Unit)) → Option (((Bool × Unit) × (Unit)) ⊕ Empty)) (x : ((Int × Unit) × (Unit))) : (roundK (law04_UnitWholes.E g_law04_raw g_unit_Convert g_law04_awake l0 l1 l2) law04_UnitWholes.s2 [12] [(0, [4])] false (((mk law04_UnitWholes.hs law04_UnitWholes.c []).atoms.getD 2 .bad).body) law04_UnitWholes.x2 L x).run _ some = law04_UnitWholes.f2 g_law04_awake x.1.1 := by
  show _ = (_ : Option _)
  kernel_rfl
noncomputable def law04_UnitWholes.L2 : ((Int × Unit) × (Unit)) → Option (((Bool × Unit) × (Unit)) ⊕ Empty) := fun x => law04_UnitWholes.f2 law04_awake.F x.1.1
def law04_UnitWholes.f (g_law04_raw : ((Unit) × (Unit)) → Option (((ByteArray × Int × Int × Int × Unit) × Unit) × (Unit))) (g_unit_Convert : (((Int × Int × Unit) × (ByteArray × Int × Int × Int × Unit) × Unit) × (Unit)) → Option ((Int × Int × Unit) × (Unit))) (g_law04_awake : ((Unit) × (Unit)) → Option ((Bool × Unit) × (Unit))) (l0 : ((Int × Int × Int × Int × Int × Int × Int × Int × Unit) × (Unit)) → Option (((Int × Int × Int × Int × Bool × Unit) × (Unit)) ⊕ Empty)) (l1 : ((Int × Int × Int × Int × Unit) × (Unit)) → Option (((Int × Int × Int × Int × Bool × Unit) × (Unit)) ⊕ Empty)) (l2 : ((Int × Unit) × (Unit)) → Option (((Bool × Unit) × (Unit)) ⊕ Empty)) (n : Int) (by_ : Int) : Option ((Bool × Unit) × (Unit)) :=
  (Option.bind (g_law04_raw ((), ())) (fun y0 =>
  (Option.bind (g_unit_Convert ((((Int.tmod (Go.IntKind.wrap Go.IntKind.i64 n) (1001:Int)), ((0:Int), ())), ((y0.1.1.1, (y0.1.1.2.1, (y0.1.1.2.2.1, (y0.1.1.2.2.2.1, ())))), ())), ())) (fun y1 =>
  (Option.bind (g_law04_raw ((), ())) (fun y2 =>
  (Option.bind (g_unit_Convert ((((Go.IntKind.wrap Go.IntKind.i64 ((Go.IntKind.wrap Go.IntKind.i64 ((10:Int) * (Int.tmod (Go.IntKind.wrap Go.IntKind.i64 n) (1001:Int)))) + (5:Int))), ((1:Int), ())), ((y2.1.1.1, (y2.1.1.2.1, (y2.1.1.2.2.1, (y2.1.1.2.2.2.1, ())))), ())), ())) (fun y3 =>
  (Option.bind (g_unit_Convert ((((Int.tmod (Go.IntKind.wrap Go.IntKind.i64 n) (1001:Int)), ((0:Int), ())), (((ByteArray.mk #[(97:UInt8)]), ((1:Int), ((Int.tmod (Go.IntKind.wrap Go.IntKind.i64 by_) (500:Int)), ((1:Int), ())))), ())), ())) (fun y4 =>
  (Option.bind (l0 (((Int.tmod (Go.IntKind.wrap Go.IntKind.i64 n) (1001:Int)), ((Int.tmod (Go.IntKind.wrap Go.IntKind.i64 by_) (500:Int)), (y1.1.1, (y1.1.2.1, (y3.1.1, (y3.1.2.1, (y4.1.1, (y4.1.2.1, ())))))))), ())) (fun y5 =>
  (Sum.elim (fun a6 =>
   (bif a6.1.2.2.2.2.1 then
    (some ((Bool.false, ()), ()))
   else
    (Option.bind (l1 ((a6.1.1, (a6.1.2.1, (a6.1.2.2.1, (a6.1.2.2.2.1, ())))), ())) (fun y8 =>
    (Sum.elim (fun a9 =>
     (bif a9.1.2.2.2.2.1 then
      (Option.bind (l2 ((a9.1.2.2.2.1, ()), ())) (fun y11 =>
      (Sum.elim (fun a12 =>
       (some ((a12.1.1, ()), ()))) (fun b12 =>
       (Empty.elim b12)) y11)))
     else
      (bif (a9.1.2.2.2.1 == (0:Int)) then
       (bif (a9.1.2.2.1 == (Go.IntKind.wrap Go.IntKind.i64 (a9.1.1 + a9.1.2.1))) then
        (Option.bind (g_law04_awake ((), ())) (fun y13 =>
        (some ((y13.1.1, ()), ()))))
       else
        (some ((Bool.false, ()), ())))
      else
       (some ((Bool.false, ()), ()))))) (fun b9 =>
     (Empty.elim b9)) y8))))) (fun b6 =>
   (Empty.elim b6)) y5)))))))))))))
theorem law04_UnitWholes.eq (g_law04_raw : law04_raw.sh.X → Option law04_raw.osh.X) (g_unit_Convert : unit_Convert.sh.X → Option unit_Convert.osh.X) (g_law04_awake : law04_awake.sh.X → Option law04_awake.osh.X) (l0 : law04_UnitWholes.s0.X → Option (sumX law04_UnitWholes.x0)) (l1 : law04_UnitWholes.s1.X → Option (sumX law04_UnitWholes.x1)) (l2 : law04_UnitWholes.s2.X → Option (sumX law04_UnitWholes.x2)) (x : ((Int × Int × Unit) × (Unit))) : (bodyO (law04_UnitWholes.E g_law04_raw g_unit_Convert g_law04_awake l0 l1 l2) (mk law04_UnitWholes.hs law04_UnitWholes.c []) Go.Proofs.Tryd.f5.results.toList law04_UnitWholes.sh law04_UnitWholes.osh x).run _ some = law04_UnitWholes.f g_law04_raw g_unit_Convert g_law04_awake l0 l1 l2 x.1.1 x.1.2.1 := by
  show _ = (_ : Option _)
  kernel_rfl
noncomputable def law04_UnitWholes (n : Int) (by_ : Int) : Option ((Bool × Unit) × (Unit)) := law04_UnitWholes.f law04_raw.F unit_Convert.F law04_awake.F law04_UnitWholes.L0 law04_UnitWholes.L1 law04_UnitWholes.L2 n by_
noncomputable def law04_UnitWholes.F (x : ((Int × Int × Unit) × (Unit))) : Option ((Bool × Unit) × (Unit)) := law04_UnitWholes x.1.1 x.1.2.1
theorem law04_UnitWholes.L0_eq (k_5 : Int) (m_6 : Int) (v_7 : Int) (e_8 : Int) (half_9 : Int) (f_10 : Int) (w_11 : Int) (g_12 : Int) : law04_UnitWholes.L0 ((k_5, m_6, v_7, e_8, half_9, f_10, w_11, g_12, ()), ()) = law04_UnitWholes.f0 k_5 m_6 v_7 e_8 half_9 f_10 w_11 g_12 := rfl
theorem law04_UnitWholes.L1_eq (k_5 : Int) (m_6 : Int) (w_11 : Int) (g_12 : Int) : law04_UnitWholes.L1 ((k_5, m_6, w_11, g_12, ()), ()) = law04_UnitWholes.f1 k_5 m_6 w_11 g_12 := rfl
theorem law04_UnitWholes.L2_eq (g_12 : Int) : law04_UnitWholes.L2 ((g_12, ()), ()) = law04_UnitWholes.f2 law04_awake.F g_12 := rfl
theorem law04_UnitWholes.F_eq (n : Int) (by_ : Int) : law04_UnitWholes.F ((n, by_, ()), ()) = law04_UnitWholes.f law04_raw.F unit_Convert.F law04_awake.F law04_UnitWholes.L0 law04_UnitWholes.L1 law04_UnitWholes.L2 n by_ := rfl
theorem law04_UnitWholes.ok {tabs : List (Nat × Go.Obj)} (ht : TabsOk tabs) : FOK Go.Proofs.Tryd.prog tabs 5 (FE.of [true, true] false law04_UnitWholes.sh law04_UnitWholes.osh law04_UnitWholes.F) := by
  refine fn_keeps (E := (law04_UnitWholes.E law04_raw.F unit_Convert.F law04_awake.F law04_UnitWholes.L0 law04_UnitWholes.L1 law04_UnitWholes.L2)) (c := law04_UnitWholes.c) (fn := Go.Proofs.Tryd.f5) (hs := law04_UnitWholes.hs) (by kernel_rfl) Go.Proofs.Tryd.func5 ⟨by kernel_rfl, by kernel_rfl, tb, by kernel_rfl, by kernel_rfl, by kernel_rfl, by kernel_rfl, by kernel_rfl⟩ ⟨fun g ks fe h => ?_, gt_ok ht⟩ ?_ (fun x => law04_UnitWholes.eq law04_raw.F unit_Convert.F law04_awake.F law04_UnitWholes.L0 law04_UnitWholes.L1 law04_UnitWholes.L2 x)
  · rcases c_cons h with ⟨rfl, rfl⟩ | h
    · exact law04_raw.ok ht
    rcases c_cons h with ⟨rfl, rfl⟩ | h
    · exact unit_Convert.ok ht
    rcases c_cons h with ⟨rfl, rfl⟩ | h
    · exact law04_awake.ok ht
    cases h
  · refine known_at 3 (by kernel_rfl) fun i hi => ?_
    match i, hi with
    | 0, _ => exact atom_at (id := 0) (live := [5, 6, 7, 8, 9, 10, 11, 12]) (outs := [(0, [5, 6, 11, 12, 63])]) (loop := false) (by kernel_rfl) (cut_ok (E := (law04_UnitWholes.E law04_raw.F unit_Convert.F law04_awake.F law04_UnitWholes.L0 law04_UnitWholes.L1 law04_UnitWholes.L2)) (sh := law04_UnitWholes.s0) (es := law04_UnitWholes.x0) rfl (fun L x => law04_UnitWholes.eq0 law04_raw.F unit_Convert.F law04_awake.F law04_UnitWholes.L0 law04_UnitWholes.L1 law04_UnitWholes.L2 L x))
    | 1, _ => exact atom_at (id := 1) (live := [5, 6, 11, 12]) (outs := [(0, [5, 6, 11, 12, 73])]) (loop := false) (by kernel_rfl) (cut_ok (E := (law04_UnitWholes.E law04_raw.F unit_Convert.F law04_awake.F law04_UnitWholes.L0 law04_UnitWholes.L1 law04_UnitWholes.L2)) (sh := law04_UnitWholes.s1) (es := law04_UnitWholes.x1) rfl (fun L x => law04_UnitWholes.eq1 law04_raw.F unit_Convert.F law04_awake.F law04_UnitWholes.L0 law04_UnitWholes.L1 law04_UnitWholes.L2 L x))
    | 2, _ => exact atom_at (id := 2) (live := [12]) (outs := [(0, [4])]) (loop := false) (by kernel_rfl) (cut_ok (E := (law04_UnitWholes.E law04_raw.F unit_Convert.F law04_awake.F law04_UnitWholes.L0 law04_UnitWholes.L1 law04_UnitWholes.L2)) (sh := law04_UnitWholes.s2) (es := law04_UnitWholes.x2) rfl (fun L x => law04_UnitWholes.eq2 law04_raw.F unit_Convert.F law04_awake.F law04_UnitWholes.L0 law04_UnitWholes.L1 law04_UnitWholes.L2 L x))
    | n + 3, h => exact absurd h (by omega)
end Go.Proofs.YthbphpmiandmbaaDoor.V
