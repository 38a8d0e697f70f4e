import Derived.Test.YtadniiehehiblaaDoorVg0
import Derived.Test.YtadniiehehiblaaDoorShelf
import Derived.WalkKit
set_option linter.unusedVariables false
set_option maxRecDepth 100000
namespace Go.Proofs.YtadniiehehiblaaDoor.V
open Go.VI
/-! keep_Src_Suited -/
def keep_Src_Suited.f0 (x_6 : (List Int)) (o0_0 : (List Int)) (o0_1 : Int) (o1_0 : Int) (o1_1 : Int) (o1_2 : Int) (o2 : List Int) : Option (((Unit × Unit × (List Int) × Unit × Bool × Unit) × (((List Int) × Int × Unit) × (Int × Int × Int × Unit) × (List Int) × Unit)) ⊕ Empty) :=
  (bif (o1_0 == (5:Int)) then
   (some (Sum.inl (((), ((), (x_6, ((), (Bool.true, ()))))), ((o0_0, (o0_1, ())), ((o1_0, (o1_1, (o1_2, ()))), (o2, ()))))))
  else
   (some (Sum.inl (((), ((), (x_6, ((), ((o1_0 == (4:Int)), ()))))), ((o0_0, (o0_1, ())), ((o1_0, (o1_1, (o1_2, ()))), (o2, ())))))))
theorem keep_Src_Suited.eq0 (g_keep_Src_Pair : keep_Src_Pair.sh.X → Option keep_Src_Pair.osh.X) (g_keep_Src_N : keep_Src_N.sh.X → Option keep_Src_N.osh.X) (g_keep_Src_Range : keep_Src_Range.sh.X → Option keep_Src_Range.osh.X) (l0 : keep_Src_Suited.s0.X → Option (sumX keep_Src_Suited.x0)) (L : ((Unit × Unit × (List Int) × Unit × Unit) × (((List Int) × Int × Unit) × (Int × Int × Int × Unit) × (List Int) × Unit)) → Option (((Unit × Unit × (List Int) × Unit × Bool × Unit) × (((List Int) × Int × Unit) × (Int × Int × Int × Unit) × (List Int) × Unit)) ⊕ Empty)) (x : ((Unit × Unit × (List Int) × Unit × Unit) × (((List Int) × Int × Unit) × (Int × Int × Int × Unit) × (List Int) × Unit))) : (roundK (keep_Src_Suited.E g_keep_Src_Pair g_keep_Src_N g_keep_Src_Range l0) keep_Src_Suited.s0 [0, 3, 6, 7] [(0, [0, 3, 6, 7, 20])] false (((mk keep_Src_Suited.hs keep_Src_Suited.c []).atoms.getD 0 .bad).body) keep_Src_Suited.x0 L x).run _ some = keep_Src_Suited.f0 x.1.2.2.1 x.2.1.1 x.2.1.2.1 x.2.2.1.1 x.2.2.1.2.1 x.2.2.1.2.2.1 x.2.2.2.1 := by
  show _ = (_ : Option _)
  kernel_rfl
noncomputable def keep_Src_Suited.L0 : ((Unit × Unit × (List Int) × Unit × Unit) × (((List Int) × Int × Unit) × (Int × Int × Int × Unit) × (List Int) × Unit)) → Option (((Unit × Unit × (List Int) × Unit × Bool × Unit) × (((List Int) × Int × Unit) × (Int × Int × Int × Unit) × (List Int) × Unit)) ⊕ Empty) := fun x => keep_Src_Suited.f0 x.1.2.2.1 x.2.1.1 x.2.1.2.1 x.2.2.1.1 x.2.2.1.2.1 x.2.2.1.2.2.1 x.2.2.2.1
def keep_Src_Suited.f (g_keep_Src_Pair : ((Unit × Unit) × (((List Int) × Int × Unit) × Unit)) → Option (((List Int) × Unit × Unit) × (((List Int) × Int × Unit) × (List Int) × Unit))) (g_keep_Src_N : ((Unit × Int × Unit) × (((List Int) × Int × Unit) × Unit)) → Option ((Int × Unit) × (((List Int) × Int × Unit) × Unit))) (g_keep_Src_Range : ((Unit × Int × Int × Unit) × (((List Int) × Int × Unit) × Unit)) → Option ((Int × Unit) × (((List Int) × Int × Unit) × Unit))) (l0 : ((Unit × Unit × (List Int) × Unit × Unit) × (((List Int) × Int × Unit) × (Int × Int × Int × Unit) × (List Int) × Unit)) → Option (((Unit × Unit × (List Int) × Unit × Bool × Unit) × (((List Int) × Int × Unit) × (Int × Int × Int × Unit) × (List Int) × Unit)) ⊕ Empty)) (m_Kind : Int) (m_Band : Int) (m_Gap : Int) (o0_0 : (List Int)) (o0_1 : Int) : Option (((List Int) × (List Int) × Unit) × (((List Int) × Int × Unit) × Unit)) :=
  (Option.bind (g_keep_Src_Pair (((), ()), ((o0_0, (o0_1, ())), ()))) (fun y0 =>
  (Option.bind (l0 (((), ((), (y0.1.1, ((), ())))), ((y0.2.1.1, (y0.2.1.2.1, ())), ((m_Kind, (m_Band, (m_Gap, ()))), (y0.2.2.1, ()))))) (fun y1 =>
  (Sum.elim (fun a2 =>
   (bif a2.1.2.2.2.2.1 then
    (Option.bind (g_keep_Src_N (((), ((Go.IntKind.wrap Go.IntKind.i64 ((1:Int) + (Go.VI.mn a2.2.2.1.2.1 (4:Int)))), ())), ((a2.2.1.1, (a2.2.1.2.1, ())), ()))) (fun y4 =>
    (bif (decide ((0:Int) ≤ (Go.VI.mx (2:Int) (Go.IntKind.wrap Go.IntKind.i64 ((((List.length a2.2.2.2.1) : Nat) : Int) - y4.1.1))))) then
     (bif (decide ((Go.VI.mx (2:Int) (Go.IntKind.wrap Go.IntKind.i64 ((((List.length a2.2.2.2.1) : Nat) : Int) - y4.1.1))) ≤ (((List.length a2.2.2.2.1) : Nat) : Int))) then
      (bif (a2.2.2.1.1 == (5:Int)) then
       (Option.bind (g_keep_Src_Range (((), ((2:Int), (((((Int.toNat (Go.VI.mx (2:Int) (Go.IntKind.wrap Go.IntKind.i64 ((((List.length a2.2.2.2.1) : Nat) : Int) - y4.1.1)))) - (Int.toNat (0:Int))) : Nat) : Int), ()))), ((y4.2.1.1, (y4.2.1.2.1, ())), ()))) (fun y8 =>
       (bif (decide ((0:Int) ≤ y8.1.1)) then
        (bif (decide (y8.1.1 ≤ ((((Int.toNat (Go.VI.mx (2:Int) (Go.IntKind.wrap Go.IntKind.i64 ((((List.length a2.2.2.2.1) : Nat) : Int) - y4.1.1)))) - (Int.toNat (0:Int))) : Nat) : Int))) then
         (some ((a2.1.2.2.1, ((List.drop ((Int.toNat (0:Int)) + (Int.toNat (0:Int))) (List.take ((Int.toNat (0:Int)) + (Int.toNat y8.1.1)) a2.2.2.2.1)), ())), ((y8.2.1.1, (y8.2.1.2.1, ())), ())))
        else
         none)
       else
        none)))
      else
       (some ((a2.1.2.2.1, ((List.drop (Int.toNat (0:Int)) (List.take (Int.toNat (Go.VI.mx (2:Int) (Go.IntKind.wrap Go.IntKind.i64 ((((List.length a2.2.2.2.1) : Nat) : Int) - y4.1.1)))) a2.2.2.2.1)), ())), ((y4.2.1.1, (y4.2.1.2.1, ())), ()))))
     else
      none)
    else
     none)))
   else
    (some ((a2.1.2.2.1, (a2.2.2.2.1, ())), ((a2.2.1.1, (a2.2.1.2.1, ())), ()))))) (fun b2 =>
   (Empty.elim b2)) y1)))))
theorem keep_Src_Suited.eq (g_keep_Src_Pair : keep_Src_Pair.sh.X → Option keep_Src_Pair.osh.X) (g_keep_Src_N : keep_Src_N.sh.X → Option keep_Src_N.osh.X) (g_keep_Src_Range : keep_Src_Range.sh.X → Option keep_Src_Range.osh.X) (l0 : keep_Src_Suited.s0.X → Option (sumX keep_Src_Suited.x0)) (x : ((Unit × (Int × Int × Int × Unit) × Unit) × (((List Int) × Int × Unit) × Unit))) : (bodyO (keep_Src_Suited.E g_keep_Src_Pair g_keep_Src_N g_keep_Src_Range l0) (mk keep_Src_Suited.hs keep_Src_Suited.c []) Go.Proofs.Tryd.f10.results.toList keep_Src_Suited.sh keep_Src_Suited.osh x).run _ some = keep_Src_Suited.f g_keep_Src_Pair g_keep_Src_N g_keep_Src_Range l0 x.1.2.1.1 x.1.2.1.2.1 x.1.2.1.2.2.1 x.2.1.1 x.2.1.2.1 := by
  show _ = (_ : Option _)
  kernel_rfl
noncomputable def keep_Src_Suited (m_Kind : Int) (m_Band : Int) (m_Gap : Int) (o0_0 : (List Int)) (o0_1 : Int) : Option (((List Int) × (List Int) × Unit) × (((List Int) × Int × Unit) × Unit)) := keep_Src_Suited.f keep_Src_Pair.F keep_Src_N.F keep_Src_Range.F keep_Src_Suited.L0 m_Kind m_Band m_Gap o0_0 o0_1
noncomputable def keep_Src_Suited.F (x : ((Unit × (Int × Int × Int × Unit) × Unit) × (((List Int) × Int × Unit) × Unit))) : Option (((List Int) × (List Int) × Unit) × (((List Int) × Int × Unit) × Unit)) := keep_Src_Suited x.1.2.1.1 x.1.2.1.2.1 x.1.2.1.2.2.1 x.2.1.1 x.2.1.2.1
theorem keep_Src_Suited.L0_eq (x_6 : (List Int)) (o0_0 : (List Int)) (o0_1 : Int) (o1_0 : Int) (o1_1 : Int) (o1_2 : Int) (o2 : List Int) : keep_Src_Suited.L0 (((), (), x_6, (), ()), ((o0_0, o0_1, ()), (o1_0, o1_1, o1_2, ()), o2, ())) = keep_Src_Suited.f0 x_6 o0_0 o0_1 o1_0 o1_1 o1_2 o2 := rfl
theorem keep_Src_Suited.F_eq (m_Kind : Int) (m_Band : Int) (m_Gap : Int) (o0_0 : (List Int)) (o0_1 : Int) : keep_Src_Suited.F (((), (m_Kind, m_Band, m_Gap, ()), ()), ((o0_0, o0_1, ()), ())) = keep_Src_Suited.f keep_Src_Pair.F keep_Src_N.F keep_Src_Range.F keep_Src_Suited.L0 m_Kind m_Band m_Gap o0_0 o0_1 := rfl
theorem keep_Src_Suited.ok {tabs : List (Nat × Go.Obj)} (ht : TabsOk tabs) : FOK Go.Proofs.Tryd.prog tabs 10 (FE.of [true, true] true keep_Src_Suited.sh keep_Src_Suited.osh keep_Src_Suited.F) := by
  refine fn_keeps (E := (keep_Src_Suited.E keep_Src_Pair.F keep_Src_N.F keep_Src_Range.F keep_Src_Suited.L0)) (c := keep_Src_Suited.c) (fn := Go.Proofs.Tryd.f10) (hs := keep_Src_Suited.hs) (by kernel_rfl) Go.Proofs.Tryd.func10 ⟨by kernel_rfl, by kernel_rfl, tb, by kernel_rfl, by kernel_rfl, by kernel_rfl, by kernel_rfl, by kernel_rfl⟩ ⟨fun g ks fe h => ?_, gt_ok ht⟩ ?_ (fun x => keep_Src_Suited.eq keep_Src_Pair.F keep_Src_N.F keep_Src_Range.F keep_Src_Suited.L0 x)
  · rcases c_cons h with ⟨rfl, rfl⟩ | h
    · exact keep_Src_Pair.ok ht
    rcases c_cons h with ⟨rfl, rfl⟩ | h
    · exact keep_Src_N.ok ht
    rcases c_cons h with ⟨rfl, rfl⟩ | h
    · exact keep_Src_Range.ok ht
    cases h
  · refine known_at 1 (by kernel_rfl) fun i hi => ?_
    match i, hi with
    | 0, _ => exact atom_at (id := 0) (live := [0, 3, 6, 7]) (outs := [(0, [0, 3, 6, 7, 20])]) (loop := false) (by kernel_rfl) (cut_ok (E := (keep_Src_Suited.E keep_Src_Pair.F keep_Src_N.F keep_Src_Range.F keep_Src_Suited.L0)) (sh := keep_Src_Suited.s0) (es := keep_Src_Suited.x0) rfl (fun L x => keep_Src_Suited.eq0 keep_Src_Pair.F keep_Src_N.F keep_Src_Range.F keep_Src_Suited.L0 L x))
    | n + 1, h => exact absurd h (by omega)

/-! measure_name -/
def measure_name.f (kind : Int) : Option ((ByteArray × Unit) × (Unit)) :=
  (bif (kind == (1:Int)) then
   (some (((ByteArray.mk #[(101:UInt8), (117:UInt8), (99:UInt8), (108:UInt8), (105:UInt8), (100:UInt8)]), ()), ()))
  else
   (bif (kind == (2:Int)) then
    (some (((ByteArray.mk #[(115:UInt8), (104:UInt8), (105:UInt8), (102:UInt8), (116:UInt8), (101:UInt8), (100:UInt8)]), ()), ()))
   else
    (bif (kind == (3:Int)) then
     (some (((ByteArray.mk #[(110:UInt8), (111:UInt8), (114:UInt8), (109:UInt8), (97:UInt8), (108:UInt8)]), ()), ()))
    else
     (bif (kind == (4:Int)) then
      (some (((ByteArray.mk #[(119:UInt8), (97:UInt8), (114:UInt8), (112:UInt8)]), ()), ()))
     else
      (bif (kind == (5:Int)) then
       (some (((ByteArray.mk #[(101:UInt8), (100:UInt8), (105:UInt8), (116:UInt8)]), ()), ()))
      else
       (some (((ByteArray.mk #[]), ()), ())))))))
theorem measure_name.eq (x : ((Int × Unit) × (Unit))) : (bodyO (measure_name.E) (mk measure_name.hs measure_name.c []) Go.Proofs.Tryd.f32.results.toList measure_name.sh measure_name.osh x).run _ some = measure_name.f x.1.1 := by
  show _ = (_ : Option _)
  kernel_rfl
noncomputable def measure_name (kind : Int) : Option ((ByteArray × Unit) × (Unit)) := measure_name.f kind
noncomputable def measure_name.F (x : ((Int × Unit) × (Unit))) : Option ((ByteArray × Unit) × (Unit)) := measure_name x.1.1
theorem measure_name.F_eq (kind : Int) : measure_name.F ((kind, ()), ()) = measure_name.f kind := rfl
theorem measure_name.ok {tabs : List (Nat × Go.Obj)} (ht : TabsOk tabs) : FOK Go.Proofs.Tryd.prog tabs 32 (FE.of [true] false measure_name.sh measure_name.osh measure_name.F) := by
  refine fn_keeps (E := (measure_name.E)) (c := measure_name.c) (fn := Go.Proofs.Tryd.f32) (hs := measure_name.hs) (by kernel_rfl) Go.Proofs.Tryd.func32 ⟨by kernel_rfl, by kernel_rfl, tb, by kernel_rfl, by kernel_rfl, by kernel_rfl, by kernel_rfl, by kernel_rfl⟩ ⟨fun g ks fe h => ?_, gt_ok ht⟩ ?_ (fun x => measure_name.eq x)
  · cases h
  · exact known_at 0 (by kernel_rfl) fun i hi => absurd hi (Nat.not_lt_zero i)

/-! measure_Check -/
def measure_Check.f1 (o0_0 : Int) (o0_1 : Int) (o0_2 : Int) : Option (((Unit × Bool × Unit) × ((Int × Int × Int × Unit) × Unit)) ⊕ Empty) :=
  (bif (decide (o0_1 < (0:Int))) then
   (some (Sum.inl (((), (Bool.true, ())), ((o0_0, (o0_1, (o0_2, ()))), ()))))
  else
   (bif (decide (o0_1 > (32:Int))) then
    (some (Sum.inl (((), (Bool.true, ())), ((o0_0, (o0_1, (o0_2, ()))), ()))))
   else
    (bif (o0_1 != (0:Int)) then
     (some (Sum.inl (((), ((o0_0 != (4:Int)), ())), ((o0_0, (o0_1, (o0_2, ()))), ()))))
    else
     (some (Sum.inl (((), (Bool.false, ())), ((o0_0, (o0_1, (o0_2, ()))), ())))))))
theorem measure_Check.eq1 (g_measure_name : measure_name.sh.X → Option measure_name.osh.X) (l0 : measure_Check.s0.X → Option (sumX measure_Check.x0)) (l1 : measure_Check.s1.X → Option (sumX measure_Check.x1)) (l2 : measure_Check.s2.X → Option (sumX measure_Check.x2)) (L : ((Unit × Unit) × ((Int × Int × Int × Unit) × Unit)) → Option (((Unit × Bool × Unit) × ((Int × Int × Int × Unit) × Unit)) ⊕ Empty)) (x : ((Unit × Unit) × ((Int × Int × Int × Unit) × Unit))) : (roundK (measure_Check.E g_measure_name l0 l1 l2) measure_Check.s1 [1] [(0, [1, 3])] false (((mk measure_Check.hs measure_Check.c []).atoms.getD 1 .bad).body) measure_Check.x1 L x).run _ some = measure_Check.f1 x.2.1.1 x.2.1.2.1 x.2.1.2.2.1 := by
  show _ = (_ : Option _)
  kernel_rfl
noncomputable def measure_Check.L1 : ((Unit × Unit) × ((Int × Int × Int × Unit) × Unit)) → Option (((Unit × Bool × Unit) × ((Int × Int × Int × Unit) × Unit)) ⊕ Empty) := fun x => measure_Check.f1 x.2.1.1 x.2.1.2.1 x.2.1.2.2.1
def measure_Check.f2 (v3 : Bool) (o0_0 : Int) (o0_1 : Int) (o0_2 : Int) : Option (((Bool × Unit) × (Unit)) ⊕ Empty) :=
  (bif v3 then
   (some (Sum.inl ((v3, ()), ())))
  else
   (bif (decide (o0_2 < (-(1000:Int)))) then
    (some (Sum.inl ((Bool.true, ()), ())))
   else
    (bif (decide (o0_2 > (1000:Int))) then
     (some (Sum.inl ((Bool.true, ()), ())))
    else
     (bif (o0_2 != (0:Int)) then
      (some (Sum.inl (((o0_0 != (5:Int)), ()), ())))
     else
      (some (Sum.inl ((Bool.false, ()), ())))))))
theorem measure_Check.eq2 (g_measure_name : measure_name.sh.X → Option measure_name.osh.X) (l0 : measure_Check.s0.X → Option (sumX measure_Check.x0)) (l1 : measure_Check.s1.X → Option (sumX measure_Check.x1)) (l2 : measure_Check.s2.X → Option (sumX measure_Check.x2)) (L : ((Unit × Bool × Unit) × ((Int × Int × Int × Unit) × Unit)) → Option (((Bool × Unit) × (Unit)) ⊕ Empty)) (x : ((Unit × Bool × Unit) × ((Int × Int × Int × Unit) × Unit))) : (roundK (measure_Check.E g_measure_name l0 l1 l2) measure_Check.s2 [1, 3] [(0, [3])] false (((mk measure_Check.hs measure_Check.c []).atoms.getD 2 .bad).body) measure_Check.x2 L x).run _ some = measure_Check.f2 x.1.2.1 x.2.1.1 x.2.1.2.1 x.2.1.2.2.1 := by
  show _ = (_ : Option _)
  kernel_rfl
noncomputable def measure_Check.L2 : ((Unit × Bool × Unit) × ((Int × Int × Int × Unit) × Unit)) → Option (((Bool × Unit) × (Unit)) ⊕ Empty) := fun x => measure_Check.f2 x.1.2.1 x.2.1.1 x.2.1.2.1 x.2.1.2.2.1
def measure_Check.f0 (l1 : ((Unit × Unit) × ((Int × Int × Int × Unit) × Unit)) → Option (((Unit × Bool × Unit) × ((Int × Int × Int × Unit) × Unit)) ⊕ Empty)) (l2 : ((Unit × Bool × Unit) × ((Int × Int × Int × Unit) × Unit)) → Option (((Bool × Unit) × (Unit)) ⊕ Empty)) (v3 : Bool) (o0_0 : Int) (o0_1 : Int) (o0_2 : Int) : Option (((Bool × Unit) × (Unit)) ⊕ Empty) :=
  (bif v3 then
   (some (Sum.inl ((v3, ()), ())))
  else
   (Option.bind (l1 (((), ()), ((o0_0, (o0_1, (o0_2, ()))), ()))) (fun y1 =>
   (Sum.elim (fun a2 =>
    (Option.bind (l2 (((), (a2.1.2.1, ())), ((a2.2.1.1, (a2.2.1.2.1, (a2.2.1.2.2.1, ()))), ()))) (fun y3 =>
    (Sum.elim (fun a4 =>
     (some (Sum.inl ((a4.1.1, ()), ())))) (fun b4 =>
     (Empty.elim b4)) y3)))) (fun b2 =>
    (Empty.elim b2)) y1))))
theorem measure_Check.eq0 (g_measure_name : measure_name.sh.X → Option measure_name.osh.X) (l0 : measure_Check.s0.X → Option (sumX measure_Check.x0)) (l1 : measure_Check.s1.X → Option (sumX measure_Check.x1)) (l2 : measure_Check.s2.X → Option (sumX measure_Check.x2)) (L : ((Unit × Bool × Unit) × ((Int × Int × Int × Unit) × Unit)) → Option (((Bool × Unit) × (Unit)) ⊕ Empty)) (x : ((Unit × Bool × Unit) × ((Int × Int × Int × Unit) × Unit))) : (roundK (measure_Check.E g_measure_name l0 l1 l2) measure_Check.s0 [1, 3] [(0, [3])] false (((mk measure_Check.hs measure_Check.c []).atoms.getD 0 .bad).body) measure_Check.x0 L x).run _ some = measure_Check.f0 l1 l2 x.1.2.1 x.2.1.1 x.2.1.2.1 x.2.1.2.2.1 := by
  show _ = (_ : Option _)
  kernel_rfl
noncomputable def measure_Check.L0 : ((Unit × Bool × Unit) × ((Int × Int × Int × Unit) × Unit)) → Option (((Bool × Unit) × (Unit)) ⊕ Empty) := fun x => measure_Check.f0 measure_Check.L1 measure_Check.L2 x.1.2.1 x.2.1.1 x.2.1.2.1 x.2.1.2.2.1
def measure_Check.f (g_measure_name : ((Int × Unit) × (Unit)) → Option ((ByteArray × Unit) × (Unit))) (l0 : ((Unit × Bool × Unit) × ((Int × Int × Int × Unit) × Unit)) → Option (((Bool × Unit) × (Unit)) ⊕ Empty)) (m_Kind : Int) (m_Band : Int) (m_Gap : Int) : Option ((Int × Unit) × (Unit)) :=
  (Option.bind (g_measure_name ((m_Kind, ()), ())) (fun y0 =>
  (Option.bind (l0 (((), (((ByteArray.toList y0.1.1) == (ByteArray.toList (ByteArray.mk #[]))), ())), ((m_Kind, (m_Band, (m_Gap, ()))), ()))) (fun y1 =>
  (Sum.elim (fun a2 =>
   (bif a2.1.1 then
    (some (((9:Int), ()), ()))
   else
    (some (((0:Int), ()), ())))) (fun b2 =>
   (Empty.elim b2)) y1)))))
theorem measure_Check.eq (g_measure_name : measure_name.sh.X → Option measure_name.osh.X) (l0 : measure_Check.s0.X → Option (sumX measure_Check.x0)) (l1 : measure_Check.s1.X → Option (sumX measure_Check.x1)) (l2 : measure_Check.s2.X → Option (sumX measure_Check.x2)) (x : (((Int × Int × Int × Unit) × Unit) × (Unit))) : (bodyO (measure_Check.E g_measure_name l0 l1 l2) (mk measure_Check.hs measure_Check.c []) Go.Proofs.Tryd.f18.results.toList measure_Check.sh measure_Check.osh x).run _ some = measure_Check.f g_measure_name l0 x.1.1.1 x.1.1.2.1 x.1.1.2.2.1 := by
  show _ = (_ : Option _)
  kernel_rfl
noncomputable def measure_Check (m_Kind : Int) (m_Band : Int) (m_Gap : Int) : Option ((Int × Unit) × (Unit)) := measure_Check.f measure_name.F measure_Check.L0 m_Kind m_Band m_Gap
noncomputable def measure_Check.F (x : (((Int × Int × Int × Unit) × Unit) × (Unit))) : Option ((Int × Unit) × (Unit)) := measure_Check x.1.1.1 x.1.1.2.1 x.1.1.2.2.1
theorem measure_Check.L0_eq (v3 : Bool) (o0_0 : Int) (o0_1 : Int) (o0_2 : Int) : measure_Check.L0 (((), v3, ()), ((o0_0, o0_1, o0_2, ()), ())) = measure_Check.f0 measure_Check.L1 measure_Check.L2 v3 o0_0 o0_1 o0_2 := rfl
theorem measure_Check.L1_eq (o0_0 : Int) (o0_1 : Int) (o0_2 : Int) : measure_Check.L1 (((), ()), ((o0_0, o0_1, o0_2, ()), ())) = measure_Check.f1 o0_0 o0_1 o0_2 := rfl
theorem measure_Check.L2_eq (v3 : Bool) (o0_0 : Int) (o0_1 : Int) (o0_2 : Int) : measure_Check.L2 (((), v3, ()), ((o0_0, o0_1, o0_2, ()), ())) = measure_Check.f2 v3 o0_0 o0_1 o0_2 := rfl
theorem measure_Check.F_eq (m_Kind : Int) (m_Band : Int) (m_Gap : Int) : measure_Check.F (((m_Kind, m_Band, m_Gap, ()), ()), ()) = measure_Check.f measure_name.F measure_Check.L0 m_Kind m_Band m_Gap := rfl
theorem measure_Check.ok {tabs : List (Nat × Go.Obj)} (ht : TabsOk tabs) : FOK Go.Proofs.Tryd.prog tabs 18 (FE.of [true] false measure_Check.sh measure_Check.osh measure_Check.F) := by
  refine fn_keeps (E := (measure_Check.E measure_name.F measure_Check.L0 measure_Check.L1 measure_Check.L2)) (c := measure_Check.c) (fn := Go.Proofs.Tryd.f18) (hs := measure_Check.hs) (by kernel_rfl) Go.Proofs.Tryd.func18 ⟨by kernel_rfl, by kernel_rfl, tb, by kernel_rfl, by kernel_rfl, by kernel_rfl, by kernel_rfl, by kernel_rfl⟩ ⟨fun g ks fe h => ?_, gt_ok ht⟩ ?_ (fun x => measure_Check.eq measure_name.F measure_Check.L0 measure_Check.L1 measure_Check.L2 x)
  · rcases c_cons h with ⟨rfl, rfl⟩ | h
    · exact measure_name.ok ht
    cases h
  · refine known_at 3 (by kernel_rfl) fun i hi => ?_
    match i, hi with
    | 0, _ => exact atom_at (id := 0) (live := [1, 3]) (outs := [(0, [3])]) (loop := false) (by kernel_rfl) (cut_ok (E := (measure_Check.E measure_name.F measure_Check.L0 measure_Check.L1 measure_Check.L2)) (sh := measure_Check.s0) (es := measure_Check.x0) rfl (fun L x => measure_Check.eq0 measure_name.F measure_Check.L0 measure_Check.L1 measure_Check.L2 L x))
    | 1, _ => exact atom_at (id := 1) (live := [1]) (outs := [(0, [1, 3])]) (loop := false) (by kernel_rfl) (cut_ok (E := (measure_Check.E measure_name.F measure_Check.L0 measure_Check.L1 measure_Check.L2)) (sh := measure_Check.s1) (es := measure_Check.x1) rfl (fun L x => measure_Check.eq1 measure_name.F measure_Check.L0 measure_Check.L1 measure_Check.L2 L x))
    | 2, _ => exact atom_at (id := 2) (live := [1, 3]) (outs := [(0, [3])]) (loop := false) (by kernel_rfl) (cut_ok (E := (measure_Check.E measure_name.F measure_Check.L0 measure_Check.L1 measure_Check.L2)) (sh := measure_Check.s2) (es := measure_Check.x2) rfl (fun L x => measure_Check.eq2 measure_name.F measure_Check.L0 measure_Check.L1 measure_Check.L2 L x))
    | n + 3, h => exact absurd h (by omega)

/-! measure_distances -/
def measure_distances.ents : List (Int × Nat × List (Nat × Nat)) := [(1, 39, []), (2, 42, []), (3, 43, []), (4, 44, [(0, 0)]), (5, 46, [(0, 0)])]
noncomputable def measure_distances.F : measure_distances.sh.X → Option measure_distances.osh.X := mapF measure_distances.ents
theorem measure_distances.F_eq (k b g : Int) : measure_distances.F (((k, b, g, ()), ()), ()) = some (((), ()), ((k, b, g, ()), ())) := rfl
section
open Go.RowKit
theorem measure_distances.walk (k b g : Int) (w : Go.World) : Go.Calls Go.Proofs.Tryd.prog 25 #[.agg #[.int .i64 k, .int .i64 b, .int .i64 g]] w fun e w' => e = .returned (.map (some (w.heap.size + 1))) ∧
    w' = mapW w (.cells #[.int .i64 k, .int .i64 b, .int .i64 g] 26) #[{ key := .int .i64 1, val := .func (.func 39) #[] #[], born := 0 }, { key := .int .i64 2, val := .func (.func 42) #[] #[], born := 1 }, { key := .int .i64 3, val := .func (.func 43) #[] #[], born := 2 }, { key := .int .i64 4, val := .func (.func 44) #[] #[.pointer (some ⟨w.heap.size, 0, none⟩)], born := 3 }, { key := .int .i64 5, val := .func (.func 46) #[] #[.pointer (some ⟨w.heap.size, 0, none⟩)], born := 4 }] 5 := by
  have hmf : ∀ (fn : Go.Fn) (first cap : Array Go.Value) (w : Go.World), (Go.Instr.makeFunc fn first cap).run Go.Proofs.Tryd.prog w = .ok (.func fn first cap) w := fun _ _ _ _ => rfl
  have hmm := @run_makeMap_mapW Go.Proofs.Tryd.prog 57 w (.cells #[.int .i64 k, .int .i64 b, .int .i64 g] 26)
  have hi0 := @run_insert_mapW Go.Proofs.Tryd.prog 57 3 56 w (.cells #[.int .i64 k, .int .i64 b, .int .i64 g] 26) #[] 0 1 (.func (.func 39) #[] #[]) Go.Proofs.Tryd.underlying57 Go.Proofs.Tryd.underlying3 rfl
  have hi1 := @run_insert_mapW Go.Proofs.Tryd.prog 57 3 56 w (.cells #[.int .i64 k, .int .i64 b, .int .i64 g] 26) #[{ key := .int .i64 1, val := .func (.func 39) #[] #[], born := 0 }] 1 2 (.func (.func 42) #[] #[]) Go.Proofs.Tryd.underlying57 Go.Proofs.Tryd.underlying3 rfl
  have hi2 := @run_insert_mapW Go.Proofs.Tryd.prog 57 3 56 w (.cells #[.int .i64 k, .int .i64 b, .int .i64 g] 26) #[{ key := .int .i64 1, val := .func (.func 39) #[] #[], born := 0 }, { key := .int .i64 2, val := .func (.func 42) #[] #[], born := 1 }] 2 3 (.func (.func 43) #[] #[]) Go.Proofs.Tryd.underlying57 Go.Proofs.Tryd.underlying3 rfl
  have hi3 := @run_insert_mapW Go.Proofs.Tryd.prog 57 3 56 w (.cells #[.int .i64 k, .int .i64 b, .int .i64 g] 26) #[{ key := .int .i64 1, val := .func (.func 39) #[] #[], born := 0 }, { key := .int .i64 2, val := .func (.func 42) #[] #[], born := 1 }, { key := .int .i64 3, val := .func (.func 43) #[] #[], born := 2 }] 3 4 (.func (.func 44) #[] #[.pointer (some ⟨w.heap.size, 0, none⟩)]) Go.Proofs.Tryd.underlying57 Go.Proofs.Tryd.underlying3 rfl
  have hi4 := @run_insert_mapW Go.Proofs.Tryd.prog 57 3 56 w (.cells #[.int .i64 k, .int .i64 b, .int .i64 g] 26) #[{ key := .int .i64 1, val := .func (.func 39) #[] #[], born := 0 }, { key := .int .i64 2, val := .func (.func 42) #[] #[], born := 1 }, { key := .int .i64 3, val := .func (.func 43) #[] #[], born := 2 }, { key := .int .i64 4, val := .func (.func 44) #[] #[.pointer (some ⟨w.heap.size, 0, none⟩)], born := 3 }] 4 5 (.func (.func 46) #[] #[.pointer (some ⟨w.heap.size, 0, none⟩)]) Go.Proofs.Tryd.underlying57 Go.Proofs.Tryd.underlying3 rfl
  simp only [List.push_toArray, List.cons_append, List.nil_append, Nat.zero_add, Nat.reduceAdd] at hi0 hi1 hi2 hi3 hi4
  go_enter Go.Proofs.Tryd.func25, Go.Proofs.Tryd.ntmps25
  go_wp2
  simp [Go.bodyPost, Go.results, Go.Proofs.Tryd.results25]
end
theorem measure_distances.ok {tabs : List (Nat × Go.Obj)} (ht : TabsOk tabs) : FOK Go.Proofs.Tryd.prog tabs 25 (FE.of [true] true measure_distances.sh measure_distances.osh measure_distances.F) :=
  fok_map Go.Proofs.Tryd.func25 (c := measure_distances.c) (by kernel_rfl) (by kernel_rfl) (fun B => #[{ key := .int .i64 1, val := .func (.func 39) #[] #[], born := 0 }, { key := .int .i64 2, val := .func (.func 42) #[] #[], born := 1 }, { key := .int .i64 3, val := .func (.func 43) #[] #[], born := 2 }, { key := .int .i64 4, val := .func (.func 44) #[] #[B], born := 3 }, { key := .int .i64 5, val := .func (.func 46) #[] #[B], born := 4 }]) (fun k b g w => measure_distances.walk k b g w) (fun α h B hB => ⟨⟨rfl, _, rfl, trivial⟩, ⟨rfl, _, rfl, trivial⟩, ⟨rfl, _, rfl, trivial⟩, ⟨rfl, _, rfl, ⟨hB, trivial⟩⟩, ⟨rfl, _, rfl, ⟨hB, trivial⟩⟩, trivial⟩)


/-! euclid_length -/
def euclid_length.f (x_ : (List Int)) : Option ((Bool × Unit) × (Unit)) :=
  (bif (decide ((((List.length x_) : Nat) : Int) ≥ (2:Int))) then
   (some (((decide ((((List.length x_) : Nat) : Int) ≤ (32:Int))), ()), ()))
  else
   (some ((Bool.false, ()), ())))
theorem euclid_length.eq (x : (((List Int) × Unit) × (Unit))) : (bodyO (euclid_length.E) (mk euclid_length.hs euclid_length.c []) Go.Proofs.Tryd.f72.results.toList euclid_length.sh euclid_length.osh x).run _ some = euclid_length.f x.1.1 := by
  show _ = (_ : Option _)
  kernel_rfl
noncomputable def euclid_length (x_ : (List Int)) : Option ((Bool × Unit) × (Unit)) := euclid_length.f x_
noncomputable def euclid_length.F (x : (((List Int) × Unit) × (Unit))) : Option ((Bool × Unit) × (Unit)) := euclid_length x.1.1
theorem euclid_length.F_eq (x_ : (List Int)) : euclid_length.F ((x_, ()), ()) = euclid_length.f x_ := rfl
theorem euclid_length.ok {tabs : List (Nat × Go.Obj)} (ht : TabsOk tabs) : FOK Go.Proofs.Tryd.prog tabs 72 (FE.of [true] false euclid_length.sh euclid_length.osh euclid_length.F) := by
  refine fn_keeps (E := (euclid_length.E)) (c := euclid_length.c) (fn := Go.Proofs.Tryd.f72) (hs := euclid_length.hs) (by kernel_rfl) Go.Proofs.Tryd.func72 ⟨by kernel_rfl, by kernel_rfl, tb, by kernel_rfl, by kernel_rfl, by kernel_rfl, by kernel_rfl, by kernel_rfl⟩ ⟨fun g ks fe h => ?_, gt_ok ht⟩ ?_ (fun x => euclid_length.eq x)
  · cases h
  · exact known_at 0 (by kernel_rfl) fun i hi => absurd hi (Nat.not_lt_zero i)

/-! euclid_samples -/
def euclid_samples.f0 (L : (((List Int) × Int × Int × Unit) × (Unit)) → Option (((Unit) × (Unit)) ⊕ ((Bool × Unit) × (Unit)) ⊕ Empty)) (v5 : (List Int)) (v6 : Int) (v7 : Int) : Option (((Unit) × (Unit)) ⊕ ((Bool × Unit) × (Unit)) ⊕ Empty) :=
  (bif (decide (v7 < v6)) then
   (bif (decide ((0:Int) ≤ v7)) then
    (bif (decide (v7 < (((List.length v5) : Nat) : Int))) then
     (bif (decide ((List.getD v5 (Int.toNat v7) (0:Int)) < (-(1000:Int)))) then
      (some (Sum.inr (Sum.inl ((Bool.false, ()), ()))))
     else
      (bif (decide ((List.getD v5 (Int.toNat v7) (0:Int)) > (1000:Int))) then
       (some (Sum.inr (Sum.inl ((Bool.false, ()), ()))))
      else
       (Option.bind (L ((v5, (v6, ((Go.IntKind.wrap Go.IntKind.i64 (v7 + (1:Int))), ()))), ())) (fun y5 =>
       (some y5)))))
    else
     none)
   else
    none)
  else
   (some (Sum.inl ((), ()))))
theorem euclid_samples.eq0 (l0 : euclid_samples.s0.X → Option (sumX euclid_samples.x0)) (L : (((List Int) × Int × Int × Unit) × (Unit)) → Option (((Unit) × (Unit)) ⊕ ((Bool × Unit) × (Unit)) ⊕ Empty)) (x : (((List Int) × Int × Int × Unit) × (Unit))) : (roundK (euclid_samples.E l0) euclid_samples.s0 [5, 6, 7] [(2, []), (1, [2])] true (((mk euclid_samples.hs euclid_samples.c []).atoms.getD 0 .bad).body) euclid_samples.x0 L x).run _ some = euclid_samples.f0 L x.1.1 x.1.2.1 x.1.2.2.1 := by
  show _ = (_ : Option _)
  kernel_rfl
noncomputable def euclid_samples.L0 : (((List Int) × Int × Int × Unit) × (Unit)) → Option (((Unit) × (Unit)) ⊕ ((Bool × Unit) × (Unit)) ⊕ Empty) := loop fun L x => euclid_samples.f0 L x.1.1 x.1.2.1 x.1.2.2.1
def euclid_samples.f (l0 : (((List Int) × Int × Int × Unit) × (Unit)) → Option (((Unit) × (Unit)) ⊕ ((Bool × Unit) × (Unit)) ⊕ Empty)) (x_ : (List Int)) : Option ((Bool × Unit) × (Unit)) :=
  (Option.bind (l0 ((x_, ((((List.length x_) : Nat) : Int), ((0:Int), ()))), ())) (fun y0 =>
  (Sum.elim (fun a1 =>
   (some ((Bool.true, ()), ()))) (fun b1 =>
   (Sum.elim (fun a2 =>
    (some ((a2.1.1, ()), ()))) (fun b2 =>
    (Empty.elim b2)) b1)) y0)))
theorem euclid_samples.eq (l0 : euclid_samples.s0.X → Option (sumX euclid_samples.x0)) (x : (((List Int) × Unit) × (Unit))) : (bodyO (euclid_samples.E l0) (mk euclid_samples.hs euclid_samples.c []) Go.Proofs.Tryd.f73.results.toList euclid_samples.sh euclid_samples.osh x).run _ some = euclid_samples.f l0 x.1.1 := by
  show _ = (_ : Option _)
  kernel_rfl
noncomputable def euclid_samples (x_ : (List Int)) : Option ((Bool × Unit) × (Unit)) := euclid_samples.f euclid_samples.L0 x_
noncomputable def euclid_samples.F (x : (((List Int) × Unit) × (Unit))) : Option ((Bool × Unit) × (Unit)) := euclid_samples x.1.1
theorem euclid_samples.L0_eq (v5 : (List Int)) (v6 : Int) (v7 : Int) : euclid_samples.L0 ((v5, v6, v7, ()), ()) = euclid_samples.f0 euclid_samples.L0 v5 v6 v7 :=
  loop_eq (E := (euclid_samples.E euclid_samples.L0)) (sh := euclid_samples.s0) (es := euclid_samples.x0) (lp := true) (H := fun L x => euclid_samples.eq0 euclid_samples.L0 L x) ((v5, v6, v7, ()), ())
theorem euclid_samples.F_eq (x_ : (List Int)) : euclid_samples.F ((x_, ()), ()) = euclid_samples.f euclid_samples.L0 x_ := rfl
theorem euclid_samples.ok {tabs : List (Nat × Go.Obj)} (ht : TabsOk tabs) : FOK Go.Proofs.Tryd.prog tabs 73 (FE.of [true] false euclid_samples.sh euclid_samples.osh euclid_samples.F) := by
  refine fn_keeps (E := (euclid_samples.E euclid_samples.L0)) (c := euclid_samples.c) (fn := Go.Proofs.Tryd.f73) (hs := euclid_samples.hs) (by kernel_rfl) Go.Proofs.Tryd.func73 ⟨by kernel_rfl, by kernel_rfl, tb, by kernel_rfl, by kernel_rfl, by kernel_rfl, by kernel_rfl, by kernel_rfl⟩ ⟨fun g ks fe h => ?_, gt_ok ht⟩ ?_ (fun x => euclid_samples.eq euclid_samples.L0 x)
  · cases h
  · refine known_at 1 (by kernel_rfl) fun i hi => ?_
    match i, hi with
    | 0, _ => exact atom_at (id := 0) (live := [5, 6, 7]) (outs := [(2, []), (1, [2])]) (loop := true) (by kernel_rfl) (loop_ok (E := (euclid_samples.E euclid_samples.L0)) (sh := euclid_samples.s0) (es := euclid_samples.x0) rfl (fun L x => euclid_samples.eq0 euclid_samples.L0 L x))
    | n + 1, h => exact absurd h (by omega)

/-! euclid_check -/
def euclid_check.f0 (g_euclid_length : (((List Int) × Unit) × (Unit)) → Option ((Bool × Unit) × (Unit))) (x_0 : (List Int)) (y_1 : (List Int)) : Option ((((List Int) × (List Int) × Bool × Unit) × (Unit)) ⊕ Empty) :=
  (Option.bind (g_euclid_length ((x_0, ()), ())) (fun y0 =>
  (bif (!y0.1.1) then
   (some (Sum.inl ((x_0, (y_1, (Bool.true, ()))), ())))
  else
   (Option.bind (g_euclid_length ((y_1, ()), ())) (fun y2 =>
   (some (Sum.inl ((x_0, (y_1, ((!y2.1.1), ()))), ()))))))))
theorem euclid_check.eq0 (g_euclid_length : euclid_length.sh.X → Option euclid_length.osh.X) (g_euclid_samples : euclid_samples.sh.X → Option euclid_samples.osh.X) (l0 : euclid_check.s0.X → Option (sumX euclid_check.x0)) (l1 : euclid_check.s1.X → Option (sumX euclid_check.x1)) (L : (((List Int) × (List Int) × Unit) × (Unit)) → Option ((((List Int) × (List Int) × Bool × Unit) × (Unit)) ⊕ Empty)) (x : (((List Int) × (List Int) × Unit) × (Unit))) : (roundK (euclid_check.E g_euclid_length g_euclid_samples l0 l1) euclid_check.s0 [0, 1] [(0, [0, 1, 5])] false (((mk euclid_check.hs euclid_check.c []).atoms.getD 0 .bad).body) euclid_check.x0 L x).run _ some = euclid_check.f0 g_euclid_length x.1.1 x.1.2.1 := by
  show _ = (_ : Option _)
  kernel_rfl
noncomputable def euclid_check.L0 : (((List Int) × (List Int) × Unit) × (Unit)) → Option ((((List Int) × (List Int) × Bool × Unit) × (Unit)) ⊕ Empty) := fun x => euclid_check.f0 euclid_length.F x.1.1 x.1.2.1
def euclid_check.f1 (g_euclid_samples : (((List Int) × Unit) × (Unit)) → Option ((Bool × Unit) × (Unit))) (x_0 : (List Int)) (y_1 : (List Int)) : Option ((((List Int) × (List Int) × Bool × Unit) × (Unit)) ⊕ Empty) :=
  (Option.bind (g_euclid_samples ((x_0, ()), ())) (fun y0 =>
  (bif (!y0.1.1) then
   (some (Sum.inl ((x_0, (y_1, (Bool.true, ()))), ())))
  else
   (Option.bind (g_euclid_samples ((y_1, ()), ())) (fun y2 =>
   (some (Sum.inl ((x_0, (y_1, ((!y2.1.1), ()))), ()))))))))
theorem euclid_check.eq1 (g_euclid_length : euclid_length.sh.X → Option euclid_length.osh.X) (g_euclid_samples : euclid_samples.sh.X → Option euclid_samples.osh.X) (l0 : euclid_check.s0.X → Option (sumX euclid_check.x0)) (l1 : euclid_check.s1.X → Option (sumX euclid_check.x1)) (L : (((List Int) × (List Int) × Unit) × (Unit)) → Option ((((List Int) × (List Int) × Bool × Unit) × (Unit)) ⊕ Empty)) (x : (((List Int) × (List Int) × Unit) × (Unit))) : (roundK (euclid_check.E g_euclid_length g_euclid_samples l0 l1) euclid_check.s1 [0, 1] [(0, [0, 1, 14])] false (((mk euclid_check.hs euclid_check.c []).atoms.getD 1 .bad).body) euclid_check.x1 L x).run _ some = euclid_check.f1 g_euclid_samples x.1.1 x.1.2.1 := by
  show _ = (_ : Option _)
  kernel_rfl
noncomputable def euclid_check.L1 : (((List Int) × (List Int) × Unit) × (Unit)) → Option ((((List Int) × (List Int) × Bool × Unit) × (Unit)) ⊕ Empty) := fun x => euclid_check.f1 euclid_samples.F x.1.1 x.1.2.1
def euclid_check.f (l0 : (((List Int) × (List Int) × Unit) × (Unit)) → Option ((((List Int) × (List Int) × Bool × Unit) × (Unit)) ⊕ Empty)) (l1 : (((List Int) × (List Int) × Unit) × (Unit)) → Option ((((List Int) × (List Int) × Bool × Unit) × (Unit)) ⊕ Empty)) (x_ : (List Int)) (y : (List Int)) : Option ((Int × Unit) × (Unit)) :=
  (Option.bind (l0 ((x_, (y, ())), ())) (fun y0 =>
  (Sum.elim (fun a1 =>
   (bif a1.1.2.2.1 then
    (some (((8:Int), ()), ()))
   else
    (Option.bind (l1 ((a1.1.1, (a1.1.2.1, ())), ())) (fun y3 =>
    (Sum.elim (fun a4 =>
     (bif a4.1.2.2.1 then
      (some (((12:Int), ()), ()))
     else
      (bif ((((List.length a4.1.1) : Nat) : Int) != (((List.length a4.1.2.1) : Nat) : Int)) then
       (some (((8:Int), ()), ()))
      else
       (some (((0:Int), ()), ()))))) (fun b4 =>
     (Empty.elim b4)) y3))))) (fun b1 =>
   (Empty.elim b1)) y0)))
theorem euclid_check.eq (g_euclid_length : euclid_length.sh.X → Option euclid_length.osh.X) (g_euclid_samples : euclid_samples.sh.X → Option euclid_samples.osh.X) (l0 : euclid_check.s0.X → Option (sumX euclid_check.x0)) (l1 : euclid_check.s1.X → Option (sumX euclid_check.x1)) (x : (((List Int) × (List Int) × Unit) × (Unit))) : (bodyO (euclid_check.E g_euclid_length g_euclid_samples l0 l1) (mk euclid_check.hs euclid_check.c []) Go.Proofs.Tryd.f57.results.toList euclid_check.sh euclid_check.osh x).run _ some = euclid_check.f l0 l1 x.1.1 x.1.2.1 := by
  show _ = (_ : Option _)
  kernel_rfl
noncomputable def euclid_check (x_ : (List Int)) (y : (List Int)) : Option ((Int × Unit) × (Unit)) := euclid_check.f euclid_check.L0 euclid_check.L1 x_ y
noncomputable def euclid_check.F (x : (((List Int) × (List Int) × Unit) × (Unit))) : Option ((Int × Unit) × (Unit)) := euclid_check x.1.1 x.1.2.1
theorem euclid_check.L0_eq (x_0 : (List Int)) (y_1 : (List Int)) : euclid_check.L0 ((x_0, y_1, ()), ()) = euclid_check.f0 euclid_length.F x_0 y_1 := rfl
theorem euclid_check.L1_eq (x_0 : (List Int)) (y_1 : (List Int)) : euclid_check.L1 ((x_0, y_1, ()), ()) = euclid_check.f1 euclid_samples.F x_0 y_1 := rfl
theorem euclid_check.F_eq (x_ : (List Int)) (y : (List Int)) : euclid_check.F ((x_, y, ()), ()) = euclid_check.f euclid_check.L0 euclid_check.L1 x_ y := rfl
theorem euclid_check.ok {tabs : List (Nat × Go.Obj)} (ht : TabsOk tabs) : FOK Go.Proofs.Tryd.prog tabs 57 (FE.of [true, true] false euclid_check.sh euclid_check.osh euclid_check.F) := by
  refine fn_keeps (E := (euclid_check.E euclid_length.F euclid_samples.F euclid_check.L0 euclid_check.L1)) (c := euclid_check.c) (fn := Go.Proofs.Tryd.f57) (hs := euclid_check.hs) (by kernel_rfl) Go.Proofs.Tryd.func57 ⟨by kernel_rfl, by kernel_rfl, tb, by kernel_rfl, by kernel_rfl, by kernel_rfl, by kernel_rfl, by kernel_rfl⟩ ⟨fun g ks fe h => ?_, gt_ok ht⟩ ?_ (fun x => euclid_check.eq euclid_length.F euclid_samples.F euclid_check.L0 euclid_check.L1 x)
  · rcases c_cons h with ⟨rfl, rfl⟩ | h
    · exact euclid_length.ok ht
    rcases c_cons h with ⟨rfl, rfl⟩ | h
    · exact euclid_samples.ok ht
    cases h
  · refine known_at 2 (by kernel_rfl) fun i hi => ?_
    match i, hi with
    | 0, _ => exact atom_at (id := 0) (live := [0, 1]) (outs := [(0, [0, 1, 5])]) (loop := false) (by kernel_rfl) (cut_ok (E := (euclid_check.E euclid_length.F euclid_samples.F euclid_check.L0 euclid_check.L1)) (sh := euclid_check.s0) (es := euclid_check.x0) rfl (fun L x => euclid_check.eq0 euclid_length.F euclid_samples.F euclid_check.L0 euclid_check.L1 L x))
    | 1, _ => exact atom_at (id := 1) (live := [0, 1]) (outs := [(0, [0, 1, 14])]) (loop := false) (by kernel_rfl) (cut_ok (E := (euclid_check.E euclid_length.F euclid_samples.F euclid_check.L0 euclid_check.L1)) (sh := euclid_check.s1) (es := euclid_check.x1) rfl (fun L x => euclid_check.eq1 euclid_length.F euclid_samples.F euclid_check.L0 euclid_check.L1 L x))
    | n + 2, h => exact absurd h (by omega)

/-! euclid_square -/
def euclid_square.f0 (L : (((List Int) × Int × (List Int) × Int × Int × Unit) × (Unit)) → Option (((Int × Unit) × (Unit)) ⊕ Empty)) (y_1 : (List Int)) (sum_5 : Int) (v8 : (List Int)) (v9 : Int) (v10 : Int) : Option (((Int × Unit) × (Unit)) ⊕ Empty) :=
  (bif (decide (v10 < v9)) then
   (bif (decide ((0:Int) ≤ v10)) then
    (bif (decide (v10 < (((List.length v8) : Nat) : Int))) then
     (bif (decide ((0:Int) ≤ v10)) then
      (bif (decide (v10 < (((List.length y_1) : Nat) : Int))) then
       (bif (decide ((0:Int) ≤ v10)) then
        (bif (decide (v10 < (((List.length y_1) : Nat) : Int))) then
         (Option.bind (L ((y_1, ((Go.IntKind.wrap Go.IntKind.i64 (sum_5 + (Go.IntKind.wrap Go.IntKind.i64 ((Go.IntKind.wrap Go.IntKind.i64 ((List.getD v8 (Int.toNat v10) (0:Int)) - (List.getD y_1 (Int.toNat v10) (0:Int)))) * (Go.IntKind.wrap Go.IntKind.i64 ((List.getD v8 (Int.toNat v10) (0:Int)) - (List.getD y_1 (Int.toNat v10) (0:Int)))))))), (v8, (v9, ((Go.IntKind.wrap Go.IntKind.i64 (v10 + (1:Int))), ()))))), ())) (fun y7 =>
         (some y7)))
        else
         none)
       else
        none)
      else
       none)
     else
      none)
    else
     none)
   else
    none)
  else
   (some (Sum.inl ((sum_5, ()), ()))))
theorem euclid_square.eq0 (l0 : euclid_square.s0.X → Option (sumX euclid_square.x0)) (L : (((List Int) × Int × (List Int) × Int × Int × Unit) × (Unit)) → Option (((Int × Unit) × (Unit)) ⊕ Empty)) (x : (((List Int) × Int × (List Int) × Int × Int × Unit) × (Unit))) : (roundK (euclid_square.E l0) euclid_square.s0 [1, 5, 8, 9, 10] [(2, [5])] true (((mk euclid_square.hs euclid_square.c []).atoms.getD 0 .bad).body) euclid_square.x0 L x).run _ some = euclid_square.f0 L x.1.1 x.1.2.1 x.1.2.2.1 x.1.2.2.2.1 x.1.2.2.2.2.1 := by
  show _ = (_ : Option _)
  kernel_rfl
noncomputable def euclid_square.L0 : (((List Int) × Int × (List Int) × Int × Int × Unit) × (Unit)) → Option (((Int × Unit) × (Unit)) ⊕ Empty) := loop fun L x => euclid_square.f0 L x.1.1 x.1.2.1 x.1.2.2.1 x.1.2.2.2.1 x.1.2.2.2.2.1
def euclid_square.f (l0 : (((List Int) × Int × (List Int) × Int × Int × Unit) × (Unit)) → Option (((Int × Unit) × (Unit)) ⊕ Empty)) (x_ : (List Int)) (y : (List Int)) : Option ((Int × Unit) × (Unit)) :=
  (Option.bind (l0 ((y, ((0:Int), (x_, ((((List.length x_) : Nat) : Int), ((0:Int), ()))))), ())) (fun y0 =>
  (Sum.elim (fun a1 =>
   (some ((a1.1.1, ()), ()))) (fun b1 =>
   (Empty.elim b1)) y0)))
theorem euclid_square.eq (l0 : euclid_square.s0.X → Option (sumX euclid_square.x0)) (x : (((List Int) × (List Int) × Unit) × (Unit))) : (bodyO (euclid_square.E l0) (mk euclid_square.hs euclid_square.c []) Go.Proofs.Tryd.f58.results.toList euclid_square.sh euclid_square.osh x).run _ some = euclid_square.f l0 x.1.1 x.1.2.1 := by
  show _ = (_ : Option _)
  kernel_rfl
noncomputable def euclid_square (x_ : (List Int)) (y : (List Int)) : Option ((Int × Unit) × (Unit)) := euclid_square.f euclid_square.L0 x_ y
noncomputable def euclid_square.F (x : (((List Int) × (List Int) × Unit) × (Unit))) : Option ((Int × Unit) × (Unit)) := euclid_square x.1.1 x.1.2.1
theorem euclid_square.L0_eq (y_1 : (List Int)) (sum_5 : Int) (v8 : (List Int)) (v9 : Int) (v10 : Int) : euclid_square.L0 ((y_1, sum_5, v8, v9, v10, ()), ()) = euclid_square.f0 euclid_square.L0 y_1 sum_5 v8 v9 v10 :=
  loop_eq (E := (euclid_square.E euclid_square.L0)) (sh := euclid_square.s0) (es := euclid_square.x0) (lp := true) (H := fun L x => euclid_square.eq0 euclid_square.L0 L x) ((y_1, sum_5, v8, v9, v10, ()), ())
theorem euclid_square.F_eq (x_ : (List Int)) (y : (List Int)) : euclid_square.F ((x_, y, ()), ()) = euclid_square.f euclid_square.L0 x_ y := rfl
theorem euclid_square.ok {tabs : List (Nat × Go.Obj)} (ht : TabsOk tabs) : FOK Go.Proofs.Tryd.prog tabs 58 (FE.of [true, true] false euclid_square.sh euclid_square.osh euclid_square.F) := by
  refine fn_keeps (E := (euclid_square.E euclid_square.L0)) (c := euclid_square.c) (fn := Go.Proofs.Tryd.f58) (hs := euclid_square.hs) (by kernel_rfl) Go.Proofs.Tryd.func58 ⟨by kernel_rfl, by kernel_rfl, tb, by kernel_rfl, by kernel_rfl, by kernel_rfl, by kernel_rfl, by kernel_rfl⟩ ⟨fun g ks fe h => ?_, gt_ok ht⟩ ?_ (fun x => euclid_square.eq euclid_square.L0 x)
  · cases h
  · refine known_at 1 (by kernel_rfl) fun i hi => ?_
    match i, hi with
    | 0, _ => exact atom_at (id := 0) (live := [1, 5, 8, 9, 10]) (outs := [(2, [5])]) (loop := true) (by kernel_rfl) (loop_ok (E := (euclid_square.E euclid_square.L0)) (sh := euclid_square.s0) (es := euclid_square.x0) rfl (fun L x => euclid_square.eq0 euclid_square.L0 L x))
    | n + 1, h => exact absurd h (by omega)

/-! euclid_Distance -/
def euclid_Distance.f (g_euclid_check : (((List Int) × (List Int) × Unit) × (Unit)) → Option ((Int × Unit) × (Unit))) (g_euclid_square : (((List Int) × (List Int) × Unit) × (Unit)) → Option ((Int × Unit) × (Unit))) (x_ : (List Int)) (y : (List Int)) : Option ((Int × Int × Unit) × (Unit)) :=
  (Option.bind (g_euclid_check ((x_, (y, ())), ())) (fun y0 =>
  (bif (y0.1.1 != (0:Int)) then
   (some (((0:Int), (y0.1.1, ())), ()))
  else
   (Option.bind (g_euclid_square ((x_, (y, ())), ())) (fun y2 =>
   (some ((y2.1.1, ((0:Int), ())), ())))))))
theorem euclid_Distance.eq (g_euclid_check : euclid_check.sh.X → Option euclid_check.osh.X) (g_euclid_square : euclid_square.sh.X → Option euclid_square.osh.X) (x : (((List Int) × (List Int) × Unit) × (Unit))) : (bodyO (euclid_Distance.E g_euclid_check g_euclid_square) (mk euclid_Distance.hs euclid_Distance.c []) Go.Proofs.Tryd.f41.results.toList euclid_Distance.sh euclid_Distance.osh x).run _ some = euclid_Distance.f g_euclid_check g_euclid_square x.1.1 x.1.2.1 := by
  show _ = (_ : Option _)
  kernel_rfl
noncomputable def euclid_Distance (x_ : (List Int)) (y : (List Int)) : Option ((Int × Int × Unit) × (Unit)) := euclid_Distance.f euclid_check.F euclid_square.F x_ y
noncomputable def euclid_Distance.F (x : (((List Int) × (List Int) × Unit) × (Unit))) : Option ((Int × Int × Unit) × (Unit)) := euclid_Distance x.1.1 x.1.2.1
theorem euclid_Distance.F_eq (x_ : (List Int)) (y : (List Int)) : euclid_Distance.F ((x_, y, ()), ()) = euclid_Distance.f euclid_check.F euclid_square.F x_ y := rfl
theorem euclid_Distance.ok {tabs : List (Nat × Go.Obj)} (ht : TabsOk tabs) : FOK Go.Proofs.Tryd.prog tabs 41 (FE.of [true, true] false euclid_Distance.sh euclid_Distance.osh euclid_Distance.F) := by
  refine fn_keeps (E := (euclid_Distance.E euclid_check.F euclid_square.F)) (c := euclid_Distance.c) (fn := Go.Proofs.Tryd.f41) (hs := euclid_Distance.hs) (by kernel_rfl) Go.Proofs.Tryd.func41 ⟨by kernel_rfl, by kernel_rfl, tb, by kernel_rfl, by kernel_rfl, by kernel_rfl, by kernel_rfl, by kernel_rfl⟩ ⟨fun g ks fe h => ?_, gt_ok ht⟩ ?_ (fun x => euclid_Distance.eq euclid_check.F euclid_square.F x)
  · rcases c_cons h with ⟨rfl, rfl⟩ | h
    · exact euclid_check.ok ht
    rcases c_cons h with ⟨rfl, rfl⟩ | h
    · exact euclid_square.ok ht
    cases h
  · exact known_at 0 (by kernel_rfl) fun i hi => absurd hi (Nat.not_lt_zero i)

/-! ratio_divisor -/
def ratio_divisor.f0 (L : ((Int × Int × Unit) × (Unit)) → Option (((Int × Unit) × (Unit)) ⊕ Empty)) (a_0 : Int) (b_1 : Int) : Option (((Int × Unit) × (Unit)) ⊕ Empty) :=
  (bif (b_1 != (0:Int)) then
   (bif (!(decide (b_1 = (0:Int)))) then
    (Option.bind (L ((b_1, ((Int.tmod a_0 b_1), ())), ())) (fun y2 =>
    (some y2)))
   else
    none)
  else
   (some (Sum.inl ((a_0, ()), ()))))
theorem ratio_divisor.eq0 (l0 : ratio_divisor.s0.X → Option (sumX ratio_divisor.x0)) (L : ((Int × Int × Unit) × (Unit)) → Option (((Int × Unit) × (Unit)) ⊕ Empty)) (x : ((Int × Int × Unit) × (Unit))) : (roundK (ratio_divisor.E l0) ratio_divisor.s0 [0, 1] [(2, [0])] true (((mk ratio_divisor.hs ratio_divisor.c []).atoms.getD 0 .bad).body) ratio_divisor.x0 L x).run _ some = ratio_divisor.f0 L x.1.1 x.1.2.1 := by
  show _ = (_ : Option _)
  kernel_rfl
noncomputable def ratio_divisor.L0 : ((Int × Int × Unit) × (Unit)) → Option (((Int × Unit) × (Unit)) ⊕ Empty) := loop fun L x => ratio_divisor.f0 L x.1.1 x.1.2.1
def ratio_divisor.f (l0 : ((Int × Int × Unit) × (Unit)) → Option (((Int × Unit) × (Unit)) ⊕ Empty)) (a : Int) (b : Int) : Option ((Int × Unit) × (Unit)) :=
  (Option.bind (l0 ((a, (b, ())), ())) (fun y0 =>
  (Sum.elim (fun a1 =>
   (some ((a1.1.1, ()), ()))) (fun b1 =>
   (Empty.elim b1)) y0)))
theorem ratio_divisor.eq (l0 : ratio_divisor.s0.X → Option (sumX ratio_divisor.x0)) (x : ((Int × Int × Unit) × (Unit))) : (bodyO (ratio_divisor.E l0) (mk ratio_divisor.hs ratio_divisor.c []) Go.Proofs.Tryd.f54.results.toList ratio_divisor.sh ratio_divisor.osh x).run _ some = ratio_divisor.f l0 x.1.1 x.1.2.1 := by
  show _ = (_ : Option _)
  kernel_rfl
noncomputable def ratio_divisor (a : Int) (b : Int) : Option ((Int × Unit) × (Unit)) := ratio_divisor.f ratio_divisor.L0 a b
noncomputable def ratio_divisor.F (x : ((Int × Int × Unit) × (Unit))) : Option ((Int × Unit) × (Unit)) := ratio_divisor x.1.1 x.1.2.1
theorem ratio_divisor.L0_eq (a_0 : Int) (b_1 : Int) : ratio_divisor.L0 ((a_0, b_1, ()), ()) = ratio_divisor.f0 ratio_divisor.L0 a_0 b_1 :=
  loop_eq (E := (ratio_divisor.E ratio_divisor.L0)) (sh := ratio_divisor.s0) (es := ratio_divisor.x0) (lp := true) (H := fun L x => ratio_divisor.eq0 ratio_divisor.L0 L x) ((a_0, b_1, ()), ())
theorem ratio_divisor.F_eq (a : Int) (b : Int) : ratio_divisor.F ((a, b, ()), ()) = ratio_divisor.f ratio_divisor.L0 a b := rfl
theorem ratio_divisor.ok {tabs : List (Nat × Go.Obj)} (ht : TabsOk tabs) : FOK Go.Proofs.Tryd.prog tabs 54 (FE.of [true, true] false ratio_divisor.sh ratio_divisor.osh ratio_divisor.F) := by
  refine fn_keeps (E := (ratio_divisor.E ratio_divisor.L0)) (c := ratio_divisor.c) (fn := Go.Proofs.Tryd.f54) (hs := ratio_divisor.hs) (by kernel_rfl) Go.Proofs.Tryd.func54 ⟨by kernel_rfl, by kernel_rfl, tb, by kernel_rfl, by kernel_rfl, by kernel_rfl, by kernel_rfl, by kernel_rfl⟩ ⟨fun g ks fe h => ?_, gt_ok ht⟩ ?_ (fun x => ratio_divisor.eq ratio_divisor.L0 x)
  · cases h
  · refine known_at 1 (by kernel_rfl) fun i hi => ?_
    match i, hi with
    | 0, _ => exact atom_at (id := 0) (live := [0, 1]) (outs := [(2, [0])]) (loop := true) (by kernel_rfl) (loop_ok (E := (ratio_divisor.E ratio_divisor.L0)) (sh := ratio_divisor.s0) (es := ratio_divisor.x0) rfl (fun L x => ratio_divisor.eq0 ratio_divisor.L0 L x))
    | n + 1, h => exact absurd h (by omega)

/-! ratio_within -/
def ratio_within.f (a_Num : Int) (a_Den : Int) : Option ((Bool × Unit) × (Unit)) :=
  (bif (decide (a_Num ≥ (0:Int))) then
   (bif (decide (a_Num ≤ (2305843009213693952:Int))) then
    (bif (decide (a_Den ≥ (1:Int))) then
     (some (((decide (a_Den ≤ (1152921504606846976:Int))), ()), ()))
    else
     (some ((Bool.false, ()), ())))
   else
    (some ((Bool.false, ()), ())))
  else
   (some ((Bool.false, ()), ())))
theorem ratio_within.eq (x : (((Int × Int × Unit) × Unit) × (Unit))) : (bodyO (ratio_within.E) (mk ratio_within.hs ratio_within.c []) Go.Proofs.Tryd.f53.results.toList ratio_within.sh ratio_within.osh x).run _ some = ratio_within.f x.1.1.1 x.1.1.2.1 := by
  show _ = (_ : Option _)
  kernel_rfl
noncomputable def ratio_within (a_Num : Int) (a_Den : Int) : Option ((Bool × Unit) × (Unit)) := ratio_within.f a_Num a_Den
noncomputable def ratio_within.F (x : (((Int × Int × Unit) × Unit) × (Unit))) : Option ((Bool × Unit) × (Unit)) := ratio_within x.1.1.1 x.1.1.2.1
theorem ratio_within.F_eq (a_Num : Int) (a_Den : Int) : ratio_within.F (((a_Num, a_Den, ()), ()), ()) = ratio_within.f a_Num a_Den := rfl
theorem ratio_within.ok {tabs : List (Nat × Go.Obj)} (ht : TabsOk tabs) : FOK Go.Proofs.Tryd.prog tabs 53 (FE.of [true] false ratio_within.sh ratio_within.osh ratio_within.F) := by
  refine fn_keeps (E := (ratio_within.E)) (c := ratio_within.c) (fn := Go.Proofs.Tryd.f53) (hs := ratio_within.hs) (by kernel_rfl) Go.Proofs.Tryd.func53 ⟨by kernel_rfl, by kernel_rfl, tb, by kernel_rfl, by kernel_rfl, by kernel_rfl, by kernel_rfl, by kernel_rfl⟩ ⟨fun g ks fe h => ?_, gt_ok ht⟩ ?_ (fun x => ratio_within.eq x)
  · cases h
  · exact known_at 0 (by kernel_rfl) fun i hi => absurd hi (Nat.not_lt_zero i)

/-! ratio_Make -/
def ratio_Make.f0 (num_0 : Int) (den_1 : Int) (o0_0 : Int) (o0_1 : Int) : Option (((Int × Int × Unit × Bool × Unit) × ((Int × Int × Unit) × Unit)) ⊕ Empty) :=
  (bif (decide (num_0 < (0:Int))) then
   (some (Sum.inl ((num_0, (den_1, ((), (Bool.true, ())))), ((o0_0, (o0_1, ())), ()))))
  else
   (some (Sum.inl ((num_0, (den_1, ((), ((decide (den_1 < (1:Int))), ())))), ((o0_0, (o0_1, ())), ())))))
theorem ratio_Make.eq0 (g_ratio_divisor : ratio_divisor.sh.X → Option ratio_divisor.osh.X) (g_ratio_within : ratio_within.sh.X → Option ratio_within.osh.X) (l0 : ratio_Make.s0.X → Option (sumX ratio_Make.x0)) (L : ((Int × Int × Unit × Unit) × ((Int × Int × Unit) × Unit)) → Option (((Int × Int × Unit × Bool × Unit) × ((Int × Int × Unit) × Unit)) ⊕ Empty)) (x : ((Int × Int × Unit × Unit) × ((Int × Int × Unit) × Unit))) : (roundK (ratio_Make.E g_ratio_divisor g_ratio_within l0) ratio_Make.s0 [0, 1, 4] [(0, [0, 1, 4, 13])] false (((mk ratio_Make.hs ratio_Make.c []).atoms.getD 0 .bad).body) ratio_Make.x0 L x).run _ some = ratio_Make.f0 x.1.1 x.1.2.1 x.2.1.1 x.2.1.2.1 := by
  show _ = (_ : Option _)
  kernel_rfl
noncomputable def ratio_Make.L0 : ((Int × Int × Unit × Unit) × ((Int × Int × Unit) × Unit)) → Option (((Int × Int × Unit × Bool × Unit) × ((Int × Int × Unit) × Unit)) ⊕ Empty) := fun x => ratio_Make.f0 x.1.1 x.1.2.1 x.2.1.1 x.2.1.2.1
def ratio_Make.f (g_ratio_divisor : ((Int × Int × Unit) × (Unit)) → Option ((Int × Unit) × (Unit))) (g_ratio_within : (((Int × Int × Unit) × Unit) × (Unit)) → Option ((Bool × Unit) × (Unit))) (l0 : ((Int × Int × Unit × Unit) × ((Int × Int × Unit) × Unit)) → Option (((Int × Int × Unit × Bool × Unit) × ((Int × Int × Unit) × Unit)) ⊕ Empty)) (num : Int) (den : Int) : Option (((Int × Int × Unit) × Int × Unit) × (Unit)) :=
  (Option.bind (l0 ((num, (den, ((), ()))), (((0:Int), ((0:Int), ())), ()))) (fun y0 =>
  (Sum.elim (fun a1 =>
   (bif a1.1.2.2.2.1 then
    (some ((((0:Int), ((0:Int), ())), ((1:Int), ())), ()))
   else
    (Option.bind (g_ratio_divisor ((a1.1.1, (a1.1.2.1, ())), ())) (fun y3 =>
    (bif (!(decide (y3.1.1 = (0:Int)))) then
     (bif (!(decide (y3.1.1 = (0:Int)))) then
      (Option.bind (g_ratio_within ((((Go.IntKind.wrap Go.IntKind.i64 (Int.tdiv a1.1.1 y3.1.1)), ((Go.IntKind.wrap Go.IntKind.i64 (Int.tdiv a1.1.2.1 y3.1.1)), ())), ()), ())) (fun y6 =>
      (bif (!y6.1.1) then
       (some ((((0:Int), ((0:Int), ())), ((1:Int), ())), ()))
      else
       (some ((((Go.IntKind.wrap Go.IntKind.i64 (Int.tdiv a1.1.1 y3.1.1)), ((Go.IntKind.wrap Go.IntKind.i64 (Int.tdiv a1.1.2.1 y3.1.1)), ())), ((0:Int), ())), ())))))
     else
      none)
    else
     none))))) (fun b1 =>
   (Empty.elim b1)) y0)))
theorem ratio_Make.eq (g_ratio_divisor : ratio_divisor.sh.X → Option ratio_divisor.osh.X) (g_ratio_within : ratio_within.sh.X → Option ratio_within.osh.X) (l0 : ratio_Make.s0.X → Option (sumX ratio_Make.x0)) (x : ((Int × Int × Unit) × (Unit))) : (bodyO (ratio_Make.E g_ratio_divisor g_ratio_within l0) (mk ratio_Make.hs ratio_Make.c []) Go.Proofs.Tryd.f56.results.toList ratio_Make.sh ratio_Make.osh x).run _ some = ratio_Make.f g_ratio_divisor g_ratio_within l0 x.1.1 x.1.2.1 := by
  show _ = (_ : Option _)
  kernel_rfl
noncomputable def ratio_Make (num : Int) (den : Int) : Option (((Int × Int × Unit) × Int × Unit) × (Unit)) := ratio_Make.f ratio_divisor.F ratio_within.F ratio_Make.L0 num den
noncomputable def ratio_Make.F (x : ((Int × Int × Unit) × (Unit))) : Option (((Int × Int × Unit) × Int × Unit) × (Unit)) := ratio_Make x.1.1 x.1.2.1
theorem ratio_Make.L0_eq (num_0 : Int) (den_1 : Int) (o0_0 : Int) (o0_1 : Int) : ratio_Make.L0 ((num_0, den_1, (), ()), ((o0_0, o0_1, ()), ())) = ratio_Make.f0 num_0 den_1 o0_0 o0_1 := rfl
theorem ratio_Make.F_eq (num : Int) (den : Int) : ratio_Make.F ((num, den, ()), ()) = ratio_Make.f ratio_divisor.F ratio_within.F ratio_Make.L0 num den := rfl
theorem ratio_Make.ok {tabs : List (Nat × Go.Obj)} (ht : TabsOk tabs) : FOK Go.Proofs.Tryd.prog tabs 56 (FE.of [true, true] false ratio_Make.sh ratio_Make.osh ratio_Make.F) := by
  refine fn_keeps (E := (ratio_Make.E ratio_divisor.F ratio_within.F ratio_Make.L0)) (c := ratio_Make.c) (fn := Go.Proofs.Tryd.f56) (hs := ratio_Make.hs) (by kernel_rfl) Go.Proofs.Tryd.func56 ⟨by kernel_rfl, by kernel_rfl, tb, by kernel_rfl, by kernel_rfl, by kernel_rfl, by kernel_rfl, by kernel_rfl⟩ ⟨fun g ks fe h => ?_, gt_ok ht⟩ ?_ (fun x => ratio_Make.eq ratio_divisor.F ratio_within.F ratio_Make.L0 x)
  · rcases c_cons h with ⟨rfl, rfl⟩ | h
    · exact ratio_divisor.ok ht
    rcases c_cons h with ⟨rfl, rfl⟩ | h
    · exact ratio_within.ok ht
    cases h
  · refine known_at 1 (by kernel_rfl) fun i hi => ?_
    match i, hi with
    | 0, _ => exact atom_at (id := 0) (live := [0, 1, 4]) (outs := [(0, [0, 1, 4, 13])]) (loop := false) (by kernel_rfl) (cut_ok (E := (ratio_Make.E ratio_divisor.F ratio_within.F ratio_Make.L0)) (sh := ratio_Make.s0) (es := ratio_Make.x0) rfl (fun L x => ratio_Make.eq0 ratio_divisor.F ratio_within.F ratio_Make.L0 L x))
    | n + 1, h => exact absurd h (by omega)

/-! measure_whole -/
def measure_whole.f (g_ratio_Make : ((Int × Int × Unit) × (Unit)) → Option (((Int × Int × Unit) × Int × Unit) × (Unit))) (d : Int) (e : Int) : Option (((Int × Int × Unit) × Int × Unit) × (Unit)) :=
  (bif (e != (0:Int)) then
   (some ((((0:Int), ((0:Int), ())), (e, ())), ()))
  else
   (Option.bind (g_ratio_Make ((d, ((1:Int), ())), ())) (fun y1 =>
   (some (((y1.1.1.1, (y1.1.1.2.1, ())), (y1.1.2.1, ())), ())))))
theorem measure_whole.eq (g_ratio_Make : ratio_Make.sh.X → Option ratio_Make.osh.X) (x : ((Int × Int × Unit) × (Unit))) : (bodyO (measure_whole.E g_ratio_Make) (mk measure_whole.hs measure_whole.c []) Go.Proofs.Tryd.f40.results.toList measure_whole.sh measure_whole.osh x).run _ some = measure_whole.f g_ratio_Make x.1.1 x.1.2.1 := by
  show _ = (_ : Option _)
  kernel_rfl
noncomputable def measure_whole (d : Int) (e : Int) : Option (((Int × Int × Unit) × Int × Unit) × (Unit)) := measure_whole.f ratio_Make.F d e
noncomputable def measure_whole.F (x : ((Int × Int × Unit) × (Unit))) : Option (((Int × Int × Unit) × Int × Unit) × (Unit)) := measure_whole x.1.1 x.1.2.1
theorem measure_whole.F_eq (d : Int) (e : Int) : measure_whole.F ((d, e, ()), ()) = measure_whole.f ratio_Make.F d e := rfl
theorem measure_whole.ok {tabs : List (Nat × Go.Obj)} (ht : TabsOk tabs) : FOK Go.Proofs.Tryd.prog tabs 40 (FE.of [true, true] false measure_whole.sh measure_whole.osh measure_whole.F) := by
  refine fn_keeps (E := (measure_whole.E ratio_Make.F)) (c := measure_whole.c) (fn := Go.Proofs.Tryd.f40) (hs := measure_whole.hs) (by kernel_rfl) Go.Proofs.Tryd.func40 ⟨by kernel_rfl, by kernel_rfl, tb, by kernel_rfl, by kernel_rfl, by kernel_rfl, by kernel_rfl, by kernel_rfl⟩ ⟨fun g ks fe h => ?_, gt_ok ht⟩ ?_ (fun x => measure_whole.eq ratio_Make.F x)
  · rcases c_cons h with ⟨rfl, rfl⟩ | h
    · exact ratio_Make.ok ht
    cases h
  · exact known_at 0 (by kernel_rfl) fun i hi => absurd hi (Nat.not_lt_zero i)

/-! measure_distances_1 -/
def measure_distances_1.f (g_euclid_Distance : (((List Int) × (List Int) × Unit) × (Unit)) → Option ((Int × Int × Unit) × (Unit))) (g_measure_whole : ((Int × Int × Unit) × (Unit)) → Option (((Int × Int × Unit) × Int × Unit) × (Unit))) (x_ : (List Int)) (y : (List Int)) : Option (((Int × Int × Unit) × Int × Unit) × (Unit)) :=
  (Option.bind (g_euclid_Distance ((x_, (y, ())), ())) (fun y0 =>
  (Option.bind (g_measure_whole ((y0.1.1, (y0.1.2.1, ())), ())) (fun y1 =>
  (some (((y1.1.1.1, (y1.1.1.2.1, ())), (y1.1.2.1, ())), ()))))))
theorem measure_distances_1.eq (g_euclid_Distance : euclid_Distance.sh.X → Option euclid_Distance.osh.X) (g_measure_whole : measure_whole.sh.X → Option measure_whole.osh.X) (x : (((List Int) × (List Int) × Unit) × (Unit))) : (bodyO (measure_distances_1.E g_euclid_Distance g_measure_whole) (mk measure_distances_1.hs measure_distances_1.c []) Go.Proofs.Tryd.f39.results.toList measure_distances_1.sh measure_distances_1.osh x).run _ some = measure_distances_1.f g_euclid_Distance g_measure_whole x.1.1 x.1.2.1 := by
  show _ = (_ : Option _)
  kernel_rfl
noncomputable def measure_distances_1 (x_ : (List Int)) (y : (List Int)) : Option (((Int × Int × Unit) × Int × Unit) × (Unit)) := measure_distances_1.f euclid_Distance.F measure_whole.F x_ y
noncomputable def measure_distances_1.F (x : (((List Int) × (List Int) × Unit) × (Unit))) : Option (((Int × Int × Unit) × Int × Unit) × (Unit)) := measure_distances_1 x.1.1 x.1.2.1
theorem measure_distances_1.F_eq (x_ : (List Int)) (y : (List Int)) : measure_distances_1.F ((x_, y, ()), ()) = measure_distances_1.f euclid_Distance.F measure_whole.F x_ y := rfl
theorem measure_distances_1.ok {tabs : List (Nat × Go.Obj)} (ht : TabsOk tabs) : FOK Go.Proofs.Tryd.prog tabs 39 (FE.of [true, true] false measure_distances_1.sh measure_distances_1.osh measure_distances_1.F) := by
  refine fn_keeps (E := (measure_distances_1.E euclid_Distance.F measure_whole.F)) (c := measure_distances_1.c) (fn := Go.Proofs.Tryd.f39) (hs := measure_distances_1.hs) (by kernel_rfl) Go.Proofs.Tryd.func39 ⟨by kernel_rfl, by kernel_rfl, tb, by kernel_rfl, by kernel_rfl, by kernel_rfl, by kernel_rfl, by kernel_rfl⟩ ⟨fun g ks fe h => ?_, gt_ok ht⟩ ?_ (fun x => measure_distances_1.eq euclid_Distance.F measure_whole.F x)
  · rcases c_cons h with ⟨rfl, rfl⟩ | h
    · exact euclid_Distance.ok ht
    rcases c_cons h with ⟨rfl, rfl⟩ | h
    · exact measure_whole.ok ht
    cases h
  · exact known_at 0 (by kernel_rfl) fun i hi => absurd hi (Nat.not_lt_zero i)
end Go.Proofs.YtadniiehehiblaaDoor.V
