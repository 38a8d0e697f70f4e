import Derived.Test.YthbphpmiandmbaaDoorVg1
import Derived.Test.YthbphpmiandmbaaDoorShelf
set_option linter.unusedVariables false
set_option maxRecDepth 100000
namespace Go.Proofs.YthbphpmiandmbaaDoor.V
open Go.VI
/-! law04_UnitReads -/
def law04_UnitReads.f0 (g_law04_awake : ((Unit) × (Unit)) → Option ((Bool × Unit) × (Unit))) (g_unit_Format : (((Int × Int × Unit) × Unit) × (Unit)) → Option ((ByteArray × Unit) × (Unit))) (s_0 : ByteArray) (e_8 : Int) (f_10 : Int) (o0_0 : Int) (o0_1 : Int) (o1_0 : Int) (o1_1 : Int) (o2_0 : Int) (o2_1 : Int) : Option (((Bool × Unit) × (Unit)) ⊕ Empty) :=
  (bif (e_8 == (0:Int)) then
   (bif ((o1_0 == o0_0) && ((o1_1 == o0_1) && Bool.true)) then
    (bif (f_10 != (0:Int)) then
     (Option.bind (g_law04_awake ((), ())) (fun y3 =>
     (some (Sum.inl ((y3.1.1, ()), ())))))
    else
     (Option.bind (g_unit_Format (((o2_0, (o2_1, ())), ()), ())) (fun y3 =>
     (bif ((ByteArray.toList y3.1.1) == (ByteArray.toList s_0)) then
      (Option.bind (g_law04_awake ((), ())) (fun y5 =>
      (some (Sum.inl ((y5.1.1, ()), ())))))
     else
      (some (Sum.inl ((Bool.false, ()), ())))))))
   else
    (some (Sum.inl ((Bool.false, ()), ()))))
  else
   (some (Sum.inl ((Bool.false, ()), ()))))
theorem law04_UnitReads.eq0 (g_law04_awake : law04_awake.sh.X → Option law04_awake.osh.X) (g_law04_made : law04_made.sh.X → Option law04_made.osh.X) (g_unit_Format : unit_Format.sh.X → Option unit_Format.osh.X) (g_unit_Parse : unit_Parse.sh.X → Option unit_Parse.osh.X) (l0 : law04_UnitReads.s0.X → Option (sumX law04_UnitReads.x0)) (L : ((ByteArray × Unit × Unit × Int × Unit × Int × Unit) × ((Int × Int × Unit) × (Int × Int × Unit) × (Int × Int × Unit) × Unit)) → Option (((Bool × Unit) × (Unit)) ⊕ Empty)) (x : ((ByteArray × Unit × Unit × Int × Unit × Int × Unit) × ((Int × Int × Unit) × (Int × Int × Unit) × (Int × Int × Unit) × Unit))) : (roundK (law04_UnitReads.E g_law04_awake g_law04_made g_unit_Format g_unit_Parse l0) law04_UnitReads.s0 [0, 5, 7, 8, 9, 10] [(0, [4])] false (((mk law04_UnitReads.hs law04_UnitReads.c []).atoms.getD 0 .bad).body) law04_UnitReads.x0 L x).run _ some = law04_UnitReads.f0 g_law04_awake g_unit_Format x.1.1 x.1.2.2.2.1 x.1.2.2.2.2.2.1 x.2.1.1 x.2.1.2.1 x.2.2.1.1 x.2.2.1.2.1 x.2.2.2.1.1 x.2.2.2.1.2.1 := by
  show _ = (_ : Option _)
  kernel_rfl
noncomputable def law04_UnitReads.L0 : ((ByteArray × Unit × Unit × Int × Unit × Int × Unit) × ((Int × Int × Unit) × (Int × Int × Unit) × (Int × Int × Unit) × Unit)) → Option (((Bool × Unit) × (Unit)) ⊕ Empty) := fun x => law04_UnitReads.f0 law04_awake.F unit_Format.F x.1.1 x.1.2.2.2.1 x.1.2.2.2.2.2.1 x.2.1.1 x.2.1.2.1 x.2.2.1.1 x.2.2.1.2.1 x.2.2.2.1.1 x.2.2.2.1.2.1
def law04_UnitReads.f (g_law04_awake : ((Unit) × (Unit)) → Option ((Bool × Unit) × (Unit))) (g_law04_made : (((List Int) × Unit) × (Unit)) → Option (((Int × Int × Unit) × (ByteArray × Int × Int × Int × Unit) × Unit) × (Unit))) (g_unit_Format : (((Int × Int × Unit) × Unit) × (Unit)) → Option ((ByteArray × Unit) × (Unit))) (g_unit_Parse : ((ByteArray × Unit) × (Unit)) → Option (((Int × Int × Unit) × Int × Unit) × (Unit))) (l0 : ((ByteArray × Unit × Unit × Int × Unit × Int × Unit) × ((Int × Int × Unit) × (Int × Int × Unit) × (Int × Int × Unit) × Unit)) → Option (((Bool × Unit) × (Unit)) ⊕ Empty)) (s : ByteArray) (l : (List Int)) : Option ((Bool × Unit) × (Unit)) :=
  (bif (decide ((((ByteArray.size s) : Nat) : Int) > (60:Int))) then
   (Option.bind (g_law04_awake ((), ())) (fun y1 =>
   (some ((y1.1.1, ()), ()))))
  else
   (Option.bind (g_law04_made ((l, ()), ())) (fun y1 =>
   (Option.bind (g_unit_Format (((y1.1.1.1, (y1.1.1.2.1, ())), ()), ())) (fun y2 =>
   (Option.bind (g_unit_Parse ((y2.1.1, ()), ())) (fun y3 =>
   (Option.bind (g_unit_Parse ((s, ()), ())) (fun y4 =>
   (Option.bind (l0 ((s, ((), ((), (y3.1.2.1, ((), (y4.1.2.1, ())))))), ((y1.1.1.1, (y1.1.1.2.1, ())), ((y3.1.1.1, (y3.1.1.2.1, ())), ((y4.1.1.1, (y4.1.1.2.1, ())), ()))))) (fun y5 =>
   (Sum.elim (fun a6 =>
    (some ((a6.1.1, ()), ()))) (fun b6 =>
    (Empty.elim b6)) y5))))))))))))
theorem law04_UnitReads.eq (g_law04_awake : law04_awake.sh.X → Option law04_awake.osh.X) (g_law04_made : law04_made.sh.X → Option law04_made.osh.X) (g_unit_Format : unit_Format.sh.X → Option unit_Format.osh.X) (g_unit_Parse : unit_Parse.sh.X → Option unit_Parse.osh.X) (l0 : law04_UnitReads.s0.X → Option (sumX law04_UnitReads.x0)) (x : ((ByteArray × (List Int) × Unit) × (Unit))) : (bodyO (law04_UnitReads.E g_law04_awake g_law04_made g_unit_Format g_unit_Parse l0) (mk law04_UnitReads.hs law04_UnitReads.c []) Go.Proofs.Tryd.f7.results.toList law04_UnitReads.sh law04_UnitReads.osh x).run _ some = law04_UnitReads.f g_law04_awake g_law04_made g_unit_Format g_unit_Parse l0 x.1.1 x.1.2.1 := by
  show _ = (_ : Option _)
  kernel_rfl
noncomputable def law04_UnitReads (s : ByteArray) (l : (List Int)) : Option ((Bool × Unit) × (Unit)) := law04_UnitReads.f law04_awake.F law04_made.F unit_Format.F unit_Parse.F law04_UnitReads.L0 s l
noncomputable def law04_UnitReads.F (x : ((ByteArray × (List Int) × Unit) × (Unit))) : Option ((Bool × Unit) × (Unit)) := law04_UnitReads x.1.1 x.1.2.1
theorem law04_UnitReads.L0_eq (s_0 : ByteArray) (e_8 : Int) (f_10 : Int) (o0_0 : Int) (o0_1 : Int) (o1_0 : Int) (o1_1 : Int) (o2_0 : Int) (o2_1 : Int) : law04_UnitReads.L0 ((s_0, (), (), e_8, (), f_10, ()), ((o0_0, o0_1, ()), (o1_0, o1_1, ()), (o2_0, o2_1, ()), ())) = law04_UnitReads.f0 law04_awake.F unit_Format.F s_0 e_8 f_10 o0_0 o0_1 o1_0 o1_1 o2_0 o2_1 := rfl
theorem law04_UnitReads.F_eq (s : ByteArray) (l : (List Int)) : law04_UnitReads.F ((s, l, ()), ()) = law04_UnitReads.f law04_awake.F law04_made.F unit_Format.F unit_Parse.F law04_UnitReads.L0 s l := rfl
theorem law04_UnitReads.ok {tabs : List (Nat × Go.Obj)} (ht : TabsOk tabs) : FOK Go.Proofs.Tryd.prog tabs 7 (FE.of [true, true] false law04_UnitReads.sh law04_UnitReads.osh law04_UnitReads.F) := by
  refine fn_keeps (E := (law04_UnitReads.E law04_awake.F law04_made.F unit_Format.F unit_Parse.F law04_UnitReads.L0)) (c := law04_UnitReads.c) (fn := Go.Proofs.Tryd.f7) (hs := law04_UnitReads.hs) (by kernel_rfl) Go.Proofs.Tryd.func7 ⟨by kernel_rfl, by kernel_rfl, tb, by kernel_rfl, by kernel_rfl, by kernel_rfl, by kernel_rfl, by kernel_rfl⟩ ⟨fun g ks fe h => ?_, gt_ok ht⟩ ?_ (fun x => law04_UnitReads.eq law04_awake.F law04_made.F unit_Format.F unit_Parse.F law04_UnitReads.L0 x)
  · rcases c_cons h with ⟨rfl, rfl⟩ | h
    · exact law04_awake.ok ht
    rcases c_cons h with ⟨rfl, rfl⟩ | h
    · exact law04_made.ok ht
    rcases c_cons h with ⟨rfl, rfl⟩ | h
    · exact unit_Format.ok ht
    rcases c_cons h with ⟨rfl, rfl⟩ | h
    · exact unit_Parse.ok ht
    cases h
  · refine known_at 1 (by kernel_rfl) fun i hi => ?_
    match i, hi with
    | 0, _ => exact atom_at (id := 0) (live := [0, 5, 7, 8, 9, 10]) (outs := [(0, [4])]) (loop := false) (by kernel_rfl) (cut_ok (E := (law04_UnitReads.E law04_awake.F law04_made.F unit_Format.F unit_Parse.F law04_UnitReads.L0)) (sh := law04_UnitReads.s0) (es := law04_UnitReads.x0) rfl (fun L x => law04_UnitReads.eq0 law04_awake.F law04_made.F unit_Format.F unit_Parse.F law04_UnitReads.L0 L x))
    | n + 1, h => exact absurd h (by omega)
end Go.Proofs.YthbphpmiandmbaaDoor.V
