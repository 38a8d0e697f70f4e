import Derived.Test.YtadniiehehiblaaDoorVgEnv
import Derived.Test.YtadniiehehiblaaDoorShelf
import Derived.WalkKit
set_option linter.unusedVariables false
set_option maxRecDepth 100000
namespace Go.Proofs.YtadniiehehiblaaDoor.V
open Go.VI
/-! keep_New -/
def keep_New.f (l : (List Int)) : Option ((Unit × Unit) × (((List Int) × Int × Unit) × Unit)) :=
  (bif (decide ((0:Int) ≤ (Go.VI.mn (((List.length l) : Nat) : Int) (2000:Int)))) then
   (bif (decide ((Go.VI.mn (((List.length l) : Nat) : Int) (2000:Int)) ≤ (((List.length l) : Nat) : Int))) then
    (some (((), ()), (((List.drop (Int.toNat (0:Int)) (List.take (Int.toNat (Go.VI.mn (((List.length l) : Nat) : Int) (2000:Int))) l)), ((0:Int), ())), ())))
   else
    none)
  else
   none)
theorem keep_New.eq (x : (((List Int) × Unit) × (Unit))) : (bodyO (keep_New.E) (mk keep_New.hs keep_New.c []) Go.Proofs.Tryd.f8.results.toList keep_New.sh keep_New.osh x).run _ some = keep_New.f x.1.1 := by
  show _ = (_ : Option _)
  kernel_rfl
noncomputable def keep_New (l : (List Int)) : Option ((Unit × Unit) × (((List Int) × Int × Unit) × Unit)) := keep_New.f l
noncomputable def keep_New.F (x : (((List Int) × Unit) × (Unit))) : Option ((Unit × Unit) × (((List Int) × Int × Unit) × Unit)) := keep_New x.1.1
theorem keep_New.F_eq (l : (List Int)) : keep_New.F ((l, ()), ()) = keep_New.f l := rfl
theorem keep_New.ok {tabs : List (Nat × Go.Obj)} (ht : TabsOk tabs) : FOK Go.Proofs.Tryd.prog tabs 8 (FE.of [true] true keep_New.sh keep_New.osh keep_New.F) := by
  refine fn_keeps (E := (keep_New.E)) (c := keep_New.c) (fn := Go.Proofs.Tryd.f8) (hs := keep_New.hs) (by kernel_rfl) Go.Proofs.Tryd.func8 ⟨by kernel_rfl, by kernel_rfl, tb, by kernel_rfl, by kernel_rfl, by kernel_rfl, by kernel_rfl, by kernel_rfl⟩ ⟨fun g ks fe h => ?_, gt_ok ht⟩ ?_ (fun x => keep_New.eq x)
  · cases h
  · exact known_at 0 (by kernel_rfl) fun i hi => absurd hi (Nat.not_lt_zero i)

/-! keep_Src_Raw -/
def keep_Src_Raw.f (o0_0 : (List Int)) (o0_1 : Int) : Option ((Int × Unit) × (((List Int) × Int × Unit) × Unit)) :=
  (bif (decide (o0_1 ≥ (((List.length o0_0) : Nat) : Int))) then
   (some (((0:Int), ()), ((o0_0, (o0_1, ())), ())))
  else
   (bif (decide ((0:Int) ≤ (Go.IntKind.wrap Go.IntKind.i64 ((Go.IntKind.wrap Go.IntKind.i64 (o0_1 + (1:Int))) - (1:Int))))) then
    (bif (decide ((Go.IntKind.wrap Go.IntKind.i64 ((Go.IntKind.wrap Go.IntKind.i64 (o0_1 + (1:Int))) - (1:Int))) < (((List.length o0_0) : Nat) : Int))) then
     (some (((List.getD o0_0 (Int.toNat (Go.IntKind.wrap Go.IntKind.i64 ((Go.IntKind.wrap Go.IntKind.i64 (o0_1 + (1:Int))) - (1:Int)))) (0:Int)), ()), ((o0_0, ((Go.IntKind.wrap Go.IntKind.i64 (o0_1 + (1:Int))), ())), ())))
    else
     none)
   else
    none))
theorem keep_Src_Raw.eq (x : ((Unit × Unit) × (((List Int) × Int × Unit) × Unit))) : (bodyO (keep_Src_Raw.E) (mk keep_Src_Raw.hs keep_Src_Raw.c []) Go.Proofs.Tryd.f38.results.toList keep_Src_Raw.sh keep_Src_Raw.osh x).run _ some = keep_Src_Raw.f x.2.1.1 x.2.1.2.1 := by
  show _ = (_ : Option _)
  kernel_rfl
noncomputable def keep_Src_Raw (o0_0 : (List Int)) (o0_1 : Int) : Option ((Int × Unit) × (((List Int) × Int × Unit) × Unit)) := keep_Src_Raw.f o0_0 o0_1
noncomputable def keep_Src_Raw.F (x : ((Unit × Unit) × (((List Int) × Int × Unit) × Unit))) : Option ((Int × Unit) × (((List Int) × Int × Unit) × Unit)) := keep_Src_Raw x.2.1.1 x.2.1.2.1
theorem keep_Src_Raw.F_eq (o0_0 : (List Int)) (o0_1 : Int) : keep_Src_Raw.F (((), ()), ((o0_0, o0_1, ()), ())) = keep_Src_Raw.f o0_0 o0_1 := rfl
theorem keep_Src_Raw.ok {tabs : List (Nat × Go.Obj)} (ht : TabsOk tabs) : FOK Go.Proofs.Tryd.prog tabs 38 (FE.of [true] true keep_Src_Raw.sh keep_Src_Raw.osh keep_Src_Raw.F) := by
  refine fn_keeps (E := (keep_Src_Raw.E)) (c := keep_Src_Raw.c) (fn := Go.Proofs.Tryd.f38) (hs := keep_Src_Raw.hs) (by kernel_rfl) Go.Proofs.Tryd.func38 ⟨by kernel_rfl, by kernel_rfl, tb, by kernel_rfl, by kernel_rfl, by kernel_rfl, by kernel_rfl, by kernel_rfl⟩ ⟨fun g ks fe h => ?_, gt_ok ht⟩ ?_ (fun x => keep_Src_Raw.eq x)
  · cases h
  · exact known_at 0 (by kernel_rfl) fun i hi => absurd hi (Nat.not_lt_zero i)

/-! keep_Mod -/
def keep_Mod.f (x_ : Int) (n : Int) : Option ((Int × Unit) × (Unit)) :=
  (bif (decide (n < (1:Int))) then
   (some (((0:Int), ()), ()))
  else
   (bif (!(decide (n = (0:Int)))) then
    (bif (decide ((Int.tmod x_ n) < (0:Int))) then
     (some (((Go.IntKind.wrap Go.IntKind.i64 ((Int.tmod x_ n) + n)), ()), ()))
    else
     (some (((Int.tmod x_ n), ()), ())))
   else
    none))
theorem keep_Mod.eq (x : ((Int × Int × Unit) × (Unit))) : (bodyO (keep_Mod.E) (mk keep_Mod.hs keep_Mod.c []) Go.Proofs.Tryd.f37.results.toList keep_Mod.sh keep_Mod.osh x).run _ some = keep_Mod.f x.1.1 x.1.2.1 := by
  show _ = (_ : Option _)
  kernel_rfl
noncomputable def keep_Mod (x_ : Int) (n : Int) : Option ((Int × Unit) × (Unit)) := keep_Mod.f x_ n
noncomputable def keep_Mod.F (x : ((Int × Int × Unit) × (Unit))) : Option ((Int × Unit) × (Unit)) := keep_Mod x.1.1 x.1.2.1
theorem keep_Mod.F_eq (x_ : Int) (n : Int) : keep_Mod.F ((x_, n, ()), ()) = keep_Mod.f x_ n := rfl
theorem keep_Mod.ok {tabs : List (Nat × Go.Obj)} (ht : TabsOk tabs) : FOK Go.Proofs.Tryd.prog tabs 37 (FE.of [true, true] false keep_Mod.sh keep_Mod.osh keep_Mod.F) := by
  refine fn_keeps (E := (keep_Mod.E)) (c := keep_Mod.c) (fn := Go.Proofs.Tryd.f37) (hs := keep_Mod.hs) (by kernel_rfl) Go.Proofs.Tryd.func37 ⟨by kernel_rfl, by kernel_rfl, tb, by kernel_rfl, by kernel_rfl, by kernel_rfl, by kernel_rfl, by kernel_rfl⟩ ⟨fun g ks fe h => ?_, gt_ok ht⟩ ?_ (fun x => keep_Mod.eq x)
  · cases h
  · exact known_at 0 (by kernel_rfl) fun i hi => absurd hi (Nat.not_lt_zero i)

/-! keep_Src_N -/
def keep_Src_N.f (g_keep_Src_Raw : ((Unit × Unit) × (((List Int) × Int × Unit) × Unit)) → Option ((Int × Unit) × (((List Int) × Int × Unit) × Unit))) (g_keep_Mod : ((Int × Int × Unit) × (Unit)) → Option ((Int × Unit) × (Unit))) (n : Int) (o0_0 : (List Int)) (o0_1 : Int) : Option ((Int × Unit) × (((List Int) × Int × Unit) × Unit)) :=
  (Option.bind (g_keep_Src_Raw (((), ()), ((o0_0, (o0_1, ())), ()))) (fun y0 =>
  (Option.bind (g_keep_Mod ((y0.1.1, (n, ())), ())) (fun y1 =>
  (some ((y1.1.1, ()), ((y0.2.1.1, (y0.2.1.2.1, ())), ())))))))
theorem keep_Src_N.eq (g_keep_Src_Raw : keep_Src_Raw.sh.X → Option keep_Src_Raw.osh.X) (g_keep_Mod : keep_Mod.sh.X → Option keep_Mod.osh.X) (x : ((Unit × Int × Unit) × (((List Int) × Int × Unit) × Unit))) : (bodyO (keep_Src_N.E g_keep_Src_Raw g_keep_Mod) (mk keep_Src_N.hs keep_Src_N.c []) Go.Proofs.Tryd.f24.results.toList keep_Src_N.sh keep_Src_N.osh x).run _ some = keep_Src_N.f g_keep_Src_Raw g_keep_Mod x.1.2.1 x.2.1.1 x.2.1.2.1 := by
  show _ = (_ : Option _)
  kernel_rfl
noncomputable def keep_Src_N (n : Int) (o0_0 : (List Int)) (o0_1 : Int) : Option ((Int × Unit) × (((List Int) × Int × Unit) × Unit)) := keep_Src_N.f keep_Src_Raw.F keep_Mod.F n o0_0 o0_1
noncomputable def keep_Src_N.F (x : ((Unit × Int × Unit) × (((List Int) × Int × Unit) × Unit))) : Option ((Int × Unit) × (((List Int) × Int × Unit) × Unit)) := keep_Src_N x.1.2.1 x.2.1.1 x.2.1.2.1
theorem keep_Src_N.F_eq (n : Int) (o0_0 : (List Int)) (o0_1 : Int) : keep_Src_N.F (((), n, ()), ((o0_0, o0_1, ()), ())) = keep_Src_N.f keep_Src_Raw.F keep_Mod.F n o0_0 o0_1 := rfl
theorem keep_Src_N.ok {tabs : List (Nat × Go.Obj)} (ht : TabsOk tabs) : FOK Go.Proofs.Tryd.prog tabs 24 (FE.of [true, true] true keep_Src_N.sh keep_Src_N.osh keep_Src_N.F) := by
  refine fn_keeps (E := (keep_Src_N.E keep_Src_Raw.F keep_Mod.F)) (c := keep_Src_N.c) (fn := Go.Proofs.Tryd.f24) (hs := keep_Src_N.hs) (by kernel_rfl) Go.Proofs.Tryd.func24 ⟨by kernel_rfl, by kernel_rfl, tb, by kernel_rfl, by kernel_rfl, by kernel_rfl, by kernel_rfl, by kernel_rfl⟩ ⟨fun g ks fe h => ?_, gt_ok ht⟩ ?_ (fun x => keep_Src_N.eq keep_Src_Raw.F keep_Mod.F x)
  · rcases c_cons h with ⟨rfl, rfl⟩ | h
    · exact keep_Src_Raw.ok ht
    rcases c_cons h with ⟨rfl, rfl⟩ | h
    · exact keep_Mod.ok ht
    cases h
  · exact known_at 0 (by kernel_rfl) fun i hi => absurd hi (Nat.not_lt_zero i)

/-! keep_Src_Range -/
def keep_Src_Range.f (g_keep_Src_N : ((Unit × Int × Unit) × (((List Int) × Int × Unit) × Unit)) → Option ((Int × Unit) × (((List Int) × Int × Unit) × Unit))) (lo : Int) (hi : Int) (o0_0 : (List Int)) (o0_1 : Int) : Option ((Int × Unit) × (((List Int) × Int × Unit) × Unit)) :=
  (Option.bind (g_keep_Src_N (((), ((Go.IntKind.wrap Go.IntKind.i64 ((Go.IntKind.wrap Go.IntKind.i64 (hi - lo)) + (1:Int))), ())), ((o0_0, (o0_1, ())), ()))) (fun y0 =>
  (some (((Go.IntKind.wrap Go.IntKind.i64 (lo + y0.1.1)), ()), ((y0.2.1.1, (y0.2.1.2.1, ())), ())))))
theorem keep_Src_Range.eq (g_keep_Src_N : keep_Src_N.sh.X → Option keep_Src_N.osh.X) (x : ((Unit × Int × Int × Unit) × (((List Int) × Int × Unit) × Unit))) : (bodyO (keep_Src_Range.E g_keep_Src_N) (mk keep_Src_Range.hs keep_Src_Range.c []) Go.Proofs.Tryd.f22.results.toList keep_Src_Range.sh keep_Src_Range.osh x).run _ some = keep_Src_Range.f g_keep_Src_N x.1.2.1 x.1.2.2.1 x.2.1.1 x.2.1.2.1 := by
  show _ = (_ : Option _)
  kernel_rfl
noncomputable def keep_Src_Range (lo : Int) (hi : Int) (o0_0 : (List Int)) (o0_1 : Int) : Option ((Int × Unit) × (((List Int) × Int × Unit) × Unit)) := keep_Src_Range.f keep_Src_N.F lo hi o0_0 o0_1
noncomputable def keep_Src_Range.F (x : ((Unit × Int × Int × Unit) × (((List Int) × Int × Unit) × Unit))) : Option ((Int × Unit) × (((List Int) × Int × Unit) × Unit)) := keep_Src_Range x.1.2.1 x.1.2.2.1 x.2.1.1 x.2.1.2.1
theorem keep_Src_Range.F_eq (lo : Int) (hi : Int) (o0_0 : (List Int)) (o0_1 : Int) : keep_Src_Range.F (((), lo, hi, ()), ((o0_0, o0_1, ()), ())) = keep_Src_Range.f keep_Src_N.F lo hi o0_0 o0_1 := rfl
theorem keep_Src_Range.ok {tabs : List (Nat × Go.Obj)} (ht : TabsOk tabs) : FOK Go.Proofs.Tryd.prog tabs 22 (FE.of [true, true, true] true keep_Src_Range.sh keep_Src_Range.osh keep_Src_Range.F) := by
  refine fn_keeps (E := (keep_Src_Range.E keep_Src_N.F)) (c := keep_Src_Range.c) (fn := Go.Proofs.Tryd.f22) (hs := keep_Src_Range.hs) (by kernel_rfl) Go.Proofs.Tryd.func22 ⟨by kernel_rfl, by kernel_rfl, tb, by kernel_rfl, by kernel_rfl, by kernel_rfl, by kernel_rfl, by kernel_rfl⟩ ⟨fun g ks fe h => ?_, gt_ok ht⟩ ?_ (fun x => keep_Src_Range.eq keep_Src_N.F x)
  · rcases c_cons h with ⟨rfl, rfl⟩ | h
    · exact keep_Src_N.ok ht
    cases h
  · exact known_at 0 (by kernel_rfl) fun i hi => absurd hi (Nat.not_lt_zero i)

/-! keep_Src_Pick -/
def keep_Src_Pick.f (g_keep_Src_N : ((Unit × Int × Unit) × (((List Int) × Int × Unit) × Unit)) → Option ((Int × Unit) × (((List Int) × Int × Unit) × Unit))) (l : (List Int)) (o0_0 : (List Int)) (o0_1 : Int) : Option ((Int × Unit) × (((List Int) × Int × Unit) × Unit)) :=
  (Option.bind (g_keep_Src_N (((), ((((List.length l) : Nat) : Int), ())), ((o0_0, (o0_1, ())), ()))) (fun y0 =>
  (bif (decide ((0:Int) ≤ y0.1.1)) then
   (bif (decide (y0.1.1 < (((List.length l) : Nat) : Int))) then
    (some (((List.getD l (Int.toNat y0.1.1) (0:Int)), ()), ((y0.2.1.1, (y0.2.1.2.1, ())), ())))
   else
    none)
  else
   none)))
theorem keep_Src_Pick.eq (g_keep_Src_N : keep_Src_N.sh.X → Option keep_Src_N.osh.X) (x : ((Unit × (List Int) × Unit) × (((List Int) × Int × Unit) × Unit))) : (bodyO (keep_Src_Pick.E g_keep_Src_N) (mk keep_Src_Pick.hs keep_Src_Pick.c []) Go.Proofs.Tryd.f23.results.toList keep_Src_Pick.sh keep_Src_Pick.osh x).run _ some = keep_Src_Pick.f g_keep_Src_N x.1.2.1 x.2.1.1 x.2.1.2.1 := by
  show _ = (_ : Option _)
  kernel_rfl
noncomputable def keep_Src_Pick (l : (List Int)) (o0_0 : (List Int)) (o0_1 : Int) : Option ((Int × Unit) × (((List Int) × Int × Unit) × Unit)) := keep_Src_Pick.f keep_Src_N.F l o0_0 o0_1
noncomputable def keep_Src_Pick.F (x : ((Unit × (List Int) × Unit) × (((List Int) × Int × Unit) × Unit))) : Option ((Int × Unit) × (((List Int) × Int × Unit) × Unit)) := keep_Src_Pick x.1.2.1 x.2.1.1 x.2.1.2.1
theorem keep_Src_Pick.F_eq (l : (List Int)) (o0_0 : (List Int)) (o0_1 : Int) : keep_Src_Pick.F (((), l, ()), ((o0_0, o0_1, ()), ())) = keep_Src_Pick.f keep_Src_N.F l o0_0 o0_1 := rfl
theorem keep_Src_Pick.ok {tabs : List (Nat × Go.Obj)} (ht : TabsOk tabs) : FOK Go.Proofs.Tryd.prog tabs 23 (FE.of [true, true] true keep_Src_Pick.sh keep_Src_Pick.osh keep_Src_Pick.F) := by
  refine fn_keeps (E := (keep_Src_Pick.E keep_Src_N.F)) (c := keep_Src_Pick.c) (fn := Go.Proofs.Tryd.f23) (hs := keep_Src_Pick.hs) (by kernel_rfl) Go.Proofs.Tryd.func23 ⟨by kernel_rfl, by kernel_rfl, tb, by kernel_rfl, by kernel_rfl, by kernel_rfl, by kernel_rfl, by kernel_rfl⟩ ⟨fun g ks fe h => ?_, gt_ok ht⟩ ?_ (fun x => keep_Src_Pick.eq keep_Src_N.F x)
  · rcases c_cons h with ⟨rfl, rfl⟩ | h
    · exact keep_Src_N.ok ht
    cases h
  · exact known_at 0 (by kernel_rfl) fun i hi => absurd hi (Nat.not_lt_zero i)

/-! keep_Src_Measure -/
def keep_Src_Measure.f (g_keep_Src_Range : ((Unit × Int × Int × Unit) × (((List Int) × Int × Unit) × Unit)) → Option ((Int × Unit) × (((List Int) × Int × Unit) × Unit))) (g_keep_Src_Pick : ((Unit × (List Int) × Unit) × (((List Int) × Int × Unit) × Unit)) → Option ((Int × Unit) × (((List Int) × Int × Unit) × Unit))) (o0_0 : (List Int)) (o0_1 : Int) : Option (((Int × Int × Int × Unit) × Unit) × (((List Int) × Int × Unit) × Unit)) :=
  (Option.bind (g_keep_Src_Range (((), ((1:Int), ((5:Int), ()))), ((o0_0, (o0_1, ())), ()))) (fun y0 =>
  (bif (y0.1.1 == (4:Int)) then
   (Option.bind (g_keep_Src_Pick (((), ([(0:Int), (1:Int), (2:Int), (3:Int), (5:Int), (32:Int)], ())), ((y0.2.1.1, (y0.2.1.2.1, ())), ()))) (fun y2 =>
   (bif (y0.1.1 == (5:Int)) then
    (Option.bind (g_keep_Src_Pick (((), ([(0:Int), (0:Int), (1:Int), (-(3:Int)), (20:Int), (-(1000:Int))], ())), ((y2.2.1.1, (y2.2.1.2.1, ())), ()))) (fun y4 =>
    (some (((y0.1.1, (y2.1.1, (y4.1.1, ()))), ()), ((y4.2.1.1, (y4.2.1.2.1, ())), ())))))
   else
    (some (((y0.1.1, (y2.1.1, ((0:Int), ()))), ()), ((y2.2.1.1, (y2.2.1.2.1, ())), ()))))))
  else
   (bif (y0.1.1 == (5:Int)) then
    (Option.bind (g_keep_Src_Pick (((), ([(0:Int), (0:Int), (1:Int), (-(3:Int)), (20:Int), (-(1000:Int))], ())), ((y0.2.1.1, (y0.2.1.2.1, ())), ()))) (fun y3 =>
    (some (((y0.1.1, ((0:Int), (y3.1.1, ()))), ()), ((y3.2.1.1, (y3.2.1.2.1, ())), ())))))
   else
    (some (((y0.1.1, ((0:Int), ((0:Int), ()))), ()), ((y0.2.1.1, (y0.2.1.2.1, ())), ())))))))
theorem keep_Src_Measure.eq (g_keep_Src_Range : keep_Src_Range.sh.X → Option keep_Src_Range.osh.X) (g_keep_Src_Pick : keep_Src_Pick.sh.X → Option keep_Src_Pick.osh.X) (x : ((Unit × Unit) × (((List Int) × Int × Unit) × Unit))) : (bodyO (keep_Src_Measure.E g_keep_Src_Range g_keep_Src_Pick) (mk keep_Src_Measure.hs keep_Src_Measure.c []) Go.Proofs.Tryd.f9.results.toList keep_Src_Measure.sh keep_Src_Measure.osh x).run _ some = keep_Src_Measure.f g_keep_Src_Range g_keep_Src_Pick x.2.1.1 x.2.1.2.1 := by
  show _ = (_ : Option _)
  kernel_rfl
noncomputable def keep_Src_Measure (o0_0 : (List Int)) (o0_1 : Int) : Option (((Int × Int × Int × Unit) × Unit) × (((List Int) × Int × Unit) × Unit)) := keep_Src_Measure.f keep_Src_Range.F keep_Src_Pick.F o0_0 o0_1
noncomputable def keep_Src_Measure.F (x : ((Unit × Unit) × (((List Int) × Int × Unit) × Unit))) : Option (((Int × Int × Int × Unit) × Unit) × (((List Int) × Int × Unit) × Unit)) := keep_Src_Measure x.2.1.1 x.2.1.2.1
theorem keep_Src_Measure.F_eq (o0_0 : (List Int)) (o0_1 : Int) : keep_Src_Measure.F (((), ()), ((o0_0, o0_1, ()), ())) = keep_Src_Measure.f keep_Src_Range.F keep_Src_Pick.F o0_0 o0_1 := rfl
theorem keep_Src_Measure.ok {tabs : List (Nat × Go.Obj)} (ht : TabsOk tabs) : FOK Go.Proofs.Tryd.prog tabs 9 (FE.of [true] true keep_Src_Measure.sh keep_Src_Measure.osh keep_Src_Measure.F) := by
  refine fn_keeps (E := (keep_Src_Measure.E keep_Src_Range.F keep_Src_Pick.F)) (c := keep_Src_Measure.c) (fn := Go.Proofs.Tryd.f9) (hs := keep_Src_Measure.hs) (by kernel_rfl) Go.Proofs.Tryd.func9 ⟨by kernel_rfl, by kernel_rfl, tb, by kernel_rfl, by kernel_rfl, by kernel_rfl, by kernel_rfl, by kernel_rfl⟩ ⟨fun g ks fe h => ?_, gt_ok ht⟩ ?_ (fun x => keep_Src_Measure.eq keep_Src_Range.F keep_Src_Pick.F x)
  · rcases c_cons h with ⟨rfl, rfl⟩ | h
    · exact keep_Src_Range.ok ht
    rcases c_cons h with ⟨rfl, rfl⟩ | h
    · exact keep_Src_Pick.ok ht
    cases h
  · exact known_at 0 (by kernel_rfl) fun i hi => absurd hi (Nat.not_lt_zero i)

/-! keep_Src_Length -/
def keep_Src_Length.f (g_keep_Src_N : ((Unit × Int × Unit) × (((List Int) × Int × Unit) × Unit)) → Option ((Int × Unit) × (((List Int) × Int × Unit) × Unit))) (g_keep_Src_Range : ((Unit × Int × Int × Unit) × (((List Int) × Int × Unit) × Unit)) → Option ((Int × Unit) × (((List Int) × Int × Unit) × Unit))) (o0_0 : (List Int)) (o0_1 : Int) : Option ((Int × Unit) × (((List Int) × Int × Unit) × Unit)) :=
  (Option.bind (g_keep_Src_N (((), ((8:Int), ())), ((o0_0, (o0_1, ())), ()))) (fun y0 =>
  (bif (y0.1.1 == (7:Int)) then
   (Option.bind (g_keep_Src_Range (((), ((13:Int), ((32:Int), ()))), ((y0.2.1.1, (y0.2.1.2.1, ())), ()))) (fun y2 =>
   (some ((y2.1.1, ()), ((y2.2.1.1, (y2.2.1.2.1, ())), ())))))
  else
   (Option.bind (g_keep_Src_Range (((), ((2:Int), ((12:Int), ()))), ((y0.2.1.1, (y0.2.1.2.1, ())), ()))) (fun y2 =>
   (some ((y2.1.1, ()), ((y2.2.1.1, (y2.2.1.2.1, ())), ()))))))))
theorem keep_Src_Length.eq (g_keep_Src_N : keep_Src_N.sh.X → Option keep_Src_N.osh.X) (g_keep_Src_Range : keep_Src_Range.sh.X → Option keep_Src_Range.osh.X) (x : ((Unit × Unit) × (((List Int) × Int × Unit) × Unit))) : (bodyO (keep_Src_Length.E g_keep_Src_N g_keep_Src_Range) (mk keep_Src_Length.hs keep_Src_Length.c []) Go.Proofs.Tryd.f28.results.toList keep_Src_Length.sh keep_Src_Length.osh x).run _ some = keep_Src_Length.f g_keep_Src_N g_keep_Src_Range x.2.1.1 x.2.1.2.1 := by
  show _ = (_ : Option _)
  kernel_rfl
noncomputable def keep_Src_Length (o0_0 : (List Int)) (o0_1 : Int) : Option ((Int × Unit) × (((List Int) × Int × Unit) × Unit)) := keep_Src_Length.f keep_Src_N.F keep_Src_Range.F o0_0 o0_1
noncomputable def keep_Src_Length.F (x : ((Unit × Unit) × (((List Int) × Int × Unit) × Unit))) : Option ((Int × Unit) × (((List Int) × Int × Unit) × Unit)) := keep_Src_Length x.2.1.1 x.2.1.2.1
theorem keep_Src_Length.F_eq (o0_0 : (List Int)) (o0_1 : Int) : keep_Src_Length.F (((), ()), ((o0_0, o0_1, ()), ())) = keep_Src_Length.f keep_Src_N.F keep_Src_Range.F o0_0 o0_1 := rfl
theorem keep_Src_Length.ok {tabs : List (Nat × Go.Obj)} (ht : TabsOk tabs) : FOK Go.Proofs.Tryd.prog tabs 28 (FE.of [true] true keep_Src_Length.sh keep_Src_Length.osh keep_Src_Length.F) := by
  refine fn_keeps (E := (keep_Src_Length.E keep_Src_N.F keep_Src_Range.F)) (c := keep_Src_Length.c) (fn := Go.Proofs.Tryd.f28) (hs := keep_Src_Length.hs) (by kernel_rfl) Go.Proofs.Tryd.func28 ⟨by kernel_rfl, by kernel_rfl, tb, by kernel_rfl, by kernel_rfl, by kernel_rfl, by kernel_rfl, by kernel_rfl⟩ ⟨fun g ks fe h => ?_, gt_ok ht⟩ ?_ (fun x => keep_Src_Length.eq keep_Src_N.F keep_Src_Range.F x)
  · rcases c_cons h with ⟨rfl, rfl⟩ | h
    · exact keep_Src_N.ok ht
    rcases c_cons h with ⟨rfl, rfl⟩ | h
    · exact keep_Src_Range.ok ht
    cases h
  · exact known_at 0 (by kernel_rfl) fun i hi => absurd hi (Nat.not_lt_zero i)

/-! keep_clip -/
def keep_clip.f (n : Int) : Option ((Int × Unit) × (Unit)) :=
  (some (((Go.VI.mn (Go.VI.mx n (-(1000:Int))) (1000:Int)), ()), ()))
theorem keep_clip.eq (x : ((Int × Unit) × (Unit))) : (bodyO (keep_clip.E) (mk keep_clip.hs keep_clip.c []) Go.Proofs.Tryd.f48.results.toList keep_clip.sh keep_clip.osh x).run _ some = keep_clip.f x.1.1 := by
  show _ = (_ : Option _)
  kernel_rfl
noncomputable def keep_clip (n : Int) : Option ((Int × Unit) × (Unit)) := keep_clip.f n
noncomputable def keep_clip.F (x : ((Int × Unit) × (Unit))) : Option ((Int × Unit) × (Unit)) := keep_clip x.1.1
theorem keep_clip.F_eq (n : Int) : keep_clip.F ((n, ()), ()) = keep_clip.f n := rfl
theorem keep_clip.ok {tabs : List (Nat × Go.Obj)} (ht : TabsOk tabs) : FOK Go.Proofs.Tryd.prog tabs 48 (FE.of [true] false keep_clip.sh keep_clip.osh keep_clip.F) := by
  refine fn_keeps (E := (keep_clip.E)) (c := keep_clip.c) (fn := Go.Proofs.Tryd.f48) (hs := keep_clip.hs) (by kernel_rfl) Go.Proofs.Tryd.func48 ⟨by kernel_rfl, by kernel_rfl, tb, by kernel_rfl, by kernel_rfl, by kernel_rfl, by kernel_rfl, by kernel_rfl⟩ ⟨fun g ks fe h => ?_, gt_ok ht⟩ ?_ (fun x => keep_clip.eq x)
  · cases h
  · exact known_at 0 (by kernel_rfl) fun i hi => absurd hi (Nat.not_lt_zero i)

/-! keep_Src_List -/
def keep_Src_List.f0 (g_keep_Src_Range : ((Unit × Int × Int × Unit) × (((List Int) × Int × Unit) × Unit)) → Option ((Int × Unit) × (((List Int) × Int × Unit) × Unit))) (n_1 : Int) (kind_5 : Int) (size_6 : Int) (x_7 : Int) (v17 : Bool) (o0_0 : (List Int)) (o0_1 : Int) : Option (((Unit × Int × Int × Int × Int × Unit) × (((List Int) × Int × Unit) × Unit)) ⊕ Empty) :=
  (bif v17 then
   (Option.bind (g_keep_Src_Range (((), ((-(1000:Int)), ((1000:Int), ()))), ((o0_0, (o0_1, ())), ()))) (fun y1 =>
   (some (Sum.inl (((), (n_1, (kind_5, (size_6, (y1.1.1, ()))))), ((y1.2.1.1, (y1.2.1.2.1, ())), ()))))))
  else
   (some (Sum.inl (((), (n_1, (kind_5, (size_6, (x_7, ()))))), ((o0_0, (o0_1, ())), ())))))
theorem keep_Src_List.eq0 (g_keep_Src_N : keep_Src_N.sh.X → Option keep_Src_N.osh.X) (g_keep_Src_Pick : keep_Src_Pick.sh.X → Option keep_Src_Pick.osh.X) (g_keep_Src_Range : keep_Src_Range.sh.X → Option keep_Src_Range.osh.X) (g_keep_clip : keep_clip.sh.X → Option keep_clip.osh.X) (l0 : keep_Src_List.s0.X → Option (sumX keep_Src_List.x0)) (l1 : keep_Src_List.s1.X → Option (sumX keep_Src_List.x1)) (l2 : keep_Src_List.s2.X → Option (sumX keep_Src_List.x2)) (l3 : keep_Src_List.s3.X → Option (sumX keep_Src_List.x3)) (L : ((Unit × Int × Int × Int × Int × Bool × Unit) × (((List Int) × Int × Unit) × Unit)) → Option (((Unit × Int × Int × Int × Int × Unit) × (((List Int) × Int × Unit) × Unit)) ⊕ Empty)) (x : ((Unit × Int × Int × Int × Int × Bool × Unit) × (((List Int) × Int × Unit) × Unit))) : (roundK (keep_Src_List.E g_keep_Src_N g_keep_Src_Pick g_keep_Src_Range g_keep_clip l0 l1 l2 l3) keep_Src_List.s0 [0, 1, 5, 6, 7, 17] [(0, [0, 1, 5, 6, 7])] false (((mk keep_Src_List.hs keep_Src_List.c []).atoms.getD 0 .bad).body) keep_Src_List.x0 L x).run _ some = keep_Src_List.f0 g_keep_Src_Range x.1.2.1 x.1.2.2.1 x.1.2.2.2.1 x.1.2.2.2.2.1 x.1.2.2.2.2.2.1 x.2.1.1 x.2.1.2.1 := by
  show _ = (_ : Option _)
  kernel_rfl
noncomputable def keep_Src_List.L0 : ((Unit × Int × Int × Int × Int × Bool × Unit) × (((List Int) × Int × Unit) × Unit)) → Option (((Unit × Int × Int × Int × Int × Unit) × (((List Int) × Int × Unit) × Unit)) ⊕ Empty) := fun x => keep_Src_List.f0 keep_Src_Range.F x.1.2.1 x.1.2.2.1 x.1.2.2.2.1 x.1.2.2.2.2.1 x.1.2.2.2.2.2.1 x.2.1.1 x.2.1.2.1
def keep_Src_List.f2 (n_1 : Int) (kind_5 : Int) (size_6 : Int) (x_7 : Int) (i_9 : Int) (v25 : Int) (v32 : Bool) (o0_0 : (List Int)) (o0_1 : Int) (o1 : List Int) : Option (((Unit × Int × Int × Int × Int × Unit × Int × Int × Bool × Unit) × (((List Int) × Int × Unit) × (List Int) × Unit)) ⊕ Empty) :=
  (bif v32 then
   (some (Sum.inl (((), (n_1, (kind_5, (size_6, (x_7, ((), (i_9, (v25, (v32, ()))))))))), ((o0_0, (o0_1, ())), (o1, ())))))
  else
   (some (Sum.inl (((), (n_1, (kind_5, (size_6, (x_7, ((), (i_9, (v25, ((v25 == (1:Int)), ()))))))))), ((o0_0, (o0_1, ())), (o1, ()))))))
theorem keep_Src_List.eq2 (g_keep_Src_N : keep_Src_N.sh.X → Option keep_Src_N.osh.X) (g_keep_Src_Pick : keep_Src_Pick.sh.X → Option keep_Src_Pick.osh.X) (g_keep_Src_Range : keep_Src_Range.sh.X → Option keep_Src_Range.osh.X) (g_keep_clip : keep_clip.sh.X → Option keep_clip.osh.X) (l0 : keep_Src_List.s0.X → Option (sumX keep_Src_List.x0)) (l1 : keep_Src_List.s1.X → Option (sumX keep_Src_List.x1)) (l2 : keep_Src_List.s2.X → Option (sumX keep_Src_List.x2)) (l3 : keep_Src_List.s3.X → Option (sumX keep_Src_List.x3)) (L : ((Unit × Int × Int × Int × Int × Unit × Int × Int × Bool × Unit) × (((List Int) × Int × Unit) × (List Int) × Unit)) → Option (((Unit × Int × Int × Int × Int × Unit × Int × Int × Bool × Unit) × (((List Int) × Int × Unit) × (List Int) × Unit)) ⊕ Empty)) (x : ((Unit × Int × Int × Int × Int × Unit × Int × Int × Bool × Unit) × (((List Int) × Int × Unit) × (List Int) × Unit))) : (roundK (keep_Src_List.E g_keep_Src_N g_keep_Src_Pick g_keep_Src_Range g_keep_clip l0 l1 l2 l3) keep_Src_List.s2 [0, 1, 5, 6, 7, 8, 9, 25, 32] [(0, [0, 1, 5, 6, 7, 8, 9, 25, 32])] false (((mk keep_Src_List.hs keep_Src_List.c []).atoms.getD 2 .bad).body) keep_Src_List.x2 L x).run _ some = keep_Src_List.f2 x.1.2.1 x.1.2.2.1 x.1.2.2.2.1 x.1.2.2.2.2.1 x.1.2.2.2.2.2.2.1 x.1.2.2.2.2.2.2.2.1 x.1.2.2.2.2.2.2.2.2.1 x.2.1.1 x.2.1.2.1 x.2.2.1 := by
  show _ = (_ : Option _)
  kernel_rfl
noncomputable def keep_Src_List.L2 : ((Unit × Int × Int × Int × Int × Unit × Int × Int × Bool × Unit) × (((List Int) × Int × Unit) × (List Int) × Unit)) → Option (((Unit × Int × Int × Int × Int × Unit × Int × Int × Bool × Unit) × (((List Int) × Int × Unit) × (List Int) × Unit)) ⊕ Empty) := fun x => keep_Src_List.f2 x.1.2.1 x.1.2.2.1 x.1.2.2.2.1 x.1.2.2.2.2.1 x.1.2.2.2.2.2.2.1 x.1.2.2.2.2.2.2.2.1 x.1.2.2.2.2.2.2.2.2.1 x.2.1.1 x.2.1.2.1 x.2.2.1
def keep_Src_List.f3 (n_1 : Int) (kind_5 : Int) (size_6 : Int) (x_7 : Int) (i_9 : Int) (v25 : Int) (v43 : Bool) (o0_0 : (List Int)) (o0_1 : Int) (o1 : List Int) : Option (((Unit × Int × Int × Int × Int × Unit × Int × Int × Bool × Unit) × (((List Int) × Int × Unit) × (List Int) × Unit)) ⊕ Empty) :=
  (bif v43 then
   (some (Sum.inl (((), (n_1, (kind_5, (size_6, (x_7, ((), (i_9, (v25, (v43, ()))))))))), ((o0_0, (o0_1, ())), (o1, ())))))
  else
   (some (Sum.inl (((), (n_1, (kind_5, (size_6, (x_7, ((), (i_9, (v25, ((v25 == (3:Int)), ()))))))))), ((o0_0, (o0_1, ())), (o1, ()))))))
theorem keep_Src_List.eq3 (g_keep_Src_N : keep_Src_N.sh.X → Option keep_Src_N.osh.X) (g_keep_Src_Pick : keep_Src_Pick.sh.X → Option keep_Src_Pick.osh.X) (g_keep_Src_Range : keep_Src_Range.sh.X → Option keep_Src_Range.osh.X) (g_keep_clip : keep_clip.sh.X → Option keep_clip.osh.X) (l0 : keep_Src_List.s0.X → Option (sumX keep_Src_List.x0)) (l1 : keep_Src_List.s1.X → Option (sumX keep_Src_List.x1)) (l2 : keep_Src_List.s2.X → Option (sumX keep_Src_List.x2)) (l3 : keep_Src_List.s3.X → Option (sumX keep_Src_List.x3)) (L : ((Unit × Int × Int × Int × Int × Unit × Int × Int × Bool × Unit) × (((List Int) × Int × Unit) × (List Int) × Unit)) → Option (((Unit × Int × Int × Int × Int × Unit × Int × Int × Bool × Unit) × (((List Int) × Int × Unit) × (List Int) × Unit)) ⊕ Empty)) (x : ((Unit × Int × Int × Int × Int × Unit × Int × Int × Bool × Unit) × (((List Int) × Int × Unit) × (List Int) × Unit))) : (roundK (keep_Src_List.E g_keep_Src_N g_keep_Src_Pick g_keep_Src_Range g_keep_clip l0 l1 l2 l3) keep_Src_List.s3 [0, 1, 5, 6, 7, 8, 9, 25, 43] [(0, [0, 1, 5, 6, 7, 8, 9, 25, 43])] false (((mk keep_Src_List.hs keep_Src_List.c []).atoms.getD 3 .bad).body) keep_Src_List.x3 L x).run _ some = keep_Src_List.f3 x.1.2.1 x.1.2.2.1 x.1.2.2.2.1 x.1.2.2.2.2.1 x.1.2.2.2.2.2.2.1 x.1.2.2.2.2.2.2.2.1 x.1.2.2.2.2.2.2.2.2.1 x.2.1.1 x.2.1.2.1 x.2.2.1 := by
  show _ = (_ : Option _)
  kernel_rfl
noncomputable def keep_Src_List.L3 : ((Unit × Int × Int × Int × Int × Unit × Int × Int × Bool × Unit) × (((List Int) × Int × Unit) × (List Int) × Unit)) → Option (((Unit × Int × Int × Int × Int × Unit × Int × Int × Bool × Unit) × (((List Int) × Int × Unit) × (List Int) × Unit)) ⊕ Empty) := fun x => keep_Src_List.f3 x.1.2.1 x.1.2.2.1 x.1.2.2.2.1 x.1.2.2.2.2.1 x.1.2.2.2.2.2.2.1 x.1.2.2.2.2.2.2.2.1 x.1.2.2.2.2.2.2.2.2.1 x.2.1.1 x.2.1.2.1 x.2.2.1
def keep_Src_List.f1 (g_keep_Src_N : ((Unit × Int × Unit) × (((List Int) × Int × Unit) × Unit)) → Option ((Int × Unit) × (((List Int) × Int × Unit) × Unit))) (g_keep_Src_Pick : ((Unit × (List Int) × Unit) × (((List Int) × Int × Unit) × Unit)) → Option ((Int × Unit) × (((List Int) × Int × Unit) × Unit))) (g_keep_Src_Range : ((Unit × Int × Int × Unit) × (((List Int) × Int × Unit) × Unit)) → Option ((Int × Unit) × (((List Int) × Int × Unit) × Unit))) (g_keep_clip : ((Int × Unit) × (Unit)) → Option ((Int × Unit) × (Unit))) (l2 : ((Unit × Int × Int × Int × Int × Unit × Int × Int × Bool × Unit) × (((List Int) × Int × Unit) × (List Int) × Unit)) → Option (((Unit × Int × Int × Int × Int × Unit × Int × Int × Bool × Unit) × (((List Int) × Int × Unit) × (List Int) × Unit)) ⊕ Empty)) (l3 : ((Unit × Int × Int × Int × Int × Unit × Int × Int × Bool × Unit) × (((List Int) × Int × Unit) × (List Int) × Unit)) → Option (((Unit × Int × Int × Int × Int × Unit × Int × Int × Bool × Unit) × (((List Int) × Int × Unit) × (List Int) × Unit)) ⊕ Empty)) (L : ((Unit × Int × Int × Int × Int × Unit × Int × Unit) × (((List Int) × Int × Unit) × (List Int) × Unit)) → Option (((Unit × Unit) × (((List Int) × Int × Unit) × (List Int) × Unit)) ⊕ Empty)) (n_1 : Int) (kind_5 : Int) (size_6 : Int) (x_7 : Int) (i_9 : Int) (o0_0 : (List Int)) (o0_1 : Int) (o1 : List Int) : Option (((Unit × Unit) × (((List Int) × Int × Unit) × (List Int) × Unit)) ⊕ Empty) :=
  (bif (decide (i_9 < n_1)) then
   (Option.bind (l2 (((), (n_1, (kind_5, (size_6, (x_7, ((), (i_9, (kind_5, ((kind_5 == (0:Int)), ()))))))))), ((o0_0, (o0_1, ())), (o1, ())))) (fun y1 =>
   (Sum.elim (fun a2 =>
    (bif a2.1.2.2.2.2.2.2.2.2.1 then
     (Option.bind (g_keep_Src_Range (((), ((Go.IntKind.wrap Go.IntKind.i64 ((0:Int) - a2.1.2.2.2.1)), (a2.1.2.2.2.1, ()))), ((a2.2.1.1, (a2.2.1.2.1, ())), ()))) (fun y4 =>
     (bif (decide ((((List.length a2.2.2.1) + (List.length [y4.1.1])) * (8:Nat)) ≤ (140737488355328:Nat))) then
      (Option.bind (L (((), (a2.1.2.1, (a2.1.2.2.1, (a2.1.2.2.2.1, (a2.1.2.2.2.2.1, ((), ((Go.IntKind.wrap Go.IntKind.i64 (a2.1.2.2.2.2.2.2.1 + (1:Int))), ()))))))), ((y4.2.1.1, (y4.2.1.2.1, ())), ((a2.2.2.1 ++ [y4.1.1]), ())))) (fun y6 =>
      (some y6)))
     else
      none)))
    else
     (Option.bind (l3 (((), (a2.1.2.1, (a2.1.2.2.1, (a2.1.2.2.2.1, (a2.1.2.2.2.2.1, ((), (a2.1.2.2.2.2.2.2.1, (a2.1.2.2.2.2.2.2.2.1, ((a2.1.2.2.2.2.2.2.2.1 == (2:Int)), ()))))))))), ((a2.2.1.1, (a2.2.1.2.1, ())), (a2.2.2.1, ())))) (fun y4 =>
     (Sum.elim (fun a5 =>
      (bif a5.1.2.2.2.2.2.2.2.2.1 then
       (Option.bind (g_keep_Src_Range (((), ((Go.IntKind.wrap Go.IntKind.i64 ((0:Int) - a5.1.2.2.2.1)), (a5.1.2.2.2.1, ()))), ((a5.2.1.1, (a5.2.1.2.1, ())), ()))) (fun y7 =>
       (Option.bind (g_keep_clip (((Go.IntKind.wrap Go.IntKind.i64 (a5.1.2.2.2.2.1 + y7.1.1)), ()), ())) (fun y8 =>
       (bif (decide ((((List.length a5.2.2.1) + (List.length [y8.1.1])) * (8:Nat)) ≤ (140737488355328:Nat))) then
        (Option.bind (L (((), (a5.1.2.1, (a5.1.2.2.1, (a5.1.2.2.2.1, (y8.1.1, ((), ((Go.IntKind.wrap Go.IntKind.i64 (a5.1.2.2.2.2.2.2.1 + (1:Int))), ()))))))), ((y7.2.1.1, (y7.2.1.2.1, ())), ((a5.2.2.1 ++ [y8.1.1]), ())))) (fun y10 =>
        (some y10)))
       else
        none)))))
      else
       (bif (a5.1.2.2.2.2.2.2.2.1 == (4:Int)) then
        (Option.bind (g_keep_Src_N (((), ((4:Int), ())), ((a5.2.1.1, (a5.2.1.2.1, ())), ()))) (fun y8 =>
        (bif (y8.1.1 == (0:Int)) then
         (Option.bind (g_keep_Src_Range (((), ((Go.IntKind.wrap Go.IntKind.i64 ((0:Int) - a5.1.2.2.2.1)), (a5.1.2.2.2.1, ()))), ((y8.2.1.1, (y8.2.1.2.1, ())), ()))) (fun y10 =>
         (bif (decide ((((List.length a5.2.2.1) + (List.length [y10.1.1])) * (8:Nat)) ≤ (140737488355328:Nat))) then
          (Option.bind (L (((), (a5.1.2.1, (a5.1.2.2.1, (a5.1.2.2.2.1, (y10.1.1, ((), ((Go.IntKind.wrap Go.IntKind.i64 (a5.1.2.2.2.2.2.2.1 + (1:Int))), ()))))))), ((y10.2.1.1, (y10.2.1.2.1, ())), ((a5.2.2.1 ++ [y10.1.1]), ())))) (fun y12 =>
          (some y12)))
         else
          none)))
        else
         (bif (decide ((((List.length a5.2.2.1) + (List.length [a5.1.2.2.2.2.1])) * (8:Nat)) ≤ (140737488355328:Nat))) then
          (Option.bind (L (((), (a5.1.2.1, (a5.1.2.2.1, (a5.1.2.2.2.1, (a5.1.2.2.2.2.1, ((), ((Go.IntKind.wrap Go.IntKind.i64 (a5.1.2.2.2.2.2.2.1 + (1:Int))), ()))))))), ((y8.2.1.1, (y8.2.1.2.1, ())), ((a5.2.2.1 ++ [a5.1.2.2.2.2.1]), ())))) (fun y11 =>
          (some y11)))
         else
          none))))
       else
        (Option.bind (g_keep_Src_Pick (((), ([(-(1000:Int)), (1000:Int), (1000:Int), (0:Int)], ())), ((a5.2.1.1, (a5.2.1.2.1, ())), ()))) (fun y8 =>
        (bif (decide ((((List.length a5.2.2.1) + (List.length [y8.1.1])) * (8:Nat)) ≤ (140737488355328:Nat))) then
         (Option.bind (L (((), (a5.1.2.1, (a5.1.2.2.1, (a5.1.2.2.2.1, (a5.1.2.2.2.2.1, ((), ((Go.IntKind.wrap Go.IntKind.i64 (a5.1.2.2.2.2.2.2.1 + (1:Int))), ()))))))), ((y8.2.1.1, (y8.2.1.2.1, ())), ((a5.2.2.1 ++ [y8.1.1]), ())))) (fun y10 =>
         (some y10)))
        else
         none)))))) (fun b5 =>
      (Empty.elim b5)) y4))))) (fun b2 =>
    (Empty.elim b2)) y1)))
  else
   (some (Sum.inl (((), ()), ((o0_0, (o0_1, ())), (o1, ()))))))
theorem keep_Src_List.eq1 (g_keep_Src_N : keep_Src_N.sh.X → Option keep_Src_N.osh.X) (g_keep_Src_Pick : keep_Src_Pick.sh.X → Option keep_Src_Pick.osh.X) (g_keep_Src_Range : keep_Src_Range.sh.X → Option keep_Src_Range.osh.X) (g_keep_clip : keep_clip.sh.X → Option keep_clip.osh.X) (l0 : keep_Src_List.s0.X → Option (sumX keep_Src_List.x0)) (l1 : keep_Src_List.s1.X → Option (sumX keep_Src_List.x1)) (l2 : keep_Src_List.s2.X → Option (sumX keep_Src_List.x2)) (l3 : keep_Src_List.s3.X → Option (sumX keep_Src_List.x3)) (L : ((Unit × Int × Int × Int × Int × Unit × Int × Unit) × (((List Int) × Int × Unit) × (List Int) × Unit)) → Option (((Unit × Unit) × (((List Int) × Int × Unit) × (List Int) × Unit)) ⊕ Empty)) (x : ((Unit × Int × Int × Int × Int × Unit × Int × Unit) × (((List Int) × Int × Unit) × (List Int) × Unit))) : (roundK (keep_Src_List.E g_keep_Src_N g_keep_Src_Pick g_keep_Src_Range g_keep_clip l0 l1 l2 l3) keep_Src_List.s1 [0, 1, 5, 6, 7, 8, 9] [(2, [8])] true (((mk keep_Src_List.hs keep_Src_List.c []).atoms.getD 1 .bad).body) keep_Src_List.x1 L x).run _ some = keep_Src_List.f1 g_keep_Src_N g_keep_Src_Pick g_keep_Src_Range g_keep_clip l2 l3 L x.1.2.1 x.1.2.2.1 x.1.2.2.2.1 x.1.2.2.2.2.1 x.1.2.2.2.2.2.2.1 x.2.1.1 x.2.1.2.1 x.2.2.1 := by
  show _ = (_ : Option _)
  kernel_rfl
noncomputable def keep_Src_List.L1 : ((Unit × Int × Int × Int × Int × Unit × Int × Unit) × (((List Int) × Int × Unit) × (List Int) × Unit)) → Option (((Unit × Unit) × (((List Int) × Int × Unit) × (List Int) × Unit)) ⊕ Empty) := loop fun L x => keep_Src_List.f1 keep_Src_N.F keep_Src_Pick.F keep_Src_Range.F keep_clip.F keep_Src_List.L2 keep_Src_List.L3 L x.1.2.1 x.1.2.2.1 x.1.2.2.2.1 x.1.2.2.2.2.1 x.1.2.2.2.2.2.2.1 x.2.1.1 x.2.1.2.1 x.2.2.1
def keep_Src_List.f (g_keep_Src_N : ((Unit × Int × Unit) × (((List Int) × Int × Unit) × Unit)) → Option ((Int × Unit) × (((List Int) × Int × Unit) × Unit))) (g_keep_Src_Pick : ((Unit × (List Int) × Unit) × (((List Int) × Int × Unit) × Unit)) → Option ((Int × Unit) × (((List Int) × Int × Unit) × Unit))) (l0 : ((Unit × Int × Int × Int × Int × Bool × Unit) × (((List Int) × Int × Unit) × Unit)) → Option (((Unit × Int × Int × Int × Int × Unit) × (((List Int) × Int × Unit) × Unit)) ⊕ Empty)) (l1 : ((Unit × Int × Int × Int × Int × Unit × Int × Unit) × (((List Int) × Int × Unit) × (List Int) × Unit)) → Option (((Unit × Unit) × (((List Int) × Int × Unit) × (List Int) × Unit)) ⊕ Empty)) (n : Int) (o0_0 : (List Int)) (o0_1 : Int) : Option ((Unit × Unit) × (((List Int) × Int × Unit) × (List Int) × Unit)) :=
  (Option.bind (g_keep_Src_N (((), ((6:Int), ())), ((o0_0, (o0_1, ())), ()))) (fun y0 =>
  (Option.bind (g_keep_Src_Pick (((), ([(1:Int), (3:Int), (10:Int), (100:Int), (1000:Int)], ())), ((y0.2.1.1, (y0.2.1.2.1, ())), ()))) (fun y1 =>
  (Option.bind (g_keep_Src_N (((), ((3:Int), ())), ((y1.2.1.1, (y1.2.1.2.1, ())), ()))) (fun y2 =>
  (Option.bind (l0 (((), (n, (y0.1.1, (y1.1.1, ((0:Int), ((y2.1.1 == (0:Int)), ())))))), ((y2.2.1.1, (y2.2.1.2.1, ())), ()))) (fun y3 =>
  (Sum.elim (fun a4 =>
   (Option.bind (l1 (((), (a4.1.2.1, (a4.1.2.2.1, (a4.1.2.2.2.1, (a4.1.2.2.2.2.1, ((), ((0:Int), ()))))))), ((a4.2.1.1, (a4.2.1.2.1, ())), (([] : List Int), ())))) (fun y5 =>
   (Sum.elim (fun a6 =>
    (some (((), ()), ((a6.2.1.1, (a6.2.1.2.1, ())), (a6.2.2.1, ()))))) (fun b6 =>
    (Empty.elim b6)) y5)))) (fun b4 =>
   (Empty.elim b4)) y3)))))))))
theorem keep_Src_List.eq (g_keep_Src_N : keep_Src_N.sh.X → Option keep_Src_N.osh.X) (g_keep_Src_Pick : keep_Src_Pick.sh.X → Option keep_Src_Pick.osh.X) (g_keep_Src_Range : keep_Src_Range.sh.X → Option keep_Src_Range.osh.X) (g_keep_clip : keep_clip.sh.X → Option keep_clip.osh.X) (l0 : keep_Src_List.s0.X → Option (sumX keep_Src_List.x0)) (l1 : keep_Src_List.s1.X → Option (sumX keep_Src_List.x1)) (l2 : keep_Src_List.s2.X → Option (sumX keep_Src_List.x2)) (l3 : keep_Src_List.s3.X → Option (sumX keep_Src_List.x3)) (x : ((Unit × Int × Unit) × (((List Int) × Int × Unit) × Unit))) : (bodyO (keep_Src_List.E g_keep_Src_N g_keep_Src_Pick g_keep_Src_Range g_keep_clip l0 l1 l2 l3) (mk keep_Src_List.hs keep_Src_List.c []) Go.Proofs.Tryd.f27.results.toList keep_Src_List.sh keep_Src_List.osh x).run _ some = keep_Src_List.f g_keep_Src_N g_keep_Src_Pick l0 l1 x.1.2.1 x.2.1.1 x.2.1.2.1 := by
  show _ = (_ : Option _)
  kernel_rfl
noncomputable def keep_Src_List (n : Int) (o0_0 : (List Int)) (o0_1 : Int) : Option ((Unit × Unit) × (((List Int) × Int × Unit) × (List Int) × Unit)) := keep_Src_List.f keep_Src_N.F keep_Src_Pick.F keep_Src_List.L0 keep_Src_List.L1 n o0_0 o0_1
noncomputable def keep_Src_List.F (x : ((Unit × Int × Unit) × (((List Int) × Int × Unit) × Unit))) : Option ((Unit × Unit) × (((List Int) × Int × Unit) × (List Int) × Unit)) := keep_Src_List x.1.2.1 x.2.1.1 x.2.1.2.1
theorem keep_Src_List.L0_eq (n_1 : Int) (kind_5 : Int) (size_6 : Int) (x_7 : Int) (v17 : Bool) (o0_0 : (List Int)) (o0_1 : Int) : keep_Src_List.L0 (((), n_1, kind_5, size_6, x_7, v17, ()), ((o0_0, o0_1, ()), ())) = keep_Src_List.f0 keep_Src_Range.F n_1 kind_5 size_6 x_7 v17 o0_0 o0_1 := rfl
theorem keep_Src_List.L1_eq (n_1 : Int) (kind_5 : Int) (size_6 : Int) (x_7 : Int) (i_9 : Int) (o0_0 : (List Int)) (o0_1 : Int) (o1 : List Int) : keep_Src_List.L1 (((), n_1, kind_5, size_6, x_7, (), i_9, ()), ((o0_0, o0_1, ()), o1, ())) = keep_Src_List.f1 keep_Src_N.F keep_Src_Pick.F keep_Src_Range.F keep_clip.F keep_Src_List.L2 keep_Src_List.L3 keep_Src_List.L1 n_1 kind_5 size_6 x_7 i_9 o0_0 o0_1 o1 :=
  loop_eq (E := (keep_Src_List.E keep_Src_N.F keep_Src_Pick.F keep_Src_Range.F keep_clip.F keep_Src_List.L0 keep_Src_List.L1 keep_Src_List.L2 keep_Src_List.L3)) (sh := keep_Src_List.s1) (es := keep_Src_List.x1) (lp := true) (H := fun L x => keep_Src_List.eq1 keep_Src_N.F keep_Src_Pick.F keep_Src_Range.F keep_clip.F keep_Src_List.L0 keep_Src_List.L1 keep_Src_List.L2 keep_Src_List.L3 L x) (((), n_1, kind_5, size_6, x_7, (), i_9, ()), ((o0_0, o0_1, ()), o1, ()))
theorem keep_Src_List.L2_eq (n_1 : Int) (kind_5 : Int) (size_6 : Int) (x_7 : Int) (i_9 : Int) (v25 : Int) (v32 : Bool) (o0_0 : (List Int)) (o0_1 : Int) (o1 : List Int) : keep_Src_List.L2 (((), n_1, kind_5, size_6, x_7, (), i_9, v25, v32, ()), ((o0_0, o0_1, ()), o1, ())) = keep_Src_List.f2 n_1 kind_5 size_6 x_7 i_9 v25 v32 o0_0 o0_1 o1 := rfl
theorem keep_Src_List.L3_eq (n_1 : Int) (kind_5 : Int) (size_6 : Int) (x_7 : Int) (i_9 : Int) (v25 : Int) (v43 : Bool) (o0_0 : (List Int)) (o0_1 : Int) (o1 : List Int) : keep_Src_List.L3 (((), n_1, kind_5, size_6, x_7, (), i_9, v25, v43, ()), ((o0_0, o0_1, ()), o1, ())) = keep_Src_List.f3 n_1 kind_5 size_6 x_7 i_9 v25 v43 o0_0 o0_1 o1 := rfl
theorem keep_Src_List.F_eq (n : Int) (o0_0 : (List Int)) (o0_1 : Int) : keep_Src_List.F (((), n, ()), ((o0_0, o0_1, ()), ())) = keep_Src_List.f keep_Src_N.F keep_Src_Pick.F keep_Src_List.L0 keep_Src_List.L1 n o0_0 o0_1 := rfl
theorem keep_Src_List.ok {tabs : List (Nat × Go.Obj)} (ht : TabsOk tabs) : FOK Go.Proofs.Tryd.prog tabs 27 (FE.of [true, true] true keep_Src_List.sh keep_Src_List.osh keep_Src_List.F) := by
  refine fn_keeps (E := (keep_Src_List.E keep_Src_N.F keep_Src_Pick.F keep_Src_Range.F keep_clip.F keep_Src_List.L0 keep_Src_List.L1 keep_Src_List.L2 keep_Src_List.L3)) (c := keep_Src_List.c) (fn := Go.Proofs.Tryd.f27) (hs := keep_Src_List.hs) (by kernel_rfl) Go.Proofs.Tryd.func27 ⟨by kernel_rfl, by kernel_rfl, tb, by kernel_rfl, by kernel_rfl, by kernel_rfl, by kernel_rfl, by kernel_rfl⟩ ⟨fun g ks fe h => ?_, gt_ok ht⟩ ?_ (fun x => keep_Src_List.eq keep_Src_N.F keep_Src_Pick.F keep_Src_Range.F keep_clip.F keep_Src_List.L0 keep_Src_List.L1 keep_Src_List.L2 keep_Src_List.L3 x)
  · rcases c_cons h with ⟨rfl, rfl⟩ | h
    · exact keep_Src_N.ok ht
    rcases c_cons h with ⟨rfl, rfl⟩ | h
    · exact keep_Src_Pick.ok ht
    rcases c_cons h with ⟨rfl, rfl⟩ | h
    · exact keep_Src_Range.ok ht
    rcases c_cons h with ⟨rfl, rfl⟩ | h
    · exact keep_clip.ok ht
    cases h
  · refine known_at 4 (by kernel_rfl) fun i hi => ?_
    match i, hi with
    | 0, _ => exact atom_at (id := 0) (live := [0, 1, 5, 6, 7, 17]) (outs := [(0, [0, 1, 5, 6, 7])]) (loop := false) (by kernel_rfl) (cut_ok (E := (keep_Src_List.E keep_Src_N.F keep_Src_Pick.F keep_Src_Range.F keep_clip.F keep_Src_List.L0 keep_Src_List.L1 keep_Src_List.L2 keep_Src_List.L3)) (sh := keep_Src_List.s0) (es := keep_Src_List.x0) rfl (fun L x => keep_Src_List.eq0 keep_Src_N.F keep_Src_Pick.F keep_Src_Range.F keep_clip.F keep_Src_List.L0 keep_Src_List.L1 keep_Src_List.L2 keep_Src_List.L3 L x))
    | 1, _ => exact atom_at (id := 1) (live := [0, 1, 5, 6, 7, 8, 9]) (outs := [(2, [8])]) (loop := true) (by kernel_rfl) (loop_ok (E := (keep_Src_List.E keep_Src_N.F keep_Src_Pick.F keep_Src_Range.F keep_clip.F keep_Src_List.L0 keep_Src_List.L1 keep_Src_List.L2 keep_Src_List.L3)) (sh := keep_Src_List.s1) (es := keep_Src_List.x1) rfl (fun L x => keep_Src_List.eq1 keep_Src_N.F keep_Src_Pick.F keep_Src_Range.F keep_clip.F keep_Src_List.L0 keep_Src_List.L1 keep_Src_List.L2 keep_Src_List.L3 L x))
    | 2, _ => exact atom_at (id := 2) (live := [0, 1, 5, 6, 7, 8, 9, 25, 32]) (outs := [(0, [0, 1, 5, 6, 7, 8, 9, 25, 32])]) (loop := false) (by kernel_rfl) (cut_ok (E := (keep_Src_List.E keep_Src_N.F keep_Src_Pick.F keep_Src_Range.F keep_clip.F keep_Src_List.L0 keep_Src_List.L1 keep_Src_List.L2 keep_Src_List.L3)) (sh := keep_Src_List.s2) (es := keep_Src_List.x2) rfl (fun L x => keep_Src_List.eq2 keep_Src_N.F keep_Src_Pick.F keep_Src_Range.F keep_clip.F keep_Src_List.L0 keep_Src_List.L1 keep_Src_List.L2 keep_Src_List.L3 L x))
    | 3, _ => exact atom_at (id := 3) (live := [0, 1, 5, 6, 7, 8, 9, 25, 43]) (outs := [(0, [0, 1, 5, 6, 7, 8, 9, 25, 43])]) (loop := false) (by kernel_rfl) (cut_ok (E := (keep_Src_List.E keep_Src_N.F keep_Src_Pick.F keep_Src_Range.F keep_clip.F keep_Src_List.L0 keep_Src_List.L1 keep_Src_List.L2 keep_Src_List.L3)) (sh := keep_Src_List.s3) (es := keep_Src_List.x3) rfl (fun L x => keep_Src_List.eq3 keep_Src_N.F keep_Src_Pick.F keep_Src_Range.F keep_clip.F keep_Src_List.L0 keep_Src_List.L1 keep_Src_List.L2 keep_Src_List.L3 L x))
    | n + 4, h => exact absurd h (by omega)

/-! keep_Src_Near -/
def keep_Src_Near.f0 (g_keep_Src_Range : ((Unit × Int × Int × Unit) × (((List Int) × Int × Unit) × Unit)) → Option ((Int × Unit) × (((List Int) × Int × Unit) × Unit))) (g_keep_clip : ((Int × Unit) × (Unit)) → Option ((Int × Unit) × (Unit))) (g_keep_Mod : ((Int × Int × Unit) × (Unit)) → Option ((Int × Unit) × (Unit))) (L : ((Unit × (List Int) × Int × Int × Int × Unit × Int × Int × Unit) × (((List Int) × Int × Unit) × (List Int) × Unit)) → Option (((Unit × Unit) × (((List Int) × Int × Unit) × (List Int) × Unit)) ⊕ Empty)) (x_1 : (List Int)) (kind_5 : Int) (by_6 : Int) (k_7 : Int) (v20 : Int) (v21 : Int) (o0_0 : (List Int)) (o0_1 : Int) (o1 : List Int) : Option (((Unit × Unit) × (((List Int) × Int × Unit) × (List Int) × Unit)) ⊕ Empty) :=
  (bif (decide (v21 < v20)) then
   (bif (kind_5 == (1:Int)) then
    (bif (decide ((0:Int) ≤ v21)) then
     (bif (decide (v21 < (((List.length o1) : Nat) : Int))) then
      (Option.bind (g_keep_Src_Range (((), ((-(2:Int)), ((2:Int), ()))), ((o0_0, (o0_1, ())), ()))) (fun y4 =>
      (Option.bind (g_keep_clip (((Go.IntKind.wrap Go.IntKind.i64 ((List.getD o1 (Int.toNat v21) (0:Int)) + y4.1.1)), ()), ())) (fun y5 =>
      (bif (decide ((0:Int) ≤ v21)) then
       (bif (decide (v21 < (((List.length o1) : Nat) : Int))) then
        (Option.bind (L (((), (x_1, (kind_5, (by_6, (k_7, ((), (v20, ((Go.IntKind.wrap Go.IntKind.i64 (v21 + (1:Int))), ())))))))), ((y4.2.1.1, (y4.2.1.2.1, ())), ((List.set o1 (Int.toNat v21) y5.1.1), ())))) (fun y8 =>
        (some y8)))
       else
        none)
      else
       none)))))
     else
      none)
    else
     none)
   else
    (bif (kind_5 == (2:Int)) then
     (bif (decide ((0:Int) ≤ v21)) then
      (bif (decide (v21 < (((List.length o1) : Nat) : Int))) then
       (Option.bind (g_keep_clip (((Go.IntKind.wrap Go.IntKind.i64 ((List.getD o1 (Int.toNat v21) (0:Int)) + by_6)), ()), ())) (fun y5 =>
       (bif (decide ((0:Int) ≤ v21)) then
        (bif (decide (v21 < (((List.length o1) : Nat) : Int))) then
         (Option.bind (L (((), (x_1, (kind_5, (by_6, (k_7, ((), (v20, ((Go.IntKind.wrap Go.IntKind.i64 (v21 + (1:Int))), ())))))))), ((o0_0, (o0_1, ())), ((List.set o1 (Int.toNat v21) y5.1.1), ())))) (fun y8 =>
         (some y8)))
        else
         none)
       else
        none)))
      else
       none)
     else
      none)
    else
     (bif (kind_5 == (3:Int)) then
      (bif (decide ((0:Int) ≤ v21)) then
       (bif (decide (v21 < (((List.length o1) : Nat) : Int))) then
        (Option.bind (g_keep_clip (((Go.IntKind.wrap Go.IntKind.i64 ((Go.IntKind.wrap Go.IntKind.i64 ((List.getD o1 (Int.toNat v21) (0:Int)) * k_7)) + by_6)), ()), ())) (fun y6 =>
        (bif (decide ((0:Int) ≤ v21)) then
         (bif (decide (v21 < (((List.length o1) : Nat) : Int))) then
          (Option.bind (L (((), (x_1, (kind_5, (by_6, (k_7, ((), (v20, ((Go.IntKind.wrap Go.IntKind.i64 (v21 + (1:Int))), ())))))))), ((o0_0, (o0_1, ())), ((List.set o1 (Int.toNat v21) y6.1.1), ())))) (fun y9 =>
          (some y9)))
         else
          none)
        else
         none)))
       else
        none)
      else
       none)
     else
      (bif (kind_5 == (4:Int)) then
       (bif (decide ((0:Int) ≤ (Go.IntKind.wrap Go.IntKind.i64 ((Go.IntKind.wrap Go.IntKind.i64 ((((List.length x_1) : Nat) : Int) - (1:Int))) - v21)))) then
        (bif (decide ((Go.IntKind.wrap Go.IntKind.i64 ((Go.IntKind.wrap Go.IntKind.i64 ((((List.length x_1) : Nat) : Int) - (1:Int))) - v21)) < (((List.length x_1) : Nat) : Int))) then
         (bif (decide ((0:Int) ≤ v21)) then
          (bif (decide (v21 < (((List.length o1) : Nat) : Int))) then
           (Option.bind (L (((), (x_1, (kind_5, (by_6, (k_7, ((), (v20, ((Go.IntKind.wrap Go.IntKind.i64 (v21 + (1:Int))), ())))))))), ((o0_0, (o0_1, ())), ((List.set o1 (Int.toNat v21) (List.getD x_1 (Int.toNat (Go.IntKind.wrap Go.IntKind.i64 ((Go.IntKind.wrap Go.IntKind.i64 ((((List.length x_1) : Nat) : Int) - (1:Int))) - v21))) (0:Int))), ())))) (fun y9 =>
           (some y9)))
          else
           none)
         else
          none)
        else
         none)
       else
        none)
      else
       (bif (kind_5 == (5:Int)) then
        (Option.bind (g_keep_Src_Range (((), ((-(1:Int)), ((1:Int), ()))), ((o0_0, (o0_1, ())), ()))) (fun y6 =>
        (Option.bind (g_keep_Mod (((Go.IntKind.wrap Go.IntKind.i64 (v21 + y6.1.1)), ((((List.length x_1) : Nat) : Int), ())), ())) (fun y7 =>
        (bif (decide ((0:Int) ≤ y7.1.1)) then
         (bif (decide (y7.1.1 < (((List.length x_1) : Nat) : Int))) then
          (bif (decide ((0:Int) ≤ v21)) then
           (bif (decide (v21 < (((List.length o1) : Nat) : Int))) then
            (Option.bind (L (((), (x_1, (kind_5, (by_6, (k_7, ((), (v20, ((Go.IntKind.wrap Go.IntKind.i64 (v21 + (1:Int))), ())))))))), ((y6.2.1.1, (y6.2.1.2.1, ())), ((List.set o1 (Int.toNat v21) (List.getD x_1 (Int.toNat y7.1.1) (0:Int))), ())))) (fun y12 =>
            (some y12)))
           else
            none)
          else
           none)
         else
          none)
        else
         none)))))
       else
        (bif (kind_5 == (6:Int)) then
         (bif (decide ((0:Int) ≤ v21)) then
          (bif (decide (v21 < (((List.length o1) : Nat) : Int))) then
           (Option.bind (g_keep_clip (((Go.IntKind.wrap Go.IntKind.i64 (by_6 - (Go.IntKind.wrap Go.IntKind.i64 ((List.getD o1 (Int.toNat v21) (0:Int)) * k_7)))), ()), ())) (fun y9 =>
           (bif (decide ((0:Int) ≤ v21)) then
            (bif (decide (v21 < (((List.length o1) : Nat) : Int))) then
             (Option.bind (L (((), (x_1, (kind_5, (by_6, (k_7, ((), (v20, ((Go.IntKind.wrap Go.IntKind.i64 (v21 + (1:Int))), ())))))))), ((o0_0, (o0_1, ())), ((List.set o1 (Int.toNat v21) y9.1.1), ())))) (fun y12 =>
             (some y12)))
            else
             none)
           else
            none)))
          else
           none)
         else
          none)
        else
         (Option.bind (L (((), (x_1, (kind_5, (by_6, (k_7, ((), (v20, ((Go.IntKind.wrap Go.IntKind.i64 (v21 + (1:Int))), ())))))))), ((o0_0, (o0_1, ())), (o1, ())))) (fun y7 =>
         (some y7)))))))))
  else
   (some (Sum.inl (((), ()), ((o0_0, (o0_1, ())), (o1, ()))))))
theorem keep_Src_Near.eq0 (g_keep_Src_N : keep_Src_N.sh.X → Option keep_Src_N.osh.X) (g_keep_Src_Range : keep_Src_Range.sh.X → Option keep_Src_Range.osh.X) (g_keep_clip : keep_clip.sh.X → Option keep_clip.osh.X) (g_keep_Mod : keep_Mod.sh.X → Option keep_Mod.osh.X) (l0 : keep_Src_Near.s0.X → Option (sumX keep_Src_Near.x0)) (L : ((Unit × (List Int) × Int × Int × Int × Unit × Int × Int × Unit) × (((List Int) × Int × Unit) × (List Int) × Unit)) → Option (((Unit × Unit) × (((List Int) × Int × Unit) × (List Int) × Unit)) ⊕ Empty)) (x : ((Unit × (List Int) × Int × Int × Int × Unit × Int × Int × Unit) × (((List Int) × Int × Unit) × (List Int) × Unit))) : (roundK (keep_Src_Near.E g_keep_Src_N g_keep_Src_Range g_keep_clip g_keep_Mod l0) keep_Src_Near.s0 [0, 1, 5, 6, 7, 8, 20, 21] [(2, [8])] true (((mk keep_Src_Near.hs keep_Src_Near.c []).atoms.getD 0 .bad).body) keep_Src_Near.x0 L x).run _ some = keep_Src_Near.f0 g_keep_Src_Range g_keep_clip g_keep_Mod L x.1.2.1 x.1.2.2.1 x.1.2.2.2.1 x.1.2.2.2.2.1 x.1.2.2.2.2.2.2.1 x.1.2.2.2.2.2.2.2.1 x.2.1.1 x.2.1.2.1 x.2.2.1 := by
  show _ = (_ : Option _)
  kernel_rfl
noncomputable def keep_Src_Near.L0 : ((Unit × (List Int) × Int × Int × Int × Unit × Int × Int × Unit) × (((List Int) × Int × Unit) × (List Int) × Unit)) → Option (((Unit × Unit) × (((List Int) × Int × Unit) × (List Int) × Unit)) ⊕ Empty) := loop fun L x => keep_Src_Near.f0 keep_Src_Range.F keep_clip.F keep_Mod.F L x.1.2.1 x.1.2.2.1 x.1.2.2.2.1 x.1.2.2.2.2.1 x.1.2.2.2.2.2.2.1 x.1.2.2.2.2.2.2.2.1 x.2.1.1 x.2.1.2.1 x.2.2.1
def keep_Src_Near.f (g_keep_Src_N : ((Unit × Int × Unit) × (((List Int) × Int × Unit) × Unit)) → Option ((Int × Unit) × (((List Int) × Int × Unit) × Unit))) (g_keep_Src_Range : ((Unit × Int × Int × Unit) × (((List Int) × Int × Unit) × Unit)) → Option ((Int × Unit) × (((List Int) × Int × Unit) × Unit))) (l0 : ((Unit × (List Int) × Int × Int × Int × Unit × Int × Int × Unit) × (((List Int) × Int × Unit) × (List Int) × Unit)) → Option (((Unit × Unit) × (((List Int) × Int × Unit) × (List Int) × Unit)) ⊕ Empty)) (x_ : (List Int)) (o0_0 : (List Int)) (o0_1 : Int) : Option ((Unit × Unit) × (((List Int) × Int × Unit) × (List Int) × Unit)) :=
  (Option.bind (g_keep_Src_N (((), ((7:Int), ())), ((o0_0, (o0_1, ())), ()))) (fun y0 =>
  (Option.bind (g_keep_Src_Range (((), ((-(20:Int)), ((20:Int), ()))), ((y0.2.1.1, (y0.2.1.2.1, ())), ()))) (fun y1 =>
  (Option.bind (g_keep_Src_Range (((), ((1:Int), ((3:Int), ()))), ((y1.2.1.1, (y1.2.1.2.1, ())), ()))) (fun y2 =>
  (bif (decide ((((List.length ([] : List Int)) + (List.length x_)) * (8:Nat)) ≤ (140737488355328:Nat))) then
   (Option.bind (l0 (((), (x_, (y0.1.1, (y1.1.1, (y2.1.1, ((), ((((List.length (([] : List Int) ++ x_)) : Nat) : Int), ((0:Int), ())))))))), ((y2.2.1.1, (y2.2.1.2.1, ())), ((([] : List Int) ++ x_), ())))) (fun y4 =>
   (Sum.elim (fun a5 =>
    (some (((), ()), ((a5.2.1.1, (a5.2.1.2.1, ())), (a5.2.2.1, ()))))) (fun b5 =>
    (Empty.elim b5)) y4)))
  else
   none)))))))
theorem keep_Src_Near.eq (g_keep_Src_N : keep_Src_N.sh.X → Option keep_Src_N.osh.X) (g_keep_Src_Range : keep_Src_Range.sh.X → Option keep_Src_Range.osh.X) (g_keep_clip : keep_clip.sh.X → Option keep_clip.osh.X) (g_keep_Mod : keep_Mod.sh.X → Option keep_Mod.osh.X) (l0 : keep_Src_Near.s0.X → Option (sumX keep_Src_Near.x0)) (x : ((Unit × (List Int) × Unit) × (((List Int) × Int × Unit) × Unit))) : (bodyO (keep_Src_Near.E g_keep_Src_N g_keep_Src_Range g_keep_clip g_keep_Mod l0) (mk keep_Src_Near.hs keep_Src_Near.c []) Go.Proofs.Tryd.f29.results.toList keep_Src_Near.sh keep_Src_Near.osh x).run _ some = keep_Src_Near.f g_keep_Src_N g_keep_Src_Range l0 x.1.2.1 x.2.1.1 x.2.1.2.1 := by
  show _ = (_ : Option _)
  kernel_rfl
noncomputable def keep_Src_Near (x_ : (List Int)) (o0_0 : (List Int)) (o0_1 : Int) : Option ((Unit × Unit) × (((List Int) × Int × Unit) × (List Int) × Unit)) := keep_Src_Near.f keep_Src_N.F keep_Src_Range.F keep_Src_Near.L0 x_ o0_0 o0_1
noncomputable def keep_Src_Near.F (x : ((Unit × (List Int) × Unit) × (((List Int) × Int × Unit) × Unit))) : Option ((Unit × Unit) × (((List Int) × Int × Unit) × (List Int) × Unit)) := keep_Src_Near x.1.2.1 x.2.1.1 x.2.1.2.1
theorem keep_Src_Near.L0_eq (x_1 : (List Int)) (kind_5 : Int) (by_6 : Int) (k_7 : Int) (v20 : Int) (v21 : Int) (o0_0 : (List Int)) (o0_1 : Int) (o1 : List Int) : keep_Src_Near.L0 (((), x_1, kind_5, by_6, k_7, (), v20, v21, ()), ((o0_0, o0_1, ()), o1, ())) = keep_Src_Near.f0 keep_Src_Range.F keep_clip.F keep_Mod.F keep_Src_Near.L0 x_1 kind_5 by_6 k_7 v20 v21 o0_0 o0_1 o1 :=
  loop_eq (E := (keep_Src_Near.E keep_Src_N.F keep_Src_Range.F keep_clip.F keep_Mod.F keep_Src_Near.L0)) (sh := keep_Src_Near.s0) (es := keep_Src_Near.x0) (lp := true) (H := fun L x => keep_Src_Near.eq0 keep_Src_N.F keep_Src_Range.F keep_clip.F keep_Mod.F keep_Src_Near.L0 L x) (((), x_1, kind_5, by_6, k_7, (), v20, v21, ()), ((o0_0, o0_1, ()), o1, ()))
theorem keep_Src_Near.F_eq (x_ : (List Int)) (o0_0 : (List Int)) (o0_1 : Int) : keep_Src_Near.F (((), x_, ()), ((o0_0, o0_1, ()), ())) = keep_Src_Near.f keep_Src_N.F keep_Src_Range.F keep_Src_Near.L0 x_ o0_0 o0_1 := rfl
theorem keep_Src_Near.ok {tabs : List (Nat × Go.Obj)} (ht : TabsOk tabs) : FOK Go.Proofs.Tryd.prog tabs 29 (FE.of [true, true] true keep_Src_Near.sh keep_Src_Near.osh keep_Src_Near.F) := by
  refine fn_keeps (E := (keep_Src_Near.E keep_Src_N.F keep_Src_Range.F keep_clip.F keep_Mod.F keep_Src_Near.L0)) (c := keep_Src_Near.c) (fn := Go.Proofs.Tryd.f29) (hs := keep_Src_Near.hs) (by kernel_rfl) Go.Proofs.Tryd.func29 ⟨by kernel_rfl, by kernel_rfl, tb, by kernel_rfl, by kernel_rfl, by kernel_rfl, by kernel_rfl, by kernel_rfl⟩ ⟨fun g ks fe h => ?_, gt_ok ht⟩ ?_ (fun x => keep_Src_Near.eq keep_Src_N.F keep_Src_Range.F keep_clip.F keep_Mod.F keep_Src_Near.L0 x)
  · rcases c_cons h with ⟨rfl, rfl⟩ | h
    · exact keep_Src_N.ok ht
    rcases c_cons h with ⟨rfl, rfl⟩ | h
    · exact keep_Src_Range.ok ht
    rcases c_cons h with ⟨rfl, rfl⟩ | h
    · exact keep_clip.ok ht
    rcases c_cons h with ⟨rfl, rfl⟩ | h
    · exact keep_Mod.ok ht
    cases h
  · refine known_at 1 (by kernel_rfl) fun i hi => ?_
    match i, hi with
    | 0, _ => exact atom_at (id := 0) (live := [0, 1, 5, 6, 7, 8, 20, 21]) (outs := [(2, [8])]) (loop := true) (by kernel_rfl) (loop_ok (E := (keep_Src_Near.E keep_Src_N.F keep_Src_Range.F keep_clip.F keep_Mod.F keep_Src_Near.L0)) (sh := keep_Src_Near.s0) (es := keep_Src_Near.x0) rfl (fun L x => keep_Src_Near.eq0 keep_Src_N.F keep_Src_Range.F keep_clip.F keep_Mod.F keep_Src_Near.L0 L x))
    | n + 1, h => exact absurd h (by omega)

/-! keep_Src_Pair -/
def keep_Src_Pair.f (g_keep_Src_Length : ((Unit × Unit) × (((List Int) × Int × Unit) × Unit)) → Option ((Int × Unit) × (((List Int) × Int × Unit) × Unit))) (g_keep_Src_List : ((Unit × Int × Unit) × (((List Int) × Int × Unit) × Unit)) → Option ((Unit × Unit) × (((List Int) × Int × Unit) × (List Int) × Unit))) (g_keep_Src_N : ((Unit × Int × Unit) × (((List Int) × Int × Unit) × Unit)) → Option ((Int × Unit) × (((List Int) × Int × Unit) × Unit))) (g_keep_Src_Near : ((Unit × (List Int) × Unit) × (((List Int) × Int × Unit) × Unit)) → Option ((Unit × Unit) × (((List Int) × Int × Unit) × (List Int) × Unit))) (o0_0 : (List Int)) (o0_1 : Int) : Option (((List Int) × Unit × Unit) × (((List Int) × Int × Unit) × (List Int) × Unit)) :=
  (Option.bind (g_keep_Src_Length (((), ()), ((o0_0, (o0_1, ())), ()))) (fun y0 =>
  (Option.bind (g_keep_Src_List (((), (y0.1.1, ())), ((y0.2.1.1, (y0.2.1.2.1, ())), ()))) (fun y1 =>
  (Option.bind (g_keep_Src_N (((), ((3:Int), ())), ((y1.2.1.1, (y1.2.1.2.1, ())), ()))) (fun y2 =>
  (bif (y2.1.1 == (0:Int)) then
   (Option.bind (g_keep_Src_List (((), ((((List.length y1.2.2.1) : Nat) : Int), ())), ((y2.2.1.1, (y2.2.1.2.1, ())), ()))) (fun y4 =>
   (some ((y1.2.2.1, ((), ())), ((y4.2.1.1, (y4.2.1.2.1, ())), (y4.2.2.1, ()))))))
  else
   (Option.bind (g_keep_Src_Near (((), (y1.2.2.1, ())), ((y2.2.1.1, (y2.2.1.2.1, ())), ()))) (fun y4 =>
   (some ((y1.2.2.1, ((), ())), ((y4.2.1.1, (y4.2.1.2.1, ())), (y4.2.2.1, ())))))))))))))
theorem keep_Src_Pair.eq (g_keep_Src_Length : keep_Src_Length.sh.X → Option keep_Src_Length.osh.X) (g_keep_Src_List : keep_Src_List.sh.X → Option keep_Src_List.osh.X) (g_keep_Src_N : keep_Src_N.sh.X → Option keep_Src_N.osh.X) (g_keep_Src_Near : keep_Src_Near.sh.X → Option keep_Src_Near.osh.X) (x : ((Unit × Unit) × (((List Int) × Int × Unit) × Unit))) : (bodyO (keep_Src_Pair.E g_keep_Src_Length g_keep_Src_List g_keep_Src_N g_keep_Src_Near) (mk keep_Src_Pair.hs keep_Src_Pair.c []) Go.Proofs.Tryd.f14.results.toList keep_Src_Pair.sh keep_Src_Pair.osh x).run _ some = keep_Src_Pair.f g_keep_Src_Length g_keep_Src_List g_keep_Src_N g_keep_Src_Near x.2.1.1 x.2.1.2.1 := by
  show _ = (_ : Option _)
  kernel_rfl
noncomputable def keep_Src_Pair (o0_0 : (List Int)) (o0_1 : Int) : Option (((List Int) × Unit × Unit) × (((List Int) × Int × Unit) × (List Int) × Unit)) := keep_Src_Pair.f keep_Src_Length.F keep_Src_List.F keep_Src_N.F keep_Src_Near.F o0_0 o0_1
noncomputable def keep_Src_Pair.F (x : ((Unit × Unit) × (((List Int) × Int × Unit) × Unit))) : Option (((List Int) × Unit × Unit) × (((List Int) × Int × Unit) × (List Int) × Unit)) := keep_Src_Pair x.2.1.1 x.2.1.2.1
theorem keep_Src_Pair.F_eq (o0_0 : (List Int)) (o0_1 : Int) : keep_Src_Pair.F (((), ()), ((o0_0, o0_1, ()), ())) = keep_Src_Pair.f keep_Src_Length.F keep_Src_List.F keep_Src_N.F keep_Src_Near.F o0_0 o0_1 := rfl
theorem keep_Src_Pair.ok {tabs : List (Nat × Go.Obj)} (ht : TabsOk tabs) : FOK Go.Proofs.Tryd.prog tabs 14 (FE.of [true] true keep_Src_Pair.sh keep_Src_Pair.osh keep_Src_Pair.F) := by
  refine fn_keeps (E := (keep_Src_Pair.E keep_Src_Length.F keep_Src_List.F keep_Src_N.F keep_Src_Near.F)) (c := keep_Src_Pair.c) (fn := Go.Proofs.Tryd.f14) (hs := keep_Src_Pair.hs) (by kernel_rfl) Go.Proofs.Tryd.func14 ⟨by kernel_rfl, by kernel_rfl, tb, by kernel_rfl, by kernel_rfl, by kernel_rfl, by kernel_rfl, by kernel_rfl⟩ ⟨fun g ks fe h => ?_, gt_ok ht⟩ ?_ (fun x => keep_Src_Pair.eq keep_Src_Length.F keep_Src_List.F keep_Src_N.F keep_Src_Near.F x)
  · rcases c_cons h with ⟨rfl, rfl⟩ | h
    · exact keep_Src_Length.ok ht
    rcases c_cons h with ⟨rfl, rfl⟩ | h
    · exact keep_Src_List.ok ht
    rcases c_cons h with ⟨rfl, rfl⟩ | h
    · exact keep_Src_N.ok ht
    rcases c_cons h with ⟨rfl, rfl⟩ | h
    · exact keep_Src_Near.ok ht
    cases h
  · exact known_at 0 (by kernel_rfl) fun i hi => absurd hi (Nat.not_lt_zero i)
end Go.Proofs.YtadniiehehiblaaDoor.V
