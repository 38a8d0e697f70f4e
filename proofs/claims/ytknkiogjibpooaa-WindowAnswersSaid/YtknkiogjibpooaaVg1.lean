import Derived.Test.YtknkiogjibpooaaVg0
set_option linter.unusedVariables false
set_option maxRecDepth 100000
namespace Go.Proofs.Ytknkiogjibpooaa.V
open Go.VI
/-! keep_Mod -/
def keep_Mod.f (x_ : Int) (n : Int) : Option ((Int × Unit) × (Unit)) :=
  (bif (decide (n < (1:Int))) then
   (some (((0:Int), ()), ()))
  else
   (bif (!(decide (n = (0:Int)))) then
    (bif (decide ((Int.tmod x_ n) < (0:Int))) then
     (some (((Go.IntKind.wrap Go.IntKind.i64 ((Int.tmod x_ n) + n)), ()), ()))
    else
     (some (((Int.tmod x_ n), ()), ())))
   else
    none))
theorem keep_Mod.eq (x : ((Int × Int × Unit) × (Unit))) : (bodyO (keep_Mod.E) (mk keep_Mod.hs keep_Mod.c []) Go.Proofs.Try.f12.results.toList keep_Mod.sh keep_Mod.osh x).run _ some = keep_Mod.f x.1.1 x.1.2.1 := by
  show _ = (_ : Option _)
  kernel_rfl
noncomputable def keep_Mod (x_ : Int) (n : Int) : Option ((Int × Unit) × (Unit)) := keep_Mod.f x_ n
noncomputable def keep_Mod.F (x : ((Int × Int × Unit) × (Unit))) : Option ((Int × Unit) × (Unit)) := keep_Mod x.1.1 x.1.2.1
theorem keep_Mod.F_eq (x_ : Int) (n : Int) : keep_Mod.F ((x_, n, ()), ()) = keep_Mod.f x_ n := rfl
theorem keep_Mod.ok {tabs : List (Nat × Go.Obj)} (ht : TabsOk tabs) : FOK Go.Proofs.Try.prog tabs 12 (FE.of [true, true] false keep_Mod.sh keep_Mod.osh keep_Mod.F) := by
  refine fn_keeps (E := (keep_Mod.E)) (c := keep_Mod.c) (fn := Go.Proofs.Try.f12) (hs := keep_Mod.hs) (by kernel_rfl) Go.Proofs.Try.func12 ⟨by kernel_rfl, by kernel_rfl, tb, by kernel_rfl, by kernel_rfl, by kernel_rfl, by kernel_rfl, by kernel_rfl⟩ ⟨fun g ks fe h => ?_, gt_ok ht⟩ ?_ (fun x => keep_Mod.eq x)
  · cases h
  · exact known_at 0 (by kernel_rfl) fun i hi => absurd hi (Nat.not_lt_zero i)

/-! keep_Src_N -/
def keep_Src_N.f (g_keep_Src_Raw : ((Unit × Unit) × (((List Int) × Int × Unit) × Unit)) → Option ((Int × Unit) × (((List Int) × Int × Unit) × Unit))) (g_keep_Mod : ((Int × Int × Unit) × (Unit)) → Option ((Int × Unit) × (Unit))) (n : Int) (o0_0 : (List Int)) (o0_1 : Int) : Option ((Int × Unit) × (((List Int) × Int × Unit) × Unit)) :=
  (Option.bind (g_keep_Src_Raw (((), ()), ((o0_0, (o0_1, ())), ()))) (fun y0 =>
  (Option.bind (g_keep_Mod ((y0.1.1, (n, ())), ())) (fun y1 =>
  (some ((y1.1.1, ()), ((y0.2.1.1, (y0.2.1.2.1, ())), ())))))))
theorem keep_Src_N.eq (g_keep_Src_Raw : keep_Src_Raw.sh.X → Option keep_Src_Raw.osh.X) (g_keep_Mod : keep_Mod.sh.X → Option keep_Mod.osh.X) (x : ((Unit × Int × Unit) × (((List Int) × Int × Unit) × Unit))) : (bodyO (keep_Src_N.E g_keep_Src_Raw g_keep_Mod) (mk keep_Src_N.hs keep_Src_N.c []) Go.Proofs.Try.f18.results.toList keep_Src_N.sh keep_Src_N.osh x).run _ some = keep_Src_N.f g_keep_Src_Raw g_keep_Mod x.1.2.1 x.2.1.1 x.2.1.2.1 := by
  show _ = (_ : Option _)
  kernel_rfl
noncomputable def keep_Src_N (n : Int) (o0_0 : (List Int)) (o0_1 : Int) : Option ((Int × Unit) × (((List Int) × Int × Unit) × Unit)) := keep_Src_N.f keep_Src_Raw.F keep_Mod.F n o0_0 o0_1
noncomputable def keep_Src_N.F (x : ((Unit × Int × Unit) × (((List Int) × Int × Unit) × Unit))) : Option ((Int × Unit) × (((List Int) × Int × Unit) × Unit)) := keep_Src_N x.1.2.1 x.2.1.1 x.2.1.2.1
theorem keep_Src_N.F_eq (n : Int) (o0_0 : (List Int)) (o0_1 : Int) : keep_Src_N.F (((), n, ()), ((o0_0, o0_1, ()), ())) = keep_Src_N.f keep_Src_Raw.F keep_Mod.F n o0_0 o0_1 := rfl
theorem keep_Src_N.ok {tabs : List (Nat × Go.Obj)} (ht : TabsOk tabs) : FOK Go.Proofs.Try.prog tabs 18 (FE.of [true, true] true keep_Src_N.sh keep_Src_N.osh keep_Src_N.F) := by
  refine fn_keeps (E := (keep_Src_N.E keep_Src_Raw.F keep_Mod.F)) (c := keep_Src_N.c) (fn := Go.Proofs.Try.f18) (hs := keep_Src_N.hs) (by kernel_rfl) Go.Proofs.Try.func18 ⟨by kernel_rfl, by kernel_rfl, tb, by kernel_rfl, by kernel_rfl, by kernel_rfl, by kernel_rfl, by kernel_rfl⟩ ⟨fun g ks fe h => ?_, gt_ok ht⟩ ?_ (fun x => keep_Src_N.eq keep_Src_Raw.F keep_Mod.F x)
  · rcases c_cons h with ⟨rfl, rfl⟩ | h
    · exact keep_Src_Raw.ok ht
    rcases c_cons h with ⟨rfl, rfl⟩ | h
    · exact keep_Mod.ok ht
    cases h
  · exact known_at 0 (by kernel_rfl) fun i hi => absurd hi (Nat.not_lt_zero i)

/-! keep_Src_Pick -/
def keep_Src_Pick.f (g_keep_Src_N : ((Unit × Int × Unit) × (((List Int) × Int × Unit) × Unit)) → Option ((Int × Unit) × (((List Int) × Int × Unit) × Unit))) (l : (List Int)) (o0_0 : (List Int)) (o0_1 : Int) : Option ((Int × Unit) × (((List Int) × Int × Unit) × Unit)) :=
  (Option.bind (g_keep_Src_N (((), ((((List.length l) : Nat) : Int), ())), ((o0_0, (o0_1, ())), ()))) (fun y0 =>
  (bif (decide ((0:Int) ≤ y0.1.1)) then
   (bif (decide (y0.1.1 < (((List.length l) : Nat) : Int))) then
    (some (((List.getD l (Int.toNat y0.1.1) (0:Int)), ()), ((y0.2.1.1, (y0.2.1.2.1, ())), ())))
   else
    none)
  else
   none)))
theorem keep_Src_Pick.eq (g_keep_Src_N : keep_Src_N.sh.X → Option keep_Src_N.osh.X) (x : ((Unit × (List Int) × Unit) × (((List Int) × Int × Unit) × Unit))) : (bodyO (keep_Src_Pick.E g_keep_Src_N) (mk keep_Src_Pick.hs keep_Src_Pick.c []) Go.Proofs.Try.f25.results.toList keep_Src_Pick.sh keep_Src_Pick.osh x).run _ some = keep_Src_Pick.f g_keep_Src_N x.1.2.1 x.2.1.1 x.2.1.2.1 := by
  show _ = (_ : Option _)
  kernel_rfl
noncomputable def keep_Src_Pick (l : (List Int)) (o0_0 : (List Int)) (o0_1 : Int) : Option ((Int × Unit) × (((List Int) × Int × Unit) × Unit)) := keep_Src_Pick.f keep_Src_N.F l o0_0 o0_1
noncomputable def keep_Src_Pick.F (x : ((Unit × (List Int) × Unit) × (((List Int) × Int × Unit) × Unit))) : Option ((Int × Unit) × (((List Int) × Int × Unit) × Unit)) := keep_Src_Pick x.1.2.1 x.2.1.1 x.2.1.2.1
theorem keep_Src_Pick.F_eq (l : (List Int)) (o0_0 : (List Int)) (o0_1 : Int) : keep_Src_Pick.F (((), l, ()), ((o0_0, o0_1, ()), ())) = keep_Src_Pick.f keep_Src_N.F l o0_0 o0_1 := rfl
theorem keep_Src_Pick.ok {tabs : List (Nat × Go.Obj)} (ht : TabsOk tabs) : FOK Go.Proofs.Try.prog tabs 25 (FE.of [true, true] true keep_Src_Pick.sh keep_Src_Pick.osh keep_Src_Pick.F) := by
  refine fn_keeps (E := (keep_Src_Pick.E keep_Src_N.F)) (c := keep_Src_Pick.c) (fn := Go.Proofs.Try.f25) (hs := keep_Src_Pick.hs) (by kernel_rfl) Go.Proofs.Try.func25 ⟨by kernel_rfl, by kernel_rfl, tb, by kernel_rfl, by kernel_rfl, by kernel_rfl, by kernel_rfl, by kernel_rfl⟩ ⟨fun g ks fe h => ?_, gt_ok ht⟩ ?_ (fun x => keep_Src_Pick.eq keep_Src_N.F x)
  · rcases c_cons h with ⟨rfl, rfl⟩ | h
    · exact keep_Src_N.ok ht
    cases h
  · exact known_at 0 (by kernel_rfl) fun i hi => absurd hi (Nat.not_lt_zero i)

/-! keep_Src_Range -/
def keep_Src_Range.f (g_keep_Src_N : ((Unit × Int × Unit) × (((List Int) × Int × Unit) × Unit)) → Option ((Int × Unit) × (((List Int) × Int × Unit) × Unit))) (lo : Int) (hi : Int) (o0_0 : (List Int)) (o0_1 : Int) : Option ((Int × Unit) × (((List Int) × Int × Unit) × Unit)) :=
  (Option.bind (g_keep_Src_N (((), ((Go.IntKind.wrap Go.IntKind.i64 ((Go.IntKind.wrap Go.IntKind.i64 (hi - lo)) + (1:Int))), ())), ((o0_0, (o0_1, ())), ()))) (fun y0 =>
  (some (((Go.IntKind.wrap Go.IntKind.i64 (lo + y0.1.1)), ()), ((y0.2.1.1, (y0.2.1.2.1, ())), ())))))
theorem keep_Src_Range.eq (g_keep_Src_N : keep_Src_N.sh.X → Option keep_Src_N.osh.X) (x : ((Unit × Int × Int × Unit) × (((List Int) × Int × Unit) × Unit))) : (bodyO (keep_Src_Range.E g_keep_Src_N) (mk keep_Src_Range.hs keep_Src_Range.c []) Go.Proofs.Try.f11.results.toList keep_Src_Range.sh keep_Src_Range.osh x).run _ some = keep_Src_Range.f g_keep_Src_N x.1.2.1 x.1.2.2.1 x.2.1.1 x.2.1.2.1 := by
  show _ = (_ : Option _)
  kernel_rfl
noncomputable def keep_Src_Range (lo : Int) (hi : Int) (o0_0 : (List Int)) (o0_1 : Int) : Option ((Int × Unit) × (((List Int) × Int × Unit) × Unit)) := keep_Src_Range.f keep_Src_N.F lo hi o0_0 o0_1
noncomputable def keep_Src_Range.F (x : ((Unit × Int × Int × Unit) × (((List Int) × Int × Unit) × Unit))) : Option ((Int × Unit) × (((List Int) × Int × Unit) × Unit)) := keep_Src_Range x.1.2.1 x.1.2.2.1 x.2.1.1 x.2.1.2.1
theorem keep_Src_Range.F_eq (lo : Int) (hi : Int) (o0_0 : (List Int)) (o0_1 : Int) : keep_Src_Range.F (((), lo, hi, ()), ((o0_0, o0_1, ()), ())) = keep_Src_Range.f keep_Src_N.F lo hi o0_0 o0_1 := rfl
theorem keep_Src_Range.ok {tabs : List (Nat × Go.Obj)} (ht : TabsOk tabs) : FOK Go.Proofs.Try.prog tabs 11 (FE.of [true, true, true] true keep_Src_Range.sh keep_Src_Range.osh keep_Src_Range.F) := by
  refine fn_keeps (E := (keep_Src_Range.E keep_Src_N.F)) (c := keep_Src_Range.c) (fn := Go.Proofs.Try.f11) (hs := keep_Src_Range.hs) (by kernel_rfl) Go.Proofs.Try.func11 ⟨by kernel_rfl, by kernel_rfl, tb, by kernel_rfl, by kernel_rfl, by kernel_rfl, by kernel_rfl, by kernel_rfl⟩ ⟨fun g ks fe h => ?_, gt_ok ht⟩ ?_ (fun x => keep_Src_Range.eq keep_Src_N.F x)
  · rcases c_cons h with ⟨rfl, rfl⟩ | h
    · exact keep_Src_N.ok ht
    cases h
  · exact known_at 0 (by kernel_rfl) fun i hi => absurd hi (Nat.not_lt_zero i)

/-! keep_clip -/
def keep_clip.f (n : Int) : Option ((Int × Unit) × (Unit)) :=
  (some (((Go.VI.mn (Go.VI.mx n (-(1000:Int))) (1000:Int)), ()), ()))
theorem keep_clip.eq (x : ((Int × Unit) × (Unit))) : (bodyO (keep_clip.E) (mk keep_clip.hs keep_clip.c []) Go.Proofs.Try.f28.results.toList keep_clip.sh keep_clip.osh x).run _ some = keep_clip.f x.1.1 := by
  show _ = (_ : Option _)
  kernel_rfl
noncomputable def keep_clip (n : Int) : Option ((Int × Unit) × (Unit)) := keep_clip.f n
noncomputable def keep_clip.F (x : ((Int × Unit) × (Unit))) : Option ((Int × Unit) × (Unit)) := keep_clip x.1.1
theorem keep_clip.F_eq (n : Int) : keep_clip.F ((n, ()), ()) = keep_clip.f n := rfl
theorem keep_clip.ok {tabs : List (Nat × Go.Obj)} (ht : TabsOk tabs) : FOK Go.Proofs.Try.prog tabs 28 (FE.of [true] false keep_clip.sh keep_clip.osh keep_clip.F) := by
  refine fn_keeps (E := (keep_clip.E)) (c := keep_clip.c) (fn := Go.Proofs.Try.f28) (hs := keep_clip.hs) (by kernel_rfl) Go.Proofs.Try.func28 ⟨by kernel_rfl, by kernel_rfl, tb, by kernel_rfl, by kernel_rfl, by kernel_rfl, by kernel_rfl, by kernel_rfl⟩ ⟨fun g ks fe h => ?_, gt_ok ht⟩ ?_ (fun x => keep_clip.eq x)
  · cases h
  · exact known_at 0 (by kernel_rfl) fun i hi => absurd hi (Nat.not_lt_zero i)

/-! keep_Src_List -/
def keep_Src_List.f0 (g_keep_Src_Range : ((Unit × Int × Int × Unit) × (((List Int) × Int × Unit) × Unit)) → Option ((Int × Unit) × (((List Int) × Int × Unit) × Unit))) (n_1 : Int) (kind_5 : Int) (size_6 : Int) (x_7 : Int) (v17 : Bool) (o0_0 : (List Int)) (o0_1 : Int) : Option (((Unit × Int × Int × Int × Int × Unit) × (((List Int) × Int × Unit) × Unit)) ⊕ Empty) :=
  (bif v17 then
   (Option.bind (g_keep_Src_Range (((), ((-(1000:Int)), ((1000:Int), ()))), ((o0_0, (o0_1, ())), ()))) (fun y1 =>
   (some (Sum.inl (((), (n_1, (kind_5, (size_6, (y1.1.1, ()))))), ((y1.2.1.1, (y1.2.1.2.1, ())), ()))))))
  else
   (some (Sum.inl (((), (n_1, (kind_5, (size_6, (x_7, ()))))), ((o0_0, (o0_1, ())), ())))))
theorem keep_Src_List.eq0 (g_keep_Src_N : keep_Src_N.sh.X → Option keep_Src_N.osh.X) (g_keep_Src_Pick : keep_Src_Pick.sh.X → Option keep_Src_Pick.osh.X) (g_keep_Src_Range : keep_Src_Range.sh.X → Option keep_Src_Range.osh.X) (g_keep_clip : keep_clip.sh.X → Option keep_clip.osh.X) (l0 : keep_Src_List.s0.X → Option (sumX keep_Src_List.x0)) (l1 : keep_Src_List.s1.X → Option (sumX keep_Src_List.x1)) (l2 : keep_Src_List.s2.X → Option (sumX keep_Src_List.x2)) (l3 : keep_Src_List.s3.X → Option (sumX keep_Src_List.x3)) (L : ((Unit × Int × Int × Int × Int × Bool × Unit) × (((List Int) × Int × Unit) × Unit)) → Option (((Unit × Int × Int × Int × Int × Unit) × (((List Int) × Int × Unit) × Unit)) ⊕ Empty)) (x : ((Unit × Int × Int × Int × Int × Bool × Unit) × (((List Int) × Int × Unit) × Unit))) : (roundK (keep_Src_List.E g_keep_Src_N g_keep_Src_Pick g_keep_Src_Range g_keep_clip l0 l1 l2 l3) keep_Src_List.s0 [0, 1, 5, 6, 7, 17] [(0, [0, 1, 5, 6, 7])] false (((mk keep_Src_List.hs keep_Src_List.c []).atoms.getD 0 .bad).body) keep_Src_List.x0 L x).run _ some = keep_Src_List.f0 g_keep_Src_Range x.1.2.1 x.1.2.2.1 x.1.2.2.2.1 x.1.2.2.2.2.1 x.1.2.2.2.2.2.1 x.2.1.1 x.2.1.2.1 := by
  show _ = (_ : Option _)
  kernel_rfl
noncomputable def keep_Src_List.L0 : ((Unit × Int × Int × Int × Int × Bool × Unit) × (((List Int) × Int × Unit) × Unit)) → Option (((Unit × Int × Int × Int × Int × Unit) × (((List Int) × Int × Unit) × Unit)) ⊕ Empty) := fun x => keep_Src_List.f0 keep_Src_Range.F x.1.2.1 x.1.2.2.1 x.1.2.2.2.1 x.1.2.2.2.2.1 x.1.2.2.2.2.2.1 x.2.1.1 x.2.1.2.1
def keep_Src_List.f2 (n_1 : Int) (kind_5 : Int) (size_6 : Int) (x_7 : Int) (i_9 : Int) (v25 : Int) (v32 : Bool) (o0_0 : (List Int)) (o0_1 : Int) (o1 : List Int) : Option (((Unit × Int × Int × Int × Int × Unit × Int × Int × Bool × Unit) × (((List Int) × Int × Unit) × (List Int) × Unit)) ⊕ Empty) :=
  (bif v32 then
   (some (Sum.inl (((), (n_1, (kind_5, (size_6, (x_7, ((), (i_9, (v25, (v32, ()))))))))), ((o0_0, (o0_1, ())), (o1, ())))))
  else
   (some (Sum.inl (((), (n_1, (kind_5, (size_6, (x_7, ((), (i_9, (v25, ((v25 == (1:Int)), ()))))))))), ((o0_0, (o0_1, ())), (o1, ()))))))
theorem keep_Src_List.eq2 (g_keep_Src_N : keep_Src_N.sh.X → Option keep_Src_N.osh.X) (g_keep_Src_Pick : keep_Src_Pick.sh.X → Option keep_Src_Pick.osh.X) (g_keep_Src_Range : keep_Src_Range.sh.X → Option keep_Src_Range.osh.X) (g_keep_clip : keep_clip.sh.X → Option keep_clip.osh.X) (l0 : keep_Src_List.s0.X → Option (sumX keep_Src_List.x0)) (l1 : keep_Src_List.s1.X → Option (sumX keep_Src_List.x1)) (l2 : keep_Src_List.s2.X → Option (sumX keep_Src_List.x2)) (l3 : keep_Src_List.s3.X → Option (sumX keep_Src_List.x3)) (L : ((Unit × Int × Int × Int × Int × Unit × Int × Int × Bool × Unit) × (((List Int) × Int × Unit) × (List Int) × Unit)) → Option (((Unit × Int × Int × Int × Int × Unit × Int × Int × Bool × Unit) × (((List Int) × Int × Unit) × (List Int) × Unit)) ⊕ Empty)) (x : ((Unit × Int × Int × Int × Int × Unit × Int × Int × Bool × Unit) × (((List Int) × Int × Unit) × (List Int) × Unit))) : (roundK (keep_Src_List.E g_keep_Src_N g_keep_Src_Pick g_keep_Src_Range g_keep_clip l0 l1 l2 l3) keep_Src_List.s2 [0, 1, 5, 6, 7, 8, 9, 25, 32] [(0, [0, 1, 5, 6, 7, 8, 9, 25, 32])] false (((mk keep_Src_List.hs keep_Src_List.c []).atoms.getD 2 .bad).body) keep_Src_List.x2 L x).run _ some = keep_Src_List.f2 x.1.2.1 x.1.2.2.1 x.1.2.2.2.1 x.1.2.2.2.2.1 x.1.2.2.2.2.2.2.1 x.1.2.2.2.2.2.2.2.1 x.1.2.2.2.2.2.2.2.2.1 x.2.1.1 x.2.1.2.1 x.2.2.1 := by
  show _ = (_ : Option _)
  kernel_rfl
noncomputable def keep_Src_List.L2 : ((Unit × Int × Int × Int × Int × Unit × Int × Int × Bool × Unit) × (((List Int) × Int × Unit) × (List Int) × Unit)) → Option (((Unit × Int × Int × Int × Int × Unit × Int × Int × Bool × Unit) × (((List Int) × Int × Unit) × (List Int) × Unit)) ⊕ Empty) := fun x => keep_Src_List.f2 x.1.2.1 x.1.2.2.1 x.1.2.2.2.1 x.1.2.2.2.2.1 x.1.2.2.2.2.2.2.1 x.1.2.2.2.2.2.2.2.1 x.1.2.2.2.2.2.2.2.2.1 x.2.1.1 x.2.1.2.1 x.2.2.1
def keep_Src_List.f3 (n_1 : Int) (kind_5 : Int) (size_6 : Int) (x_7 : Int) (i_9 : Int) (v25 : Int) (v43 : Bool) (o0_0 : (List Int)) (o0_1 : Int) (o1 : List Int) : Option (((Unit × Int × Int × Int × Int × Unit × Int × Int × Bool × Unit) × (((List Int) × Int × Unit) × (List Int) × Unit)) ⊕ Empty) :=
  (bif v43 then
   (some (Sum.inl (((), (n_1, (kind_5, (size_6, (x_7, ((), (i_9, (v25, (v43, ()))))))))), ((o0_0, (o0_1, ())), (o1, ())))))
  else
   (some (Sum.inl (((), (n_1, (kind_5, (size_6, (x_7, ((), (i_9, (v25, ((v25 == (3:Int)), ()))))))))), ((o0_0, (o0_1, ())), (o1, ()))))))
theorem keep_Src_List.eq3 (g_keep_Src_N : keep_Src_N.sh.X → Option keep_Src_N.osh.X) (g_keep_Src_Pick : keep_Src_Pick.sh.X → Option keep_Src_Pick.osh.X) (g_keep_Src_Range : keep_Src_Range.sh.X → Option keep_Src_Range.osh.X) (g_keep_clip : keep_clip.sh.X → Option keep_clip.osh.X) (l0 : keep_Src_List.s0.X → Option (sumX keep_Src_List.x0)) (l1 : keep_Src_List.s1.X → Option (sumX keep_Src_List.x1)) (l2 : keep_Src_List.s2.X → Option (sumX keep_Src_List.x2)) (l3 : keep_Src_List.s3.X → Option (sumX keep_Src_List.x3)) (L : ((Unit × Int × Int × Int × Int × Unit × Int × Int × Bool × Unit) × (((List Int) × Int × Unit) × (List Int) × Unit)) → Option (((Unit × Int × Int × Int × Int × Unit × Int × Int × Bool × Unit) × (((List Int) × Int × Unit) × (List Int) × Unit)) ⊕ Empty)) (x : ((Unit × Int × Int × Int × Int × Unit × Int × Int × Bool × Unit) × (((List Int) × Int × Unit) × (List Int) × Unit))) : (roundK (keep_Src_List.E g_keep_Src_N g_keep_Src_Pick g_keep_Src_Range g_keep_clip l0 l1 l2 l3) keep_Src_List.s3 [0, 1, 5, 6, 7, 8, 9, 25, 43] [(0, [0, 1, 5, 6, 7, 8, 9, 25, 43])] false (((mk keep_Src_List.hs keep_Src_List.c []).atoms.getD 3 .bad).body) keep_Src_List.x3 L x).run _ some = keep_Src_List.f3 x.1.2.1 x.1.2.2.1 x.1.2.2.2.1 x.1.2.2.2.2.1 x.1.2.2.2.2.2.2.1 x.1.2.2.2.2.2.2.2.1 x.1.2.2.2.2.2.2.2.2.1 x.2.1.1 x.2.1.2.1 x.2.2.1 := by
  show _ = (_ : Option _)
  kernel_rfl
noncomputable def keep_Src_List.L3 : ((Unit × Int × Int × Int × Int × Unit × Int × Int × Bool × Unit) × (((List Int) × Int × Unit) × (List Int) × Unit)) → Option (((Unit × Int × Int × Int × Int × Unit × Int × Int × Bool × Unit) × (((List Int) × Int × Unit) × (List Int) × Unit)) ⊕ Empty) := fun x => keep_Src_List.f3 x.1.2.1 x.1.2.2.1 x.1.2.2.2.1 x.1.2.2.2.2.1 x.1.2.2.2.2.2.2.1 x.1.2.2.2.2.2.2.2.1 x.1.2.2.2.2.2.2.2.2.1 x.2.1.1 x.2.1.2.1 x.2.2.1
def keep_Src_List.f1 (g_keep_Src_N : ((Unit × Int × Unit) × (((List Int) × Int × Unit) × Unit)) → Option ((Int × Unit) × (((List Int) × Int × Unit) × Unit))) (g_keep_Src_Pick : ((Unit × (List Int) × Unit) × (((List Int) × Int × Unit) × Unit)) → Option ((Int × Unit) × (((List Int) × Int × Unit) × Unit))) (g_keep_Src_Range : ((Unit × Int × Int × Unit) × (((List Int) × Int × Unit) × Unit)) → Option ((Int × Unit) × (((List Int) × Int × Unit) × Unit))) (g_keep_clip : ((Int × Unit) × (Unit)) → Option ((Int × Unit) × (Unit))) (l2 : ((Unit × Int × Int × Int × Int × Unit × Int × Int × Bool × Unit) × (((List Int) × Int × Unit) × (List Int) × Unit)) → Option (((Unit × Int × Int × Int × Int × Unit × Int × Int × Bool × Unit) × (((List Int) × Int × Unit) × (List Int) × Unit)) ⊕ Empty)) (l3 : ((Unit × Int × Int × Int × Int × Unit × Int × Int × Bool × Unit) × (((List Int) × Int × Unit) × (List Int) × Unit)) → Option (((Unit × Int × Int × Int × Int × Unit × Int × Int × Bool × Unit) × (((List Int) × Int × Unit) × (List Int) × Unit)) ⊕ Empty)) (L : ((Unit × Int × Int × Int × Int × Unit × Int × Unit) × (((List Int) × Int × Unit) × (List Int) × Unit)) → Option (((Unit × Unit) × (((List Int) × Int × Unit) × (List Int) × Unit)) ⊕ Empty)) (n_1 : Int) (kind_5 : Int) (size_6 : Int) (x_7 : Int) (i_9 : Int) (o0_0 : (List Int)) (o0_1 : Int) (o1 : List Int) : Option (((Unit × Unit) × (((List Int) × Int × Unit) × (List Int) × Unit)) ⊕ Empty) :=
  (bif (decide (i_9 < n_1)) then
   (Option.bind (l2 (((), (n_1, (kind_5, (size_6, (x_7, ((), (i_9, (kind_5, ((kind_5 == (0:Int)), ()))))))))), ((o0_0, (o0_1, ())), (o1, ())))) (fun y1 =>
   (Sum.elim (fun a2 =>
    (bif a2.1.2.2.2.2.2.2.2.2.1 then
     (Option.bind (g_keep_Src_Range (((), ((Go.IntKind.wrap Go.IntKind.i64 ((0:Int) - a2.1.2.2.2.1)), (a2.1.2.2.2.1, ()))), ((a2.2.1.1, (a2.2.1.2.1, ())), ()))) (fun y4 =>
     (bif (decide ((((List.length a2.2.2.1) + (List.length [y4.1.1])) * (8:Nat)) ≤ (140737488355328:Nat))) then
      (Option.bind (L (((), (a2.1.2.1, (a2.1.2.2.1, (a2.1.2.2.2.1, (a2.1.2.2.2.2.1, ((), ((Go.IntKind.wrap Go.IntKind.i64 (a2.1.2.2.2.2.2.2.1 + (1:Int))), ()))))))), ((y4.2.1.1, (y4.2.1.2.1, ())), ((a2.2.2.1 ++ [y4.1.1]), ())))) (fun y6 =>
      (some y6)))
     else
      none)))
    else
     (Option.bind (l3 (((), (a2.1.2.1, (a2.1.2.2.1, (a2.1.2.2.2.1, (a2.1.2.2.2.2.1, ((), (a2.1.2.2.2.2.2.2.1, (a2.1.2.2.2.2.2.2.2.1, ((a2.1.2.2.2.2.2.2.2.1 == (2:Int)), ()))))))))), ((a2.2.1.1, (a2.2.1.2.1, ())), (a2.2.2.1, ())))) (fun y4 =>
     (Sum.elim (fun a5 =>
      (bif a5.1.2.2.2.2.2.2.2.2.1 then
       (Option.bind (g_keep_Src_Range (((), ((Go.IntKind.wrap Go.IntKind.i64 ((0:Int) - a5.1.2.2.2.1)), (a5.1.2.2.2.1, ()))), ((a5.2.1.1, (a5.2.1.2.1, ())), ()))) (fun y7 =>
       (Option.bind (g_keep_clip (((Go.IntKind.wrap Go.IntKind.i64 (a5.1.2.2.2.2.1 + y7.1.1)), ()), ())) (fun y8 =>
       (bif (decide ((((List.length a5.2.2.1) + (List.length [y8.1.1])) * (8:Nat)) ≤ (140737488355328:Nat))) then
        (Option.bind (L (((), (a5.1.2.1, (a5.1.2.2.1, (a5.1.2.2.2.1, (y8.1.1, ((), ((Go.IntKind.wrap Go.IntKind.i64 (a5.1.2.2.2.2.2.2.1 + (1:Int))), ()))))))), ((y7.2.1.1, (y7.2.1.2.1, ())), ((a5.2.2.1 ++ [y8.1.1]), ())))) (fun y10 =>
        (some y10)))
       else
        none)))))
      else
       (bif (a5.1.2.2.2.2.2.2.2.1 == (4:Int)) then
        (Option.bind (g_keep_Src_N (((), ((4:Int), ())), ((a5.2.1.1, (a5.2.1.2.1, ())), ()))) (fun y8 =>
        (bif (y8.1.1 == (0:Int)) then
         (Option.bind (g_keep_Src_Range (((), ((Go.IntKind.wrap Go.IntKind.i64 ((0:Int) - a5.1.2.2.2.1)), (a5.1.2.2.2.1, ()))), ((y8.2.1.1, (y8.2.1.2.1, ())), ()))) (fun y10 =>
         (bif (decide ((((List.length a5.2.2.1) + (List.length [y10.1.1])) * (8:Nat)) ≤ (140737488355328:Nat))) then
          (Option.bind (L (((), (a5.1.2.1, (a5.1.2.2.1, (a5.1.2.2.2.1, (y10.1.1, ((), ((Go.IntKind.wrap Go.IntKind.i64 (a5.1.2.2.2.2.2.2.1 + (1:Int))), ()))))))), ((y10.2.1.1, (y10.2.1.2.1, ())), ((a5.2.2.1 ++ [y10.1.1]), ())))) (fun y12 =>
          (some y12)))
         else
          none)))
        else
         (bif (decide ((((List.length a5.2.2.1) + (List.length [a5.1.2.2.2.2.1])) * (8:Nat)) ≤ (140737488355328:Nat))) then
          (Option.bind (L (((), (a5.1.2.1, (a5.1.2.2.1, (a5.1.2.2.2.1, (a5.1.2.2.2.2.1, ((), ((Go.IntKind.wrap Go.IntKind.i64 (a5.1.2.2.2.2.2.2.1 + (1:Int))), ()))))))), ((y8.2.1.1, (y8.2.1.2.1, ())), ((a5.2.2.1 ++ [a5.1.2.2.2.2.1]), ())))) (fun y11 =>
          (some y11)))
         else
          none))))
       else
        (Option.bind (g_keep_Src_Pick (((), ([(-(1000:Int)), (1000:Int), (1000:Int), (0:Int)], ())), ((a5.2.1.1, (a5.2.1.2.1, ())), ()))) (fun y8 =>
        (bif (decide ((((List.length a5.2.2.1) + (List.length [y8.1.1])) * (8:Nat)) ≤ (140737488355328:Nat))) then
         (Option.bind (L (((), (a5.1.2.1, (a5.1.2.2.1, (a5.1.2.2.2.1, (a5.1.2.2.2.2.1, ((), ((Go.IntKind.wrap Go.IntKind.i64 (a5.1.2.2.2.2.2.2.1 + (1:Int))), ()))))))), ((y8.2.1.1, (y8.2.1.2.1, ())), ((a5.2.2.1 ++ [y8.1.1]), ())))) (fun y10 =>
         (some y10)))
        else
         none)))))) (fun b5 =>
      (Empty.elim b5)) y4))))) (fun b2 =>
    (Empty.elim b2)) y1)))
  else
   (some (Sum.inl (((), ()), ((o0_0, (o0_1, ())), (o1, ()))))))
theorem keep_Src_List.eq1 (g_keep_Src_N : keep_Src_N.sh.X → Option keep_Src_N.osh.X) (g_keep_Src_Pick : keep_Src_Pick.sh.X → Option keep_Src_Pick.osh.X) (g_keep_Src_Range : keep_Src_Range.sh.X → Option keep_Src_Range.osh.X) (g_keep_clip : keep_clip.sh.X → Option keep_clip.osh.X) (l0 : keep_Src_List.s0.X → Option (sumX keep_Src_List.x0)) (l1 : keep_Src_List.s1.X → Option (sumX keep_Src_List.x1)) (l2 : keep_Src_List.s2.X → Option (sumX keep_Src_List.x2)) (l3 : keep_Src_List.s3.X → Option (sumX keep_Src_List.x3)) (L : ((Unit × Int × Int × Int × Int × Unit × Int × Unit) × (((List Int) × Int × Unit) × (List Int) × Unit)) → Option (((Unit × Unit) × (((List Int) × Int × Unit) × (List Int) × Unit)) ⊕ Empty)) (x : ((Unit × Int × Int × Int × Int × Unit × Int × Unit) × (((List Int) × Int × Unit) × (List Int) × Unit))) : (roundK (keep_Src_List.E g_keep_Src_N g_keep_Src_Pick g_keep_Src_Range g_keep_clip l0 l1 l2 l3) keep_Src_List.s1 [0, 1, 5, 6, 7, 8, 9] [(2, [8])] true (((mk keep_Src_List.hs keep_Src_List.c []).atoms.getD 1 .bad).body) keep_Src_List.x1 L x).run _ some = keep_Src_List.f1 g_keep_Src_N g_keep_Src_Pick g_keep_Src_Range g_keep_clip l2 l3 L x.1.2.1 x.1.2.2.1 x.1.2.2.2.1 x.1.2.2.2.2.1 x.1.2.2.2.2.2.2.1 x.2.1.1 x.2.1.2.1 x.2.2.1 := by
  show _ = (_ : Option _)
  kernel_rfl
noncomputable def keep_Src_List.L1 : ((Unit × Int × Int × Int × Int × Unit × Int × Unit) × (((List Int) × Int × Unit) × (List Int) × Unit)) → Option (((Unit × Unit) × (((List Int) × Int × Unit) × (List Int) × Unit)) ⊕ Empty) := loop fun L x => keep_Src_List.f1 keep_Src_N.F keep_Src_Pick.F keep_Src_Range.F keep_clip.F keep_Src_List.L2 keep_Src_List.L3 L x.1.2.1 x.1.2.2.1 x.1.2.2.2.1 x.1.2.2.2.2.1 x.1.2.2.2.2.2.2.1 x.2.1.1 x.2.1.2.1 x.2.2.1
def keep_Src_List.f (g_keep_Src_N : ((Unit × Int × Unit) × (((List Int) × Int × Unit) × Unit)) → Option ((Int × Unit) × (((List Int) × Int × Unit) × Unit))) (g_keep_Src_Pick : ((Unit × (List Int) × Unit) × (((List Int) × Int × Unit) × Unit)) → Option ((Int × Unit) × (((List Int) × Int × Unit) × Unit))) (l0 : ((Unit × Int × Int × Int × Int × Bool × Unit) × (((List Int) × Int × Unit) × Unit)) → Option (((Unit × Int × Int × Int × Int × Unit) × (((List Int) × Int × Unit) × Unit)) ⊕ Empty)) (l1 : ((Unit × Int × Int × Int × Int × Unit × Int × Unit) × (((List Int) × Int × Unit) × (List Int) × Unit)) → Option (((Unit × Unit) × (((List Int) × Int × Unit) × (List Int) × Unit)) ⊕ Empty)) (n : Int) (o0_0 : (List Int)) (o0_1 : Int) : Option ((Unit × Unit) × (((List Int) × Int × Unit) × (List Int) × Unit)) :=
  (Option.bind (g_keep_Src_N (((), ((6:Int), ())), ((o0_0, (o0_1, ())), ()))) (fun y0 =>
  (Option.bind (g_keep_Src_Pick (((), ([(1:Int), (3:Int), (10:Int), (100:Int), (1000:Int)], ())), ((y0.2.1.1, (y0.2.1.2.1, ())), ()))) (fun y1 =>
  (Option.bind (g_keep_Src_N (((), ((3:Int), ())), ((y1.2.1.1, (y1.2.1.2.1, ())), ()))) (fun y2 =>
  (Option.bind (l0 (((), (n, (y0.1.1, (y1.1.1, ((0:Int), ((y2.1.1 == (0:Int)), ())))))), ((y2.2.1.1, (y2.2.1.2.1, ())), ()))) (fun y3 =>
  (Sum.elim (fun a4 =>
   (Option.bind (l1 (((), (a4.1.2.1, (a4.1.2.2.1, (a4.1.2.2.2.1, (a4.1.2.2.2.2.1, ((), ((0:Int), ()))))))), ((a4.2.1.1, (a4.2.1.2.1, ())), (([] : List Int), ())))) (fun y5 =>
   (Sum.elim (fun a6 =>
    (some (((), ()), ((a6.2.1.1, (a6.2.1.2.1, ())), (a6.2.2.1, ()))))) (fun b6 =>
    (Empty.elim b6)) y5)))) (fun b4 =>
   (Empty.elim b4)) y3)))))))))
theorem keep_Src_List.eq (g_keep_Src_N : keep_Src_N.sh.X → Option keep_Src_N.osh.X) (g_keep_Src_Pick : keep_Src_Pick.sh.X → Option keep_Src_Pick.osh.X) (g_keep_Src_Range : keep_Src_Range.sh.X → Option keep_Src_Range.osh.X) (g_keep_clip : keep_clip.sh.X → Option keep_clip.osh.X) (l0 : keep_Src_List.s0.X → Option (sumX keep_Src_List.x0)) (l1 : keep_Src_List.s1.X → Option (sumX keep_Src_List.x1)) (l2 : keep_Src_List.s2.X → Option (sumX keep_Src_List.x2)) (l3 : keep_Src_List.s3.X → Option (sumX keep_Src_List.x3)) (x : ((Unit × Int × Unit) × (((List Int) × Int × Unit) × Unit))) : (bodyO (keep_Src_List.E g_keep_Src_N g_keep_Src_Pick g_keep_Src_Range g_keep_clip l0 l1 l2 l3) (mk keep_Src_List.hs keep_Src_List.c []) Go.Proofs.Try.f10.results.toList keep_Src_List.sh keep_Src_List.osh x).run _ some = keep_Src_List.f g_keep_Src_N g_keep_Src_Pick l0 l1 x.1.2.1 x.2.1.1 x.2.1.2.1 := by
  show _ = (_ : Option _)
  kernel_rfl
noncomputable def keep_Src_List (n : Int) (o0_0 : (List Int)) (o0_1 : Int) : Option ((Unit × Unit) × (((List Int) × Int × Unit) × (List Int) × Unit)) := keep_Src_List.f keep_Src_N.F keep_Src_Pick.F keep_Src_List.L0 keep_Src_List.L1 n o0_0 o0_1
noncomputable def keep_Src_List.F (x : ((Unit × Int × Unit) × (((List Int) × Int × Unit) × Unit))) : Option ((Unit × Unit) × (((List Int) × Int × Unit) × (List Int) × Unit)) := keep_Src_List x.1.2.1 x.2.1.1 x.2.1.2.1
theorem keep_Src_List.L0_eq (n_1 : Int) (kind_5 : Int) (size_6 : Int) (x_7 : Int) (v17 : Bool) (o0_0 : (List Int)) (o0_1 : Int) : keep_Src_List.L0 (((), n_1, kind_5, size_6, x_7, v17, ()), ((o0_0, o0_1, ()), ())) = keep_Src_List.f0 keep_Src_Range.F n_1 kind_5 size_6 x_7 v17 o0_0 o0_1 := rfl
theorem keep_Src_List.L1_eq (n_1 : Int) (kind_5 : Int) (size_6 : Int) (x_7 : Int) (i_9 : Int) (o0_0 : (List Int)) (o0_1 : Int) (o1 : List Int) : keep_Src_List.L1 (((), n_1, kind_5, size_6, x_7, (), i_9, ()), ((o0_0, o0_1, ()), o1, ())) = keep_Src_List.f1 keep_Src_N.F keep_Src_Pick.F keep_Src_Range.F keep_clip.F keep_Src_List.L2 keep_Src_List.L3 keep_Src_List.L1 n_1 kind_5 size_6 x_7 i_9 o0_0 o0_1 o1 :=
  loop_eq (E := (keep_Src_List.E keep_Src_N.F keep_Src_Pick.F keep_Src_Range.F keep_clip.F keep_Src_List.L0 keep_Src_List.L1 keep_Src_List.L2 keep_Src_List.L3)) (sh := keep_Src_List.s1) (es := keep_Src_List.x1) (lp := true) (H := fun L x => keep_Src_List.eq1 keep_Src_N.F keep_Src_Pick.F keep_Src_Range.F keep_clip.F keep_Src_List.L0 keep_Src_List.L1 keep_Src_List.L2 keep_Src_List.L3 L x) (((), n_1, kind_5, size_6, x_7, (), i_9, ()), ((o0_0, o0_1, ()), o1, ()))
theorem keep_Src_List.L2_eq (n_1 : Int) (kind_5 : Int) (size_6 : Int) (x_7 : Int) (i_9 : Int) (v25 : Int) (v32 : Bool) (o0_0 : (List Int)) (o0_1 : Int) (o1 : List Int) : keep_Src_List.L2 (((), n_1, kind_5, size_6, x_7, (), i_9, v25, v32, ()), ((o0_0, o0_1, ()), o1, ())) = keep_Src_List.f2 n_1 kind_5 size_6 x_7 i_9 v25 v32 o0_0 o0_1 o1 := rfl
theorem keep_Src_List.L3_eq (n_1 : Int) (kind_5 : Int) (size_6 : Int) (x_7 : Int) (i_9 : Int) (v25 : Int) (v43 : Bool) (o0_0 : (List Int)) (o0_1 : Int) (o1 : List Int) : keep_Src_List.L3 (((), n_1, kind_5, size_6, x_7, (), i_9, v25, v43, ()), ((o0_0, o0_1, ()), o1, ())) = keep_Src_List.f3 n_1 kind_5 size_6 x_7 i_9 v25 v43 o0_0 o0_1 o1 := rfl
theorem keep_Src_List.F_eq (n : Int) (o0_0 : (List Int)) (o0_1 : Int) : keep_Src_List.F (((), n, ()), ((o0_0, o0_1, ()), ())) = keep_Src_List.f keep_Src_N.F keep_Src_Pick.F keep_Src_List.L0 keep_Src_List.L1 n o0_0 o0_1 := rfl
theorem keep_Src_List.ok {tabs : List (Nat × Go.Obj)} (ht : TabsOk tabs) : FOK Go.Proofs.Try.prog tabs 10 (FE.of [true, true] true keep_Src_List.sh keep_Src_List.osh keep_Src_List.F) := by
  refine fn_keeps (E := (keep_Src_List.E keep_Src_N.F keep_Src_Pick.F keep_Src_Range.F keep_clip.F keep_Src_List.L0 keep_Src_List.L1 keep_Src_List.L2 keep_Src_List.L3)) (c := keep_Src_List.c) (fn := Go.Proofs.Try.f10) (hs := keep_Src_List.hs) (by kernel_rfl) Go.Proofs.Try.func10 ⟨by kernel_rfl, by kernel_rfl, tb, by kernel_rfl, by kernel_rfl, by kernel_rfl, by kernel_rfl, by kernel_rfl⟩ ⟨fun g ks fe h => ?_, gt_ok ht⟩ ?_ (fun x => keep_Src_List.eq keep_Src_N.F keep_Src_Pick.F keep_Src_Range.F keep_clip.F keep_Src_List.L0 keep_Src_List.L1 keep_Src_List.L2 keep_Src_List.L3 x)
  · rcases c_cons h with ⟨rfl, rfl⟩ | h
    · exact keep_Src_N.ok ht
    rcases c_cons h with ⟨rfl, rfl⟩ | h
    · exact keep_Src_Pick.ok ht
    rcases c_cons h with ⟨rfl, rfl⟩ | h
    · exact keep_Src_Range.ok ht
    rcases c_cons h with ⟨rfl, rfl⟩ | h
    · exact keep_clip.ok ht
    cases h
  · refine known_at 4 (by kernel_rfl) fun i hi => ?_
    match i, hi with
    | 0, _ => exact atom_at (id := 0) (live := [0, 1, 5, 6, 7, 17]) (outs := [(0, [0, 1, 5, 6, 7])]) (loop := false) (by kernel_rfl) (cut_ok (E := (keep_Src_List.E keep_Src_N.F keep_Src_Pick.F keep_Src_Range.F keep_clip.F keep_Src_List.L0 keep_Src_List.L1 keep_Src_List.L2 keep_Src_List.L3)) (sh := keep_Src_List.s0) (es := keep_Src_List.x0) rfl (fun L x => keep_Src_List.eq0 keep_Src_N.F keep_Src_Pick.F keep_Src_Range.F keep_clip.F keep_Src_List.L0 keep_Src_List.L1 keep_Src_List.L2 keep_Src_List.L3 L x))
    | 1, _ => exact atom_at (id := 1) (live := [0, 1, 5, 6, 7, 8, 9]) (outs := [(2, [8])]) (loop := true) (by kernel_rfl) (loop_ok (E := (keep_Src_List.E keep_Src_N.F keep_Src_Pick.F keep_Src_Range.F keep_clip.F keep_Src_List.L0 keep_Src_List.L1 keep_Src_List.L2 keep_Src_List.L3)) (sh := keep_Src_List.s1) (es := keep_Src_List.x1) rfl (fun L x => keep_Src_List.eq1 keep_Src_N.F keep_Src_Pick.F keep_Src_Range.F keep_clip.F keep_Src_List.L0 keep_Src_List.L1 keep_Src_List.L2 keep_Src_List.L3 L x))
    | 2, _ => exact atom_at (id := 2) (live := [0, 1, 5, 6, 7, 8, 9, 25, 32]) (outs := [(0, [0, 1, 5, 6, 7, 8, 9, 25, 32])]) (loop := false) (by kernel_rfl) (cut_ok (E := (keep_Src_List.E keep_Src_N.F keep_Src_Pick.F keep_Src_Range.F keep_clip.F keep_Src_List.L0 keep_Src_List.L1 keep_Src_List.L2 keep_Src_List.L3)) (sh := keep_Src_List.s2) (es := keep_Src_List.x2) rfl (fun L x => keep_Src_List.eq2 keep_Src_N.F keep_Src_Pick.F keep_Src_Range.F keep_clip.F keep_Src_List.L0 keep_Src_List.L1 keep_Src_List.L2 keep_Src_List.L3 L x))
    | 3, _ => exact atom_at (id := 3) (live := [0, 1, 5, 6, 7, 8, 9, 25, 43]) (outs := [(0, [0, 1, 5, 6, 7, 8, 9, 25, 43])]) (loop := false) (by kernel_rfl) (cut_ok (E := (keep_Src_List.E keep_Src_N.F keep_Src_Pick.F keep_Src_Range.F keep_clip.F keep_Src_List.L0 keep_Src_List.L1 keep_Src_List.L2 keep_Src_List.L3)) (sh := keep_Src_List.s3) (es := keep_Src_List.x3) rfl (fun L x => keep_Src_List.eq3 keep_Src_N.F keep_Src_Pick.F keep_Src_Range.F keep_clip.F keep_Src_List.L0 keep_Src_List.L1 keep_Src_List.L2 keep_Src_List.L3 L x))
    | n + 4, h => exact absurd h (by omega)

/-! keep_Src_Bent -/
def keep_Src_Bent.f0 (g_keep_Src_N : ((Unit × Int × Unit) × (((List Int) × Int × Unit) × Unit)) → Option ((Int × Unit) × (((List Int) × Int × Unit) × Unit))) (L : ((Unit × Unit × Unit) × (((List Int) × Int × Unit) × (List Int) × Unit)) → Option (((Unit × Unit) × (((List Int) × Int × Unit) × (List Int) × Unit)) ⊕ Empty)) (o0_0 : (List Int)) (o0_1 : Int) (o1 : List Int) : Option (((Unit × Unit) × (((List Int) × Int × Unit) × (List Int) × Unit)) ⊕ Empty) :=
  (bif (decide ((((List.length o1) : Nat) : Int) ≤ (32:Int))) then
   (Option.bind (g_keep_Src_N (((), ((9:Int), ())), ((o0_0, (o0_1, ())), ()))) (fun y1 =>
   (bif (decide ((((List.length o1) + (List.length [y1.1.1])) * (8:Nat)) ≤ (140737488355328:Nat))) then
    (Option.bind (L (((), ((), ())), ((y1.2.1.1, (y1.2.1.2.1, ())), ((o1 ++ [y1.1.1]), ())))) (fun y3 =>
    (some y3)))
   else
    none)))
  else
   (some (Sum.inl (((), ()), ((o0_0, (o0_1, ())), (o1, ()))))))
theorem keep_Src_Bent.eq0 (g_keep_Src_N : keep_Src_N.sh.X → Option keep_Src_N.osh.X) (g_keep_Src_Pick : keep_Src_Pick.sh.X → Option keep_Src_Pick.osh.X) (l0 : keep_Src_Bent.s0.X → Option (sumX keep_Src_Bent.x0)) (L : ((Unit × Unit × Unit) × (((List Int) × Int × Unit) × (List Int) × Unit)) → Option (((Unit × Unit) × (((List Int) × Int × Unit) × (List Int) × Unit)) ⊕ Empty)) (x : ((Unit × Unit × Unit) × (((List Int) × Int × Unit) × (List Int) × Unit))) : (roundK (keep_Src_Bent.E g_keep_Src_N g_keep_Src_Pick l0) keep_Src_Bent.s0 [0, 5] [(3, [5])] true (((mk keep_Src_Bent.hs keep_Src_Bent.c []).atoms.getD 0 .bad).body) keep_Src_Bent.x0 L x).run _ some = keep_Src_Bent.f0 g_keep_Src_N L x.2.1.1 x.2.1.2.1 x.2.2.1 := by
  show _ = (_ : Option _)
  kernel_rfl
noncomputable def keep_Src_Bent.L0 : ((Unit × Unit × Unit) × (((List Int) × Int × Unit) × (List Int) × Unit)) → Option (((Unit × Unit) × (((List Int) × Int × Unit) × (List Int) × Unit)) ⊕ Empty) := loop fun L x => keep_Src_Bent.f0 keep_Src_N.F L x.2.1.1 x.2.1.2.1 x.2.2.1
def keep_Src_Bent.f (g_keep_Src_N : ((Unit × Int × Unit) × (((List Int) × Int × Unit) × Unit)) → Option ((Int × Unit) × (((List Int) × Int × Unit) × Unit))) (g_keep_Src_Pick : ((Unit × (List Int) × Unit) × (((List Int) × Int × Unit) × Unit)) → Option ((Int × Unit) × (((List Int) × Int × Unit) × Unit))) (l0 : ((Unit × Unit × Unit) × (((List Int) × Int × Unit) × (List Int) × Unit)) → Option (((Unit × Unit) × (((List Int) × Int × Unit) × (List Int) × Unit)) ⊕ Empty)) (x_ : (List Int)) (o0_0 : (List Int)) (o0_1 : Int) : Option (((List Int) × Unit) × (((List Int) × Int × Unit) × Unit)) :=
  (bif (decide ((((List.length ([] : List Int)) + (List.length x_)) * (8:Nat)) ≤ (140737488355328:Nat))) then
   (Option.bind (g_keep_Src_N (((), ((4:Int), ())), ((o0_0, (o0_1, ())), ()))) (fun y1 =>
   (bif (y1.1.1 == (0:Int)) then
    (Option.bind (g_keep_Src_N (((), ((2:Int), ())), ((y1.2.1.1, (y1.2.1.2.1, ())), ()))) (fun y3 =>
    (bif (decide ((0:Int) ≤ (Go.VI.mn (((List.length (([] : List Int) ++ x_)) : Nat) : Int) y3.1.1))) then
     (bif (decide ((Go.VI.mn (((List.length (([] : List Int) ++ x_)) : Nat) : Int) y3.1.1) ≤ (((List.length (([] : List Int) ++ x_)) : Nat) : Int))) then
      (some (((List.drop (Int.toNat (0:Int)) (List.take (Int.toNat (Go.VI.mn (((List.length (([] : List Int) ++ x_)) : Nat) : Int) y3.1.1)) (([] : List Int) ++ x_))), ()), ((y3.2.1.1, (y3.2.1.2.1, ())), ())))
     else
      none)
    else
     none)))
   else
    (bif (y1.1.1 == (1:Int)) then
     (Option.bind (l0 (((), ((), ())), ((y1.2.1.1, (y1.2.1.2.1, ())), ((([] : List Int) ++ x_), ())))) (fun y4 =>
     (Sum.elim (fun a5 =>
      (some ((a5.2.2.1, ()), ((a5.2.1.1, (a5.2.1.2.1, ())), ())))) (fun b5 =>
      (Empty.elim b5)) y4)))
    else
     (bif (decide ((((List.length (([] : List Int) ++ x_)) : Nat) : Int) > (0:Int))) then
      (Option.bind (g_keep_Src_N (((), ((((List.length (([] : List Int) ++ x_)) : Nat) : Int), ())), ((y1.2.1.1, (y1.2.1.2.1, ())), ()))) (fun y5 =>
      (Option.bind (g_keep_Src_Pick (((), ([(1000:Int), (1001:Int), (-(1001:Int)), (1073741824:Int), (4611686018427387904:Int), (-(9223372036854775808:Int))], ())), ((y5.2.1.1, (y5.2.1.2.1, ())), ()))) (fun y6 =>
      (bif (decide ((0:Int) ≤ y5.1.1)) then
       (bif (decide (y5.1.1 < (((List.length (([] : List Int) ++ x_)) : Nat) : Int))) then
        (some (((List.set (([] : List Int) ++ x_) (Int.toNat y5.1.1) y6.1.1), ()), ((y6.2.1.1, (y6.2.1.2.1, ())), ())))
       else
        none)
      else
       none)))))
     else
      (some (((([] : List Int) ++ x_), ()), ((y1.2.1.1, (y1.2.1.2.1, ())), ()))))))))
  else
   none)
theorem keep_Src_Bent.eq (g_keep_Src_N : keep_Src_N.sh.X → Option keep_Src_N.osh.X) (g_keep_Src_Pick : keep_Src_Pick.sh.X → Option keep_Src_Pick.osh.X) (l0 : keep_Src_Bent.s0.X → Option (sumX keep_Src_Bent.x0)) (x : ((Unit × (List Int) × Unit) × (((List Int) × Int × Unit) × Unit))) : (bodyO (keep_Src_Bent.E g_keep_Src_N g_keep_Src_Pick l0) (mk keep_Src_Bent.hs keep_Src_Bent.c []) Go.Proofs.Try.f19.results.toList keep_Src_Bent.sh keep_Src_Bent.osh x).run _ some = keep_Src_Bent.f g_keep_Src_N g_keep_Src_Pick l0 x.1.2.1 x.2.1.1 x.2.1.2.1 := by
  show _ = (_ : Option _)
  kernel_rfl
noncomputable def keep_Src_Bent (x_ : (List Int)) (o0_0 : (List Int)) (o0_1 : Int) : Option (((List Int) × Unit) × (((List Int) × Int × Unit) × Unit)) := keep_Src_Bent.f keep_Src_N.F keep_Src_Pick.F keep_Src_Bent.L0 x_ o0_0 o0_1
noncomputable def keep_Src_Bent.F (x : ((Unit × (List Int) × Unit) × (((List Int) × Int × Unit) × Unit))) : Option (((List Int) × Unit) × (((List Int) × Int × Unit) × Unit)) := keep_Src_Bent x.1.2.1 x.2.1.1 x.2.1.2.1
theorem keep_Src_Bent.L0_eq (o0_0 : (List Int)) (o0_1 : Int) (o1 : List Int) : keep_Src_Bent.L0 (((), (), ()), ((o0_0, o0_1, ()), o1, ())) = keep_Src_Bent.f0 keep_Src_N.F keep_Src_Bent.L0 o0_0 o0_1 o1 :=
  loop_eq (E := (keep_Src_Bent.E keep_Src_N.F keep_Src_Pick.F keep_Src_Bent.L0)) (sh := keep_Src_Bent.s0) (es := keep_Src_Bent.x0) (lp := true) (H := fun L x => keep_Src_Bent.eq0 keep_Src_N.F keep_Src_Pick.F keep_Src_Bent.L0 L x) (((), (), ()), ((o0_0, o0_1, ()), o1, ()))
theorem keep_Src_Bent.F_eq (x_ : (List Int)) (o0_0 : (List Int)) (o0_1 : Int) : keep_Src_Bent.F (((), x_, ()), ((o0_0, o0_1, ()), ())) = keep_Src_Bent.f keep_Src_N.F keep_Src_Pick.F keep_Src_Bent.L0 x_ o0_0 o0_1 := rfl
theorem keep_Src_Bent.ok {tabs : List (Nat × Go.Obj)} (ht : TabsOk tabs) : FOK Go.Proofs.Try.prog tabs 19 (FE.of [true, true] true keep_Src_Bent.sh keep_Src_Bent.osh keep_Src_Bent.F) := by
  refine fn_keeps (E := (keep_Src_Bent.E keep_Src_N.F keep_Src_Pick.F keep_Src_Bent.L0)) (c := keep_Src_Bent.c) (fn := Go.Proofs.Try.f19) (hs := keep_Src_Bent.hs) (by kernel_rfl) Go.Proofs.Try.func19 ⟨by kernel_rfl, by kernel_rfl, tb, by kernel_rfl, by kernel_rfl, by kernel_rfl, by kernel_rfl, by kernel_rfl⟩ ⟨fun g ks fe h => ?_, gt_ok ht⟩ ?_ (fun x => keep_Src_Bent.eq keep_Src_N.F keep_Src_Pick.F keep_Src_Bent.L0 x)
  · rcases c_cons h with ⟨rfl, rfl⟩ | h
    · exact keep_Src_N.ok ht
    rcases c_cons h with ⟨rfl, rfl⟩ | h
    · exact keep_Src_Pick.ok ht
    cases h
  · refine known_at 1 (by kernel_rfl) fun i hi => ?_
    match i, hi with
    | 0, _ => exact atom_at (id := 0) (live := [0, 5]) (outs := [(3, [5])]) (loop := true) (by kernel_rfl) (loop_ok (E := (keep_Src_Bent.E keep_Src_N.F keep_Src_Pick.F keep_Src_Bent.L0)) (sh := keep_Src_Bent.s0) (es := keep_Src_Bent.x0) rfl (fun L x => keep_Src_Bent.eq0 keep_Src_N.F keep_Src_Pick.F keep_Src_Bent.L0 L x))
    | n + 1, h => exact absurd h (by omega)

/-! ref04_Sample -/
def ref04_Sample.f (n : Int) : Option ((Bool × Unit) × (Unit)) :=
  (bif (decide (n ≥ (-(1000:Int)))) then
   (some (((decide (n ≤ (1000:Int))), ()), ()))
  else
   (some ((Bool.false, ()), ())))
theorem ref04_Sample.eq (x : ((Int × Unit) × (Unit))) : (bodyO (ref04_Sample.E) (mk ref04_Sample.hs ref04_Sample.c []) Go.Proofs.Try.f37.results.toList ref04_Sample.sh ref04_Sample.osh x).run _ some = ref04_Sample.f x.1.1 := by
  show _ = (_ : Option _)
  kernel_rfl
noncomputable def ref04_Sample (n : Int) : Option ((Bool × Unit) × (Unit)) := ref04_Sample.f n
noncomputable def ref04_Sample.F (x : ((Int × Unit) × (Unit))) : Option ((Bool × Unit) × (Unit)) := ref04_Sample x.1.1
theorem ref04_Sample.F_eq (n : Int) : ref04_Sample.F ((n, ()), ()) = ref04_Sample.f n := rfl
theorem ref04_Sample.ok {tabs : List (Nat × Go.Obj)} (ht : TabsOk tabs) : FOK Go.Proofs.Try.prog tabs 37 (FE.of [true] false ref04_Sample.sh ref04_Sample.osh ref04_Sample.F) := by
  refine fn_keeps (E := (ref04_Sample.E)) (c := ref04_Sample.c) (fn := Go.Proofs.Try.f37) (hs := ref04_Sample.hs) (by kernel_rfl) Go.Proofs.Try.func37 ⟨by kernel_rfl, by kernel_rfl, tb, by kernel_rfl, by kernel_rfl, by kernel_rfl, by kernel_rfl, by kernel_rfl⟩ ⟨fun g ks fe h => ?_, gt_ok ht⟩ ?_ (fun x => ref04_Sample.eq x)
  · cases h
  · exact known_at 0 (by kernel_rfl) fun i hi => absurd hi (Nat.not_lt_zero i)

/-! ref11_Of -/
def ref11_Of.f0 (g_ref04_Sample : ((Int × Unit) × (Unit)) → Option ((Bool × Unit) × (Unit))) (L : (((List Int) × Unit × Unit × Int × Int × Unit) × ((Unit × Unit × Unit) × (Unit × Unit × Unit) × (List Int) × (List Int) × Unit)) → Option (((Unit × Unit × Unit) × ((Unit × Unit × Unit) × (Unit × Unit × Unit) × (List Int) × (List Int) × Unit)) ⊕ ((Unit × Int × Unit) × ((Unit × Unit × Unit) × Unit)) ⊕ Empty)) (l_0 : (List Int)) (v14 : Int) (v15 : Int) (o2 : List Int) (o3 : List Int) : Option (((Unit × Unit × Unit) × ((Unit × Unit × Unit) × (Unit × Unit × Unit) × (List Int) × (List Int) × Unit)) ⊕ ((Unit × Int × Unit) × ((Unit × Unit × Unit) × Unit)) ⊕ Empty) :=
  (bif (decide (v15 < v14)) then
   (bif (decide ((0:Int) ≤ v15)) then
    (bif (decide (v15 < (((List.length l_0) : Nat) : Int))) then
     (Option.bind (g_ref04_Sample (((List.getD l_0 (Int.toNat v15) (0:Int)), ()), ())) (fun y3 =>
     (bif (!y3.1.1) then
      (some (Sum.inr (Sum.inl (((), ((12:Int), ())), (((), ((), ())), ())))))
     else
      (bif (decide ((0:Int) ≤ v15)) then
       (bif (decide (v15 < (((List.length o2) : Nat) : Int))) then
        (bif (decide ((0:Int) ≤ v15)) then
         (bif (decide (v15 < (((List.length l_0) : Nat) : Int))) then
          (bif (decide ((((List.length o2) + (List.length [(Go.IntKind.wrap Go.IntKind.i64 ((List.getD o2 (Int.toNat v15) (0:Int)) + (List.getD l_0 (Int.toNat v15) (0:Int))))])) * (8:Nat)) ≤ (140737488355328:Nat))) then
           (bif (decide ((0:Int) ≤ v15)) then
            (bif (decide (v15 < (((List.length o3) : Nat) : Int))) then
             (bif (decide ((0:Int) ≤ v15)) then
              (bif (decide (v15 < (((List.length l_0) : Nat) : Int))) then
               (bif (decide ((0:Int) ≤ v15)) then
                (bif (decide (v15 < (((List.length l_0) : Nat) : Int))) then
                 (bif (decide ((((List.length o3) + (List.length [(Go.IntKind.wrap Go.IntKind.i64 ((List.getD o3 (Int.toNat v15) (0:Int)) + (Go.IntKind.wrap Go.IntKind.i64 ((List.getD l_0 (Int.toNat v15) (0:Int)) * (List.getD l_0 (Int.toNat v15) (0:Int))))))])) * (8:Nat)) ≤ (140737488355328:Nat))) then
                  (Option.bind (L ((l_0, ((), ((), (v14, ((Go.IntKind.wrap Go.IntKind.i64 (v15 + (1:Int))), ()))))), (((), ((), ())), (((), ((), ())), ((o2 ++ [(Go.IntKind.wrap Go.IntKind.i64 ((List.getD o2 (Int.toNat v15) (0:Int)) + (List.getD l_0 (Int.toNat v15) (0:Int))))]), ((o3 ++ [(Go.IntKind.wrap Go.IntKind.i64 ((List.getD o3 (Int.toNat v15) (0:Int)) + (Go.IntKind.wrap Go.IntKind.i64 ((List.getD l_0 (Int.toNat v15) (0:Int)) * (List.getD l_0 (Int.toNat v15) (0:Int))))))]), ())))))) (fun y17 =>
                  (some y17)))
                 else
                  none)
                else
                 none)
               else
                none)
              else
               none)
             else
              none)
            else
             none)
           else
            none)
          else
           none)
         else
          none)
        else
         none)
       else
        none)
      else
       none))))
    else
     none)
   else
    none)
  else
   (some (Sum.inl (((), ((), ())), (((), ((), ())), (((), ((), ())), (o2, (o3, ()))))))))
theorem ref11_Of.eq0 (g_ref04_Sample : ref04_Sample.sh.X → Option ref04_Sample.osh.X) (l0 : ref11_Of.s0.X → Option (sumX ref11_Of.x0)) (L : (((List Int) × Unit × Unit × Int × Int × Unit) × ((Unit × Unit × Unit) × (Unit × Unit × Unit) × (List Int) × (List Int) × Unit)) → Option (((Unit × Unit × Unit) × ((Unit × Unit × Unit) × (Unit × Unit × Unit) × (List Int) × (List Int) × Unit)) ⊕ ((Unit × Int × Unit) × ((Unit × Unit × Unit) × Unit)) ⊕ Empty)) (x : (((List Int) × Unit × Unit × Int × Int × Unit) × ((Unit × Unit × Unit) × (Unit × Unit × Unit) × (List Int) × (List Int) × Unit))) : (roundK (ref11_Of.E g_ref04_Sample l0) ref11_Of.s0 [0, 2, 4, 14, 15] [(2, [2, 4]), (1, [2, 3])] true (((mk ref11_Of.hs ref11_Of.c []).atoms.getD 0 .bad).body) ref11_Of.x0 L x).run _ some = ref11_Of.f0 g_ref04_Sample L x.1.1 x.1.2.2.2.1 x.1.2.2.2.2.1 x.2.2.2.1 x.2.2.2.2.1 := by
  show _ = (_ : Option _)
  kernel_rfl
noncomputable def ref11_Of.L0 : (((List Int) × Unit × Unit × Int × Int × Unit) × ((Unit × Unit × Unit) × (Unit × Unit × Unit) × (List Int) × (List Int) × Unit)) → Option (((Unit × Unit × Unit) × ((Unit × Unit × Unit) × (Unit × Unit × Unit) × (List Int) × (List Int) × Unit)) ⊕ ((Unit × Int × Unit) × ((Unit × Unit × Unit) × Unit)) ⊕ Empty) := loop fun L x => ref11_Of.f0 ref04_Sample.F L x.1.1 x.1.2.2.2.1 x.1.2.2.2.2.1 x.2.2.2.1 x.2.2.2.2.1
def ref11_Of.f (l0 : (((List Int) × Unit × Unit × Int × Int × Unit) × ((Unit × Unit × Unit) × (Unit × Unit × Unit) × (List Int) × (List Int) × Unit)) → Option (((Unit × Unit × Unit) × ((Unit × Unit × Unit) × (Unit × Unit × Unit) × (List Int) × (List Int) × Unit)) ⊕ ((Unit × Int × Unit) × ((Unit × Unit × Unit) × Unit)) ⊕ Empty)) (l : (List Int)) : Option (((Unit × Unit × Unit) × Int × Unit) × ((List Int) × (List Int) × Unit)) :=
  (bif (decide ((((List.length l) : Nat) : Int) > (2000:Int))) then
   (some ((((), ((), ())), ((4:Int), ())), (([] : List Int), (([] : List Int), ()))))
  else
   (Option.bind (l0 ((l, ((), ((), ((((List.length l) : Nat) : Int), ((0:Int), ()))))), (((), ((), ())), (((), ((), ())), ([(0:Int)], ([(0:Int)], ())))))) (fun y1 =>
   (Sum.elim (fun a2 =>
    (some ((((), ((), ())), ((0:Int), ())), (a2.2.2.2.1, (a2.2.2.2.2.1, ()))))) (fun b2 =>
    (Sum.elim (fun a3 =>
     (some ((((), ((), ())), (a3.1.2.1, ())), (([] : List Int), (([] : List Int), ()))))) (fun b3 =>
     (Empty.elim b3)) b2)) y1))))
theorem ref11_Of.eq (g_ref04_Sample : ref04_Sample.sh.X → Option ref04_Sample.osh.X) (l0 : ref11_Of.s0.X → Option (sumX ref11_Of.x0)) (x : (((List Int) × Unit) × (Unit))) : (bodyO (ref11_Of.E g_ref04_Sample l0) (mk ref11_Of.hs ref11_Of.c []) Go.Proofs.Try.f20.results.toList ref11_Of.sh ref11_Of.osh x).run _ some = ref11_Of.f l0 x.1.1 := by
  show _ = (_ : Option _)
  kernel_rfl
noncomputable def ref11_Of (l : (List Int)) : Option (((Unit × Unit × Unit) × Int × Unit) × ((List Int) × (List Int) × Unit)) := ref11_Of.f ref11_Of.L0 l
noncomputable def ref11_Of.F (x : (((List Int) × Unit) × (Unit))) : Option (((Unit × Unit × Unit) × Int × Unit) × ((List Int) × (List Int) × Unit)) := ref11_Of x.1.1
theorem ref11_Of.L0_eq (l_0 : (List Int)) (v14 : Int) (v15 : Int) (o2 : List Int) (o3 : List Int) : ref11_Of.L0 ((l_0, (), (), v14, v15, ()), (((), (), ()), ((), (), ()), o2, o3, ())) = ref11_Of.f0 ref04_Sample.F ref11_Of.L0 l_0 v14 v15 o2 o3 :=
  loop_eq (E := (ref11_Of.E ref04_Sample.F ref11_Of.L0)) (sh := ref11_Of.s0) (es := ref11_Of.x0) (lp := true) (H := fun L x => ref11_Of.eq0 ref04_Sample.F ref11_Of.L0 L x) ((l_0, (), (), v14, v15, ()), (((), (), ()), ((), (), ()), o2, o3, ()))
theorem ref11_Of.F_eq (l : (List Int)) : ref11_Of.F ((l, ()), ()) = ref11_Of.f ref11_Of.L0 l := rfl
theorem ref11_Of.ok {tabs : List (Nat × Go.Obj)} (ht : TabsOk tabs) : FOK Go.Proofs.Try.prog tabs 20 (FE.of [true] false ref11_Of.sh ref11_Of.osh ref11_Of.F) := by
  refine fn_keeps (E := (ref11_Of.E ref04_Sample.F ref11_Of.L0)) (c := ref11_Of.c) (fn := Go.Proofs.Try.f20) (hs := ref11_Of.hs) (by kernel_rfl) Go.Proofs.Try.func20 ⟨by kernel_rfl, by kernel_rfl, tb, by kernel_rfl, by kernel_rfl, by kernel_rfl, by kernel_rfl, by kernel_rfl⟩ ⟨fun g ks fe h => ?_, gt_ok ht⟩ ?_ (fun x => ref11_Of.eq ref04_Sample.F ref11_Of.L0 x)
  · rcases c_cons h with ⟨rfl, rfl⟩ | h
    · exact ref04_Sample.ok ht
    cases h
  · refine known_at 1 (by kernel_rfl) fun i hi => ?_
    match i, hi with
    | 0, _ => exact atom_at (id := 0) (live := [0, 2, 4, 14, 15]) (outs := [(2, [2, 4]), (1, [2, 3])]) (loop := true) (by kernel_rfl) (loop_ok (E := (ref11_Of.E ref04_Sample.F ref11_Of.L0)) (sh := ref11_Of.s0) (es := ref11_Of.x0) rfl (fun L x => ref11_Of.eq0 ref04_Sample.F ref11_Of.L0 L x))
    | n + 1, h => exact absurd h (by omega)

/-! ref11_Same -/
def ref11_Same.f (g_keep_Ints : (((List Int) × (List Int) × Unit) × (Unit)) → Option ((Bool × Unit) × (Unit))) (a_Sum : (List Int)) (a_Square : (List Int)) (b_Sum : (List Int)) (b_Square : (List Int)) : Option ((Bool × Unit) × (Unit)) :=
  (Option.bind (g_keep_Ints ((a_Sum, (b_Sum, ())), ())) (fun y0 =>
  (bif y0.1.1 then
   (Option.bind (g_keep_Ints ((a_Square, (b_Square, ())), ())) (fun y2 =>
   (some ((y2.1.1, ()), ()))))
  else
   (some ((Bool.false, ()), ())))))
theorem ref11_Same.eq (g_keep_Ints : keep_Ints.sh.X → Option keep_Ints.osh.X) (x : ((((List Int) × (List Int) × Unit) × ((List Int) × (List Int) × Unit) × Unit) × (Unit))) : (bodyO (ref11_Same.E g_keep_Ints) (mk ref11_Same.hs ref11_Same.c []) Go.Proofs.Try.f21.results.toList ref11_Same.sh ref11_Same.osh x).run _ some = ref11_Same.f g_keep_Ints x.1.1.1 x.1.1.2.1 x.1.2.1.1 x.1.2.1.2.1 := by
  show _ = (_ : Option _)
  kernel_rfl
noncomputable def ref11_Same (a_Sum : (List Int)) (a_Square : (List Int)) (b_Sum : (List Int)) (b_Square : (List Int)) : Option ((Bool × Unit) × (Unit)) := ref11_Same.f keep_Ints.F a_Sum a_Square b_Sum b_Square
noncomputable def ref11_Same.F (x : ((((List Int) × (List Int) × Unit) × ((List Int) × (List Int) × Unit) × Unit) × (Unit))) : Option ((Bool × Unit) × (Unit)) := ref11_Same x.1.1.1 x.1.1.2.1 x.1.2.1.1 x.1.2.1.2.1
theorem ref11_Same.F_eq (a_Sum : (List Int)) (a_Square : (List Int)) (b_Sum : (List Int)) (b_Square : (List Int)) : ref11_Same.F (((a_Sum, a_Square, ()), (b_Sum, b_Square, ()), ()), ()) = ref11_Same.f keep_Ints.F a_Sum a_Square b_Sum b_Square := rfl
theorem ref11_Same.ok {tabs : List (Nat × Go.Obj)} (ht : TabsOk tabs) : FOK Go.Proofs.Try.prog tabs 21 (FE.of [true, true] false ref11_Same.sh ref11_Same.osh ref11_Same.F) := by
  refine fn_keeps (E := (ref11_Same.E keep_Ints.F)) (c := ref11_Same.c) (fn := Go.Proofs.Try.f21) (hs := ref11_Same.hs) (by kernel_rfl) Go.Proofs.Try.func21 ⟨by kernel_rfl, by kernel_rfl, tb, by kernel_rfl, by kernel_rfl, by kernel_rfl, by kernel_rfl, by kernel_rfl⟩ ⟨fun g ks fe h => ?_, gt_ok ht⟩ ?_ (fun x => ref11_Same.eq keep_Ints.F x)
  · rcases c_cons h with ⟨rfl, rfl⟩ | h
    · exact keep_Ints.ok ht
    cases h
  · exact known_at 0 (by kernel_rfl) fun i hi => absurd hi (Nat.not_lt_zero i)
end Go.Proofs.Ytknkiogjibpooaa.V
