import Derived.Test.YtknkiogjibpooabVgEnv
set_option linter.unusedVariables false
set_option maxRecDepth 100000
namespace Go.Proofs.Ytknkiogjibpooab.V
open Go.VI
/-! keep_New -/
def keep_New.f (l : (List Int)) : Option ((Unit × Unit) × (((List Int) × Int × Unit) × Unit)) :=
  (bif (decide ((0:Int) ≤ (Go.VI.mn (((List.length l) : Nat) : Int) (2000:Int)))) then
   (bif (decide ((Go.VI.mn (((List.length l) : Nat) : Int) (2000:Int)) ≤ (((List.length l) : Nat) : Int))) then
    (some (((), ()), (((List.drop (Int.toNat (0:Int)) (List.take (Int.toNat (Go.VI.mn (((List.length l) : Nat) : Int) (2000:Int))) l)), ((0:Int), ())), ())))
   else
    none)
  else
   none)
theorem keep_New.eq (x : (((List Int) × Unit) × (Unit))) : (bodyO (keep_New.E) (mk keep_New.hs keep_New.c []) Go.Proofs.Try.f9.results.toList keep_New.sh keep_New.osh x).run _ some = keep_New.f x.1.1 := by
  show _ = (_ : Option _)
  kernel_rfl
noncomputable def keep_New (l : (List Int)) : Option ((Unit × Unit) × (((List Int) × Int × Unit) × Unit)) := keep_New.f l
noncomputable def keep_New.F (x : (((List Int) × Unit) × (Unit))) : Option ((Unit × Unit) × (((List Int) × Int × Unit) × Unit)) := keep_New x.1.1
theorem keep_New.F_eq (l : (List Int)) : keep_New.F ((l, ()), ()) = keep_New.f l := rfl
theorem keep_New.ok : FOK Go.Proofs.Try.prog [] 9 (FE.of [true] true keep_New.sh keep_New.osh keep_New.F) := by
  refine fn_keeps (E := (keep_New.E)) (c := keep_New.c) (fn := Go.Proofs.Try.f9) (hs := keep_New.hs) (by kernel_rfl) Go.Proofs.Try.func9 ⟨by kernel_rfl, by kernel_rfl, tb, by kernel_rfl, by kernel_rfl, by kernel_rfl, by kernel_rfl, by kernel_rfl⟩ (fun g fe h => ?_) ?_ (fun x => keep_New.eq x)
  · cases h
  · exact known_at 0 (by kernel_rfl) fun i hi => absurd hi (Nat.not_lt_zero i)

/-! keep_Src_Raw -/
def keep_Src_Raw.f (o0_0 : (List Int)) (o0_1 : Int) : Option ((Int × Unit) × (((List Int) × Int × Unit) × Unit)) :=
  (bif (decide (o0_1 ≥ (((List.length o0_0) : Nat) : Int))) then
   (some (((0:Int), ()), ((o0_0, (o0_1, ())), ())))
  else
   (bif (decide ((0:Int) ≤ (Go.IntKind.wrap Go.IntKind.i64 ((Go.IntKind.wrap Go.IntKind.i64 (o0_1 + (1:Int))) - (1:Int))))) then
    (bif (decide ((Go.IntKind.wrap Go.IntKind.i64 ((Go.IntKind.wrap Go.IntKind.i64 (o0_1 + (1:Int))) - (1:Int))) < (((List.length o0_0) : Nat) : Int))) then
     (some (((List.getD o0_0 (Int.toNat (Go.IntKind.wrap Go.IntKind.i64 ((Go.IntKind.wrap Go.IntKind.i64 (o0_1 + (1:Int))) - (1:Int)))) (0:Int)), ()), ((o0_0, ((Go.IntKind.wrap Go.IntKind.i64 (o0_1 + (1:Int))), ())), ())))
    else
     none)
   else
    none))
theorem keep_Src_Raw.eq (x : ((Unit × Unit) × (((List Int) × Int × Unit) × Unit))) : (bodyO (keep_Src_Raw.E) (mk keep_Src_Raw.hs keep_Src_Raw.c []) Go.Proofs.Try.f30.results.toList keep_Src_Raw.sh keep_Src_Raw.osh x).run _ some = keep_Src_Raw.f x.2.1.1 x.2.1.2.1 := by
  show _ = (_ : Option _)
  kernel_rfl
noncomputable def keep_Src_Raw (o0_0 : (List Int)) (o0_1 : Int) : Option ((Int × Unit) × (((List Int) × Int × Unit) × Unit)) := keep_Src_Raw.f o0_0 o0_1
noncomputable def keep_Src_Raw.F (x : ((Unit × Unit) × (((List Int) × Int × Unit) × Unit))) : Option ((Int × Unit) × (((List Int) × Int × Unit) × Unit)) := keep_Src_Raw x.2.1.1 x.2.1.2.1
theorem keep_Src_Raw.F_eq (o0_0 : (List Int)) (o0_1 : Int) : keep_Src_Raw.F (((), ()), ((o0_0, o0_1, ()), ())) = keep_Src_Raw.f o0_0 o0_1 := rfl
theorem keep_Src_Raw.ok : FOK Go.Proofs.Try.prog [] 30 (FE.of [true] true keep_Src_Raw.sh keep_Src_Raw.osh keep_Src_Raw.F) := by
  refine fn_keeps (E := (keep_Src_Raw.E)) (c := keep_Src_Raw.c) (fn := Go.Proofs.Try.f30) (hs := keep_Src_Raw.hs) (by kernel_rfl) Go.Proofs.Try.func30 ⟨by kernel_rfl, by kernel_rfl, tb, by kernel_rfl, by kernel_rfl, by kernel_rfl, by kernel_rfl, by kernel_rfl⟩ (fun g fe h => ?_) ?_ (fun x => keep_Src_Raw.eq x)
  · cases h
  · exact known_at 0 (by kernel_rfl) fun i hi => absurd hi (Nat.not_lt_zero i)

/-! keep_Mod -/
def keep_Mod.f (x_ : Int) (n : Int) : Option ((Int × Unit) × (Unit)) :=
  (bif (decide (n < (1:Int))) then
   (some (((0:Int), ()), ()))
  else
   (bif (!(decide (n = (0:Int)))) then
    (bif (decide ((Int.tmod x_ n) < (0:Int))) then
     (some (((Go.IntKind.wrap Go.IntKind.i64 ((Int.tmod x_ n) + n)), ()), ()))
    else
     (some (((Int.tmod x_ n), ()), ())))
   else
    none))
theorem keep_Mod.eq (x : ((Int × Int × Unit) × (Unit))) : (bodyO (keep_Mod.E) (mk keep_Mod.hs keep_Mod.c []) Go.Proofs.Try.f22.results.toList keep_Mod.sh keep_Mod.osh x).run _ some = keep_Mod.f x.1.1 x.1.2.1 := by
  show _ = (_ : Option _)
  kernel_rfl
noncomputable def keep_Mod (x_ : Int) (n : Int) : Option ((Int × Unit) × (Unit)) := keep_Mod.f x_ n
noncomputable def keep_Mod.F (x : ((Int × Int × Unit) × (Unit))) : Option ((Int × Unit) × (Unit)) := keep_Mod x.1.1 x.1.2.1
theorem keep_Mod.F_eq (x_ : Int) (n : Int) : keep_Mod.F ((x_, n, ()), ()) = keep_Mod.f x_ n := rfl
theorem keep_Mod.ok : FOK Go.Proofs.Try.prog [] 22 (FE.of [true, true] false keep_Mod.sh keep_Mod.osh keep_Mod.F) := by
  refine fn_keeps (E := (keep_Mod.E)) (c := keep_Mod.c) (fn := Go.Proofs.Try.f22) (hs := keep_Mod.hs) (by kernel_rfl) Go.Proofs.Try.func22 ⟨by kernel_rfl, by kernel_rfl, tb, by kernel_rfl, by kernel_rfl, by kernel_rfl, by kernel_rfl, by kernel_rfl⟩ (fun g fe h => ?_) ?_ (fun x => keep_Mod.eq x)
  · cases h
  · exact known_at 0 (by kernel_rfl) fun i hi => absurd hi (Nat.not_lt_zero i)

/-! keep_Src_N -/
def keep_Src_N.f (g_keep_Src_Raw : ((Unit × Unit) × (((List Int) × Int × Unit) × Unit)) → Option ((Int × Unit) × (((List Int) × Int × Unit) × Unit))) (g_keep_Mod : ((Int × Int × Unit) × (Unit)) → Option ((Int × Unit) × (Unit))) (n : Int) (o0_0 : (List Int)) (o0_1 : Int) : Option ((Int × Unit) × (((List Int) × Int × Unit) × Unit)) :=
  (Option.bind (g_keep_Src_Raw (((), ()), ((o0_0, (o0_1, ())), ()))) (fun y0 =>
  (Option.bind (g_keep_Mod ((y0.1.1, (n, ())), ())) (fun y1 =>
  (some ((y1.1.1, ()), ((y0.2.1.1, (y0.2.1.2.1, ())), ())))))))
theorem keep_Src_N.eq (g_keep_Src_Raw : keep_Src_Raw.sh.X → Option keep_Src_Raw.osh.X) (g_keep_Mod : keep_Mod.sh.X → Option keep_Mod.osh.X) (x : ((Unit × Int × Unit) × (((List Int) × Int × Unit) × Unit))) : (bodyO (keep_Src_N.E g_keep_Src_Raw g_keep_Mod) (mk keep_Src_N.hs keep_Src_N.c []) Go.Proofs.Try.f15.results.toList keep_Src_N.sh keep_Src_N.osh x).run _ some = keep_Src_N.f g_keep_Src_Raw g_keep_Mod x.1.2.1 x.2.1.1 x.2.1.2.1 := by
  show _ = (_ : Option _)
  kernel_rfl
noncomputable def keep_Src_N (n : Int) (o0_0 : (List Int)) (o0_1 : Int) : Option ((Int × Unit) × (((List Int) × Int × Unit) × Unit)) := keep_Src_N.f keep_Src_Raw.F keep_Mod.F n o0_0 o0_1
noncomputable def keep_Src_N.F (x : ((Unit × Int × Unit) × (((List Int) × Int × Unit) × Unit))) : Option ((Int × Unit) × (((List Int) × Int × Unit) × Unit)) := keep_Src_N x.1.2.1 x.2.1.1 x.2.1.2.1
theorem keep_Src_N.F_eq (n : Int) (o0_0 : (List Int)) (o0_1 : Int) : keep_Src_N.F (((), n, ()), ((o0_0, o0_1, ()), ())) = keep_Src_N.f keep_Src_Raw.F keep_Mod.F n o0_0 o0_1 := rfl
theorem keep_Src_N.ok : FOK Go.Proofs.Try.prog [] 15 (FE.of [true, true] true keep_Src_N.sh keep_Src_N.osh keep_Src_N.F) := by
  refine fn_keeps (E := (keep_Src_N.E keep_Src_Raw.F keep_Mod.F)) (c := keep_Src_N.c) (fn := Go.Proofs.Try.f15) (hs := keep_Src_N.hs) (by kernel_rfl) Go.Proofs.Try.func15 ⟨by kernel_rfl, by kernel_rfl, tb, by kernel_rfl, by kernel_rfl, by kernel_rfl, by kernel_rfl, by kernel_rfl⟩ (fun g fe h => ?_) ?_ (fun x => keep_Src_N.eq keep_Src_Raw.F keep_Mod.F x)
  · rcases c_cons h with ⟨rfl, rfl⟩ | h
    · exact keep_Src_Raw.ok
    rcases c_cons h with ⟨rfl, rfl⟩ | h
    · exact keep_Mod.ok
    cases h
  · exact known_at 0 (by kernel_rfl) fun i hi => absurd hi (Nat.not_lt_zero i)

/-! keep_Src_Pick -/
def keep_Src_Pick.f (g_keep_Src_N : ((Unit × Int × Unit) × (((List Int) × Int × Unit) × Unit)) → Option ((Int × Unit) × (((List Int) × Int × Unit) × Unit))) (l : (List Int)) (o0_0 : (List Int)) (o0_1 : Int) : Option ((Int × Unit) × (((List Int) × Int × Unit) × Unit)) :=
  (Option.bind (g_keep_Src_N (((), ((((List.length l) : Nat) : Int), ())), ((o0_0, (o0_1, ())), ()))) (fun y0 =>
  (bif (decide ((0:Int) ≤ y0.1.1)) then
   (bif (decide (y0.1.1 < (((List.length l) : Nat) : Int))) then
    (some (((List.getD l (Int.toNat y0.1.1) (0:Int)), ()), ((y0.2.1.1, (y0.2.1.2.1, ())), ())))
   else
    none)
  else
   none)))
theorem keep_Src_Pick.eq (g_keep_Src_N : keep_Src_N.sh.X → Option keep_Src_N.osh.X) (x : ((Unit × (List Int) × Unit) × (((List Int) × Int × Unit) × Unit))) : (bodyO (keep_Src_Pick.E g_keep_Src_N) (mk keep_Src_Pick.hs keep_Src_Pick.c []) Go.Proofs.Try.f16.results.toList keep_Src_Pick.sh keep_Src_Pick.osh x).run _ some = keep_Src_Pick.f g_keep_Src_N x.1.2.1 x.2.1.1 x.2.1.2.1 := by
  show _ = (_ : Option _)
  kernel_rfl
noncomputable def keep_Src_Pick (l : (List Int)) (o0_0 : (List Int)) (o0_1 : Int) : Option ((Int × Unit) × (((List Int) × Int × Unit) × Unit)) := keep_Src_Pick.f keep_Src_N.F l o0_0 o0_1
noncomputable def keep_Src_Pick.F (x : ((Unit × (List Int) × Unit) × (((List Int) × Int × Unit) × Unit))) : Option ((Int × Unit) × (((List Int) × Int × Unit) × Unit)) := keep_Src_Pick x.1.2.1 x.2.1.1 x.2.1.2.1
theorem keep_Src_Pick.F_eq (l : (List Int)) (o0_0 : (List Int)) (o0_1 : Int) : keep_Src_Pick.F (((), l, ()), ((o0_0, o0_1, ()), ())) = keep_Src_Pick.f keep_Src_N.F l o0_0 o0_1 := rfl
theorem keep_Src_Pick.ok : FOK Go.Proofs.Try.prog [] 16 (FE.of [true, true] true keep_Src_Pick.sh keep_Src_Pick.osh keep_Src_Pick.F) := by
  refine fn_keeps (E := (keep_Src_Pick.E keep_Src_N.F)) (c := keep_Src_Pick.c) (fn := Go.Proofs.Try.f16) (hs := keep_Src_Pick.hs) (by kernel_rfl) Go.Proofs.Try.func16 ⟨by kernel_rfl, by kernel_rfl, tb, by kernel_rfl, by kernel_rfl, by kernel_rfl, by kernel_rfl, by kernel_rfl⟩ (fun g fe h => ?_) ?_ (fun x => keep_Src_Pick.eq keep_Src_N.F x)
  · rcases c_cons h with ⟨rfl, rfl⟩ | h
    · exact keep_Src_N.ok
    cases h
  · exact known_at 0 (by kernel_rfl) fun i hi => absurd hi (Nat.not_lt_zero i)

/-! keep_Src_Range -/
def keep_Src_Range.f (g_keep_Src_N : ((Unit × Int × Unit) × (((List Int) × Int × Unit) × Unit)) → Option ((Int × Unit) × (((List Int) × Int × Unit) × Unit))) (lo : Int) (hi : Int) (o0_0 : (List Int)) (o0_1 : Int) : Option ((Int × Unit) × (((List Int) × Int × Unit) × Unit)) :=
  (Option.bind (g_keep_Src_N (((), ((Go.IntKind.wrap Go.IntKind.i64 ((Go.IntKind.wrap Go.IntKind.i64 (hi - lo)) + (1:Int))), ())), ((o0_0, (o0_1, ())), ()))) (fun y0 =>
  (some (((Go.IntKind.wrap Go.IntKind.i64 (lo + y0.1.1)), ()), ((y0.2.1.1, (y0.2.1.2.1, ())), ())))))
theorem keep_Src_Range.eq (g_keep_Src_N : keep_Src_N.sh.X → Option keep_Src_N.osh.X) (x : ((Unit × Int × Int × Unit) × (((List Int) × Int × Unit) × Unit))) : (bodyO (keep_Src_Range.E g_keep_Src_N) (mk keep_Src_Range.hs keep_Src_Range.c []) Go.Proofs.Try.f26.results.toList keep_Src_Range.sh keep_Src_Range.osh x).run _ some = keep_Src_Range.f g_keep_Src_N x.1.2.1 x.1.2.2.1 x.2.1.1 x.2.1.2.1 := by
  show _ = (_ : Option _)
  kernel_rfl
noncomputable def keep_Src_Range (lo : Int) (hi : Int) (o0_0 : (List Int)) (o0_1 : Int) : Option ((Int × Unit) × (((List Int) × Int × Unit) × Unit)) := keep_Src_Range.f keep_Src_N.F lo hi o0_0 o0_1
noncomputable def keep_Src_Range.F (x : ((Unit × Int × Int × Unit) × (((List Int) × Int × Unit) × Unit))) : Option ((Int × Unit) × (((List Int) × Int × Unit) × Unit)) := keep_Src_Range x.1.2.1 x.1.2.2.1 x.2.1.1 x.2.1.2.1
theorem keep_Src_Range.F_eq (lo : Int) (hi : Int) (o0_0 : (List Int)) (o0_1 : Int) : keep_Src_Range.F (((), lo, hi, ()), ((o0_0, o0_1, ()), ())) = keep_Src_Range.f keep_Src_N.F lo hi o0_0 o0_1 := rfl
theorem keep_Src_Range.ok : FOK Go.Proofs.Try.prog [] 26 (FE.of [true, true, true] true keep_Src_Range.sh keep_Src_Range.osh keep_Src_Range.F) := by
  refine fn_keeps (E := (keep_Src_Range.E keep_Src_N.F)) (c := keep_Src_Range.c) (fn := Go.Proofs.Try.f26) (hs := keep_Src_Range.hs) (by kernel_rfl) Go.Proofs.Try.func26 ⟨by kernel_rfl, by kernel_rfl, tb, by kernel_rfl, by kernel_rfl, by kernel_rfl, by kernel_rfl, by kernel_rfl⟩ (fun g fe h => ?_) ?_ (fun x => keep_Src_Range.eq keep_Src_N.F x)
  · rcases c_cons h with ⟨rfl, rfl⟩ | h
    · exact keep_Src_N.ok
    cases h
  · exact known_at 0 (by kernel_rfl) fun i hi => absurd hi (Nat.not_lt_zero i)

/-! keep_Src_Ascending -/
def keep_Src_Ascending.f0 (g_keep_Src_Pick : ((Unit × (List Int) × Unit) × (((List Int) × Int × Unit) × Unit)) → Option ((Int × Unit) × (((List Int) × Int × Unit) × Unit))) (g_keep_Src_Range : ((Unit × Int × Int × Unit) × (((List Int) × Int × Unit) × Unit)) → Option ((Int × Unit) × (((List Int) × Int × Unit) × Unit))) (L : ((Unit × Unit × Int × Int × Unit) × (((List Int) × Int × Unit) × (List (Int × Int)) × Unit)) → Option (((Unit × Unit) × (((List Int) × Int × Unit) × (List (Int × Int)) × Unit)) ⊕ Empty)) (t_6 : Int) (i_7 : Int) (o0_0 : (List Int)) (o0_1 : Int) (o1 : List (Int × Int)) : Option (((Unit × Unit) × (((List Int) × Int × Unit) × (List (Int × Int)) × Unit)) ⊕ Empty) :=
  (bif (decide (i_7 > (0:Int))) then
   (Option.bind (g_keep_Src_Range (((), ((1:Int), ((12:Int), ()))), ((o0_0, (o0_1, ())), ()))) (fun y1 =>
   (Option.bind (g_keep_Src_Range (((), ((-(30:Int)), ((30:Int), ()))), ((y1.2.1.1, (y1.2.1.2.1, ())), ()))) (fun y2 =>
   (Option.bind (g_keep_Src_Pick (((), ([(1:Int), (1:Int), (33:Int)], ())), ((y2.2.1.1, (y2.2.1.2.1, ())), ()))) (fun y3 =>
   (bif (decide ((((List.length o1) + (List.length [((Go.IntKind.wrap Go.IntKind.i64 (t_6 + y1.1.1)), (Go.IntKind.wrap Go.IntKind.i64 (y2.1.1 * y3.1.1)))])) * (16:Nat)) ≤ (140737488355328:Nat))) then
    (Option.bind (L (((), ((), ((Go.IntKind.wrap Go.IntKind.i64 (t_6 + y1.1.1)), ((Go.IntKind.wrap Go.IntKind.i64 (i_7 - (1:Int))), ())))), ((y3.2.1.1, (y3.2.1.2.1, ())), ((o1 ++ [((Go.IntKind.wrap Go.IntKind.i64 (t_6 + y1.1.1)), (Go.IntKind.wrap Go.IntKind.i64 (y2.1.1 * y3.1.1)))]), ())))) (fun y5 =>
    (some y5)))
   else
    none)))))))
  else
   (some (Sum.inl (((), ()), ((o0_0, (o0_1, ())), (o1, ()))))))
theorem keep_Src_Ascending.eq0 (g_keep_Src_Pick : keep_Src_Pick.sh.X → Option keep_Src_Pick.osh.X) (g_keep_Src_N : keep_Src_N.sh.X → Option keep_Src_N.osh.X) (g_keep_Src_Range : keep_Src_Range.sh.X → Option keep_Src_Range.osh.X) (l0 : keep_Src_Ascending.s0.X → Option (sumX keep_Src_Ascending.x0)) (L : ((Unit × Unit × Int × Int × Unit) × (((List Int) × Int × Unit) × (List (Int × Int)) × Unit)) → Option (((Unit × Unit) × (((List Int) × Int × Unit) × (List (Int × Int)) × Unit)) ⊕ Empty)) (x : ((Unit × Unit × Int × Int × Unit) × (((List Int) × Int × Unit) × (List (Int × Int)) × Unit))) : (roundK (keep_Src_Ascending.E g_keep_Src_Pick g_keep_Src_N g_keep_Src_Range l0) keep_Src_Ascending.s0 [0, 5, 6, 7] [(2, [5])] true (((mk keep_Src_Ascending.hs keep_Src_Ascending.c []).atoms.getD 0 .bad).body) keep_Src_Ascending.x0 L x).run _ some = keep_Src_Ascending.f0 g_keep_Src_Pick g_keep_Src_Range L x.1.2.2.1 x.1.2.2.2.1 x.2.1.1 x.2.1.2.1 x.2.2.1 := by
  show _ = (_ : Option _)
  kernel_rfl
noncomputable def keep_Src_Ascending.L0 : ((Unit × Unit × Int × Int × Unit) × (((List Int) × Int × Unit) × (List (Int × Int)) × Unit)) → Option (((Unit × Unit) × (((List Int) × Int × Unit) × (List (Int × Int)) × Unit)) ⊕ Empty) := loop fun L x => keep_Src_Ascending.f0 keep_Src_Pick.F keep_Src_Range.F L x.1.2.2.1 x.1.2.2.2.1 x.2.1.1 x.2.1.2.1 x.2.2.1
def keep_Src_Ascending.f (g_keep_Src_Pick : ((Unit × (List Int) × Unit) × (((List Int) × Int × Unit) × Unit)) → Option ((Int × Unit) × (((List Int) × Int × Unit) × Unit))) (g_keep_Src_N : ((Unit × Int × Unit) × (((List Int) × Int × Unit) × Unit)) → Option ((Int × Unit) × (((List Int) × Int × Unit) × Unit))) (l0 : ((Unit × Unit × Int × Int × Unit) × (((List Int) × Int × Unit) × (List (Int × Int)) × Unit)) → Option (((Unit × Unit) × (((List Int) × Int × Unit) × (List (Int × Int)) × Unit)) ⊕ Empty)) (n : Int) (o0_0 : (List Int)) (o0_1 : Int) : Option ((Unit × Unit) × (((List Int) × Int × Unit) × (List (Int × Int)) × Unit)) :=
  (Option.bind (g_keep_Src_Pick (((), ([(0:Int), (0:Int), (7:Int), (1099511627476:Int)], ())), ((o0_0, (o0_1, ())), ()))) (fun y0 =>
  (Option.bind (g_keep_Src_N (((), ((Go.IntKind.wrap Go.IntKind.i64 (n + (1:Int))), ())), ((y0.2.1.1, (y0.2.1.2.1, ())), ()))) (fun y1 =>
  (Option.bind (l0 (((), ((), (y0.1.1, (y1.1.1, ())))), ((y1.2.1.1, (y1.2.1.2.1, ())), (([] : List (Int × Int)), ())))) (fun y2 =>
  (Sum.elim (fun a3 =>
   (some (((), ()), ((a3.2.1.1, (a3.2.1.2.1, ())), (a3.2.2.1, ()))))) (fun b3 =>
   (Empty.elim b3)) y2)))))))
theorem keep_Src_Ascending.eq (g_keep_Src_Pick : keep_Src_Pick.sh.X → Option keep_Src_Pick.osh.X) (g_keep_Src_N : keep_Src_N.sh.X → Option keep_Src_N.osh.X) (g_keep_Src_Range : keep_Src_Range.sh.X → Option keep_Src_Range.osh.X) (l0 : keep_Src_Ascending.s0.X → Option (sumX keep_Src_Ascending.x0)) (x : ((Unit × Int × Unit) × (((List Int) × Int × Unit) × Unit))) : (bodyO (keep_Src_Ascending.E g_keep_Src_Pick g_keep_Src_N g_keep_Src_Range l0) (mk keep_Src_Ascending.hs keep_Src_Ascending.c []) Go.Proofs.Try.f10.results.toList keep_Src_Ascending.sh keep_Src_Ascending.osh x).run _ some = keep_Src_Ascending.f g_keep_Src_Pick g_keep_Src_N l0 x.1.2.1 x.2.1.1 x.2.1.2.1 := by
  show _ = (_ : Option _)
  kernel_rfl
noncomputable def keep_Src_Ascending (n : Int) (o0_0 : (List Int)) (o0_1 : Int) : Option ((Unit × Unit) × (((List Int) × Int × Unit) × (List (Int × Int)) × Unit)) := keep_Src_Ascending.f keep_Src_Pick.F keep_Src_N.F keep_Src_Ascending.L0 n o0_0 o0_1
noncomputable def keep_Src_Ascending.F (x : ((Unit × Int × Unit) × (((List Int) × Int × Unit) × Unit))) : Option ((Unit × Unit) × (((List Int) × Int × Unit) × (List (Int × Int)) × Unit)) := keep_Src_Ascending x.1.2.1 x.2.1.1 x.2.1.2.1
theorem keep_Src_Ascending.L0_eq (t_6 : Int) (i_7 : Int) (o0_0 : (List Int)) (o0_1 : Int) (o1 : List (Int × Int)) : keep_Src_Ascending.L0 (((), (), t_6, i_7, ()), ((o0_0, o0_1, ()), o1, ())) = keep_Src_Ascending.f0 keep_Src_Pick.F keep_Src_Range.F keep_Src_Ascending.L0 t_6 i_7 o0_0 o0_1 o1 :=
  loop_eq (E := (keep_Src_Ascending.E keep_Src_Pick.F keep_Src_N.F keep_Src_Range.F keep_Src_Ascending.L0)) (sh := keep_Src_Ascending.s0) (es := keep_Src_Ascending.x0) (lp := true) (H := fun L x => keep_Src_Ascending.eq0 keep_Src_Pick.F keep_Src_N.F keep_Src_Range.F keep_Src_Ascending.L0 L x) (((), (), t_6, i_7, ()), ((o0_0, o0_1, ()), o1, ()))
theorem keep_Src_Ascending.F_eq (n : Int) (o0_0 : (List Int)) (o0_1 : Int) : keep_Src_Ascending.F (((), n, ()), ((o0_0, o0_1, ()), ())) = keep_Src_Ascending.f keep_Src_Pick.F keep_Src_N.F keep_Src_Ascending.L0 n o0_0 o0_1 := rfl
theorem keep_Src_Ascending.ok : FOK Go.Proofs.Try.prog [] 10 (FE.of [true, true] true keep_Src_Ascending.sh keep_Src_Ascending.osh keep_Src_Ascending.F) := by
  refine fn_keeps (E := (keep_Src_Ascending.E keep_Src_Pick.F keep_Src_N.F keep_Src_Range.F keep_Src_Ascending.L0)) (c := keep_Src_Ascending.c) (fn := Go.Proofs.Try.f10) (hs := keep_Src_Ascending.hs) (by kernel_rfl) Go.Proofs.Try.func10 ⟨by kernel_rfl, by kernel_rfl, tb, by kernel_rfl, by kernel_rfl, by kernel_rfl, by kernel_rfl, by kernel_rfl⟩ (fun g fe h => ?_) ?_ (fun x => keep_Src_Ascending.eq keep_Src_Pick.F keep_Src_N.F keep_Src_Range.F keep_Src_Ascending.L0 x)
  · rcases c_cons h with ⟨rfl, rfl⟩ | h
    · exact keep_Src_Pick.ok
    rcases c_cons h with ⟨rfl, rfl⟩ | h
    · exact keep_Src_N.ok
    rcases c_cons h with ⟨rfl, rfl⟩ | h
    · exact keep_Src_Range.ok
    cases h
  · refine known_at 1 (by kernel_rfl) fun i hi => ?_
    match i, hi with
    | 0, _ => exact atom_at (id := 0) (live := [0, 5, 6, 7]) (outs := [(2, [5])]) (loop := true) (by kernel_rfl) (loop_ok (E := (keep_Src_Ascending.E keep_Src_Pick.F keep_Src_N.F keep_Src_Range.F keep_Src_Ascending.L0)) (sh := keep_Src_Ascending.s0) (es := keep_Src_Ascending.x0) rfl (fun L x => keep_Src_Ascending.eq0 keep_Src_Pick.F keep_Src_N.F keep_Src_Range.F keep_Src_Ascending.L0 L x))
    | n + 1, h => exact absurd h (by omega)

/-! keep_Src_Grid -/
def keep_Src_Grid.f (g_keep_Src_Range : ((Unit × Int × Int × Unit) × (((List Int) × Int × Unit) × Unit)) → Option ((Int × Unit) × (((List Int) × Int × Unit) × Unit))) (g_keep_Src_N : ((Unit × Int × Unit) × (((List Int) × Int × Unit) × Unit)) → Option ((Int × Unit) × (((List Int) × Int × Unit) × Unit))) (g_keep_Src_Pick : ((Unit × (List Int) × Unit) × (((List Int) × Int × Unit) × Unit)) → Option ((Int × Unit) × (((List Int) × Int × Unit) × Unit))) (l : (List (Int × Int))) (o0_0 : (List Int)) (o0_1 : Int) : Option (((Int × Int × Int × Int × Int × Unit) × Unit) × (((List Int) × Int × Unit) × Unit)) :=
  (Option.bind (g_keep_Src_Range (((), ((1:Int), ((9:Int), ()))), ((o0_0, (o0_1, ())), ()))) (fun y0 =>
  (Option.bind (g_keep_Src_N (((), ((20:Int), ())), ((y0.2.1.1, (y0.2.1.2.1, ())), ()))) (fun y1 =>
  (Option.bind (g_keep_Src_Range (((), ((1:Int), ((3:Int), ()))), ((y1.2.1.1, (y1.2.1.2.1, ())), ()))) (fun y2 =>
  (Option.bind (g_keep_Src_Pick (((), ([(0:Int), (1:Int), (3:Int), (6:Int), (20:Int), (1099511627776:Int)], ())), ((y2.2.1.1, (y2.2.1.2.1, ())), ()))) (fun y3 =>
  (bif (decide ((((List.length l) : Nat) : Int) > (0:Int))) then
   (Option.bind (g_keep_Src_N (((), ((((List.length l) : Nat) : Int), ())), ((y3.2.1.1, (y3.2.1.2.1, ())), ()))) (fun y5 =>
   (bif (decide ((0:Int) ≤ y5.1.1)) then
    (bif (decide (y5.1.1 < (((List.length l) : Nat) : Int))) then
     (Option.bind (g_keep_Src_Range (((), ((-(15:Int)), ((15:Int), ()))), ((y5.2.1.1, (y5.2.1.2.1, ())), ()))) (fun y8 =>
     (some ((((Go.VI.mx (0:Int) (Go.VI.mn (Go.IntKind.wrap Go.IntKind.i64 ((List.getD l (Int.toNat y5.1.1) ((0:Int), (0:Int))).1 + y8.1.1)) (1099511627576:Int))), (y0.1.1, (y1.1.1, (y2.1.1, (y3.1.1, ()))))), ()), ((y8.2.1.1, (y8.2.1.2.1, ())), ())))))
    else
     none)
   else
    none)))
  else
   (some ((((0:Int), (y0.1.1, (y1.1.1, (y2.1.1, (y3.1.1, ()))))), ()), ((y3.2.1.1, (y3.2.1.2.1, ())), ()))))))))))))
theorem keep_Src_Grid.eq (g_keep_Src_Range : keep_Src_Range.sh.X → Option keep_Src_Range.osh.X) (g_keep_Src_N : keep_Src_N.sh.X → Option keep_Src_N.osh.X) (g_keep_Src_Pick : keep_Src_Pick.sh.X → Option keep_Src_Pick.osh.X) (x : ((Unit × (List (Int × Int)) × Unit) × (((List Int) × Int × Unit) × Unit))) : (bodyO (keep_Src_Grid.E g_keep_Src_Range g_keep_Src_N g_keep_Src_Pick) (mk keep_Src_Grid.hs keep_Src_Grid.c []) Go.Proofs.Try.f12.results.toList keep_Src_Grid.sh keep_Src_Grid.osh x).run _ some = keep_Src_Grid.f g_keep_Src_Range g_keep_Src_N g_keep_Src_Pick x.1.2.1 x.2.1.1 x.2.1.2.1 := by
  show _ = (_ : Option _)
  kernel_rfl
noncomputable def keep_Src_Grid (l : (List (Int × Int))) (o0_0 : (List Int)) (o0_1 : Int) : Option (((Int × Int × Int × Int × Int × Unit) × Unit) × (((List Int) × Int × Unit) × Unit)) := keep_Src_Grid.f keep_Src_Range.F keep_Src_N.F keep_Src_Pick.F l o0_0 o0_1
noncomputable def keep_Src_Grid.F (x : ((Unit × (List (Int × Int)) × Unit) × (((List Int) × Int × Unit) × Unit))) : Option (((Int × Int × Int × Int × Int × Unit) × Unit) × (((List Int) × Int × Unit) × Unit)) := keep_Src_Grid x.1.2.1 x.2.1.1 x.2.1.2.1
theorem keep_Src_Grid.F_eq (l : (List (Int × Int))) (o0_0 : (List Int)) (o0_1 : Int) : keep_Src_Grid.F (((), l, ()), ((o0_0, o0_1, ()), ())) = keep_Src_Grid.f keep_Src_Range.F keep_Src_N.F keep_Src_Pick.F l o0_0 o0_1 := rfl
theorem keep_Src_Grid.ok : FOK Go.Proofs.Try.prog [] 12 (FE.of [true, true] true keep_Src_Grid.sh keep_Src_Grid.osh keep_Src_Grid.F) := by
  refine fn_keeps (E := (keep_Src_Grid.E keep_Src_Range.F keep_Src_N.F keep_Src_Pick.F)) (c := keep_Src_Grid.c) (fn := Go.Proofs.Try.f12) (hs := keep_Src_Grid.hs) (by kernel_rfl) Go.Proofs.Try.func12 ⟨by kernel_rfl, by kernel_rfl, tb, by kernel_rfl, by kernel_rfl, by kernel_rfl, by kernel_rfl, by kernel_rfl⟩ (fun g fe h => ?_) ?_ (fun x => keep_Src_Grid.eq keep_Src_Range.F keep_Src_N.F keep_Src_Pick.F x)
  · rcases c_cons h with ⟨rfl, rfl⟩ | h
    · exact keep_Src_Range.ok
    rcases c_cons h with ⟨rfl, rfl⟩ | h
    · exact keep_Src_N.ok
    rcases c_cons h with ⟨rfl, rfl⟩ | h
    · exact keep_Src_Pick.ok
    cases h
  · exact known_at 0 (by kernel_rfl) fun i hi => absurd hi (Nat.not_lt_zero i)

/-! resample_Valid -/
def resample_Valid.f0 (o0_0 : Int) (o0_1 : Int) (o0_2 : Int) (o0_3 : Int) (o0_4 : Int) : Option (((Unit × Bool × Unit) × ((Int × Int × Int × Int × Int × Unit) × Unit)) ⊕ Empty) :=
  (bif (decide (o0_0 < (0:Int))) then
   (some (Sum.inl (((), (Bool.true, ())), ((o0_0, (o0_1, (o0_2, (o0_3, (o0_4, ()))))), ()))))
  else
   (bif (decide (o0_0 > (1099511627776:Int))) then
    (some (Sum.inl (((), (Bool.true, ())), ((o0_0, (o0_1, (o0_2, (o0_3, (o0_4, ()))))), ()))))
   else
    (bif (decide (o0_1 < (1:Int))) then
     (some (Sum.inl (((), (Bool.true, ())), ((o0_0, (o0_1, (o0_2, (o0_3, (o0_4, ()))))), ()))))
    else
     (bif (decide (o0_1 > (1099511627776:Int))) then
      (some (Sum.inl (((), (Bool.true, ())), ((o0_0, (o0_1, (o0_2, (o0_3, (o0_4, ()))))), ()))))
     else
      (bif (decide (o0_2 < (0:Int))) then
       (some (Sum.inl (((), (Bool.true, ())), ((o0_0, (o0_1, (o0_2, (o0_3, (o0_4, ()))))), ()))))
      else
       (some (Sum.inl (((), ((decide (o0_2 > (2000:Int))), ())), ((o0_0, (o0_1, (o0_2, (o0_3, (o0_4, ()))))), ())))))))))
theorem resample_Valid.eq0 (l0 : resample_Valid.s0.X → Option (sumX resample_Valid.x0)) (l1 : resample_Valid.s1.X → Option (sumX resample_Valid.x1)) (L : ((Unit × Unit) × ((Int × Int × Int × Int × Int × Unit) × Unit)) → Option (((Unit × Bool × Unit) × ((Int × Int × Int × Int × Int × Unit) × Unit)) ⊕ Empty)) (x : ((Unit × Unit) × ((Int × Int × Int × Int × Int × Unit) × Unit))) : (roundK (resample_Valid.E l0 l1) resample_Valid.s0 [1] [(0, [1, 30])] false (((mk resample_Valid.hs resample_Valid.c []).atoms.getD 0 .bad).body) resample_Valid.x0 L x).run _ some = resample_Valid.f0 x.2.1.1 x.2.1.2.1 x.2.1.2.2.1 x.2.1.2.2.2.1 x.2.1.2.2.2.2.1 := by
  show _ = (_ : Option _)
  kernel_rfl
noncomputable def resample_Valid.L0 : ((Unit × Unit) × ((Int × Int × Int × Int × Int × Unit) × Unit)) → Option (((Unit × Bool × Unit) × ((Int × Int × Int × Int × Int × Unit) × Unit)) ⊕ Empty) := fun x => resample_Valid.f0 x.2.1.1 x.2.1.2.1 x.2.1.2.2.1 x.2.1.2.2.2.1 x.2.1.2.2.2.2.1
def resample_Valid.f1 (o0_0 : Int) (o0_1 : Int) (o0_2 : Int) (o0_3 : Int) (o0_4 : Int) : Option (((Unit × Bool × Unit) × ((Int × Int × Int × Int × Int × Unit) × Unit)) ⊕ Empty) :=
  (bif (decide (o0_2 > (0:Int))) then
   (some (Sum.inl (((), ((decide ((Go.IntKind.wrap Go.IntKind.i64 (o0_0 + (Go.IntKind.wrap Go.IntKind.i64 ((Go.IntKind.wrap Go.IntKind.i64 (o0_2 - (1:Int))) * o0_1)))) > (1099511627776:Int))), ())), ((o0_0, (o0_1, (o0_2, (o0_3, (o0_4, ()))))), ()))))
  else
   (some (Sum.inl (((), (Bool.false, ())), ((o0_0, (o0_1, (o0_2, (o0_3, (o0_4, ()))))), ())))))
theorem resample_Valid.eq1 (l0 : resample_Valid.s0.X → Option (sumX resample_Valid.x0)) (l1 : resample_Valid.s1.X → Option (sumX resample_Valid.x1)) (L : ((Unit × Unit) × ((Int × Int × Int × Int × Int × Unit) × Unit)) → Option (((Unit × Bool × Unit) × ((Int × Int × Int × Int × Int × Unit) × Unit)) ⊕ Empty)) (x : ((Unit × Unit) × ((Int × Int × Int × Int × Int × Unit) × Unit))) : (roundK (resample_Valid.E l0 l1) resample_Valid.s1 [1] [(0, [1, 45])] false (((mk resample_Valid.hs resample_Valid.c []).atoms.getD 1 .bad).body) resample_Valid.x1 L x).run _ some = resample_Valid.f1 x.2.1.1 x.2.1.2.1 x.2.1.2.2.1 x.2.1.2.2.2.1 x.2.1.2.2.2.2.1 := by
  show _ = (_ : Option _)
  kernel_rfl
noncomputable def resample_Valid.L1 : ((Unit × Unit) × ((Int × Int × Int × Int × Int × Unit) × Unit)) → Option (((Unit × Bool × Unit) × ((Int × Int × Int × Int × Int × Unit) × Unit)) ⊕ Empty) := fun x => resample_Valid.f1 x.2.1.1 x.2.1.2.1 x.2.1.2.2.1 x.2.1.2.2.2.1 x.2.1.2.2.2.2.1
def resample_Valid.f (l0 : ((Unit × Unit) × ((Int × Int × Int × Int × Int × Unit) × Unit)) → Option (((Unit × Bool × Unit) × ((Int × Int × Int × Int × Int × Unit) × Unit)) ⊕ Empty)) (l1 : ((Unit × Unit) × ((Int × Int × Int × Int × Int × Unit) × Unit)) → Option (((Unit × Bool × Unit) × ((Int × Int × Int × Int × Int × Unit) × Unit)) ⊕ Empty)) (g_From : Int) (g_Step : Int) (g_Count : Int) (g_Rule : Int) (g_Reach : Int) : Option ((Bool × Unit) × (Unit)) :=
  (Option.bind (l0 (((), ()), ((g_From, (g_Step, (g_Count, (g_Rule, (g_Reach, ()))))), ()))) (fun y0 =>
  (Sum.elim (fun a1 =>
   (bif a1.1.2.1 then
    (some ((Bool.false, ()), ()))
   else
    (Option.bind (l1 (((), ()), ((a1.2.1.1, (a1.2.1.2.1, (a1.2.1.2.2.1, (a1.2.1.2.2.2.1, (a1.2.1.2.2.2.2.1, ()))))), ()))) (fun y3 =>
    (Sum.elim (fun a4 =>
     (bif a4.1.2.1 then
      (some ((Bool.false, ()), ()))
     else
      (bif (decide (a4.2.1.2.2.2.1 ≥ (1:Int))) then
       (bif (decide (a4.2.1.2.2.2.1 ≤ (3:Int))) then
        (bif (decide (a4.2.1.2.2.2.2.1 ≥ (0:Int))) then
         (some (((decide (a4.2.1.2.2.2.2.1 ≤ (1099511627776:Int))), ()), ()))
        else
         (some ((Bool.false, ()), ())))
       else
        (some ((Bool.false, ()), ())))
      else
       (some ((Bool.false, ()), ()))))) (fun b4 =>
     (Empty.elim b4)) y3))))) (fun b1 =>
   (Empty.elim b1)) y0)))
theorem resample_Valid.eq (l0 : resample_Valid.s0.X → Option (sumX resample_Valid.x0)) (l1 : resample_Valid.s1.X → Option (sumX resample_Valid.x1)) (x : (((Int × Int × Int × Int × Int × Unit) × Unit) × (Unit))) : (bodyO (resample_Valid.E l0 l1) (mk resample_Valid.hs resample_Valid.c []) Go.Proofs.Try.f17.results.toList resample_Valid.sh resample_Valid.osh x).run _ some = resample_Valid.f l0 l1 x.1.1.1 x.1.1.2.1 x.1.1.2.2.1 x.1.1.2.2.2.1 x.1.1.2.2.2.2.1 := by
  show _ = (_ : Option _)
  kernel_rfl
noncomputable def resample_Valid (g_From : Int) (g_Step : Int) (g_Count : Int) (g_Rule : Int) (g_Reach : Int) : Option ((Bool × Unit) × (Unit)) := resample_Valid.f resample_Valid.L0 resample_Valid.L1 g_From g_Step g_Count g_Rule g_Reach
noncomputable def resample_Valid.F (x : (((Int × Int × Int × Int × Int × Unit) × Unit) × (Unit))) : Option ((Bool × Unit) × (Unit)) := resample_Valid x.1.1.1 x.1.1.2.1 x.1.1.2.2.1 x.1.1.2.2.2.1 x.1.1.2.2.2.2.1
theorem resample_Valid.L0_eq (o0_0 : Int) (o0_1 : Int) (o0_2 : Int) (o0_3 : Int) (o0_4 : Int) : resample_Valid.L0 (((), ()), ((o0_0, o0_1, o0_2, o0_3, o0_4, ()), ())) = resample_Valid.f0 o0_0 o0_1 o0_2 o0_3 o0_4 := rfl
theorem resample_Valid.L1_eq (o0_0 : Int) (o0_1 : Int) (o0_2 : Int) (o0_3 : Int) (o0_4 : Int) : resample_Valid.L1 (((), ()), ((o0_0, o0_1, o0_2, o0_3, o0_4, ()), ())) = resample_Valid.f1 o0_0 o0_1 o0_2 o0_3 o0_4 := rfl
theorem resample_Valid.F_eq (g_From : Int) (g_Step : Int) (g_Count : Int) (g_Rule : Int) (g_Reach : Int) : resample_Valid.F (((g_From, g_Step, g_Count, g_Rule, g_Reach, ()), ()), ()) = resample_Valid.f resample_Valid.L0 resample_Valid.L1 g_From g_Step g_Count g_Rule g_Reach := rfl
theorem resample_Valid.ok : FOK Go.Proofs.Try.prog [] 17 (FE.of [true] false resample_Valid.sh resample_Valid.osh resample_Valid.F) := by
  refine fn_keeps (E := (resample_Valid.E resample_Valid.L0 resample_Valid.L1)) (c := resample_Valid.c) (fn := Go.Proofs.Try.f17) (hs := resample_Valid.hs) (by kernel_rfl) Go.Proofs.Try.func17 ⟨by kernel_rfl, by kernel_rfl, tb, by kernel_rfl, by kernel_rfl, by kernel_rfl, by kernel_rfl, by kernel_rfl⟩ (fun g fe h => ?_) ?_ (fun x => resample_Valid.eq resample_Valid.L0 resample_Valid.L1 x)
  · cases h
  · refine known_at 2 (by kernel_rfl) fun i hi => ?_
    match i, hi with
    | 0, _ => exact atom_at (id := 0) (live := [1]) (outs := [(0, [1, 30])]) (loop := false) (by kernel_rfl) (cut_ok (E := (resample_Valid.E resample_Valid.L0 resample_Valid.L1)) (sh := resample_Valid.s0) (es := resample_Valid.x0) rfl (fun L x => resample_Valid.eq0 resample_Valid.L0 resample_Valid.L1 L x))
    | 1, _ => exact atom_at (id := 1) (live := [1]) (outs := [(0, [1, 45])]) (loop := false) (by kernel_rfl) (cut_ok (E := (resample_Valid.E resample_Valid.L0 resample_Valid.L1)) (sh := resample_Valid.s1) (es := resample_Valid.x1) rfl (fun L x => resample_Valid.eq1 resample_Valid.L0 resample_Valid.L1 L x))
    | n + 2, h => exact absurd h (by omega)

/-! resample_check -/
def resample_check.f1 (l_0 : (List (Int × Int))) (v9 : (List (Int × Int))) (v10 : Int) (v11 : Int) (o0_0 : Int) (o0_1 : Int) : Option ((((List (Int × Int)) × (List (Int × Int)) × Int × Int × Bool × Unit) × (Unit)) ⊕ Empty) :=
  (bif (decide (o0_0 < (0:Int))) then
   (some (Sum.inl ((l_0, (v9, (v10, (v11, (Bool.true, ()))))), ())))
  else
   (bif (decide (o0_0 > (1099511627776:Int))) then
    (some (Sum.inl ((l_0, (v9, (v10, (v11, (Bool.true, ()))))), ())))
   else
    (bif (decide (o0_1 < (-(1000:Int)))) then
     (some (Sum.inl ((l_0, (v9, (v10, (v11, (Bool.true, ()))))), ())))
    else
     (some (Sum.inl ((l_0, (v9, (v10, (v11, ((decide (o0_1 > (1000:Int))), ()))))), ()))))))
theorem resample_check.eq1 (l0 : resample_check.s0.X → Option (sumX resample_check.x0)) (l1 : resample_check.s1.X → Option (sumX resample_check.x1)) (l2 : resample_check.s2.X → Option (sumX resample_check.x2)) (L : (((List (Int × Int)) × Unit × (List (Int × Int)) × Int × Int × Unit) × ((Int × Int × Unit) × Unit)) → Option ((((List (Int × Int)) × (List (Int × Int)) × Int × Int × Bool × Unit) × (Unit)) ⊕ Empty)) (x : (((List (Int × Int)) × Unit × (List (Int × Int)) × Int × Int × Unit) × ((Int × Int × Unit) × Unit))) : (roundK (resample_check.E l0 l1 l2) resample_check.s1 [0, 4, 9, 10, 11] [(0, [0, 9, 10, 11, 32])] false (((mk resample_check.hs resample_check.c []).atoms.getD 1 .bad).body) resample_check.x1 L x).run _ some = resample_check.f1 x.1.1 x.1.2.2.1 x.1.2.2.2.1 x.1.2.2.2.2.1 x.2.1.1 x.2.1.2.1 := by
  show _ = (_ : Option _)
  kernel_rfl
noncomputable def resample_check.L1 : (((List (Int × Int)) × Unit × (List (Int × Int)) × Int × Int × Unit) × ((Int × Int × Unit) × Unit)) → Option ((((List (Int × Int)) × (List (Int × Int)) × Int × Int × Bool × Unit) × (Unit)) ⊕ Empty) := fun x => resample_check.f1 x.1.1 x.1.2.2.1 x.1.2.2.2.1 x.1.2.2.2.2.1 x.2.1.1 x.2.1.2.1
def resample_check.f0 (l1 : (((List (Int × Int)) × Unit × (List (Int × Int)) × Int × Int × Unit) × ((Int × Int × Unit) × Unit)) → Option ((((List (Int × Int)) × (List (Int × Int)) × Int × Int × Bool × Unit) × (Unit)) ⊕ Empty)) (L : (((List (Int × Int)) × (List (Int × Int)) × Int × Int × Unit) × (Unit)) → Option ((((List (Int × Int)) × Unit) × (Unit)) ⊕ ((Int × Unit) × (Unit)) ⊕ Empty)) (l_0 : (List (Int × Int))) (v9 : (List (Int × Int))) (v10 : Int) (v11 : Int) : Option ((((List (Int × Int)) × Unit) × (Unit)) ⊕ ((Int × Unit) × (Unit)) ⊕ Empty) :=
  (bif (decide (v11 < v10)) then
   (bif (decide ((0:Int) ≤ v11)) then
    (bif (decide (v11 < (((List.length v9) : Nat) : Int))) then
     (Option.bind (l1 ((l_0, ((), (v9, (v10, (v11, ()))))), (((List.getD v9 (Int.toNat v11) ((0:Int), (0:Int))).1, ((List.getD v9 (Int.toNat v11) ((0:Int), (0:Int))).2, ())), ()))) (fun y3 =>
     (Sum.elim (fun a4 =>
      (bif a4.1.2.2.2.2.1 then
       (some (Sum.inr (Sum.inl (((1:Int), ()), ()))))
      else
       (Option.bind (L ((a4.1.1, (a4.1.2.1, (a4.1.2.2.1, ((Go.IntKind.wrap Go.IntKind.i64 (a4.1.2.2.2.1 + (1:Int))), ())))), ())) (fun y6 =>
       (some y6))))) (fun b4 =>
      (Empty.elim b4)) y3)))
    else
     none)
   else
    none)
  else
   (some (Sum.inl ((l_0, ()), ()))))
theorem resample_check.eq0 (l0 : resample_check.s0.X → Option (sumX resample_check.x0)) (l1 : resample_check.s1.X → Option (sumX resample_check.x1)) (l2 : resample_check.s2.X → Option (sumX resample_check.x2)) (L : (((List (Int × Int)) × (List (Int × Int)) × Int × Int × Unit) × (Unit)) → Option ((((List (Int × Int)) × Unit) × (Unit)) ⊕ ((Int × Unit) × (Unit)) ⊕ Empty)) (x : (((List (Int × Int)) × (List (Int × Int)) × Int × Int × Unit) × (Unit))) : (roundK (resample_check.E l0 l1 l2) resample_check.s0 [0, 9, 10, 11] [(2, [0]), (1, [2])] true (((mk resample_check.hs resample_check.c []).atoms.getD 0 .bad).body) resample_check.x0 L x).run _ some = resample_check.f0 l1 L x.1.1 x.1.2.1 x.1.2.2.1 x.1.2.2.2.1 := by
  show _ = (_ : Option _)
  kernel_rfl
noncomputable def resample_check.L0 : (((List (Int × Int)) × (List (Int × Int)) × Int × Int × Unit) × (Unit)) → Option ((((List (Int × Int)) × Unit) × (Unit)) ⊕ ((Int × Unit) × (Unit)) ⊕ Empty) := loop fun L x => resample_check.f0 resample_check.L1 L x.1.1 x.1.2.1 x.1.2.2.1 x.1.2.2.2.1
def resample_check.f2 (L : (((List (Int × Int)) × Int × Int × Unit) × (Unit)) → Option (((Unit) × (Unit)) ⊕ ((Int × Unit) × (Unit)) ⊕ Empty)) (l_0 : (List (Int × Int))) (v36 : Int) (v37 : Int) : Option (((Unit) × (Unit)) ⊕ ((Int × Unit) × (Unit)) ⊕ Empty) :=
  (bif (decide (v37 < v36)) then
   (bif (decide ((0:Int) ≤ v37)) then
    (bif (decide (v37 < (((List.length l_0) : Nat) : Int))) then
     (bif (decide ((0:Int) ≤ (Go.IntKind.wrap Go.IntKind.i64 (v37 + (1:Int))))) then
      (bif (decide ((Go.IntKind.wrap Go.IntKind.i64 (v37 + (1:Int))) < (((List.length l_0) : Nat) : Int))) then
       (bif (decide ((List.getD l_0 (Int.toNat v37) ((0:Int), (0:Int))).1 ≥ (List.getD l_0 (Int.toNat (Go.IntKind.wrap Go.IntKind.i64 (v37 + (1:Int)))) ((0:Int), (0:Int))).1)) then
        (some (Sum.inr (Sum.inl (((6:Int), ()), ()))))
       else
        (Option.bind (L ((l_0, (v36, ((Go.IntKind.wrap Go.IntKind.i64 (v37 + (1:Int))), ()))), ())) (fun y6 =>
        (some y6))))
      else
       none)
     else
      none)
    else
     none)
   else
    none)
  else
   (some (Sum.inl ((), ()))))
theorem resample_check.eq2 (l0 : resample_check.s0.X → Option (sumX resample_check.x0)) (l1 : resample_check.s1.X → Option (sumX resample_check.x1)) (l2 : resample_check.s2.X → Option (sumX resample_check.x2)) (L : (((List (Int × Int)) × Int × Int × Unit) × (Unit)) → Option (((Unit) × (Unit)) ⊕ ((Int × Unit) × (Unit)) ⊕ Empty)) (x : (((List (Int × Int)) × Int × Int × Unit) × (Unit))) : (roundK (resample_check.E l0 l1 l2) resample_check.s2 [0, 36, 37] [(4, []), (1, [2])] true (((mk resample_check.hs resample_check.c []).atoms.getD 2 .bad).body) resample_check.x2 L x).run _ some = resample_check.f2 L x.1.1 x.1.2.1 x.1.2.2.1 := by
  show _ = (_ : Option _)
  kernel_rfl
noncomputable def resample_check.L2 : (((List (Int × Int)) × Int × Int × Unit) × (Unit)) → Option (((Unit) × (Unit)) ⊕ ((Int × Unit) × (Unit)) ⊕ Empty) := loop fun L x => resample_check.f2 L x.1.1 x.1.2.1 x.1.2.2.1
def resample_check.f (l0 : (((List (Int × Int)) × (List (Int × Int)) × Int × Int × Unit) × (Unit)) → Option ((((List (Int × Int)) × Unit) × (Unit)) ⊕ ((Int × Unit) × (Unit)) ⊕ Empty)) (l2 : (((List (Int × Int)) × Int × Int × Unit) × (Unit)) → Option (((Unit) × (Unit)) ⊕ ((Int × Unit) × (Unit)) ⊕ Empty)) (l : (List (Int × Int))) : Option ((Int × Unit) × (Unit)) :=
  (bif (decide ((((List.length l) : Nat) : Int) > (2000:Int))) then
   (some (((4:Int), ()), ()))
  else
   (Option.bind (l0 ((l, (l, ((((List.length l) : Nat) : Int), ((0:Int), ())))), ())) (fun y1 =>
   (Sum.elim (fun a2 =>
    (Option.bind (l2 ((a2.1.1, ((Go.IntKind.wrap Go.IntKind.i64 ((((List.length a2.1.1) : Nat) : Int) - (1:Int))), ((0:Int), ()))), ())) (fun y3 =>
    (Sum.elim (fun a4 =>
     (some (((0:Int), ()), ()))) (fun b4 =>
     (Sum.elim (fun a5 =>
      (some ((a5.1.1, ()), ()))) (fun b5 =>
      (Empty.elim b5)) b4)) y3)))) (fun b2 =>
    (Sum.elim (fun a3 =>
     (some ((a3.1.1, ()), ()))) (fun b3 =>
     (Empty.elim b3)) b2)) y1))))
theorem resample_check.eq (l0 : resample_check.s0.X → Option (sumX resample_check.x0)) (l1 : resample_check.s1.X → Option (sumX resample_check.x1)) (l2 : resample_check.s2.X → Option (sumX resample_check.x2)) (x : (((List (Int × Int)) × Unit) × (Unit))) : (bodyO (resample_check.E l0 l1 l2) (mk resample_check.hs resample_check.c []) Go.Proofs.Try.f28.results.toList resample_check.sh resample_check.osh x).run _ some = resample_check.f l0 l2 x.1.1 := by
  show _ = (_ : Option _)
  kernel_rfl
noncomputable def resample_check (l : (List (Int × Int))) : Option ((Int × Unit) × (Unit)) := resample_check.f resample_check.L0 resample_check.L2 l
noncomputable def resample_check.F (x : (((List (Int × Int)) × Unit) × (Unit))) : Option ((Int × Unit) × (Unit)) := resample_check x.1.1
theorem resample_check.L0_eq (l_0 : (List (Int × Int))) (v9 : (List (Int × Int))) (v10 : Int) (v11 : Int) : resample_check.L0 ((l_0, v9, v10, v11, ()), ()) = resample_check.f0 resample_check.L1 resample_check.L0 l_0 v9 v10 v11 :=
  loop_eq (E := (resample_check.E resample_check.L0 resample_check.L1 resample_check.L2)) (sh := resample_check.s0) (es := resample_check.x0) (lp := true) (H := fun L x => resample_check.eq0 resample_check.L0 resample_check.L1 resample_check.L2 L x) ((l_0, v9, v10, v11, ()), ())
theorem resample_check.L1_eq (l_0 : (List (Int × Int))) (v9 : (List (Int × Int))) (v10 : Int) (v11 : Int) (o0_0 : Int) (o0_1 : Int) : resample_check.L1 ((l_0, (), v9, v10, v11, ()), ((o0_0, o0_1, ()), ())) = resample_check.f1 l_0 v9 v10 v11 o0_0 o0_1 := rfl
theorem resample_check.L2_eq (l_0 : (List (Int × Int))) (v36 : Int) (v37 : Int) : resample_check.L2 ((l_0, v36, v37, ()), ()) = resample_check.f2 resample_check.L2 l_0 v36 v37 :=
  loop_eq (E := (resample_check.E resample_check.L0 resample_check.L1 resample_check.L2)) (sh := resample_check.s2) (es := resample_check.x2) (lp := true) (H := fun L x => resample_check.eq2 resample_check.L0 resample_check.L1 resample_check.L2 L x) ((l_0, v36, v37, ()), ())
theorem resample_check.F_eq (l : (List (Int × Int))) : resample_check.F ((l, ()), ()) = resample_check.f resample_check.L0 resample_check.L2 l := rfl
theorem resample_check.ok : FOK Go.Proofs.Try.prog [] 28 (FE.of [true] false resample_check.sh resample_check.osh resample_check.F) := by
  refine fn_keeps (E := (resample_check.E resample_check.L0 resample_check.L1 resample_check.L2)) (c := resample_check.c) (fn := Go.Proofs.Try.f28) (hs := resample_check.hs) (by kernel_rfl) Go.Proofs.Try.func28 ⟨by kernel_rfl, by kernel_rfl, tb, by kernel_rfl, by kernel_rfl, by kernel_rfl, by kernel_rfl, by kernel_rfl⟩ (fun g fe h => ?_) ?_ (fun x => resample_check.eq resample_check.L0 resample_check.L1 resample_check.L2 x)
  · cases h
  · refine known_at 3 (by kernel_rfl) fun i hi => ?_
    match i, hi with
    | 0, _ => exact atom_at (id := 0) (live := [0, 9, 10, 11]) (outs := [(2, [0]), (1, [2])]) (loop := true) (by kernel_rfl) (loop_ok (E := (resample_check.E resample_check.L0 resample_check.L1 resample_check.L2)) (sh := resample_check.s0) (es := resample_check.x0) rfl (fun L x => resample_check.eq0 resample_check.L0 resample_check.L1 resample_check.L2 L x))
    | 1, _ => exact atom_at (id := 1) (live := [0, 4, 9, 10, 11]) (outs := [(0, [0, 9, 10, 11, 32])]) (loop := false) (by kernel_rfl) (cut_ok (E := (resample_check.E resample_check.L0 resample_check.L1 resample_check.L2)) (sh := resample_check.s1) (es := resample_check.x1) rfl (fun L x => resample_check.eq1 resample_check.L0 resample_check.L1 resample_check.L2 L x))
    | 2, _ => exact atom_at (id := 2) (live := [0, 36, 37]) (outs := [(4, []), (1, [2])]) (loop := true) (by kernel_rfl) (loop_ok (E := (resample_check.E resample_check.L0 resample_check.L1 resample_check.L2)) (sh := resample_check.s2) (es := resample_check.x2) rfl (fun L x => resample_check.eq2 resample_check.L0 resample_check.L1 resample_check.L2 L x))
    | n + 3, h => exact absurd h (by omega)

/-! cmp_isNaN -/
def cmp_isNaN.f (x_ : Int) : Option ((Bool × Unit) × (Unit)) :=
  (some (((x_ != x_), ()), ()))
theorem cmp_isNaN.eq (x : ((Int × Unit) × (Unit))) : (bodyO (cmp_isNaN.E) (mk cmp_isNaN.hs cmp_isNaN.c []) Go.Proofs.Try.f42.results.toList cmp_isNaN.sh cmp_isNaN.osh x).run _ some = cmp_isNaN.f x.1.1 := by
  show _ = (_ : Option _)
  kernel_rfl
noncomputable def cmp_isNaN (x_ : Int) : Option ((Bool × Unit) × (Unit)) := cmp_isNaN.f x_
noncomputable def cmp_isNaN.F (x : ((Int × Unit) × (Unit))) : Option ((Bool × Unit) × (Unit)) := cmp_isNaN x.1.1
theorem cmp_isNaN.F_eq (x_ : Int) : cmp_isNaN.F ((x_, ()), ()) = cmp_isNaN.f x_ := rfl
theorem cmp_isNaN.ok : FOK Go.Proofs.Try.prog [] 42 (FE.of [true] false cmp_isNaN.sh cmp_isNaN.osh cmp_isNaN.F) := by
  refine fn_keeps (E := (cmp_isNaN.E)) (c := cmp_isNaN.c) (fn := Go.Proofs.Try.f42) (hs := cmp_isNaN.hs) (by kernel_rfl) Go.Proofs.Try.func42 ⟨by kernel_rfl, by kernel_rfl, tb, by kernel_rfl, by kernel_rfl, by kernel_rfl, by kernel_rfl, by kernel_rfl⟩ (fun g fe h => ?_) ?_ (fun x => cmp_isNaN.eq x)
  · cases h
  · exact known_at 0 (by kernel_rfl) fun i hi => absurd hi (Nat.not_lt_zero i)

/-! cmp_Compare -/
def cmp_Compare.f (g_cmp_isNaN : ((Int × Unit) × (Unit)) → Option ((Bool × Unit) × (Unit))) (x_ : Int) (y : Int) : Option ((Int × Unit) × (Unit)) :=
  (Option.bind (g_cmp_isNaN ((x_, ()), ())) (fun y0 =>
  (Option.bind (g_cmp_isNaN ((y, ()), ())) (fun y1 =>
  (bif y0.1.1 then
   (bif y1.1.1 then
    (some (((0:Int), ()), ()))
   else
    (some (((-(1:Int)), ()), ())))
  else
   (bif y1.1.1 then
    (some (((1:Int), ()), ()))
   else
    (bif (decide (x_ < y)) then
     (some (((-(1:Int)), ()), ()))
    else
     (bif (decide (x_ > y)) then
      (some (((1:Int), ()), ()))
     else
      (some (((0:Int), ()), ()))))))))))
theorem cmp_Compare.eq (g_cmp_isNaN : cmp_isNaN.sh.X → Option cmp_isNaN.osh.X) (x : ((Int × Int × Unit) × (Unit))) : (bodyO (cmp_Compare.E g_cmp_isNaN) (mk cmp_Compare.hs cmp_Compare.c []) Go.Proofs.Try.f39.results.toList cmp_Compare.sh cmp_Compare.osh x).run _ some = cmp_Compare.f g_cmp_isNaN x.1.1 x.1.2.1 := by
  show _ = (_ : Option _)
  kernel_rfl
noncomputable def cmp_Compare (x_ : Int) (y : Int) : Option ((Int × Unit) × (Unit)) := cmp_Compare.f cmp_isNaN.F x_ y
noncomputable def cmp_Compare.F (x : ((Int × Int × Unit) × (Unit))) : Option ((Int × Unit) × (Unit)) := cmp_Compare x.1.1 x.1.2.1
theorem cmp_Compare.F_eq (x_ : Int) (y : Int) : cmp_Compare.F ((x_, y, ()), ()) = cmp_Compare.f cmp_isNaN.F x_ y := rfl
theorem cmp_Compare.ok : FOK Go.Proofs.Try.prog [] 39 (FE.of [true, true] false cmp_Compare.sh cmp_Compare.osh cmp_Compare.F) := by
  refine fn_keeps (E := (cmp_Compare.E cmp_isNaN.F)) (c := cmp_Compare.c) (fn := Go.Proofs.Try.f39) (hs := cmp_Compare.hs) (by kernel_rfl) Go.Proofs.Try.func39 ⟨by kernel_rfl, by kernel_rfl, tb, by kernel_rfl, by kernel_rfl, by kernel_rfl, by kernel_rfl, by kernel_rfl⟩ (fun g fe h => ?_) ?_ (fun x => cmp_Compare.eq cmp_isNaN.F x)
  · rcases c_cons h with ⟨rfl, rfl⟩ | h
    · exact cmp_isNaN.ok
    cases h
  · exact known_at 0 (by kernel_rfl) fun i hi => absurd hi (Nat.not_lt_zero i)

/-! resample_neighbours_1 -/
def resample_neighbours_1.f (g_cmp_Compare : ((Int × Int × Unit) × (Unit)) → Option ((Int × Unit) × (Unit))) (r_Time : Int) (r_Value : Int) (t : Int) : Option ((Int × Unit) × (Unit)) :=
  (Option.bind (g_cmp_Compare ((r_Time, (t, ())), ())) (fun y0 =>
  (some ((y0.1.1, ()), ()))))
theorem resample_neighbours_1.eq (g_cmp_Compare : cmp_Compare.sh.X → Option cmp_Compare.osh.X) (x : (((Int × Int × Unit) × Int × Unit) × (Unit))) : (bodyO (resample_neighbours_1.E g_cmp_Compare) (mk resample_neighbours_1.hs resample_neighbours_1.c []) Go.Proofs.Try.f38.results.toList resample_neighbours_1.sh resample_neighbours_1.osh x).run _ some = resample_neighbours_1.f g_cmp_Compare x.1.1.1 x.1.1.2.1 x.1.2.1 := by
  show _ = (_ : Option _)
  kernel_rfl
noncomputable def resample_neighbours_1 (r_Time : Int) (r_Value : Int) (t : Int) : Option ((Int × Unit) × (Unit)) := resample_neighbours_1.f cmp_Compare.F r_Time r_Value t
noncomputable def resample_neighbours_1.F (x : (((Int × Int × Unit) × Int × Unit) × (Unit))) : Option ((Int × Unit) × (Unit)) := resample_neighbours_1 x.1.1.1 x.1.1.2.1 x.1.2.1
theorem resample_neighbours_1.F_eq (r_Time : Int) (r_Value : Int) (t : Int) : resample_neighbours_1.F (((r_Time, r_Value, ()), t, ()), ()) = resample_neighbours_1.f cmp_Compare.F r_Time r_Value t := rfl
theorem resample_neighbours_1.ok : FOK Go.Proofs.Try.prog [] 38 (FE.of [true, true] false resample_neighbours_1.sh resample_neighbours_1.osh resample_neighbours_1.F) := by
  refine fn_keeps (E := (resample_neighbours_1.E cmp_Compare.F)) (c := resample_neighbours_1.c) (fn := Go.Proofs.Try.f38) (hs := resample_neighbours_1.hs) (by kernel_rfl) Go.Proofs.Try.func38 ⟨by kernel_rfl, by kernel_rfl, tb, by kernel_rfl, by kernel_rfl, by kernel_rfl, by kernel_rfl, by kernel_rfl⟩ (fun g fe h => ?_) ?_ (fun x => resample_neighbours_1.eq cmp_Compare.F x)
  · rcases c_cons h with ⟨rfl, rfl⟩ | h
    · exact cmp_Compare.ok
    cases h
  · exact known_at 0 (by kernel_rfl) fun i hi => absurd hi (Nat.not_lt_zero i)

/-! slices_BinarySearchFunc -/
def slices_BinarySearchFunc.f0 (g_resample_neighbours_1 : (((Int × Int × Unit) × Int × Unit) × (Unit)) → Option ((Int × Unit) × (Unit))) (L : (((List (Int × Int)) × Int × Unit × Int × Int × Int × Unit) × (Unit)) → Option ((((List (Int × Int)) × Int × Unit × Int × Int × Unit) × (Unit)) ⊕ Empty)) (x_0 : (List (Int × Int))) (target_1 : Int) (n_8 : Int) (i_9 : Int) (j_10 : Int) : Option ((((List (Int × Int)) × Int × Unit × Int × Int × Unit) × (Unit)) ⊕ Empty) :=
  (bif (decide (i_9 < j_10)) then
   (bif (decide ((0:Int) ≤ (Go.IntKind.wrap Go.IntKind.i64 (Int.fdiv (Go.IntKind.wrap Go.IntKind.u64 (Go.IntKind.wrap Go.IntKind.i64 (i_9 + j_10))) ((2:Int) ^ (Min.min (Int.toNat (1:Int)) (64:Nat))))))) then
    (bif (decide ((Go.IntKind.wrap Go.IntKind.i64 (Int.fdiv (Go.IntKind.wrap Go.IntKind.u64 (Go.IntKind.wrap Go.IntKind.i64 (i_9 + j_10))) ((2:Int) ^ (Min.min (Int.toNat (1:Int)) (64:Nat))))) < (((List.length x_0) : Nat) : Int))) then
     (Option.bind (g_resample_neighbours_1 ((((List.getD x_0 (Int.toNat (Go.IntKind.wrap Go.IntKind.i64 (Int.fdiv (Go.IntKind.wrap Go.IntKind.u64 (Go.IntKind.wrap Go.IntKind.i64 (i_9 + j_10))) ((2:Int) ^ (Min.min (Int.toNat (1:Int)) (64:Nat)))))) ((0:Int), (0:Int))).1, ((List.getD x_0 (Int.toNat (Go.IntKind.wrap Go.IntKind.i64 (Int.fdiv (Go.IntKind.wrap Go.IntKind.u64 (Go.IntKind.wrap Go.IntKind.i64 (i_9 + j_10))) ((2:Int) ^ (Min.min (Int.toNat (1:Int)) (64:Nat)))))) ((0:Int), (0:Int))).2, ())), (target_1, ())), ())) (fun y3 =>
     (bif (decide (y3.1.1 < (0:Int))) then
      (Option.bind (L ((x_0, (target_1, ((), (n_8, ((Go.IntKind.wrap Go.IntKind.i64 ((Go.IntKind.wrap Go.IntKind.i64 (Int.fdiv (Go.IntKind.wrap Go.IntKind.u64 (Go.IntKind.wrap Go.IntKind.i64 (i_9 + j_10))) ((2:Int) ^ (Min.min (Int.toNat (1:Int)) (64:Nat))))) + (1:Int))), (j_10, ())))))), ())) (fun y5 =>
      (some y5)))
     else
      (Option.bind (L ((x_0, (target_1, ((), (n_8, (i_9, ((Go.IntKind.wrap Go.IntKind.i64 (Int.fdiv (Go.IntKind.wrap Go.IntKind.u64 (Go.IntKind.wrap Go.IntKind.i64 (i_9 + j_10))) ((2:Int) ^ (Min.min (Int.toNat (1:Int)) (64:Nat))))), ())))))), ())) (fun y5 =>
      (some y5))))))
    else
     none)
   else
    none)
  else
   (some (Sum.inl ((x_0, (target_1, ((), (n_8, (i_9, ()))))), ()))))
theorem slices_BinarySearchFunc.eq0 (g_resample_neighbours_1 : resample_neighbours_1.sh.X → Option resample_neighbours_1.osh.X) (l0 : slices_BinarySearchFunc.s0.X → Option (sumX slices_BinarySearchFunc.x0)) (L : (((List (Int × Int)) × Int × Unit × Int × Int × Int × Unit) × (Unit)) → Option ((((List (Int × Int)) × Int × Unit × Int × Int × Unit) × (Unit)) ⊕ Empty)) (x : (((List (Int × Int)) × Int × Unit × Int × Int × Int × Unit) × (Unit))) : (roundK (slices_BinarySearchFunc.E g_resample_neighbours_1 l0) slices_BinarySearchFunc.s0 [0, 1, 2, 8, 9, 10] [(2, [0, 1, 2, 8, 9])] true (((mk slices_BinarySearchFunc.hs slices_BinarySearchFunc.c []).atoms.getD 0 .bad).body) slices_BinarySearchFunc.x0 L x).run _ some = slices_BinarySearchFunc.f0 g_resample_neighbours_1 L x.1.1 x.1.2.1 x.1.2.2.2.1 x.1.2.2.2.2.1 x.1.2.2.2.2.2.1 := by
  show _ = (_ : Option _)
  kernel_rfl
noncomputable def slices_BinarySearchFunc.L0 : (((List (Int × Int)) × Int × Unit × Int × Int × Int × Unit) × (Unit)) → Option ((((List (Int × Int)) × Int × Unit × Int × Int × Unit) × (Unit)) ⊕ Empty) := loop fun L x => slices_BinarySearchFunc.f0 resample_neighbours_1.F L x.1.1 x.1.2.1 x.1.2.2.2.1 x.1.2.2.2.2.1 x.1.2.2.2.2.2.1
def slices_BinarySearchFunc.f (g_resample_neighbours_1 : (((Int × Int × Unit) × Int × Unit) × (Unit)) → Option ((Int × Unit) × (Unit))) (l0 : (((List (Int × Int)) × Int × Unit × Int × Int × Int × Unit) × (Unit)) → Option ((((List (Int × Int)) × Int × Unit × Int × Int × Unit) × (Unit)) ⊕ Empty)) (x_ : (List (Int × Int))) (target : Int) : Option ((Int × Bool × Unit) × (Unit)) :=
  (Option.bind (l0 ((x_, (target, ((), ((((List.length x_) : Nat) : Int), ((0:Int), ((((List.length x_) : Nat) : Int), ())))))), ())) (fun y0 =>
  (Sum.elim (fun a1 =>
   (bif (decide (a1.1.2.2.2.2.1 < a1.1.2.2.2.1)) then
    (bif (decide ((0:Int) ≤ a1.1.2.2.2.2.1)) then
     (bif (decide (a1.1.2.2.2.2.1 < (((List.length a1.1.1) : Nat) : Int))) then
      (Option.bind (g_resample_neighbours_1 ((((List.getD a1.1.1 (Int.toNat a1.1.2.2.2.2.1) ((0:Int), (0:Int))).1, ((List.getD a1.1.1 (Int.toNat a1.1.2.2.2.2.1) ((0:Int), (0:Int))).2, ())), (a1.1.2.1, ())), ())) (fun y5 =>
      (some ((a1.1.2.2.2.2.1, ((y5.1.1 == (0:Int)), ())), ()))))
     else
      none)
    else
     none)
   else
    (some ((a1.1.2.2.2.2.1, (Bool.false, ())), ())))) (fun b1 =>
   (Empty.elim b1)) y0)))
theorem slices_BinarySearchFunc.eq (g_resample_neighbours_1 : resample_neighbours_1.sh.X → Option resample_neighbours_1.osh.X) (l0 : slices_BinarySearchFunc.s0.X → Option (sumX slices_BinarySearchFunc.x0)) (x : (((List (Int × Int)) × Int × Unit × Unit) × (Unit))) : (bodyO (slices_BinarySearchFunc.E g_resample_neighbours_1 l0) (mk slices_BinarySearchFunc.hs slices_BinarySearchFunc.c []) Go.Proofs.Try.f37.results.toList slices_BinarySearchFunc.sh slices_BinarySearchFunc.osh x).run _ some = slices_BinarySearchFunc.f g_resample_neighbours_1 l0 x.1.1 x.1.2.1 := by
  show _ = (_ : Option _)
  kernel_rfl
noncomputable def slices_BinarySearchFunc (x_ : (List (Int × Int))) (target : Int) : Option ((Int × Bool × Unit) × (Unit)) := slices_BinarySearchFunc.f resample_neighbours_1.F slices_BinarySearchFunc.L0 x_ target
noncomputable def slices_BinarySearchFunc.F (x : (((List (Int × Int)) × Int × Unit × Unit) × (Unit))) : Option ((Int × Bool × Unit) × (Unit)) := slices_BinarySearchFunc x.1.1 x.1.2.1
theorem slices_BinarySearchFunc.L0_eq (x_0 : (List (Int × Int))) (target_1 : Int) (n_8 : Int) (i_9 : Int) (j_10 : Int) : slices_BinarySearchFunc.L0 ((x_0, target_1, (), n_8, i_9, j_10, ()), ()) = slices_BinarySearchFunc.f0 resample_neighbours_1.F slices_BinarySearchFunc.L0 x_0 target_1 n_8 i_9 j_10 :=
  loop_eq (E := (slices_BinarySearchFunc.E resample_neighbours_1.F slices_BinarySearchFunc.L0)) (sh := slices_BinarySearchFunc.s0) (es := slices_BinarySearchFunc.x0) (lp := true) (H := fun L x => slices_BinarySearchFunc.eq0 resample_neighbours_1.F slices_BinarySearchFunc.L0 L x) ((x_0, target_1, (), n_8, i_9, j_10, ()), ())
theorem slices_BinarySearchFunc.F_eq (x_ : (List (Int × Int))) (target : Int) : slices_BinarySearchFunc.F ((x_, target, (), ()), ()) = slices_BinarySearchFunc.f resample_neighbours_1.F slices_BinarySearchFunc.L0 x_ target := rfl
theorem slices_BinarySearchFunc.ok : FOK Go.Proofs.Try.prog [] 37 (FE.of [true, true, true] false slices_BinarySearchFunc.sh slices_BinarySearchFunc.osh slices_BinarySearchFunc.F) := by
  refine fn_keeps (E := (slices_BinarySearchFunc.E resample_neighbours_1.F slices_BinarySearchFunc.L0)) (c := slices_BinarySearchFunc.c) (fn := Go.Proofs.Try.f37) (hs := slices_BinarySearchFunc.hs) (by kernel_rfl) Go.Proofs.Try.func37 ⟨by kernel_rfl, by kernel_rfl, tb, by kernel_rfl, by kernel_rfl, by kernel_rfl, by kernel_rfl, by kernel_rfl⟩ (fun g fe h => ?_) ?_ (fun x => slices_BinarySearchFunc.eq resample_neighbours_1.F slices_BinarySearchFunc.L0 x)
  · rcases c_cons h with ⟨rfl, rfl⟩ | h
    · exact resample_neighbours_1.ok
    cases h
  · refine known_at 1 (by kernel_rfl) fun i hi => ?_
    match i, hi with
    | 0, _ => exact atom_at (id := 0) (live := [0, 1, 2, 8, 9, 10]) (outs := [(2, [0, 1, 2, 8, 9])]) (loop := true) (by kernel_rfl) (loop_ok (E := (slices_BinarySearchFunc.E resample_neighbours_1.F slices_BinarySearchFunc.L0)) (sh := slices_BinarySearchFunc.s0) (es := slices_BinarySearchFunc.x0) rfl (fun L x => slices_BinarySearchFunc.eq0 resample_neighbours_1.F slices_BinarySearchFunc.L0 L x))
    | n + 1, h => exact absurd h (by omega)

/-! resample_neighbours -/
def resample_neighbours.f (g_slices_BinarySearchFunc : (((List (Int × Int)) × Int × Unit × Unit) × (Unit)) → Option ((Int × Bool × Unit) × (Unit))) (l : (List (Int × Int))) (time : Int) : Option ((Int × Int × Unit) × (Unit)) :=
  (Option.bind (g_slices_BinarySearchFunc ((l, (time, ((), ()))), ())) (fun y0 =>
  (bif y0.1.2.1 then
   (some ((y0.1.1, (y0.1.1, ())), ()))
  else
   (some (((Go.IntKind.wrap Go.IntKind.i64 (y0.1.1 - (1:Int))), (y0.1.1, ())), ())))))
theorem resample_neighbours.eq (g_slices_BinarySearchFunc : slices_BinarySearchFunc.sh.X → Option slices_BinarySearchFunc.osh.X) (x : (((List (Int × Int)) × Int × Unit) × (Unit))) : (bodyO (resample_neighbours.E g_slices_BinarySearchFunc) (mk resample_neighbours.hs resample_neighbours.c []) Go.Proofs.Try.f33.results.toList resample_neighbours.sh resample_neighbours.osh x).run _ some = resample_neighbours.f g_slices_BinarySearchFunc x.1.1 x.1.2.1 := by
  show _ = (_ : Option _)
  kernel_rfl
noncomputable def resample_neighbours (l : (List (Int × Int))) (time : Int) : Option ((Int × Int × Unit) × (Unit)) := resample_neighbours.f slices_BinarySearchFunc.F l time
noncomputable def resample_neighbours.F (x : (((List (Int × Int)) × Int × Unit) × (Unit))) : Option ((Int × Int × Unit) × (Unit)) := resample_neighbours x.1.1 x.1.2.1
theorem resample_neighbours.F_eq (l : (List (Int × Int))) (time : Int) : resample_neighbours.F ((l, time, ()), ()) = resample_neighbours.f slices_BinarySearchFunc.F l time := rfl
theorem resample_neighbours.ok : FOK Go.Proofs.Try.prog [] 33 (FE.of [true, true] false resample_neighbours.sh resample_neighbours.osh resample_neighbours.F) := by
  refine fn_keeps (E := (resample_neighbours.E slices_BinarySearchFunc.F)) (c := resample_neighbours.c) (fn := Go.Proofs.Try.f33) (hs := resample_neighbours.hs) (by kernel_rfl) Go.Proofs.Try.func33 ⟨by kernel_rfl, by kernel_rfl, tb, by kernel_rfl, by kernel_rfl, by kernel_rfl, by kernel_rfl, by kernel_rfl⟩ (fun g fe h => ?_) ?_ (fun x => resample_neighbours.eq slices_BinarySearchFunc.F x)
  · rcases c_cons h with ⟨rfl, rfl⟩ | h
    · exact slices_BinarySearchFunc.ok
    cases h
  · exact known_at 0 (by kernel_rfl) fun i hi => absurd hi (Nat.not_lt_zero i)
end Go.Proofs.Ytknkiogjibpooab.V
