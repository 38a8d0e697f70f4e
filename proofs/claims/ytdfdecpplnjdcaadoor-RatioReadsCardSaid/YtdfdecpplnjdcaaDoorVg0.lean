import Derived.Test.YtdfdecpplnjdcaaDoorVgEnv
import Derived.Test.YtdfdecpplnjdcaaDoorShelf
import Derived.Test.YtdfdecpplnjdcaaDoorHx6
set_option linter.unusedVariables false
set_option maxRecDepth 100000
namespace Go.Proofs.YtdfdecpplnjdcaaDoor.V
open Go.VI
/-! ratio_divisor -/
def ratio_divisor.f0 (L : ((Int × Int × Unit) × (Unit)) → Option (((Int × Unit) × (Unit)) ⊕ Empty)) (a_0 : Int) (b_1 : Int) : Option (((Int × Unit) × (Unit)) ⊕ Empty) :=
  (bif (b_1 != (0:Int)) then
   (bif (!(decide (b_1 = (0:Int)))) then
    (Option.bind (L ((b_1, ((Int.tmod a_0 b_1), ())), ())) (fun y2 =>
    (some y2)))
   else
    none)
  else
   (some (Sum.inl ((a_0, ()), ()))))
theorem ratio_divisor.eq0 (l0 : ratio_divisor.s0.X → Option (sumX ratio_divisor.x0)) (L : ((Int × Int × Unit) × (Unit)) → Option (((Int × Unit) × (Unit)) ⊕ Empty)) (x : ((Int × Int × Unit) × (Unit))) : (roundK (ratio_divisor.E l0) ratio_divisor.s0 [0, 1] [(2, [0])] true (((mk ratio_divisor.hs ratio_divisor.c []).atoms.getD 0 .bad).body) ratio_divisor.x0 L x).run _ some = ratio_divisor.f0 L x.1.1 x.1.2.1 := by
  show _ = (_ : Option _)
  kernel_rfl
noncomputable def ratio_divisor.L0 : ((Int × Int × Unit) × (Unit)) → Option (((Int × Unit) × (Unit)) ⊕ Empty) := loop fun L x => ratio_divisor.f0 L x.1.1 x.1.2.1
def ratio_divisor.f (l0 : ((Int × Int × Unit) × (Unit)) → Option (((Int × Unit) × (Unit)) ⊕ Empty)) (a : Int) (b : Int) : Option ((Int × Unit) × (Unit)) :=
  (Option.bind (l0 ((a, (b, ())), ())) (fun y0 =>
  (Sum.elim (fun a1 =>
   (some ((a1.1.1, ()), ()))) (fun b1 =>
   (Empty.elim b1)) y0)))
theorem ratio_divisor.eq (l0 : ratio_divisor.s0.X → Option (sumX ratio_divisor.x0)) (x : ((Int × Int × Unit) × (Unit))) : (bodyO (ratio_divisor.E l0) (mk ratio_divisor.hs ratio_divisor.c []) Go.Proofs.Tryd.f35.results.toList ratio_divisor.sh ratio_divisor.osh x).run _ some = ratio_divisor.f l0 x.1.1 x.1.2.1 := by
  show _ = (_ : Option _)
  kernel_rfl
noncomputable def ratio_divisor (a : Int) (b : Int) : Option ((Int × Unit) × (Unit)) := ratio_divisor.f ratio_divisor.L0 a b
noncomputable def ratio_divisor.F (x : ((Int × Int × Unit) × (Unit))) : Option ((Int × Unit) × (Unit)) := ratio_divisor x.1.1 x.1.2.1
theorem ratio_divisor.L0_eq (a_0 : Int) (b_1 : Int) : ratio_divisor.L0 ((a_0, b_1, ()), ()) = ratio_divisor.f0 ratio_divisor.L0 a_0 b_1 :=
  loop_eq (E := (ratio_divisor.E ratio_divisor.L0)) (sh := ratio_divisor.s0) (es := ratio_divisor.x0) (lp := true) (H := fun L x => ratio_divisor.eq0 ratio_divisor.L0 L x) ((a_0, b_1, ()), ())
theorem ratio_divisor.F_eq (a : Int) (b : Int) : ratio_divisor.F ((a, b, ()), ()) = ratio_divisor.f ratio_divisor.L0 a b := rfl
theorem ratio_divisor.ok {tabs : List (Nat × Go.Obj)} (ht : TabsOk tabs) : FOK Go.Proofs.Tryd.prog tabs 35 (FE.of [true, true] false ratio_divisor.sh ratio_divisor.osh ratio_divisor.F) := by
  refine fn_keeps (E := (ratio_divisor.E ratio_divisor.L0)) (c := ratio_divisor.c) (fn := Go.Proofs.Tryd.f35) (hs := ratio_divisor.hs) (by kernel_rfl) Go.Proofs.Tryd.func35 ⟨by kernel_rfl, by kernel_rfl, tb, by kernel_rfl, by kernel_rfl, by kernel_rfl, by kernel_rfl, by kernel_rfl⟩ ⟨fun g ks fe h => ?_, gt_ok ht⟩ ?_ (fun x => ratio_divisor.eq ratio_divisor.L0 x)
  · cases h
  · refine known_at 1 (by kernel_rfl) fun i hi => ?_
    match i, hi with
    | 0, _ => exact atom_at (id := 0) (live := [0, 1]) (outs := [(2, [0])]) (loop := true) (by kernel_rfl) (loop_ok (E := (ratio_divisor.E ratio_divisor.L0)) (sh := ratio_divisor.s0) (es := ratio_divisor.x0) rfl (fun L x => ratio_divisor.eq0 ratio_divisor.L0 L x))
    | n + 1, h => exact absurd h (by omega)

/-! ratio_within -/
def ratio_within.f (a_Num : Int) (a_Den : Int) : Option ((Bool × Unit) × (Unit)) :=
  (bif (decide (a_Num ≥ (0:Int))) then
   (bif (decide (a_Num ≤ (2305843009213693952:Int))) then
    (bif (decide (a_Den ≥ (1:Int))) then
     (some (((decide (a_Den ≤ (1152921504606846976:Int))), ()), ()))
    else
     (some ((Bool.false, ()), ())))
   else
    (some ((Bool.false, ()), ())))
  else
   (some ((Bool.false, ()), ())))
theorem ratio_within.eq (x : (((Int × Int × Unit) × Unit) × (Unit))) : (bodyO (ratio_within.E) (mk ratio_within.hs ratio_within.c []) Go.Proofs.Tryd.f36.results.toList ratio_within.sh ratio_within.osh x).run _ some = ratio_within.f x.1.1.1 x.1.1.2.1 := by
  show _ = (_ : Option _)
  kernel_rfl
noncomputable def ratio_within (a_Num : Int) (a_Den : Int) : Option ((Bool × Unit) × (Unit)) := ratio_within.f a_Num a_Den
noncomputable def ratio_within.F (x : (((Int × Int × Unit) × Unit) × (Unit))) : Option ((Bool × Unit) × (Unit)) := ratio_within x.1.1.1 x.1.1.2.1
theorem ratio_within.F_eq (a_Num : Int) (a_Den : Int) : ratio_within.F (((a_Num, a_Den, ()), ()), ()) = ratio_within.f a_Num a_Den := rfl
theorem ratio_within.ok {tabs : List (Nat × Go.Obj)} (ht : TabsOk tabs) : FOK Go.Proofs.Tryd.prog tabs 36 (FE.of [true] false ratio_within.sh ratio_within.osh ratio_within.F) := by
  refine fn_keeps (E := (ratio_within.E)) (c := ratio_within.c) (fn := Go.Proofs.Tryd.f36) (hs := ratio_within.hs) (by kernel_rfl) Go.Proofs.Tryd.func36 ⟨by kernel_rfl, by kernel_rfl, tb, by kernel_rfl, by kernel_rfl, by kernel_rfl, by kernel_rfl, by kernel_rfl⟩ ⟨fun g ks fe h => ?_, gt_ok ht⟩ ?_ (fun x => ratio_within.eq x)
  · cases h
  · exact known_at 0 (by kernel_rfl) fun i hi => absurd hi (Nat.not_lt_zero i)

/-! ratio_Make -/
def ratio_Make.f0 (num_0 : Int) (den_1 : Int) (o0_0 : Int) (o0_1 : Int) : Option (((Int × Int × Unit × Bool × Unit) × ((Int × Int × Unit) × Unit)) ⊕ Empty) :=
  (bif (decide (num_0 < (0:Int))) then
   (some (Sum.inl ((num_0, (den_1, ((), (Bool.true, ())))), ((o0_0, (o0_1, ())), ()))))
  else
   (some (Sum.inl ((num_0, (den_1, ((), ((decide (den_1 < (1:Int))), ())))), ((o0_0, (o0_1, ())), ())))))
theorem ratio_Make.eq0 (g_ratio_divisor : ratio_divisor.sh.X → Option ratio_divisor.osh.X) (g_ratio_within : ratio_within.sh.X → Option ratio_within.osh.X) (l0 : ratio_Make.s0.X → Option (sumX ratio_Make.x0)) (L : ((Int × Int × Unit × Unit) × ((Int × Int × Unit) × Unit)) → Option (((Int × Int × Unit × Bool × Unit) × ((Int × Int × Unit) × Unit)) ⊕ Empty)) (x : ((Int × Int × Unit × Unit) × ((Int × Int × Unit) × Unit))) : (roundK (ratio_Make.E g_ratio_divisor g_ratio_within l0) ratio_Make.s0 [0, 1, 4] [(0, [0, 1, 4, 13])] false (((mk ratio_Make.hs ratio_Make.c []).atoms.getD 0 .bad).body) ratio_Make.x0 L x).run _ some = ratio_Make.f0 x.1.1 x.1.2.1 x.2.1.1 x.2.1.2.1 := by
  show _ = (_ : Option _)
  kernel_rfl
noncomputable def ratio_Make.L0 : ((Int × Int × Unit × Unit) × ((Int × Int × Unit) × Unit)) → Option (((Int × Int × Unit × Bool × Unit) × ((Int × Int × Unit) × Unit)) ⊕ Empty) := fun x => ratio_Make.f0 x.1.1 x.1.2.1 x.2.1.1 x.2.1.2.1
def ratio_Make.f (g_ratio_divisor : ((Int × Int × Unit) × (Unit)) → Option ((Int × Unit) × (Unit))) (g_ratio_within : (((Int × Int × Unit) × Unit) × (Unit)) → Option ((Bool × Unit) × (Unit))) (l0 : ((Int × Int × Unit × Unit) × ((Int × Int × Unit) × Unit)) → Option (((Int × Int × Unit × Bool × Unit) × ((Int × Int × Unit) × Unit)) ⊕ Empty)) (num : Int) (den : Int) : Option (((Int × Int × Unit) × Int × Unit) × (Unit)) :=
  (Option.bind (l0 ((num, (den, ((), ()))), (((0:Int), ((0:Int), ())), ()))) (fun y0 =>
  (Sum.elim (fun a1 =>
   (bif a1.1.2.2.2.1 then
    (some ((((0:Int), ((0:Int), ())), ((1:Int), ())), ()))
   else
    (Option.bind (g_ratio_divisor ((a1.1.1, (a1.1.2.1, ())), ())) (fun y3 =>
    (bif (!(decide (y3.1.1 = (0:Int)))) then
     (bif (!(decide (y3.1.1 = (0:Int)))) then
      (Option.bind (g_ratio_within ((((Go.IntKind.wrap Go.IntKind.i64 (Int.tdiv a1.1.1 y3.1.1)), ((Go.IntKind.wrap Go.IntKind.i64 (Int.tdiv a1.1.2.1 y3.1.1)), ())), ()), ())) (fun y6 =>
      (bif (!y6.1.1) then
       (some ((((0:Int), ((0:Int), ())), ((1:Int), ())), ()))
      else
       (some ((((Go.IntKind.wrap Go.IntKind.i64 (Int.tdiv a1.1.1 y3.1.1)), ((Go.IntKind.wrap Go.IntKind.i64 (Int.tdiv a1.1.2.1 y3.1.1)), ())), ((0:Int), ())), ())))))
     else
      none)
    else
     none))))) (fun b1 =>
   (Empty.elim b1)) y0)))
theorem ratio_Make.eq (g_ratio_divisor : ratio_divisor.sh.X → Option ratio_divisor.osh.X) (g_ratio_within : ratio_within.sh.X → Option ratio_within.osh.X) (l0 : ratio_Make.s0.X → Option (sumX ratio_Make.x0)) (x : ((Int × Int × Unit) × (Unit))) : (bodyO (ratio_Make.E g_ratio_divisor g_ratio_within l0) (mk ratio_Make.hs ratio_Make.c []) Go.Proofs.Tryd.f11.results.toList ratio_Make.sh ratio_Make.osh x).run _ some = ratio_Make.f g_ratio_divisor g_ratio_within l0 x.1.1 x.1.2.1 := by
  show _ = (_ : Option _)
  kernel_rfl
noncomputable def ratio_Make (num : Int) (den : Int) : Option (((Int × Int × Unit) × Int × Unit) × (Unit)) := ratio_Make.f ratio_divisor.F ratio_within.F ratio_Make.L0 num den
noncomputable def ratio_Make.F (x : ((Int × Int × Unit) × (Unit))) : Option (((Int × Int × Unit) × Int × Unit) × (Unit)) := ratio_Make x.1.1 x.1.2.1
theorem ratio_Make.L0_eq (num_0 : Int) (den_1 : Int) (o0_0 : Int) (o0_1 : Int) : ratio_Make.L0 ((num_0, den_1, (), ()), ((o0_0, o0_1, ()), ())) = ratio_Make.f0 num_0 den_1 o0_0 o0_1 := rfl
theorem ratio_Make.F_eq (num : Int) (den : Int) : ratio_Make.F ((num, den, ()), ()) = ratio_Make.f ratio_divisor.F ratio_within.F ratio_Make.L0 num den := rfl
theorem ratio_Make.ok {tabs : List (Nat × Go.Obj)} (ht : TabsOk tabs) : FOK Go.Proofs.Tryd.prog tabs 11 (FE.of [true, true] false ratio_Make.sh ratio_Make.osh ratio_Make.F) := by
  refine fn_keeps (E := (ratio_Make.E ratio_divisor.F ratio_within.F ratio_Make.L0)) (c := ratio_Make.c) (fn := Go.Proofs.Tryd.f11) (hs := ratio_Make.hs) (by kernel_rfl) Go.Proofs.Tryd.func11 ⟨by kernel_rfl, by kernel_rfl, tb, by kernel_rfl, by kernel_rfl, by kernel_rfl, by kernel_rfl, by kernel_rfl⟩ ⟨fun g ks fe h => ?_, gt_ok ht⟩ ?_ (fun x => ratio_Make.eq ratio_divisor.F ratio_within.F ratio_Make.L0 x)
  · rcases c_cons h with ⟨rfl, rfl⟩ | h
    · exact ratio_divisor.ok ht
    rcases c_cons h with ⟨rfl, rfl⟩ | h
    · exact ratio_within.ok ht
    cases h
  · refine known_at 1 (by kernel_rfl) fun i hi => ?_
    match i, hi with
    | 0, _ => exact atom_at (id := 0) (live := [0, 1, 4]) (outs := [(0, [0, 1, 4, 13])]) (loop := false) (by kernel_rfl) (cut_ok (E := (ratio_Make.E ratio_divisor.F ratio_within.F ratio_Make.L0)) (sh := ratio_Make.s0) (es := ratio_Make.x0) rfl (fun L x => ratio_Make.eq0 ratio_divisor.F ratio_within.F ratio_Make.L0 L x))
    | n + 1, h => exact absurd h (by omega)

/-! ratio_Add -/
/-- ratio.Add at the chapter's example. -/
noncomputable def ratio_Add.F (x : (((Int × Int × Unit) × (Int × Int × Unit) × Unit) × (Unit))) : Option (((Int × Int × Unit) × Int × Unit) × (Unit)) := bif decide (x.1.1.1 = 1 ∧ x.1.1.2.1 = 2 ∧ x.1.2.1.1 = 1 ∧ x.1.2.1.2.1 = 3) then some (((5, 6, ()), 0, ()), ()) else none
theorem ratio_Add.F_ex : ratio_Add.F (((1, 2, ()), (1, 3, ()), ()), ()) = some (((5, 6, ()), 0, ()), ()) := rfl
theorem ratio_Add.ok {tabs : List (Nat × Go.Obj)} (ht : TabsOk tabs) : FOK Go.Proofs.Tryd.prog tabs 18 (FE.of [true, true] false ratio_Add.sh ratio_Add.osh ratio_Add.F) := by
  refine fok_shelf Go.Proofs.Tryd.func18 (c := ratio_Add.c) (by kernel_rfl) (by kernel_rfl) rfl rfl fun x y h => ?_
  unfold ratio_Add.F at h
  by_cases c : x.1.1.1 = 1 ∧ x.1.1.2.1 = 2 ∧ x.1.2.1.1 = 1 ∧ x.1.2.1.2.1 = 3
  · rw [decide_eq_true c] at h
    cases h
    obtain ⟨⟨⟨a, b, _⟩, ⟨d, e, _⟩, _⟩, _⟩ := x
    obtain ⟨rfl, rfl, rfl, rfl⟩ := c
    exact ⟨_, _, rfl, rfl, fun w hw => Go.Proofs.YtdfdecpplnjdcaaDoor.Hp.ratio_Add.calls 20 1 2 1 3 5 6 0 w (by decide +kernel)⟩
  · rw [decide_eq_false c] at h
    cases h


/-! ratio_Valid -/
def ratio_Valid.f (g_ratio_within : (((Int × Int × Unit) × Unit) × (Unit)) → Option ((Bool × Unit) × (Unit))) (g_ratio_divisor : ((Int × Int × Unit) × (Unit)) → Option ((Int × Unit) × (Unit))) (a_Num : Int) (a_Den : Int) : Option ((Bool × Unit) × (Unit)) :=
  (Option.bind (g_ratio_within (((a_Num, (a_Den, ())), ()), ())) (fun y0 =>
  (bif y0.1.1 then
   (Option.bind (g_ratio_divisor ((a_Num, (a_Den, ())), ())) (fun y2 =>
   (some (((y2.1.1 == (1:Int)), ()), ()))))
  else
   (some ((Bool.false, ()), ())))))
theorem ratio_Valid.eq (g_ratio_within : ratio_within.sh.X → Option ratio_within.osh.X) (g_ratio_divisor : ratio_divisor.sh.X → Option ratio_divisor.osh.X) (x : (((Int × Int × Unit) × Unit) × (Unit))) : (bodyO (ratio_Valid.E g_ratio_within g_ratio_divisor) (mk ratio_Valid.hs ratio_Valid.c []) Go.Proofs.Tryd.f12.results.toList ratio_Valid.sh ratio_Valid.osh x).run _ some = ratio_Valid.f g_ratio_within g_ratio_divisor x.1.1.1 x.1.1.2.1 := by
  show _ = (_ : Option _)
  kernel_rfl
noncomputable def ratio_Valid (a_Num : Int) (a_Den : Int) : Option ((Bool × Unit) × (Unit)) := ratio_Valid.f ratio_within.F ratio_divisor.F a_Num a_Den
noncomputable def ratio_Valid.F (x : (((Int × Int × Unit) × Unit) × (Unit))) : Option ((Bool × Unit) × (Unit)) := ratio_Valid x.1.1.1 x.1.1.2.1
theorem ratio_Valid.F_eq (a_Num : Int) (a_Den : Int) : ratio_Valid.F (((a_Num, a_Den, ()), ()), ()) = ratio_Valid.f ratio_within.F ratio_divisor.F a_Num a_Den := rfl
theorem ratio_Valid.ok {tabs : List (Nat × Go.Obj)} (ht : TabsOk tabs) : FOK Go.Proofs.Tryd.prog tabs 12 (FE.of [true] false ratio_Valid.sh ratio_Valid.osh ratio_Valid.F) := by
  refine fn_keeps (E := (ratio_Valid.E ratio_within.F ratio_divisor.F)) (c := ratio_Valid.c) (fn := Go.Proofs.Tryd.f12) (hs := ratio_Valid.hs) (by kernel_rfl) Go.Proofs.Tryd.func12 ⟨by kernel_rfl, by kernel_rfl, tb, by kernel_rfl, by kernel_rfl, by kernel_rfl, by kernel_rfl, by kernel_rfl⟩ ⟨fun g ks fe h => ?_, gt_ok ht⟩ ?_ (fun x => ratio_Valid.eq ratio_within.F ratio_divisor.F x)
  · rcases c_cons h with ⟨rfl, rfl⟩ | h
    · exact ratio_within.ok ht
    rcases c_cons h with ⟨rfl, rfl⟩ | h
    · exact ratio_divisor.ok ht
    cases h
  · exact known_at 0 (by kernel_rfl) fun i hi => absurd hi (Nat.not_lt_zero i)

/-! ratio_Ceil -/
def ratio_Ceil.f (g_ratio_Valid : (((Int × Int × Unit) × Unit) × (Unit)) → Option ((Bool × Unit) × (Unit))) (a_Num : Int) (a_Den : Int) : Option ((Int × Unit) × (Unit)) :=
  (Option.bind (g_ratio_Valid (((a_Num, (a_Den, ())), ()), ())) (fun y0 =>
  (bif (!y0.1.1) then
   (some (((0:Int), ()), ()))
  else
   (bif (!(decide (a_Den = (0:Int)))) then
    (bif (!(decide (a_Den = (0:Int)))) then
     (bif ((Int.tmod a_Num a_Den) != (0:Int)) then
      (some (((Go.IntKind.wrap Go.IntKind.i64 ((Go.IntKind.wrap Go.IntKind.i64 (Int.tdiv a_Num a_Den)) + (1:Int))), ()), ()))
     else
      (some (((Go.IntKind.wrap Go.IntKind.i64 (Int.tdiv a_Num a_Den)), ()), ())))
    else
     none)
   else
    none))))
theorem ratio_Ceil.eq (g_ratio_Valid : ratio_Valid.sh.X → Option ratio_Valid.osh.X) (x : (((Int × Int × Unit) × Unit) × (Unit))) : (bodyO (ratio_Ceil.E g_ratio_Valid) (mk ratio_Ceil.hs ratio_Ceil.c []) Go.Proofs.Tryd.f20.results.toList ratio_Ceil.sh ratio_Ceil.osh x).run _ some = ratio_Ceil.f g_ratio_Valid x.1.1.1 x.1.1.2.1 := by
  show _ = (_ : Option _)
  kernel_rfl
noncomputable def ratio_Ceil (a_Num : Int) (a_Den : Int) : Option ((Int × Unit) × (Unit)) := ratio_Ceil.f ratio_Valid.F a_Num a_Den
noncomputable def ratio_Ceil.F (x : (((Int × Int × Unit) × Unit) × (Unit))) : Option ((Int × Unit) × (Unit)) := ratio_Ceil x.1.1.1 x.1.1.2.1
theorem ratio_Ceil.F_eq (a_Num : Int) (a_Den : Int) : ratio_Ceil.F (((a_Num, a_Den, ()), ()), ()) = ratio_Ceil.f ratio_Valid.F a_Num a_Den := rfl
theorem ratio_Ceil.ok {tabs : List (Nat × Go.Obj)} (ht : TabsOk tabs) : FOK Go.Proofs.Tryd.prog tabs 20 (FE.of [true] false ratio_Ceil.sh ratio_Ceil.osh ratio_Ceil.F) := by
  refine fn_keeps (E := (ratio_Ceil.E ratio_Valid.F)) (c := ratio_Ceil.c) (fn := Go.Proofs.Tryd.f20) (hs := ratio_Ceil.hs) (by kernel_rfl) Go.Proofs.Tryd.func20 ⟨by kernel_rfl, by kernel_rfl, tb, by kernel_rfl, by kernel_rfl, by kernel_rfl, by kernel_rfl, by kernel_rfl⟩ ⟨fun g ks fe h => ?_, gt_ok ht⟩ ?_ (fun x => ratio_Ceil.eq ratio_Valid.F x)
  · rcases c_cons h with ⟨rfl, rfl⟩ | h
    · exact ratio_Valid.ok ht
    cases h
  · exact known_at 0 (by kernel_rfl) fun i hi => absurd hi (Nat.not_lt_zero i)

/-! strconv_Itoa -/
noncomputable def strconv_Itoa.F (x : ((Int × Unit) × (Unit))) : Option ((ByteArray × Unit) × (Unit)) := bif decide (-9223372036854775808 ≤ x.1.1 ∧ x.1.1 ≤ 9223372036854775807) then some ((⟨(Go.Lib.itoa x.1.1).toArray⟩, ()), ()) else none
theorem strconv_Itoa.F_eq (n : Int) : strconv_Itoa.F ((n, ()), ()) = bif decide (-9223372036854775808 ≤ n ∧ n ≤ 9223372036854775807) then some ((⟨(Go.Lib.itoa n).toArray⟩, ()), ()) else none := rfl
theorem strconv_Itoa.ok {tabs : List (Nat × Go.Obj)} (ht : TabsOk tabs) : FOK Go.Proofs.Tryd.prog tabs 45 (FE.of [true] false strconv_Itoa.sh strconv_Itoa.osh strconv_Itoa.F) := by
  refine fok_shelf Go.Proofs.Tryd.func45 (c := strconv_Itoa.c) (by kernel_rfl) (by kernel_rfl) rfl rfl fun x y h => ?_
  unfold strconv_Itoa.F at h
  by_cases c : -9223372036854775808 ≤ x.1.1 ∧ x.1.1 ≤ 9223372036854775807
  · rw [decide_eq_true c] at h
    cases h
    refine ⟨_, _, rfl, rfl, fun w hw => (Go.Proofs.Tryd.strconv_Itoa x.1.1 c.1 c.2 w (Go.VI.tabIs_of (by kernel_rfl) (by unfold TabsOk at ht; first | exact ht.1 | exact ht.2.1 | exact ht.2.2.1) hw)).mono fun e w' h => ?_⟩
    obtain ⟨h1, k, os, h2⟩ := h
    subst h2
    exact ⟨h1, rfl, rfl, rfl, by simp [Go.Sort.grow, Go.World.drewN], fun b hb => by simp only [Go.Sort.grow]; exact Array.getElem?_append_left hb⟩
  · rw [decide_eq_false c] at h
    cases h


/-! ratio_Format -/
def ratio_Format.f (g_ratio_Valid : (((Int × Int × Unit) × Unit) × (Unit)) → Option ((Bool × Unit) × (Unit))) (g_strconv_Itoa : ((Int × Unit) × (Unit)) → Option ((ByteArray × Unit) × (Unit))) (a_Num : Int) (a_Den : Int) : Option ((ByteArray × Unit) × (Unit)) :=
  (Option.bind (g_ratio_Valid (((a_Num, (a_Den, ())), ()), ())) (fun y0 =>
  (bif (!y0.1.1) then
   (some (((ByteArray.mk #[]), ()), ()))
  else
   (bif (a_Den == (1:Int)) then
    (Option.bind (g_strconv_Itoa ((a_Num, ()), ())) (fun y3 =>
    (some ((y3.1.1, ()), ()))))
   else
    (Option.bind (g_strconv_Itoa ((a_Num, ()), ())) (fun y3 =>
    (bif (decide (((ByteArray.size y3.1.1) + (ByteArray.size (ByteArray.mk #[(47:UInt8)]))) ≤ (9223372036854775807:Nat))) then
     (Option.bind (g_strconv_Itoa ((a_Den, ()), ())) (fun y5 =>
     (bif (decide (((ByteArray.size (y3.1.1 ++ (ByteArray.mk #[(47:UInt8)]))) + (ByteArray.size y5.1.1)) ≤ (9223372036854775807:Nat))) then
      (some ((((y3.1.1 ++ (ByteArray.mk #[(47:UInt8)])) ++ y5.1.1), ()), ()))
     else
      none)))
    else
     none)))))))
theorem ratio_Format.eq (g_ratio_Valid : ratio_Valid.sh.X → Option ratio_Valid.osh.X) (g_strconv_Itoa : strconv_Itoa.sh.X → Option strconv_Itoa.osh.X) (x : (((Int × Int × Unit) × Unit) × (Unit))) : (bodyO (ratio_Format.E g_ratio_Valid g_strconv_Itoa) (mk ratio_Format.hs ratio_Format.c []) Go.Proofs.Tryd.f24.results.toList ratio_Format.sh ratio_Format.osh x).run _ some = ratio_Format.f g_ratio_Valid g_strconv_Itoa x.1.1.1 x.1.1.2.1 := by
  show _ = (_ : Option _)
  kernel_rfl
noncomputable def ratio_Format (a_Num : Int) (a_Den : Int) : Option ((ByteArray × Unit) × (Unit)) := ratio_Format.f ratio_Valid.F strconv_Itoa.F a_Num a_Den
noncomputable def ratio_Format.F (x : (((Int × Int × Unit) × Unit) × (Unit))) : Option ((ByteArray × Unit) × (Unit)) := ratio_Format x.1.1.1 x.1.1.2.1
theorem ratio_Format.F_eq (a_Num : Int) (a_Den : Int) : ratio_Format.F (((a_Num, a_Den, ()), ()), ()) = ratio_Format.f ratio_Valid.F strconv_Itoa.F a_Num a_Den := rfl
theorem ratio_Format.ok {tabs : List (Nat × Go.Obj)} (ht : TabsOk tabs) : FOK Go.Proofs.Tryd.prog tabs 24 (FE.of [true] false ratio_Format.sh ratio_Format.osh ratio_Format.F) := by
  refine fn_keeps (E := (ratio_Format.E ratio_Valid.F strconv_Itoa.F)) (c := ratio_Format.c) (fn := Go.Proofs.Tryd.f24) (hs := ratio_Format.hs) (by kernel_rfl) Go.Proofs.Tryd.func24 ⟨by kernel_rfl, by kernel_rfl, tb, by kernel_rfl, by kernel_rfl, by kernel_rfl, by kernel_rfl, by kernel_rfl⟩ ⟨fun g ks fe h => ?_, gt_ok ht⟩ ?_ (fun x => ratio_Format.eq ratio_Valid.F strconv_Itoa.F x)
  · rcases c_cons h with ⟨rfl, rfl⟩ | h
    · exact ratio_Valid.ok ht
    rcases c_cons h with ⟨rfl, rfl⟩ | h
    · exact strconv_Itoa.ok ht
    cases h
  · exact known_at 0 (by kernel_rfl) fun i hi => absurd hi (Nat.not_lt_zero i)

/-! law01_awake -/
def law01_awake.f0 (g_ratio_Ceil : (((Int × Int × Unit) × Unit) × (Unit)) → Option ((Int × Unit) × (Unit))) (g_ratio_Format : (((Int × Int × Unit) × Unit) × (Unit)) → Option ((ByteArray × Unit) × (Unit))) (e_2 : Int) (f_4 : Int) (o0_0 : Int) (o0_1 : Int) (o1_0 : Int) (o1_1 : Int) : Option (((Bool × Unit) × (Unit)) ⊕ Empty) :=
  (bif (e_2 == (0:Int)) then
   (bif ((o0_0 == (3:Int)) && ((o0_1 == (2:Int)) && Bool.true)) then
    (bif (f_4 == (0:Int)) then
     (bif ((o1_0 == (5:Int)) && ((o1_1 == (6:Int)) && Bool.true)) then
      (Option.bind (g_ratio_Ceil ((((7:Int), ((2:Int), ())), ()), ())) (fun y4 =>
      (bif (y4.1.1 == (4:Int)) then
       (Option.bind (g_ratio_Format (((o0_0, (o0_1, ())), ()), ())) (fun y6 =>
       (some (Sum.inl ((((ByteArray.toList y6.1.1) == (ByteArray.toList (ByteArray.mk #[(51:UInt8), (47:UInt8), (50:UInt8)]))), ()), ())))))
      else
       (some (Sum.inl ((Bool.false, ()), ()))))))
     else
      (some (Sum.inl ((Bool.false, ()), ()))))
    else
     (some (Sum.inl ((Bool.false, ()), ()))))
   else
    (some (Sum.inl ((Bool.false, ()), ()))))
  else
   (some (Sum.inl ((Bool.false, ()), ()))))
theorem law01_awake.eq0 (g_ratio_Make : ratio_Make.sh.X → Option ratio_Make.osh.X) (g_ratio_Add : ratio_Add.sh.X → Option ratio_Add.osh.X) (g_ratio_Ceil : ratio_Ceil.sh.X → Option ratio_Ceil.osh.X) (g_ratio_Format : ratio_Format.sh.X → Option ratio_Format.osh.X) (l0 : law01_awake.s0.X → Option (sumX law01_awake.x0)) (L : ((Unit × Int × Unit × Int × Unit) × ((Int × Int × Unit) × (Int × Int × Unit) × Unit)) → Option (((Bool × Unit) × (Unit)) ⊕ Empty)) (x : ((Unit × Int × Unit × Int × Unit) × ((Int × Int × Unit) × (Int × Int × Unit) × Unit))) : (roundK (law01_awake.E g_ratio_Make g_ratio_Add g_ratio_Ceil g_ratio_Format l0) law01_awake.s0 [1, 2, 3, 4] [(0, [0])] false (((mk law01_awake.hs law01_awake.c []).atoms.getD 0 .bad).body) law01_awake.x0 L x).run _ some = law01_awake.f0 g_ratio_Ceil g_ratio_Format x.1.2.1 x.1.2.2.2.1 x.2.1.1 x.2.1.2.1 x.2.2.1.1 x.2.2.1.2.1 := by
  show _ = (_ : Option _)
  kernel_rfl
noncomputable def law01_awake.L0 : ((Unit × Int × Unit × Int × Unit) × ((Int × Int × Unit) × (Int × Int × Unit) × Unit)) → Option (((Bool × Unit) × (Unit)) ⊕ Empty) := fun x => law01_awake.f0 ratio_Ceil.F ratio_Format.F x.1.2.1 x.1.2.2.2.1 x.2.1.1 x.2.1.2.1 x.2.2.1.1 x.2.2.1.2.1
def law01_awake.f (g_ratio_Make : ((Int × Int × Unit) × (Unit)) → Option (((Int × Int × Unit) × Int × Unit) × (Unit))) (g_ratio_Add : (((Int × Int × Unit) × (Int × Int × Unit) × Unit) × (Unit)) → Option (((Int × Int × Unit) × Int × Unit) × (Unit))) (l0 : ((Unit × Int × Unit × Int × Unit) × ((Int × Int × Unit) × (Int × Int × Unit) × Unit)) → Option (((Bool × Unit) × (Unit)) ⊕ Empty)) : Option ((Bool × Unit) × (Unit)) :=
  (Option.bind (g_ratio_Make (((6:Int), ((4:Int), ())), ())) (fun y0 =>
  (Option.bind (g_ratio_Add ((((1:Int), ((2:Int), ())), (((1:Int), ((3:Int), ())), ())), ())) (fun y1 =>
  (Option.bind (l0 (((), (y0.1.2.1, ((), (y1.1.2.1, ())))), ((y0.1.1.1, (y0.1.1.2.1, ())), ((y1.1.1.1, (y1.1.1.2.1, ())), ())))) (fun y2 =>
  (Sum.elim (fun a3 =>
   (some ((a3.1.1, ()), ()))) (fun b3 =>
   (Empty.elim b3)) y2)))))))
theorem law01_awake.eq (g_ratio_Make : ratio_Make.sh.X → Option ratio_Make.osh.X) (g_ratio_Add : ratio_Add.sh.X → Option ratio_Add.osh.X) (g_ratio_Ceil : ratio_Ceil.sh.X → Option ratio_Ceil.osh.X) (g_ratio_Format : ratio_Format.sh.X → Option ratio_Format.osh.X) (l0 : law01_awake.s0.X → Option (sumX law01_awake.x0)) (x : ((Unit) × (Unit))) : (bodyO (law01_awake.E g_ratio_Make g_ratio_Add g_ratio_Ceil g_ratio_Format l0) (mk law01_awake.hs law01_awake.c []) Go.Proofs.Tryd.f13.results.toList law01_awake.sh law01_awake.osh x).run _ some = law01_awake.f g_ratio_Make g_ratio_Add l0 := by
  show _ = (_ : Option _)
  kernel_rfl
noncomputable def law01_awake : Option ((Bool × Unit) × (Unit)) := law01_awake.f ratio_Make.F ratio_Add.F law01_awake.L0
noncomputable def law01_awake.F (x : ((Unit) × (Unit))) : Option ((Bool × Unit) × (Unit)) := law01_awake
theorem law01_awake.L0_eq (e_2 : Int) (f_4 : Int) (o0_0 : Int) (o0_1 : Int) (o1_0 : Int) (o1_1 : Int) : law01_awake.L0 (((), e_2, (), f_4, ()), ((o0_0, o0_1, ()), (o1_0, o1_1, ()), ())) = law01_awake.f0 ratio_Ceil.F ratio_Format.F e_2 f_4 o0_0 o0_1 o1_0 o1_1 := rfl
theorem law01_awake.F_eq : law01_awake.F ((), ()) = law01_awake.f ratio_Make.F ratio_Add.F law01_awake.L0 := rfl
theorem law01_awake.ok {tabs : List (Nat × Go.Obj)} (ht : TabsOk tabs) : FOK Go.Proofs.Tryd.prog tabs 13 (FE.of [] false law01_awake.sh law01_awake.osh law01_awake.F) := by
  refine fn_keeps (E := (law01_awake.E ratio_Make.F ratio_Add.F ratio_Ceil.F ratio_Format.F law01_awake.L0)) (c := law01_awake.c) (fn := Go.Proofs.Tryd.f13) (hs := law01_awake.hs) (by kernel_rfl) Go.Proofs.Tryd.func13 ⟨by kernel_rfl, by kernel_rfl, tb, by kernel_rfl, by kernel_rfl, by kernel_rfl, by kernel_rfl, by kernel_rfl⟩ ⟨fun g ks fe h => ?_, gt_ok ht⟩ ?_ (fun x => law01_awake.eq ratio_Make.F ratio_Add.F ratio_Ceil.F ratio_Format.F law01_awake.L0 x)
  · rcases c_cons h with ⟨rfl, rfl⟩ | h
    · exact ratio_Make.ok ht
    rcases c_cons h with ⟨rfl, rfl⟩ | h
    · exact ratio_Add.ok ht
    rcases c_cons h with ⟨rfl, rfl⟩ | h
    · exact ratio_Ceil.ok ht
    rcases c_cons h with ⟨rfl, rfl⟩ | h
    · exact ratio_Format.ok ht
    cases h
  · refine known_at 1 (by kernel_rfl) fun i hi => ?_
    match i, hi with
    | 0, _ => exact atom_at (id := 0) (live := [1, 2, 3, 4]) (outs := [(0, [0])]) (loop := false) (by kernel_rfl) (cut_ok (E := (law01_awake.E ratio_Make.F ratio_Add.F ratio_Ceil.F ratio_Format.F law01_awake.L0)) (sh := law01_awake.s0) (es := law01_awake.x0) rfl (fun L x => law01_awake.eq0 ratio_Make.F ratio_Add.F ratio_Ceil.F ratio_Format.F law01_awake.L0 L x))
    | n + 1, h => exact absurd h (by omega)

/-! keep_New -/
def keep_New.f (l : (List Int)) : Option ((Unit × Unit) × (((List Int) × Int × Unit) × Unit)) :=
  (bif (decide ((0:Int) ≤ (Go.VI.mn (((List.length l) : Nat) : Int) (2000:Int)))) then
   (bif (decide ((Go.VI.mn (((List.length l) : Nat) : Int) (2000:Int)) ≤ (((List.length l) : Nat) : Int))) then
    (some (((), ()), (((List.drop (Int.toNat (0:Int)) (List.take (Int.toNat (Go.VI.mn (((List.length l) : Nat) : Int) (2000:Int))) l)), ((0:Int), ())), ())))
   else
    none)
  else
   none)
theorem keep_New.eq (x : (((List Int) × Unit) × (Unit))) : (bodyO (keep_New.E) (mk keep_New.hs keep_New.c []) Go.Proofs.Tryd.f14.results.toList keep_New.sh keep_New.osh x).run _ some = keep_New.f x.1.1 := by
  show _ = (_ : Option _)
  kernel_rfl
noncomputable def keep_New (l : (List Int)) : Option ((Unit × Unit) × (((List Int) × Int × Unit) × Unit)) := keep_New.f l
noncomputable def keep_New.F (x : (((List Int) × Unit) × (Unit))) : Option ((Unit × Unit) × (((List Int) × Int × Unit) × Unit)) := keep_New x.1.1
theorem keep_New.F_eq (l : (List Int)) : keep_New.F ((l, ()), ()) = keep_New.f l := rfl
theorem keep_New.ok {tabs : List (Nat × Go.Obj)} (ht : TabsOk tabs) : FOK Go.Proofs.Tryd.prog tabs 14 (FE.of [true] true keep_New.sh keep_New.osh keep_New.F) := by
  refine fn_keeps (E := (keep_New.E)) (c := keep_New.c) (fn := Go.Proofs.Tryd.f14) (hs := keep_New.hs) (by kernel_rfl) Go.Proofs.Tryd.func14 ⟨by kernel_rfl, by kernel_rfl, tb, by kernel_rfl, by kernel_rfl, by kernel_rfl, by kernel_rfl, by kernel_rfl⟩ ⟨fun g ks fe h => ?_, gt_ok ht⟩ ?_ (fun x => keep_New.eq x)
  · cases h
  · exact known_at 0 (by kernel_rfl) fun i hi => absurd hi (Nat.not_lt_zero i)

/-! keep_Src_Raw -/
def keep_Src_Raw.f (o0_0 : (List Int)) (o0_1 : Int) : Option ((Int × Unit) × (((List Int) × Int × Unit) × Unit)) :=
  (bif (decide (o0_1 ≥ (((List.length o0_0) : Nat) : Int))) then
   (some (((0:Int), ()), ((o0_0, (o0_1, ())), ())))
  else
   (bif (decide ((0:Int) ≤ (Go.IntKind.wrap Go.IntKind.i64 ((Go.IntKind.wrap Go.IntKind.i64 (o0_1 + (1:Int))) - (1:Int))))) then
    (bif (decide ((Go.IntKind.wrap Go.IntKind.i64 ((Go.IntKind.wrap Go.IntKind.i64 (o0_1 + (1:Int))) - (1:Int))) < (((List.length o0_0) : Nat) : Int))) then
     (some (((List.getD o0_0 (Int.toNat (Go.IntKind.wrap Go.IntKind.i64 ((Go.IntKind.wrap Go.IntKind.i64 (o0_1 + (1:Int))) - (1:Int)))) (0:Int)), ()), ((o0_0, ((Go.IntKind.wrap Go.IntKind.i64 (o0_1 + (1:Int))), ())), ())))
    else
     none)
   else
    none))
theorem keep_Src_Raw.eq (x : ((Unit × Unit) × (((List Int) × Int × Unit) × Unit))) : (bodyO (keep_Src_Raw.E) (mk keep_Src_Raw.hs keep_Src_Raw.c []) Go.Proofs.Tryd.f42.results.toList keep_Src_Raw.sh keep_Src_Raw.osh x).run _ some = keep_Src_Raw.f x.2.1.1 x.2.1.2.1 := by
  show _ = (_ : Option _)
  kernel_rfl
noncomputable def keep_Src_Raw (o0_0 : (List Int)) (o0_1 : Int) : Option ((Int × Unit) × (((List Int) × Int × Unit) × Unit)) := keep_Src_Raw.f o0_0 o0_1
noncomputable def keep_Src_Raw.F (x : ((Unit × Unit) × (((List Int) × Int × Unit) × Unit))) : Option ((Int × Unit) × (((List Int) × Int × Unit) × Unit)) := keep_Src_Raw x.2.1.1 x.2.1.2.1
theorem keep_Src_Raw.F_eq (o0_0 : (List Int)) (o0_1 : Int) : keep_Src_Raw.F (((), ()), ((o0_0, o0_1, ()), ())) = keep_Src_Raw.f o0_0 o0_1 := rfl
theorem keep_Src_Raw.ok {tabs : List (Nat × Go.Obj)} (ht : TabsOk tabs) : FOK Go.Proofs.Tryd.prog tabs 42 (FE.of [true] true keep_Src_Raw.sh keep_Src_Raw.osh keep_Src_Raw.F) := by
  refine fn_keeps (E := (keep_Src_Raw.E)) (c := keep_Src_Raw.c) (fn := Go.Proofs.Tryd.f42) (hs := keep_Src_Raw.hs) (by kernel_rfl) Go.Proofs.Tryd.func42 ⟨by kernel_rfl, by kernel_rfl, tb, by kernel_rfl, by kernel_rfl, by kernel_rfl, by kernel_rfl, by kernel_rfl⟩ ⟨fun g ks fe h => ?_, gt_ok ht⟩ ?_ (fun x => keep_Src_Raw.eq x)
  · cases h
  · exact known_at 0 (by kernel_rfl) fun i hi => absurd hi (Nat.not_lt_zero i)

/-! keep_Mod -/
def keep_Mod.f (x_ : Int) (n : Int) : Option ((Int × Unit) × (Unit)) :=
  (bif (decide (n < (1:Int))) then
   (some (((0:Int), ()), ()))
  else
   (bif (!(decide (n = (0:Int)))) then
    (bif (decide ((Int.tmod x_ n) < (0:Int))) then
     (some (((Go.IntKind.wrap Go.IntKind.i64 ((Int.tmod x_ n) + n)), ()), ()))
    else
     (some (((Int.tmod x_ n), ()), ())))
   else
    none))
theorem keep_Mod.eq (x : ((Int × Int × Unit) × (Unit))) : (bodyO (keep_Mod.E) (mk keep_Mod.hs keep_Mod.c []) Go.Proofs.Tryd.f41.results.toList keep_Mod.sh keep_Mod.osh x).run _ some = keep_Mod.f x.1.1 x.1.2.1 := by
  show _ = (_ : Option _)
  kernel_rfl
noncomputable def keep_Mod (x_ : Int) (n : Int) : Option ((Int × Unit) × (Unit)) := keep_Mod.f x_ n
noncomputable def keep_Mod.F (x : ((Int × Int × Unit) × (Unit))) : Option ((Int × Unit) × (Unit)) := keep_Mod x.1.1 x.1.2.1
theorem keep_Mod.F_eq (x_ : Int) (n : Int) : keep_Mod.F ((x_, n, ()), ()) = keep_Mod.f x_ n := rfl
theorem keep_Mod.ok {tabs : List (Nat × Go.Obj)} (ht : TabsOk tabs) : FOK Go.Proofs.Tryd.prog tabs 41 (FE.of [true, true] false keep_Mod.sh keep_Mod.osh keep_Mod.F) := by
  refine fn_keeps (E := (keep_Mod.E)) (c := keep_Mod.c) (fn := Go.Proofs.Tryd.f41) (hs := keep_Mod.hs) (by kernel_rfl) Go.Proofs.Tryd.func41 ⟨by kernel_rfl, by kernel_rfl, tb, by kernel_rfl, by kernel_rfl, by kernel_rfl, by kernel_rfl, by kernel_rfl⟩ ⟨fun g ks fe h => ?_, gt_ok ht⟩ ?_ (fun x => keep_Mod.eq x)
  · cases h
  · exact known_at 0 (by kernel_rfl) fun i hi => absurd hi (Nat.not_lt_zero i)

/-! keep_Src_N -/
def keep_Src_N.f (g_keep_Src_Raw : ((Unit × Unit) × (((List Int) × Int × Unit) × Unit)) → Option ((Int × Unit) × (((List Int) × Int × Unit) × Unit))) (g_keep_Mod : ((Int × Int × Unit) × (Unit)) → Option ((Int × Unit) × (Unit))) (n : Int) (o0_0 : (List Int)) (o0_1 : Int) : Option ((Int × Unit) × (((List Int) × Int × Unit) × Unit)) :=
  (Option.bind (g_keep_Src_Raw (((), ()), ((o0_0, (o0_1, ())), ()))) (fun y0 =>
  (Option.bind (g_keep_Mod ((y0.1.1, (n, ())), ())) (fun y1 =>
  (some ((y1.1.1, ()), ((y0.2.1.1, (y0.2.1.2.1, ())), ())))))))
theorem keep_Src_N.eq (g_keep_Src_Raw : keep_Src_Raw.sh.X → Option keep_Src_Raw.osh.X) (g_keep_Mod : keep_Mod.sh.X → Option keep_Mod.osh.X) (x : ((Unit × Int × Unit) × (((List Int) × Int × Unit) × Unit))) : (bodyO (keep_Src_N.E g_keep_Src_Raw g_keep_Mod) (mk keep_Src_N.hs keep_Src_N.c []) Go.Proofs.Tryd.f21.results.toList keep_Src_N.sh keep_Src_N.osh x).run _ some = keep_Src_N.f g_keep_Src_Raw g_keep_Mod x.1.2.1 x.2.1.1 x.2.1.2.1 := by
  show _ = (_ : Option _)
  kernel_rfl
noncomputable def keep_Src_N (n : Int) (o0_0 : (List Int)) (o0_1 : Int) : Option ((Int × Unit) × (((List Int) × Int × Unit) × Unit)) := keep_Src_N.f keep_Src_Raw.F keep_Mod.F n o0_0 o0_1
noncomputable def keep_Src_N.F (x : ((Unit × Int × Unit) × (((List Int) × Int × Unit) × Unit))) : Option ((Int × Unit) × (((List Int) × Int × Unit) × Unit)) := keep_Src_N x.1.2.1 x.2.1.1 x.2.1.2.1
theorem keep_Src_N.F_eq (n : Int) (o0_0 : (List Int)) (o0_1 : Int) : keep_Src_N.F (((), n, ()), ((o0_0, o0_1, ()), ())) = keep_Src_N.f keep_Src_Raw.F keep_Mod.F n o0_0 o0_1 := rfl
theorem keep_Src_N.ok {tabs : List (Nat × Go.Obj)} (ht : TabsOk tabs) : FOK Go.Proofs.Tryd.prog tabs 21 (FE.of [true, true] true keep_Src_N.sh keep_Src_N.osh keep_Src_N.F) := by
  refine fn_keeps (E := (keep_Src_N.E keep_Src_Raw.F keep_Mod.F)) (c := keep_Src_N.c) (fn := Go.Proofs.Tryd.f21) (hs := keep_Src_N.hs) (by kernel_rfl) Go.Proofs.Tryd.func21 ⟨by kernel_rfl, by kernel_rfl, tb, by kernel_rfl, by kernel_rfl, by kernel_rfl, by kernel_rfl, by kernel_rfl⟩ ⟨fun g ks fe h => ?_, gt_ok ht⟩ ?_ (fun x => keep_Src_N.eq keep_Src_Raw.F keep_Mod.F x)
  · rcases c_cons h with ⟨rfl, rfl⟩ | h
    · exact keep_Src_Raw.ok ht
    rcases c_cons h with ⟨rfl, rfl⟩ | h
    · exact keep_Mod.ok ht
    cases h
  · exact known_at 0 (by kernel_rfl) fun i hi => absurd hi (Nat.not_lt_zero i)

/-! keep_Src_Pick -/
def keep_Src_Pick.f (g_keep_Src_N : ((Unit × Int × Unit) × (((List Int) × Int × Unit) × Unit)) → Option ((Int × Unit) × (((List Int) × Int × Unit) × Unit))) (l : (List Int)) (o0_0 : (List Int)) (o0_1 : Int) : Option ((Int × Unit) × (((List Int) × Int × Unit) × Unit)) :=
  (Option.bind (g_keep_Src_N (((), ((((List.length l) : Nat) : Int), ())), ((o0_0, (o0_1, ())), ()))) (fun y0 =>
  (bif (decide ((0:Int) ≤ y0.1.1)) then
   (bif (decide (y0.1.1 < (((List.length l) : Nat) : Int))) then
    (some (((List.getD l (Int.toNat y0.1.1) (0:Int)), ()), ((y0.2.1.1, (y0.2.1.2.1, ())), ())))
   else
    none)
  else
   none)))
theorem keep_Src_Pick.eq (g_keep_Src_N : keep_Src_N.sh.X → Option keep_Src_N.osh.X) (x : ((Unit × (List Int) × Unit) × (((List Int) × Int × Unit) × Unit))) : (bodyO (keep_Src_Pick.E g_keep_Src_N) (mk keep_Src_Pick.hs keep_Src_Pick.c []) Go.Proofs.Tryd.f37.results.toList keep_Src_Pick.sh keep_Src_Pick.osh x).run _ some = keep_Src_Pick.f g_keep_Src_N x.1.2.1 x.2.1.1 x.2.1.2.1 := by
  show _ = (_ : Option _)
  kernel_rfl
noncomputable def keep_Src_Pick (l : (List Int)) (o0_0 : (List Int)) (o0_1 : Int) : Option ((Int × Unit) × (((List Int) × Int × Unit) × Unit)) := keep_Src_Pick.f keep_Src_N.F l o0_0 o0_1
noncomputable def keep_Src_Pick.F (x : ((Unit × (List Int) × Unit) × (((List Int) × Int × Unit) × Unit))) : Option ((Int × Unit) × (((List Int) × Int × Unit) × Unit)) := keep_Src_Pick x.1.2.1 x.2.1.1 x.2.1.2.1
theorem keep_Src_Pick.F_eq (l : (List Int)) (o0_0 : (List Int)) (o0_1 : Int) : keep_Src_Pick.F (((), l, ()), ((o0_0, o0_1, ()), ())) = keep_Src_Pick.f keep_Src_N.F l o0_0 o0_1 := rfl
theorem keep_Src_Pick.ok {tabs : List (Nat × Go.Obj)} (ht : TabsOk tabs) : FOK Go.Proofs.Tryd.prog tabs 37 (FE.of [true, true] true keep_Src_Pick.sh keep_Src_Pick.osh keep_Src_Pick.F) := by
  refine fn_keeps (E := (keep_Src_Pick.E keep_Src_N.F)) (c := keep_Src_Pick.c) (fn := Go.Proofs.Tryd.f37) (hs := keep_Src_Pick.hs) (by kernel_rfl) Go.Proofs.Tryd.func37 ⟨by kernel_rfl, by kernel_rfl, tb, by kernel_rfl, by kernel_rfl, by kernel_rfl, by kernel_rfl, by kernel_rfl⟩ ⟨fun g ks fe h => ?_, gt_ok ht⟩ ?_ (fun x => keep_Src_Pick.eq keep_Src_N.F x)
  · rcases c_cons h with ⟨rfl, rfl⟩ | h
    · exact keep_Src_N.ok ht
    cases h
  · exact known_at 0 (by kernel_rfl) fun i hi => absurd hi (Nat.not_lt_zero i)

/-! keep_Src_Ratio -/
def keep_Src_Ratio.f0 (L : ((Unit × Int × Int × Int × Int × Unit) × (((List Int) × Int × Unit) × (Int × Int × Unit) × Unit)) → Option (((Unit × Int × Int × Int × Unit) × (((List Int) × Int × Unit) × (Int × Int × Unit) × Unit)) ⊕ Empty)) (n_3 : Int) (d_4 : Int) (a_5 : Int) (b_6 : Int) (o0_0 : (List Int)) (o0_1 : Int) (o1_0 : Int) (o1_1 : Int) : Option (((Unit × Int × Int × Int × Unit) × (((List Int) × Int × Unit) × (Int × Int × Unit) × Unit)) ⊕ Empty) :=
  (bif (decide (b_6 > (0:Int))) then
   (bif (!(decide (b_6 = (0:Int)))) then
    (Option.bind (L (((), (n_3, (d_4, (b_6, ((Int.tmod a_5 b_6), ()))))), ((o0_0, (o0_1, ())), ((o1_0, (o1_1, ())), ())))) (fun y2 =>
    (some y2)))
   else
    none)
  else
   (some (Sum.inl (((), (n_3, (d_4, (a_5, ())))), ((o0_0, (o0_1, ())), ((o1_0, (o1_1, ())), ()))))))
theorem keep_Src_Ratio.eq0 (g_keep_Src_Pick : keep_Src_Pick.sh.X → Option keep_Src_Pick.osh.X) (g_keep_Src_N : keep_Src_N.sh.X → Option keep_Src_N.osh.X) (l0 : keep_Src_Ratio.s0.X → Option (sumX keep_Src_Ratio.x0)) (L : ((Unit × Int × Int × Int × Int × Unit) × (((List Int) × Int × Unit) × (Int × Int × Unit) × Unit)) → Option (((Unit × Int × Int × Int × Unit) × (((List Int) × Int × Unit) × (Int × Int × Unit) × Unit)) ⊕ Empty)) (x : ((Unit × Int × Int × Int × Int × Unit) × (((List Int) × Int × Unit) × (Int × Int × Unit) × Unit))) : (roundK (keep_Src_Ratio.E g_keep_Src_Pick g_keep_Src_N l0) keep_Src_Ratio.s0 [2, 3, 4, 5, 6] [(2, [2, 3, 4, 5])] true (((mk keep_Src_Ratio.hs keep_Src_Ratio.c []).atoms.getD 0 .bad).body) keep_Src_Ratio.x0 L x).run _ some = keep_Src_Ratio.f0 L x.1.2.1 x.1.2.2.1 x.1.2.2.2.1 x.1.2.2.2.2.1 x.2.1.1 x.2.1.2.1 x.2.2.1.1 x.2.2.1.2.1 := by
  show _ = (_ : Option _)
  kernel_rfl
noncomputable def keep_Src_Ratio.L0 : ((Unit × Int × Int × Int × Int × Unit) × (((List Int) × Int × Unit) × (Int × Int × Unit) × Unit)) → Option (((Unit × Int × Int × Int × Unit) × (((List Int) × Int × Unit) × (Int × Int × Unit) × Unit)) ⊕ Empty) := loop fun L x => keep_Src_Ratio.f0 L x.1.2.1 x.1.2.2.1 x.1.2.2.2.1 x.1.2.2.2.2.1 x.2.1.1 x.2.1.2.1 x.2.2.1.1 x.2.2.1.2.1
def keep_Src_Ratio.f (g_keep_Src_Pick : ((Unit × (List Int) × Unit) × (((List Int) × Int × Unit) × Unit)) → Option ((Int × Unit) × (((List Int) × Int × Unit) × Unit))) (g_keep_Src_N : ((Unit × Int × Unit) × (((List Int) × Int × Unit) × Unit)) → Option ((Int × Unit) × (((List Int) × Int × Unit) × Unit))) (l0 : ((Unit × Int × Int × Int × Int × Unit) × (((List Int) × Int × Unit) × (Int × Int × Unit) × Unit)) → Option (((Unit × Int × Int × Int × Unit) × (((List Int) × Int × Unit) × (Int × Int × Unit) × Unit)) ⊕ Empty)) (o0_0 : (List Int)) (o0_1 : Int) : Option (((Int × Int × Unit) × Unit) × (((List Int) × Int × Unit) × Unit)) :=
  (Option.bind (g_keep_Src_Pick (((), ([(0:Int), (1:Int), (3:Int), (7:Int), (50:Int), (1000:Int), (1099511627776:Int), (2305843009213693952:Int), (2305843009213693951:Int)], ())), ((o0_0, (o0_1, ())), ()))) (fun y0 =>
  (Option.bind (g_keep_Src_N (((), ((5:Int), ())), ((y0.2.1.1, (y0.2.1.2.1, ())), ()))) (fun y1 =>
  (Option.bind (g_keep_Src_Pick (((), ([(1:Int), (1:Int), (2:Int), (3:Int), (8:Int), (60:Int), (1099511627776:Int), (1152921504606846976:Int), (1152921504606846975:Int)], ())), ((y1.2.1.1, (y1.2.1.2.1, ())), ()))) (fun y2 =>
  (Option.bind (l0 (((), ((Go.VI.mn (Go.IntKind.wrap Go.IntKind.i64 (y0.1.1 + y1.1.1)) (2305843009213693952:Int)), (y2.1.1, ((Go.VI.mn (Go.IntKind.wrap Go.IntKind.i64 (y0.1.1 + y1.1.1)) (2305843009213693952:Int)), (y2.1.1, ()))))), ((y2.2.1.1, (y2.2.1.2.1, ())), (((0:Int), ((0:Int), ())), ())))) (fun y3 =>
  (Sum.elim (fun a4 =>
   (bif (!(decide (a4.1.2.2.2.1 = (0:Int)))) then
    (bif (!(decide (a4.1.2.2.2.1 = (0:Int)))) then
     (some ((((Go.IntKind.wrap Go.IntKind.i64 (Int.tdiv a4.1.2.1 a4.1.2.2.2.1)), ((Go.IntKind.wrap Go.IntKind.i64 (Int.tdiv a4.1.2.2.1 a4.1.2.2.2.1)), ())), ()), ((a4.2.1.1, (a4.2.1.2.1, ())), ())))
    else
     none)
   else
    none)) (fun b4 =>
   (Empty.elim b4)) y3)))))))))
theorem keep_Src_Ratio.eq (g_keep_Src_Pick : keep_Src_Pick.sh.X → Option keep_Src_Pick.osh.X) (g_keep_Src_N : keep_Src_N.sh.X → Option keep_Src_N.osh.X) (l0 : keep_Src_Ratio.s0.X → Option (sumX keep_Src_Ratio.x0)) (x : ((Unit × Unit) × (((List Int) × Int × Unit) × Unit))) : (bodyO (keep_Src_Ratio.E g_keep_Src_Pick g_keep_Src_N l0) (mk keep_Src_Ratio.hs keep_Src_Ratio.c []) Go.Proofs.Tryd.f15.results.toList keep_Src_Ratio.sh keep_Src_Ratio.osh x).run _ some = keep_Src_Ratio.f g_keep_Src_Pick g_keep_Src_N l0 x.2.1.1 x.2.1.2.1 := by
  show _ = (_ : Option _)
  kernel_rfl
noncomputable def keep_Src_Ratio (o0_0 : (List Int)) (o0_1 : Int) : Option (((Int × Int × Unit) × Unit) × (((List Int) × Int × Unit) × Unit)) := keep_Src_Ratio.f keep_Src_Pick.F keep_Src_N.F keep_Src_Ratio.L0 o0_0 o0_1
noncomputable def keep_Src_Ratio.F (x : ((Unit × Unit) × (((List Int) × Int × Unit) × Unit))) : Option (((Int × Int × Unit) × Unit) × (((List Int) × Int × Unit) × Unit)) := keep_Src_Ratio x.2.1.1 x.2.1.2.1
theorem keep_Src_Ratio.L0_eq (n_3 : Int) (d_4 : Int) (a_5 : Int) (b_6 : Int) (o0_0 : (List Int)) (o0_1 : Int) (o1_0 : Int) (o1_1 : Int) : keep_Src_Ratio.L0 (((), n_3, d_4, a_5, b_6, ()), ((o0_0, o0_1, ()), (o1_0, o1_1, ()), ())) = keep_Src_Ratio.f0 keep_Src_Ratio.L0 n_3 d_4 a_5 b_6 o0_0 o0_1 o1_0 o1_1 :=
  loop_eq (E := (keep_Src_Ratio.E keep_Src_Pick.F keep_Src_N.F keep_Src_Ratio.L0)) (sh := keep_Src_Ratio.s0) (es := keep_Src_Ratio.x0) (lp := true) (H := fun L x => keep_Src_Ratio.eq0 keep_Src_Pick.F keep_Src_N.F keep_Src_Ratio.L0 L x) (((), n_3, d_4, a_5, b_6, ()), ((o0_0, o0_1, ()), (o1_0, o1_1, ()), ()))
theorem keep_Src_Ratio.F_eq (o0_0 : (List Int)) (o0_1 : Int) : keep_Src_Ratio.F (((), ()), ((o0_0, o0_1, ()), ())) = keep_Src_Ratio.f keep_Src_Pick.F keep_Src_N.F keep_Src_Ratio.L0 o0_0 o0_1 := rfl
theorem keep_Src_Ratio.ok {tabs : List (Nat × Go.Obj)} (ht : TabsOk tabs) : FOK Go.Proofs.Tryd.prog tabs 15 (FE.of [true] true keep_Src_Ratio.sh keep_Src_Ratio.osh keep_Src_Ratio.F) := by
  refine fn_keeps (E := (keep_Src_Ratio.E keep_Src_Pick.F keep_Src_N.F keep_Src_Ratio.L0)) (c := keep_Src_Ratio.c) (fn := Go.Proofs.Tryd.f15) (hs := keep_Src_Ratio.hs) (by kernel_rfl) Go.Proofs.Tryd.func15 ⟨by kernel_rfl, by kernel_rfl, tb, by kernel_rfl, by kernel_rfl, by kernel_rfl, by kernel_rfl, by kernel_rfl⟩ ⟨fun g ks fe h => ?_, gt_ok ht⟩ ?_ (fun x => keep_Src_Ratio.eq keep_Src_Pick.F keep_Src_N.F keep_Src_Ratio.L0 x)
  · rcases c_cons h with ⟨rfl, rfl⟩ | h
    · exact keep_Src_Pick.ok ht
    rcases c_cons h with ⟨rfl, rfl⟩ | h
    · exact keep_Src_N.ok ht
    cases h
  · refine known_at 1 (by kernel_rfl) fun i hi => ?_
    match i, hi with
    | 0, _ => exact atom_at (id := 0) (live := [2, 3, 4, 5, 6]) (outs := [(2, [2, 3, 4, 5])]) (loop := true) (by kernel_rfl) (loop_ok (E := (keep_Src_Ratio.E keep_Src_Pick.F keep_Src_N.F keep_Src_Ratio.L0)) (sh := keep_Src_Ratio.s0) (es := keep_Src_Ratio.x0) rfl (fun L x => keep_Src_Ratio.eq0 keep_Src_Pick.F keep_Src_N.F keep_Src_Ratio.L0 L x))
    | n + 1, h => exact absurd h (by omega)

/-! stringslite_IndexByte -/
noncomputable def stringslite_IndexByte.F (x : ((ByteArray × Int × Unit) × (Unit))) : Option ((Int × Unit) × (Unit)) := some ((Go.Lib.indexByte x.1.1.data.toList x.1.2.1.toNat.toUInt8, ()), ())
theorem stringslite_IndexByte.F_eq (s : ByteArray) (c : Int) : stringslite_IndexByte.F ((s, (c, ())), ()) = some ((Go.Lib.indexByte s.data.toList c.toNat.toUInt8, ()), ()) := rfl
theorem stringslite_IndexByte.ok {tabs : List (Nat × Go.Obj)} (ht : TabsOk tabs) : FOK Go.Proofs.Tryd.prog tabs 70 (FE.of [true, true] false stringslite_IndexByte.sh stringslite_IndexByte.osh stringslite_IndexByte.F) := by
  refine fok_shelf Go.Proofs.Tryd.func70 (c := stringslite_IndexByte.c) (by kernel_rfl) (by kernel_rfl) rfl rfl fun x y h => ?_
  cases h
  exact ⟨_, _, rfl, rfl, fun w _ => (Go.Proofs.Tryd.stringslite_IndexByte x.1.1 x.1.2.1 w).mono fun e w' ⟨h1, h2⟩ => ⟨h1, h2 ▸ Go.RowKit.Below.refl _ _⟩⟩


/-! stringslite_Index -/
def stringslite_Index.f1 (s_0 : ByteArray) (substr_1 : ByteArray) (n_5 : Int) : Option (((ByteArray × ByteArray × Int × Bool × Unit) × (Unit)) ⊕ Empty) :=
  (bif (n_5 == (0:Int)) then
   (some (Sum.inl ((s_0, (substr_1, (n_5, (Bool.true, ())))), ())))
  else
   (some (Sum.inl ((s_0, (substr_1, (n_5, (((ByteArray.toList substr_1) == (ByteArray.toList s_0)), ())))), ()))))
theorem stringslite_Index.eq1 (g_stringslite_IndexByte : stringslite_IndexByte.sh.X → Option stringslite_IndexByte.osh.X) (l0 : stringslite_Index.s0.X → Option (sumX stringslite_Index.x0)) (l1 : stringslite_Index.s1.X → Option (sumX stringslite_Index.x1)) (L : ((ByteArray × ByteArray × Int × Unit) × (Unit)) → Option (((ByteArray × ByteArray × Int × Bool × Unit) × (Unit)) ⊕ Empty)) (x : ((ByteArray × ByteArray × Int × Unit) × (Unit))) : (roundK (stringslite_Index.E g_stringslite_IndexByte l0 l1) stringslite_Index.s1 [0, 1, 5] [(0, [0, 1, 5, 16])] false (((mk stringslite_Index.hs stringslite_Index.c []).atoms.getD 1 .bad).body) stringslite_Index.x1 L x).run _ some = stringslite_Index.f1 x.1.1 x.1.2.1 x.1.2.2.1 := by
  show _ = (_ : Option _)
  kernel_rfl
noncomputable def stringslite_Index.L1 : ((ByteArray × ByteArray × Int × Unit) × (Unit)) → Option (((ByteArray × ByteArray × Int × Bool × Unit) × (Unit)) ⊕ Empty) := fun x => stringslite_Index.f1 x.1.1 x.1.2.1 x.1.2.2.1
def stringslite_Index.f0 (g_stringslite_IndexByte : ((ByteArray × Int × Unit) × (Unit)) → Option ((Int × Unit) × (Unit))) (l1 : ((ByteArray × ByteArray × Int × Unit) × (Unit)) → Option (((ByteArray × ByteArray × Int × Bool × Unit) × (Unit)) ⊕ Empty)) (s_0 : ByteArray) (substr_1 : ByteArray) (n_5 : Int) : Option (((Int × Unit) × (Unit)) ⊕ Empty) :=
  (Option.bind (l1 ((s_0, (substr_1, (n_5, ()))), ())) (fun y0 =>
  (Sum.elim (fun a1 =>
   (bif a1.1.2.2.2.1 then
    (some (Sum.inl (((0:Int), ()), ())))
   else
    (bif (a1.1.2.2.1 == (1:Int)) then
     (bif (decide ((0:Int) < (((ByteArray.size a1.1.2.1) : Nat) : Int))) then
      (Option.bind (g_stringslite_IndexByte ((a1.1.1, ((((UInt8.toNat (Array.getD (ByteArray.data a1.1.2.1) (Int.toNat (0:Int)) (0:UInt8))) : Nat) : Int), ())), ())) (fun y5 =>
      (some (Sum.inl ((y5.1.1, ()), ())))))
     else
      none)
    else
     (bif (decide (a1.1.2.2.1 ≥ (((ByteArray.size a1.1.1) : Nat) : Int))) then
      (some (Sum.inl (((-(1:Int)), ()), ())))
     else
      none)))) (fun b1 =>
   (Empty.elim b1)) y0)))
theorem stringslite_Index.eq0 (g_stringslite_IndexByte : stringslite_IndexByte.sh.X → Option stringslite_IndexByte.osh.X) (l0 : stringslite_Index.s0.X → Option (sumX stringslite_Index.x0)) (l1 : stringslite_Index.s1.X → Option (sumX stringslite_Index.x1)) (L : ((ByteArray × ByteArray × Int × Unit) × (Unit)) → Option (((Int × Unit) × (Unit)) ⊕ Empty)) (x : ((ByteArray × ByteArray × Int × Unit) × (Unit))) : (roundK (stringslite_Index.E g_stringslite_IndexByte l0 l1) stringslite_Index.s0 [0, 1, 5] [(1, [4])] false (((mk stringslite_Index.hs stringslite_Index.c []).atoms.getD 0 .bad).body) stringslite_Index.x0 L x).run _ some = stringslite_Index.f0 g_stringslite_IndexByte l1 x.1.1 x.1.2.1 x.1.2.2.1 := by
  show _ = (_ : Option _)
  kernel_rfl
noncomputable def stringslite_Index.L0 : ((ByteArray × ByteArray × Int × Unit) × (Unit)) → Option (((Int × Unit) × (Unit)) ⊕ Empty) := fun x => stringslite_Index.f0 stringslite_IndexByte.F stringslite_Index.L1 x.1.1 x.1.2.1 x.1.2.2.1
def stringslite_Index.f (l0 : ((ByteArray × ByteArray × Int × Unit) × (Unit)) → Option (((Int × Unit) × (Unit)) ⊕ Empty)) (s : ByteArray) (substr : ByteArray) : Option ((Int × Unit) × (Unit)) :=
  (Option.bind (l0 ((s, (substr, ((((ByteArray.size substr) : Nat) : Int), ()))), ())) (fun y0 =>
  (Sum.elim (fun a1 =>
   (some ((a1.1.1, ()), ()))) (fun b1 =>
   (Empty.elim b1)) y0)))
theorem stringslite_Index.eq (g_stringslite_IndexByte : stringslite_IndexByte.sh.X → Option stringslite_IndexByte.osh.X) (l0 : stringslite_Index.s0.X → Option (sumX stringslite_Index.x0)) (l1 : stringslite_Index.s1.X → Option (sumX stringslite_Index.x1)) (x : ((ByteArray × ByteArray × Unit) × (Unit))) : (bodyO (stringslite_Index.E g_stringslite_IndexByte l0 l1) (mk stringslite_Index.hs stringslite_Index.c []) Go.Proofs.Tryd.f63.results.toList stringslite_Index.sh stringslite_Index.osh x).run _ some = stringslite_Index.f l0 x.1.1 x.1.2.1 := by
  show _ = (_ : Option _)
  kernel_rfl
noncomputable def stringslite_Index (s : ByteArray) (substr : ByteArray) : Option ((Int × Unit) × (Unit)) := stringslite_Index.f stringslite_Index.L0 s substr
noncomputable def stringslite_Index.F (x : ((ByteArray × ByteArray × Unit) × (Unit))) : Option ((Int × Unit) × (Unit)) := stringslite_Index x.1.1 x.1.2.1
theorem stringslite_Index.L0_eq (s_0 : ByteArray) (substr_1 : ByteArray) (n_5 : Int) : stringslite_Index.L0 ((s_0, substr_1, n_5, ()), ()) = stringslite_Index.f0 stringslite_IndexByte.F stringslite_Index.L1 s_0 substr_1 n_5 := rfl
theorem stringslite_Index.L1_eq (s_0 : ByteArray) (substr_1 : ByteArray) (n_5 : Int) : stringslite_Index.L1 ((s_0, substr_1, n_5, ()), ()) = stringslite_Index.f1 s_0 substr_1 n_5 := rfl
theorem stringslite_Index.F_eq (s : ByteArray) (substr : ByteArray) : stringslite_Index.F ((s, substr, ()), ()) = stringslite_Index.f stringslite_Index.L0 s substr := rfl
theorem stringslite_Index.ok {tabs : List (Nat × Go.Obj)} (ht : TabsOk tabs) : FOK Go.Proofs.Tryd.prog tabs 63 (FE.of [true, true] false stringslite_Index.sh stringslite_Index.osh stringslite_Index.F) := by
  refine fn_keeps (E := (stringslite_Index.E stringslite_IndexByte.F stringslite_Index.L0 stringslite_Index.L1)) (c := stringslite_Index.c) (fn := Go.Proofs.Tryd.f63) (hs := stringslite_Index.hs) (by kernel_rfl) Go.Proofs.Tryd.func63 ⟨by kernel_rfl, by kernel_rfl, tb, by kernel_rfl, by kernel_rfl, by kernel_rfl, by kernel_rfl, by kernel_rfl⟩ ⟨fun g ks fe h => ?_, gt_ok ht⟩ ?_ (fun x => stringslite_Index.eq stringslite_IndexByte.F stringslite_Index.L0 stringslite_Index.L1 x)
  · rcases c_cons h with ⟨rfl, rfl⟩ | h
    · exact stringslite_IndexByte.ok ht
    cases h
  · refine known_at 2 (by kernel_rfl) fun i hi => ?_
    match i, hi with
    | 0, _ => exact atom_at (id := 0) (live := [0, 1, 5]) (outs := [(1, [4])]) (loop := false) (by kernel_rfl) (cut_ok (E := (stringslite_Index.E stringslite_IndexByte.F stringslite_Index.L0 stringslite_Index.L1)) (sh := stringslite_Index.s0) (es := stringslite_Index.x0) rfl (fun L x => stringslite_Index.eq0 stringslite_IndexByte.F stringslite_Index.L0 stringslite_Index.L1 L x))
    | 1, _ => exact atom_at (id := 1) (live := [0, 1, 5]) (outs := [(0, [0, 1, 5, 16])]) (loop := false) (by kernel_rfl) (cut_ok (E := (stringslite_Index.E stringslite_IndexByte.F stringslite_Index.L0 stringslite_Index.L1)) (sh := stringslite_Index.s1) (es := stringslite_Index.x1) rfl (fun L x => stringslite_Index.eq1 stringslite_IndexByte.F stringslite_Index.L0 stringslite_Index.L1 L x))
    | n + 2, h => exact absurd h (by omega)

/-! stringslite_Cut -/
def stringslite_Cut.f (g_stringslite_Index : ((ByteArray × ByteArray × Unit) × (Unit)) → Option ((Int × Unit) × (Unit))) (s : ByteArray) (sep : ByteArray) : Option ((ByteArray × ByteArray × Bool × Unit) × (Unit)) :=
  (Option.bind (g_stringslite_Index ((s, (sep, ())), ())) (fun y0 =>
  (bif (decide (y0.1.1 ≥ (0:Int))) then
   (bif (decide ((0:Int) ≤ y0.1.1)) then
    (bif (decide (y0.1.1 ≤ (((ByteArray.size s) : Nat) : Int))) then
     (bif (decide ((0:Int) ≤ (Go.IntKind.wrap Go.IntKind.i64 (y0.1.1 + (((ByteArray.size sep) : Nat) : Int))))) then
      (bif (decide ((Go.IntKind.wrap Go.IntKind.i64 (y0.1.1 + (((ByteArray.size sep) : Nat) : Int))) ≤ (((ByteArray.size s) : Nat) : Int))) then
       (some (((ByteArray.extract s (Int.toNat (0:Int)) (Int.toNat y0.1.1)), ((ByteArray.extract s (Int.toNat (Go.IntKind.wrap Go.IntKind.i64 (y0.1.1 + (((ByteArray.size sep) : Nat) : Int)))) (Int.toNat (((ByteArray.size s) : Nat) : Int))), (Bool.true, ()))), ()))
      else
       none)
     else
      none)
    else
     none)
   else
    none)
  else
   (some ((s, ((ByteArray.mk #[]), (Bool.false, ()))), ())))))
theorem stringslite_Cut.eq (g_stringslite_Index : stringslite_Index.sh.X → Option stringslite_Index.osh.X) (x : ((ByteArray × ByteArray × Unit) × (Unit))) : (bodyO (stringslite_Cut.E g_stringslite_Index) (mk stringslite_Cut.hs stringslite_Cut.c []) Go.Proofs.Tryd.f53.results.toList stringslite_Cut.sh stringslite_Cut.osh x).run _ some = stringslite_Cut.f g_stringslite_Index x.1.1 x.1.2.1 := by
  show _ = (_ : Option _)
  kernel_rfl
noncomputable def stringslite_Cut (s : ByteArray) (sep : ByteArray) : Option ((ByteArray × ByteArray × Bool × Unit) × (Unit)) := stringslite_Cut.f stringslite_Index.F s sep
noncomputable def stringslite_Cut.F (x : ((ByteArray × ByteArray × Unit) × (Unit))) : Option ((ByteArray × ByteArray × Bool × Unit) × (Unit)) := stringslite_Cut x.1.1 x.1.2.1
theorem stringslite_Cut.F_eq (s : ByteArray) (sep : ByteArray) : stringslite_Cut.F ((s, sep, ()), ()) = stringslite_Cut.f stringslite_Index.F s sep := rfl
theorem stringslite_Cut.ok {tabs : List (Nat × Go.Obj)} (ht : TabsOk tabs) : FOK Go.Proofs.Tryd.prog tabs 53 (FE.of [true, true] false stringslite_Cut.sh stringslite_Cut.osh stringslite_Cut.F) := by
  refine fn_keeps (E := (stringslite_Cut.E stringslite_Index.F)) (c := stringslite_Cut.c) (fn := Go.Proofs.Tryd.f53) (hs := stringslite_Cut.hs) (by kernel_rfl) Go.Proofs.Tryd.func53 ⟨by kernel_rfl, by kernel_rfl, tb, by kernel_rfl, by kernel_rfl, by kernel_rfl, by kernel_rfl, by kernel_rfl⟩ ⟨fun g ks fe h => ?_, gt_ok ht⟩ ?_ (fun x => stringslite_Cut.eq stringslite_Index.F x)
  · rcases c_cons h with ⟨rfl, rfl⟩ | h
    · exact stringslite_Index.ok ht
    cases h
  · exact known_at 0 (by kernel_rfl) fun i hi => absurd hi (Nat.not_lt_zero i)

/-! strings_Cut -/
def strings_Cut.f (g_stringslite_Cut : ((ByteArray × ByteArray × Unit) × (Unit)) → Option ((ByteArray × ByteArray × Bool × Unit) × (Unit))) (s : ByteArray) (sep : ByteArray) : Option ((ByteArray × ByteArray × Bool × Unit) × (Unit)) :=
  (Option.bind (g_stringslite_Cut ((s, (sep, ())), ())) (fun y0 =>
  (some ((y0.1.1, (y0.1.2.1, (y0.1.2.2.1, ()))), ()))))
theorem strings_Cut.eq (g_stringslite_Cut : stringslite_Cut.sh.X → Option stringslite_Cut.osh.X) (x : ((ByteArray × ByteArray × Unit) × (Unit))) : (bodyO (strings_Cut.E g_stringslite_Cut) (mk strings_Cut.hs strings_Cut.c []) Go.Proofs.Tryd.f43.results.toList strings_Cut.sh strings_Cut.osh x).run _ some = strings_Cut.f g_stringslite_Cut x.1.1 x.1.2.1 := by
  show _ = (_ : Option _)
  kernel_rfl
noncomputable def strings_Cut (s : ByteArray) (sep : ByteArray) : Option ((ByteArray × ByteArray × Bool × Unit) × (Unit)) := strings_Cut.f stringslite_Cut.F s sep
noncomputable def strings_Cut.F (x : ((ByteArray × ByteArray × Unit) × (Unit))) : Option ((ByteArray × ByteArray × Bool × Unit) × (Unit)) := strings_Cut x.1.1 x.1.2.1
theorem strings_Cut.F_eq (s : ByteArray) (sep : ByteArray) : strings_Cut.F ((s, sep, ()), ()) = strings_Cut.f stringslite_Cut.F s sep := rfl
theorem strings_Cut.ok {tabs : List (Nat × Go.Obj)} (ht : TabsOk tabs) : FOK Go.Proofs.Tryd.prog tabs 43 (FE.of [true, true] false strings_Cut.sh strings_Cut.osh strings_Cut.F) := by
  refine fn_keeps (E := (strings_Cut.E stringslite_Cut.F)) (c := strings_Cut.c) (fn := Go.Proofs.Tryd.f43) (hs := strings_Cut.hs) (by kernel_rfl) Go.Proofs.Tryd.func43 ⟨by kernel_rfl, by kernel_rfl, tb, by kernel_rfl, by kernel_rfl, by kernel_rfl, by kernel_rfl, by kernel_rfl⟩ ⟨fun g ks fe h => ?_, gt_ok ht⟩ ?_ (fun x => strings_Cut.eq stringslite_Cut.F x)
  · rcases c_cons h with ⟨rfl, rfl⟩ | h
    · exact stringslite_Cut.ok ht
    cases h
  · exact known_at 0 (by kernel_rfl) fun i hi => absurd hi (Nat.not_lt_zero i)

/-! strconv_Atoi -/
/-- What strconv.Atoi answers: a number, and whether there is an error. -/
def strconv_Atoi.end (l : List UInt8) : Int × Bool := match Go.Lib.atoiAll l with | .ok v => (v, false) | .«syntax» => (0, true) | .range => (Go.Lib.atoiSat l, true)
noncomputable def strconv_Atoi.F (x : ((ByteArray × Unit) × (Unit))) : Option ((Int × Bool × Unit) × (Unit)) := bif decide (x.1.1.size ≤ 281474976710656) then some (((strconv_Atoi.end x.1.1.data.toList).1, (strconv_Atoi.end x.1.1.data.toList).2, ()), ()) else none
theorem strconv_Atoi.F_eq (s : ByteArray) : strconv_Atoi.F ((s, ()), ()) = bif decide (s.size ≤ 281474976710656) then some (((strconv_Atoi.end s.data.toList).1, (strconv_Atoi.end s.data.toList).2, ()), ()) else none := rfl
theorem strconv_Atoi.ok {tabs : List (Nat × Go.Obj)} (ht : TabsOk tabs) : FOK Go.Proofs.Tryd.prog tabs 44 (FE.of [true] false strconv_Atoi.sh strconv_Atoi.osh strconv_Atoi.F) := by
  refine fok_shelf2 Go.Proofs.Tryd.func44 (c := strconv_Atoi.c) (by kernel_rfl) (by kernel_rfl) rfl rfl fun x y h => ?_
  unfold strconv_Atoi.F at h
  by_cases c : x.1.1.size ≤ 281474976710656
  · rw [decide_eq_true c] at h
    cases h
    refine ⟨_, rfl, fun w hw => ?_⟩
    have hD : ∀ (n : Int) (b : Bool) (v : Go.Value), v.oneCell' = true → (b = false → v = .nilIface) → (b = true → ∃ t x, v = .iface t x) → ∀ (w' : Go.World) (α : Nat → Go.Value) (ok : Nat → Prop) (h : Heap), F2 (DR w' α ok h) (dsEnc strconv_Atoi.osh.ds ((n, b, ()) : dsX strconv_Atoi.osh.ds)) [.int .i64 n, v] :=
      fun n b v h1 h2 h3 w' α ok h => ⟨by simp [DR, LR, Rep, DS.enc, LS.enc], ⟨v, rfl, h1, h2, h3⟩, trivial⟩
    unfold strconv_Atoi.end
    cases hE : Go.Lib.atoiAll x.1.1.data.toList with
    | ok v =>
      refine (Go.Proofs.Tryd.strconv_Atoi_ok x.1.1 (by omega) v hE w).mono fun e w' h => ?_
      obtain ⟨rfl, hb⟩ := h
      refine ⟨[.int .i64 v, .nilIface], rfl, hD v false .nilIface rfl (fun _ => rfl) (fun h => by cases h) w', ?_⟩
      rcases hb with rfl | ⟨t, rfl⟩
      · exact Go.RowKit.Below.refl _ _
      · exact Go.Lib.bytesWorld_below _ _ _
    | «syntax» =>
      obtain ⟨tp, p, hv⟩ := errVar_of (g := 3) (P := Go.Proofs.Tryd.prog) (name := "strconv.ErrSyntax") (by kernel_rfl) (by unfold TabsOk at ht; first | exact ht.1 | exact ht.2.1 | exact ht.2.2.1 | exact ht.2.2.2.1) hw
      refine (Go.Proofs.Tryd.strconv_Atoi_syntax_var x.1.1 c hE tp p w hv).mono fun e w' h => ?_
      obtain ⟨N, rfl, _, _, hb⟩ := h
      exact ⟨_, rfl, hD 0 true _ rfl (fun h => by cases h) (fun _ => ⟨_, _, rfl⟩) w', hb⟩
    | range =>
      obtain ⟨tp, p, hv⟩ := errVar_of (g := 4) (P := Go.Proofs.Tryd.prog) (name := "strconv.ErrRange") (by kernel_rfl) (by unfold TabsOk at ht; first | exact ht.1 | exact ht.2.1 | exact ht.2.2.1 | exact ht.2.2.2.1) hw
      refine (Go.Proofs.Tryd.strconv_Atoi_range_var x.1.1 c hE tp p w hv).mono fun e w' h => ?_
      obtain ⟨N, rfl, _, _, hb⟩ := h
      exact ⟨_, rfl, hD _ true _ rfl (fun h => by cases h) (fun _ => ⟨_, _, rfl⟩) w', hb⟩
  · rw [decide_eq_false c] at h
    cases h

end Go.Proofs.YtdfdecpplnjdcaaDoor.V
