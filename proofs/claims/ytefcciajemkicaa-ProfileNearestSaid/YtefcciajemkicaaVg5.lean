import Derived.Test.YtefcciajemkicaaVg4
import Derived.WalkKit
set_option linter.unusedVariables false
set_option maxRecDepth 100000
namespace Go.Proofs.Ytefcciajemkicaa.V
open Go.VI
/-! ref13_Gap -/
def ref13_Gap.f (g_ref13_Product : Y124 → Option Y140) (g_ref13_product : Y124 → Option Y143) (g_ref13_Between : Y135 → Option Y131) (x_ y : List Int) : Option Y122 :=
  (Option.bind (g_ref13_Product ((x_, (y, ())), ())) (fun y0 =>
 (bif (y0.1.2.1 != (0:Int)) then
 (some ((((0:Int), ((0:Int), ())), (y0.1.2.1, ())), ()))
 else
 (Option.bind (g_ref13_product ((x_, (x_, ())), ())) (fun y2 =>
 (Option.bind (g_ref13_product ((y, (y, ())), ())) (fun y3 =>
 (Option.bind (g_ref13_Between ((y0.1.1, (y2.1.1, (y3.1.1, ()))), ())) (fun y4 =>
 (some (((y4.1.1.1, (y4.1.1.2.1, ())), ((0:Int), ())), ())))))))))))
theorem ref13_Gap.eq (g_ref13_Product : ref13_Product.G) (g_ref13_product : ref13_product.G) (g_ref13_Between : ref13_Between.G) (x : ref13_Gap.sh.X) : bodO (ref13_Gap.E g_ref13_Product g_ref13_product g_ref13_Between) ref13_Gap.hs ref13_Gap.c Try.f43 ref13_Gap.sh ref13_Gap.osh x = ref13_Gap.f g_ref13_Product g_ref13_product g_ref13_Between x.1.1 x.1.2.1 := by
  show _ = (_ : Option _)
  kernel_rfl
noncomputable def ref13_Gap (x_ y : List Int) : Option Y122 := ref13_Gap.f ref13_Product.F ref13_product.F ref13_Between.F x_ y
noncomputable def ref13_Gap.F (x : Y124) : Option Y122 := ref13_Gap x.1.1 x.1.2.1
theorem ref13_Gap.F_eq (x_ y : List Int) : ref13_Gap.F ((x_, y, ()), ()) = ref13_Gap.f ref13_Product.F ref13_product.F ref13_Between.F x_ y := rfl
theorem ref13_Gap.ok {tabs : List (Nat × Go.Obj)} (ht : TabsOk tabs) : FOK Try.prog tabs 43 (ref13_Gap.fe ref13_Gap.F) := by
  refine fn_keep2 Try.func43 (ref13_Gap.eq ref13_Product.F ref13_product.F ref13_Between.F) pw tb (gt_ok ht) (by kernel_rfl) (by kernel_rfl) (fun g ks fe h => ?_) ?_
  · rcases c_cons h with ⟨rfl, rfl⟩ | h
    · exact ref13_Product.ok ht
    rcases c_cons h with ⟨rfl, rfl⟩ | h
    · exact ref13_product.ok ht
    rcases c_cons h with ⟨rfl, rfl⟩ | h
    · exact ref13_Between.ok ht
    cases h
  · exact known_at 0 (by kernel_rfl) fun i hi => absurd hi (Nat.not_lt_zero i)

/-! ref12_Distance -/
def ref12_Distance.f (g_ref12_Two : Y115 → Option Y143) (g_ref12_sums : Y124 → Option Y140) (x_ y : List Int) : Option Y140 :=
  (Option.bind (g_ref12_Two ((x_, (y, ((0:Int), ()))), ())) (fun y0 =>
 (bif (y0.1.1 != (0:Int)) then
 (some (((0:Int), (y0.1.1, ())), ()))
 else
 (Option.bind (g_ref12_sums ((x_, (y, ())), ())) (fun y2 =>
 (some ((y2.1.2.1, ((0:Int), ())), ())))))))
theorem ref12_Distance.eq (g_ref12_Two : ref12_Two.G) (g_ref12_sums : ref12_sums.G) (x : ref12_Distance.sh.X) : bodO (ref12_Distance.E g_ref12_Two g_ref12_sums) ref12_Distance.hs ref12_Distance.c Try.f44 ref12_Distance.sh ref12_Distance.osh x = ref12_Distance.f g_ref12_Two g_ref12_sums x.1.1 x.1.2.1 := by
  show _ = (_ : Option _)
  kernel_rfl
noncomputable def ref12_Distance (x_ y : List Int) : Option Y140 := ref12_Distance.f ref12_Two.F ref12_sums.F x_ y
noncomputable def ref12_Distance.F (x : Y124) : Option Y140 := ref12_Distance x.1.1 x.1.2.1
theorem ref12_Distance.F_eq (x_ y : List Int) : ref12_Distance.F ((x_, y, ()), ()) = ref12_Distance.f ref12_Two.F ref12_sums.F x_ y := rfl
theorem ref12_Distance.ok {tabs : List (Nat × Go.Obj)} (ht : TabsOk tabs) : FOK Try.prog tabs 44 (ref12_Distance.fe ref12_Distance.F) := by
  refine fn_keep2 Try.func44 (ref12_Distance.eq ref12_Two.F ref12_sums.F) pw tb (gt_ok ht) (by kernel_rfl) (by kernel_rfl) (fun g ks fe h => ?_) ?_
  · rcases c_cons h with ⟨rfl, rfl⟩ | h
    · exact ref12_Two.ok ht
    rcases c_cons h with ⟨rfl, rfl⟩ | h
    · exact ref12_sums.ok ht
    cases h
  · exact known_at 0 (by kernel_rfl) fun i hi => absurd hi (Nat.not_lt_zero i)

/-! ref14_Check -/
def ref14_Check.f (g_ref12_Two : Y115 → Option Y143) (x_ y : List Int) (band : Int) : Option Y143 :=
  (bif (decide (band < (0:Int))) then
 (some (((1:Int), ()), ()))
 else
 (bif (decide (band > (32:Int))) then
 (some (((1:Int), ()), ()))
 else
 (Option.bind (g_ref12_Two ((x_, (y, (band, ()))), ())) (fun y2 =>
 (some ((y2.1.1, ()), ()))))))
theorem ref14_Check.eq (g_ref12_Two : ref12_Two.G) (x : ref14_Check.sh.X) : bodO (ref14_Check.E g_ref12_Two) ref14_Check.hs ref14_Check.c Try.f65 ref14_Check.sh ref14_Check.osh x = ref14_Check.f g_ref12_Two x.1.1 x.1.2.1 x.1.2.2.1 := by
  show _ = (_ : Option _)
  kernel_rfl
noncomputable def ref14_Check (x_ y : List Int) (band : Int) : Option Y143 := ref14_Check.f ref12_Two.F x_ y band
noncomputable def ref14_Check.F (x : Y115) : Option Y143 := ref14_Check x.1.1 x.1.2.1 x.1.2.2.1
theorem ref14_Check.F_eq (x_ y : List Int) (band : Int) : ref14_Check.F ((x_, y, band, ()), ()) = ref14_Check.f ref12_Two.F x_ y band := rfl
theorem ref14_Check.ok {tabs : List (Nat × Go.Obj)} (ht : TabsOk tabs) : FOK Try.prog tabs 65 (ref14_Check.fe ref14_Check.F) := by
  refine fn_keep2 Try.func65 (ref14_Check.eq ref12_Two.F) pw tb (gt_ok ht) (by kernel_rfl) (by kernel_rfl) (fun g ks fe h => ?_) ?_
  · rcases c_cons h with ⟨rfl, rfl⟩ | h
    · exact ref12_Two.ok ht
    cases h
  · exact known_at 0 (by kernel_rfl) fun i hi => absurd hi (Nat.not_lt_zero i)

/-! ref14_Costs -/
def ref14_Costs.f1 (L : Y49 → Option Y56) (x_0 y_1 : List Int) (i_6 v12 v13 v17 v18 : Int) (o0 : List (List Int)) : Option Y56 :=
  (bif (decide (v18 < v17)) then
 (bif (decide ((0:Int) ≤ i_6)) then
 (bif (decide (i_6 < (((List.length o0) : Nat) : Int))) then
 (bif (decide ((Int.toNat i_6) < (List.length o0))) then
 (bif (decide ((0:Int) ≤ i_6)) then
 (bif (decide (i_6 < (((List.length x_0) : Nat) : Int))) then
 (bif (decide ((0:Int) ≤ v18)) then
 (bif (decide (v18 < (((List.length y_1) : Nat) : Int))) then
 (bif (decide ((0:Int) ≤ i_6)) then
 (bif (decide (i_6 < (((List.length x_0) : Nat) : Int))) then
 (bif (decide ((0:Int) ≤ v18)) then
 (bif (decide (v18 < (((List.length y_1) : Nat) : Int))) then
 (bif (decide ((Int.toNat i_6) < (List.length o0))) then
 (bif (decide ((((List.length (List.getD o0 (Int.toNat i_6) ([] : List Int))) + (List.length [(Go.IntKind.wrap Go.IntKind.i64 ((Go.IntKind.wrap Go.IntKind.i64 ((List.getD x_0 (Int.toNat i_6) (0:Int)) - (List.getD y_1 (Int.toNat v18) (0:Int)))) * (Go.IntKind.wrap Go.IntKind.i64 ((List.getD x_0 (Int.toNat i_6) (0:Int)) - (List.getD y_1 (Int.toNat v18) (0:Int))))))])) * (8:Nat)) ≤ (140737488355328:Nat))) then
 (bif (decide ((0:Int) ≤ i_6)) then
 (bif (decide (i_6 < (((List.length o0) : Nat) : Int))) then
 (bif ((decide ((Int.toNat i_6) = (Int.toNat i_6))) && (decide ((Int.toNat i_6) < (List.length o0)))) then
 (Option.bind (L ((x_0, (y_1, ((), (i_6, (v12, (v13, (v17, ((Go.IntKind.wrap Go.IntKind.i64 (v18 + (1:Int))), ())))))))), ((List.set o0 (Int.toNat i_6) ((List.getD o0 (Int.toNat i_6) ([] : List Int)) ++ [(Go.IntKind.wrap Go.IntKind.i64 ((Go.IntKind.wrap Go.IntKind.i64 ((List.getD x_0 (Int.toNat i_6) (0:Int)) - (List.getD y_1 (Int.toNat v18) (0:Int)))) * (Go.IntKind.wrap Go.IntKind.i64 ((List.getD x_0 (Int.toNat i_6) (0:Int)) - (List.getD y_1 (Int.toNat v18) (0:Int))))))])), ()))) (fun y17 =>
 (some y17)))
 else
 none)
 else
 none)
 else
 none)
 else
 none)
 else
 none)
 else
 none)
 else
 none)
 else
 none)
 else
 none)
 else
 none)
 else
 none)
 else
 none)
 else
 none)
 else
 none)
 else
 none)
 else
 none)
 else
 (some (Sum.inl ((x_0, (y_1, ((), (v12, (v13, ()))))), (o0, ())))))
theorem ref14_Costs.eq1 (l0 : ref14_Costs.A0) (l1 : ref14_Costs.A1) (L : ref14_Costs.A1) (x : ref14_Costs.s1.X) : rndO (ref14_Costs.E l0 l1) ref14_Costs.hs ref14_Costs.c ref14_Costs.s1 ref14_Costs.x1 1 true L x = ref14_Costs.f1 L x.1.1 x.1.2.1 x.1.2.2.2.1 x.1.2.2.2.2.1 x.1.2.2.2.2.2.1 x.1.2.2.2.2.2.2.1 x.1.2.2.2.2.2.2.2.1 x.2.1 := by
  show _ = (_ : Option _)
  kernel_rfl
noncomputable def ref14_Costs.L1 : Y49 → Option Y56 := loop fun L x => ref14_Costs.f1 L x.1.1 x.1.2.1 x.1.2.2.2.1 x.1.2.2.2.2.1 x.1.2.2.2.2.2.1 x.1.2.2.2.2.2.2.1 x.1.2.2.2.2.2.2.2.1 x.2.1
def ref14_Costs.f0 (l1 : Y49 → Option Y56) (L : Y68 → Option Y109) (x_0 y_1 : List Int) (v12 v13 : Int) (o0 : List (List Int)) : Option Y109 :=
  (bif (decide (v13 < v12)) then
 (Option.bind (l1 ((x_0, (y_1, ((), (v13, (v12, (v13, ((((List.length y_1) : Nat) : Int), ((0:Int), ())))))))), (o0, ()))) (fun y1 =>
 (Sum.elim (fun a2 =>
 (Option.bind (L ((a2.1.1, (a2.1.2.1, ((), (a2.1.2.2.2.1, ((Go.IntKind.wrap Go.IntKind.i64 (a2.1.2.2.2.2.1 + (1:Int))), ()))))), (a2.2.1, ()))) (fun y3 =>
 (some y3)))) (fun b2 =>
 (Empty.elim b2)) y1)))
 else
 (some (Sum.inl (((), ()), (o0, ())))))
theorem ref14_Costs.eq0 (l0 : ref14_Costs.A0) (l1 : ref14_Costs.A1) (L : ref14_Costs.A0) (x : ref14_Costs.s0.X) : rndO (ref14_Costs.E l0 l1) ref14_Costs.hs ref14_Costs.c ref14_Costs.s0 ref14_Costs.x0 0 true L x = ref14_Costs.f0 l1 L x.1.1 x.1.2.1 x.1.2.2.2.1 x.1.2.2.2.2.1 x.2.1 := by
  show _ = (_ : Option _)
  kernel_rfl
noncomputable def ref14_Costs.L0 : Y68 → Option Y109 := loop fun L x => ref14_Costs.f0 ref14_Costs.L1 L x.1.1 x.1.2.1 x.1.2.2.2.1 x.1.2.2.2.2.1 x.2.1
def ref14_Costs.f (l0 : Y68 → Option Y109) (x_ y : List Int) : Option Y132 :=
  (bif (decide ((((List.length x_) : Nat) : Int) = (((List.length x_) : Nat) : Int))) then
 (bif ((decide (((((24:Nat) : Nat) : Int) * (((List.length x_) : Nat) : Int)) ≤ (281474976710656:Int))) && Bool.true) then
 (Option.bind (l0 ((x_, (y, ((), ((((List.length x_) : Nat) : Int), ((0:Int), ()))))), ((List.replicate (Int.toNat (((List.length x_) : Nat) : Int)) ([] : List Int)), ()))) (fun y2 =>
 (Sum.elim (fun a3 =>
 (some ((a3.2.1, ()), ()))) (fun b3 =>
 (Empty.elim b3)) y2)))
 else
 none)
 else
 none)
theorem ref14_Costs.eq (l0 : ref14_Costs.A0) (l1 : ref14_Costs.A1) (x : ref14_Costs.sh.X) : bodO (ref14_Costs.E l0 l1) ref14_Costs.hs ref14_Costs.c Try.f67 ref14_Costs.sh ref14_Costs.osh x = ref14_Costs.f l0 x.1.1 x.1.2.1 := by
  show _ = (_ : Option _)
  kernel_rfl
noncomputable def ref14_Costs (x_ y : List Int) : Option Y132 := ref14_Costs.f ref14_Costs.L0 x_ y
noncomputable def ref14_Costs.F (x : Y124) : Option Y132 := ref14_Costs x.1.1 x.1.2.1
theorem ref14_Costs.L0_eq (x_0 y_1 : List Int) (v12 v13 : Int) (o0 : List (List Int)) : ref14_Costs.L0 ((x_0, y_1, (), v12, v13, ()), (o0, ())) = ref14_Costs.f0 ref14_Costs.L1 ref14_Costs.L0 x_0 y_1 v12 v13 o0 :=
  loop_eq (E := (ref14_Costs.E ref14_Costs.L0 ref14_Costs.L1)) (sh := ref14_Costs.s0) (es := ref14_Costs.x0) (lp := true) (H := fun L x => ref14_Costs.eq0 ref14_Costs.L0 ref14_Costs.L1 L x) ((x_0, y_1, (), v12, v13, ()), (o0, ()))
theorem ref14_Costs.L1_eq (x_0 y_1 : List Int) (i_6 v12 v13 v17 v18 : Int) (o0 : List (List Int)) : ref14_Costs.L1 ((x_0, y_1, (), i_6, v12, v13, v17, v18, ()), (o0, ())) = ref14_Costs.f1 ref14_Costs.L1 x_0 y_1 i_6 v12 v13 v17 v18 o0 :=
  loop_eq (E := (ref14_Costs.E ref14_Costs.L0 ref14_Costs.L1)) (sh := ref14_Costs.s1) (es := ref14_Costs.x1) (lp := true) (H := fun L x => ref14_Costs.eq1 ref14_Costs.L0 ref14_Costs.L1 L x) ((x_0, y_1, (), i_6, v12, v13, v17, v18, ()), (o0, ()))
theorem ref14_Costs.F_eq (x_ y : List Int) : ref14_Costs.F ((x_, y, ()), ()) = ref14_Costs.f ref14_Costs.L0 x_ y := rfl
theorem ref14_Costs.ok {tabs : List (Nat × Go.Obj)} (ht : TabsOk tabs) : FOK Try.prog tabs 67 (ref14_Costs.fe ref14_Costs.F) := by
  refine fn_keep2 Try.func67 (ref14_Costs.eq ref14_Costs.L0 ref14_Costs.L1) pw tb (gt_ok ht) (by kernel_rfl) (by kernel_rfl) (fun g ks fe h => ?_) ?_
  · cases h
  · refine known_at 2 (by kernel_rfl) fun i hi => ?_
    match i, hi with
    | 0, _ => exact atomH (loop_ok (es := ref14_Costs.x0) rfl (ref14_Costs.eq0 ref14_Costs.L0 ref14_Costs.L1)) (by kernel_rfl)
    | 1, _ => exact atomH (loop_ok (es := ref14_Costs.x1) rfl (ref14_Costs.eq1 ref14_Costs.L0 ref14_Costs.L1)) (by kernel_rfl)
    | n + 2, h => exact absurd h (by omega)

/-! ref14_out -/
def ref14_out.f0 (n_0 m_1 band_2 i_3 j_4 : Int) : Option Y136 :=
  (bif (decide (i_3 < (0:Int))) then
 (some (Sum.inl ((Bool.true, ()), ())))
 else
 (bif (decide (j_4 < (0:Int))) then
 (some (Sum.inl ((Bool.true, ()), ())))
 else
 (bif (decide (i_3 ≥ n_0)) then
 (some (Sum.inl ((Bool.true, ()), ())))
 else
 (bif (decide (j_4 ≥ m_1)) then
 (some (Sum.inl ((Bool.true, ()), ())))
 else
 (bif (decide ((Go.IntKind.wrap Go.IntKind.i64 (i_3 - j_4)) > band_2)) then
 (some (Sum.inl ((Bool.true, ()), ())))
 else
 (some (Sum.inl (((decide ((Go.IntKind.wrap Go.IntKind.i64 (j_4 - i_3)) > band_2)), ()), ()))))))))
theorem ref14_out.eq0 (l0 : ref14_out.A0) (L : ref14_out.A0) (x : ref14_out.s0.X) : rndO (ref14_out.E l0) ref14_out.hs ref14_out.c ref14_out.s0 ref14_out.x0 0 false L x = ref14_out.f0 x.1.1 x.1.2.1 x.1.2.2.1 x.1.2.2.2.1 x.1.2.2.2.2.1 := by
  show _ = (_ : Option _)
  kernel_rfl
noncomputable def ref14_out.L0 : Y118 → Option Y136 := fun x => ref14_out.f0 x.1.1 x.1.2.1 x.1.2.2.1 x.1.2.2.2.1 x.1.2.2.2.2.1
def ref14_out.f (l0 : Y118 → Option Y136) (n m band i j : Int) : Option Y142 :=
  (Option.bind (l0 ((n, (m, (band, (i, (j, ()))))), ())) (fun y0 =>
 (Sum.elim (fun a1 =>
 (some ((a1.1.1, ()), ()))) (fun b1 =>
 (Empty.elim b1)) y0)))
theorem ref14_out.eq (l0 : ref14_out.A0) (x : ref14_out.sh.X) : bodO (ref14_out.E l0) ref14_out.hs ref14_out.c Try.f86 ref14_out.sh ref14_out.osh x = ref14_out.f l0 x.1.1 x.1.2.1 x.1.2.2.1 x.1.2.2.2.1 x.1.2.2.2.2.1 := by
  show _ = (_ : Option _)
  kernel_rfl
noncomputable def ref14_out (n m band i j : Int) : Option Y142 := ref14_out.f ref14_out.L0 n m band i j
noncomputable def ref14_out.F (x : Y118) : Option Y142 := ref14_out x.1.1 x.1.2.1 x.1.2.2.1 x.1.2.2.2.1 x.1.2.2.2.2.1
theorem ref14_out.L0_eq (n_0 m_1 band_2 i_3 j_4 : Int) : ref14_out.L0 ((n_0, m_1, band_2, i_3, j_4, ()), ()) = ref14_out.f0 n_0 m_1 band_2 i_3 j_4 := rfl
theorem ref14_out.F_eq (n m band i j : Int) : ref14_out.F ((n, m, band, i, j, ()), ()) = ref14_out.f ref14_out.L0 n m band i j := rfl
theorem ref14_out.ok {tabs : List (Nat × Go.Obj)} (ht : TabsOk tabs) : FOK Try.prog tabs 86 (ref14_out.fe ref14_out.F) := by
  refine fn_keep2 Try.func86 (ref14_out.eq ref14_out.L0) pw tb (gt_ok ht) (by kernel_rfl) (by kernel_rfl) (fun g ks fe h => ?_) ?_
  · cases h
  · refine known_at 1 (by kernel_rfl) fun i hi => ?_
    match i, hi with
    | 0, _ => exact atomH (cut_ok (es := ref14_out.x0) rfl (ref14_out.eq0 ref14_out.L0)) (by kernel_rfl)
    | n + 1, h => exact absurd h (by omega)

/-! ref14_At -/
def ref14_At.f (g_ref14_out : Y118 → Option Y142) (table : List (List Int)) (band i j : Int) : Option Y143 :=
  (bif ((((List.length table) : Nat) : Int) == (0:Int)) then
 (some (((4611686018427387904:Int), ()), ()))
 else
 (bif (decide ((0:Int) < (((List.length table) : Nat) : Int))) then
 (Option.bind (g_ref14_out (((((List.length table) : Nat) : Int), ((((List.length (List.getD table (Int.toNat (0:Int)) ([] : List Int))) : Nat) : Int), (band, (i, (j, ()))))), ())) (fun y2 =>
 (bif y2.1.1 then
 (some (((4611686018427387904:Int), ()), ()))
 else
 (bif (decide ((0:Int) ≤ i)) then
 (bif (decide (i < (((List.length table) : Nat) : Int))) then
 (bif (decide ((0:Int) ≤ j)) then
 (bif (decide (j < (((List.length (List.getD table (Int.toNat i) ([] : List Int))) : Nat) : Int))) then
 (some (((List.getD (List.getD table (Int.toNat i) ([] : List Int)) (Int.toNat j) (0:Int)), ()), ()))
 else
 none)
 else
 none)
 else
 none)
 else
 none))))
 else
 none))
theorem ref14_At.eq (g_ref14_out : ref14_out.G) (x : ref14_At.sh.X) : bodO (ref14_At.E g_ref14_out) ref14_At.hs ref14_At.c Try.f88 ref14_At.sh ref14_At.osh x = ref14_At.f g_ref14_out x.1.1 x.1.2.1 x.1.2.2.1 x.1.2.2.2.1 := by
  show _ = (_ : Option _)
  kernel_rfl
noncomputable def ref14_At (table : List (List Int)) (band i j : Int) : Option Y143 := ref14_At.f ref14_out.F table band i j
noncomputable def ref14_At.F (x : Y105) : Option Y143 := ref14_At x.1.1 x.1.2.1 x.1.2.2.1 x.1.2.2.2.1
theorem ref14_At.F_eq (table : List (List Int)) (band i j : Int) : ref14_At.F ((table, band, i, j, ()), ()) = ref14_At.f ref14_out.F table band i j := rfl
theorem ref14_At.ok {tabs : List (Nat × Go.Obj)} (ht : TabsOk tabs) : FOK Try.prog tabs 88 (ref14_At.fe ref14_At.F) := by
  refine fn_keep2 Try.func88 (ref14_At.eq ref14_out.F) pw tb (gt_ok ht) (by kernel_rfl) (by kernel_rfl) (fun g ks fe h => ?_) ?_
  · rcases c_cons h with ⟨rfl, rfl⟩ | h
    · exact ref14_out.ok ht
    cases h
  · exact known_at 0 (by kernel_rfl) fun i hi => absurd hi (Nat.not_lt_zero i)

/-! ref14_Before -/
def ref14_Before.f0 (g_ref14_At : Y105 → Option Y143) (L : Y26 → Option Y67) (table_0 : List (List Int)) (band_1 v25_0 v25_1 v25_2 v25_3 v26 o0_0 o0_1 o1_0 o1_1 : Int) : Option Y67 :=
  (bif (decide (v26 < (2:Int))) then
 (bif (decide ((0:Int) ≤ v26)) then
 (bif (decide (v26 < (((2:Nat) : Nat) : Int))) then
 (bif (v26 == (((0:Nat) : Nat) : Int)) then
 (Option.bind (g_ref14_At ((table_0, (band_1, (v25_0, (v25_1, ())))), ())) (fun y4 =>
 (Option.bind (g_ref14_At ((table_0, (band_1, (o1_0, (o1_1, ())))), ())) (fun y5 =>
 (bif (decide (y4.1.1 < y5.1.1)) then
 (Option.bind (L ((table_0, (band_1, ((), ((), ((v25_0, (v25_1, (v25_2, (v25_3, ())))), ((Go.IntKind.wrap Go.IntKind.i64 (v26 + (1:Int))), ())))))), ((o0_0, (o0_1, ())), ((v25_0, (v25_1, ())), ())))) (fun y7 =>
 (some y7)))
 else
 (Option.bind (L ((table_0, (band_1, ((), ((), ((v25_0, (v25_1, (v25_2, (v25_3, ())))), ((Go.IntKind.wrap Go.IntKind.i64 (v26 + (1:Int))), ())))))), ((o0_0, (o0_1, ())), ((o1_0, (o1_1, ())), ())))) (fun y7 =>
 (some y7))))))))
 else
 (bif (v26 == ((((0:Nat) + (1:Nat)) : Nat) : Int)) then
 (Option.bind (g_ref14_At ((table_0, (band_1, (v25_2, (v25_3, ())))), ())) (fun y5 =>
 (Option.bind (g_ref14_At ((table_0, (band_1, (o1_0, (o1_1, ())))), ())) (fun y6 =>
 (bif (decide (y5.1.1 < y6.1.1)) then
 (Option.bind (L ((table_0, (band_1, ((), ((), ((v25_0, (v25_1, (v25_2, (v25_3, ())))), ((Go.IntKind.wrap Go.IntKind.i64 (v26 + (1:Int))), ())))))), ((o0_0, (o0_1, ())), ((v25_2, (v25_3, ())), ())))) (fun y8 =>
 (some y8)))
 else
 (Option.bind (L ((table_0, (band_1, ((), ((), ((v25_0, (v25_1, (v25_2, (v25_3, ())))), ((Go.IntKind.wrap Go.IntKind.i64 (v26 + (1:Int))), ())))))), ((o0_0, (o0_1, ())), ((o1_0, (o1_1, ())), ())))) (fun y8 =>
 (some y8))))))))
 else
 none))
 else
 none)
 else
 none)
 else
 (some (Sum.inl (((), ((), ())), ((o0_0, (o0_1, ())), ((o1_0, (o1_1, ())), ()))))))
theorem ref14_Before.eq0 (g_ref14_At : ref14_At.G) (l0 : ref14_Before.A0) (L : ref14_Before.A0) (x : ref14_Before.s0.X) : rndO (ref14_Before.E g_ref14_At l0) ref14_Before.hs ref14_Before.c ref14_Before.s0 ref14_Before.x0 0 true L x = ref14_Before.f0 g_ref14_At L x.1.1 x.1.2.1 x.1.2.2.2.2.1.1 x.1.2.2.2.2.1.2.1 x.1.2.2.2.2.1.2.2.1 x.1.2.2.2.2.1.2.2.2.1 x.1.2.2.2.2.2.1 x.2.1.1 x.2.1.2.1 x.2.2.1.1 x.2.2.1.2.1 := by
  show _ = (_ : Option _)
  kernel_rfl
noncomputable def ref14_Before.L0 : Y26 → Option Y67 := loop fun L x => ref14_Before.f0 ref14_At.F L x.1.1 x.1.2.1 x.1.2.2.2.2.1.1 x.1.2.2.2.2.1.2.1 x.1.2.2.2.2.1.2.2.1 x.1.2.2.2.2.1.2.2.2.1 x.1.2.2.2.2.2.1 x.2.1.1 x.2.1.2.1 x.2.2.1.1 x.2.2.1.2.1
def ref14_Before.f (l0 : Y26 → Option Y67) (table : List (List Int)) (band i j : Int) : Option Y131 :=
  (Option.bind (l0 ((table, (band, ((), ((), (((Go.IntKind.wrap Go.IntKind.i64 (i - (1:Int))), (j, (i, ((Go.IntKind.wrap Go.IntKind.i64 (j - (1:Int))), ())))), ((0:Int), ())))))), (((0:Int), ((0:Int), ())), (((Go.IntKind.wrap Go.IntKind.i64 (i - (1:Int))), ((Go.IntKind.wrap Go.IntKind.i64 (j - (1:Int))), ())), ())))) (fun y0 =>
 (Sum.elim (fun a1 =>
 (some (((a1.2.2.1.1, (a1.2.2.1.2.1, ())), ()), ()))) (fun b1 =>
 (Empty.elim b1)) y0)))
theorem ref14_Before.eq (g_ref14_At : ref14_At.G) (l0 : ref14_Before.A0) (x : ref14_Before.sh.X) : bodO (ref14_Before.E g_ref14_At l0) ref14_Before.hs ref14_Before.c Try.f87 ref14_Before.sh ref14_Before.osh x = ref14_Before.f l0 x.1.1 x.1.2.1 x.1.2.2.1 x.1.2.2.2.1 := by
  show _ = (_ : Option _)
  kernel_rfl
noncomputable def ref14_Before (table : List (List Int)) (band i j : Int) : Option Y131 := ref14_Before.f ref14_Before.L0 table band i j
noncomputable def ref14_Before.F (x : Y105) : Option Y131 := ref14_Before x.1.1 x.1.2.1 x.1.2.2.1 x.1.2.2.2.1
theorem ref14_Before.L0_eq (table_0 : List (List Int)) (band_1 v25_0 v25_1 v25_2 v25_3 v26 o0_0 o0_1 o1_0 o1_1 : Int) : ref14_Before.L0 ((table_0, band_1, (), (), (v25_0, v25_1, v25_2, v25_3, ()), v26, ()), ((o0_0, o0_1, ()), (o1_0, o1_1, ()), ())) = ref14_Before.f0 ref14_At.F ref14_Before.L0 table_0 band_1 v25_0 v25_1 v25_2 v25_3 v26 o0_0 o0_1 o1_0 o1_1 :=
  loop_eq (E := (ref14_Before.E ref14_At.F ref14_Before.L0)) (sh := ref14_Before.s0) (es := ref14_Before.x0) (lp := true) (H := fun L x => ref14_Before.eq0 ref14_At.F ref14_Before.L0 L x) ((table_0, band_1, (), (), (v25_0, v25_1, v25_2, v25_3, ()), v26, ()), ((o0_0, o0_1, ()), (o1_0, o1_1, ()), ()))
theorem ref14_Before.F_eq (table : List (List Int)) (band i j : Int) : ref14_Before.F ((table, band, i, j, ()), ()) = ref14_Before.f ref14_Before.L0 table band i j := rfl
theorem ref14_Before.ok {tabs : List (Nat × Go.Obj)} (ht : TabsOk tabs) : FOK Try.prog tabs 87 (ref14_Before.fe ref14_Before.F) := by
  refine fn_keep2 Try.func87 (ref14_Before.eq ref14_At.F ref14_Before.L0) pw tb (gt_ok ht) (by kernel_rfl) (by kernel_rfl) (fun g ks fe h => ?_) ?_
  · rcases c_cons h with ⟨rfl, rfl⟩ | h
    · exact ref14_At.ok ht
    cases h
  · refine known_at 1 (by kernel_rfl) fun i hi => ?_
    match i, hi with
    | 0, _ => exact atomH (loop_ok (es := ref14_Before.x0) rfl (ref14_Before.eq0 ref14_At.F ref14_Before.L0)) (by kernel_rfl)
    | n + 1, h => exact absurd h (by omega)

/-! ref14_Fill -/
def ref14_Fill.f0 (L : Y69 → Option Y70) (costs_0 : List (List Int)) (band_1 v14 v15 : Int) (o0 : List (List Int)) : Option Y70 :=
  (bif (decide (v15 < v14)) then
 (bif (decide ((0:Int) ≤ v15)) then
 (bif (decide (v15 < (((List.length costs_0) : Nat) : Int))) then
 (bif (decide ((((List.length (List.getD costs_0 (Int.toNat v15) ([] : List Int))) : Nat) : Int) = (((List.length (List.getD costs_0 (Int.toNat v15) ([] : List Int))) : Nat) : Int))) then
 (bif ((decide (((((8:Nat) : Nat) : Int) * (((List.length (List.getD costs_0 (Int.toNat v15) ([] : List Int))) : Nat) : Int)) ≤ (281474976710656:Int))) && Bool.true) then
 (bif (decide ((0:Int) ≤ v15)) then
 (bif (decide (v15 < (((List.length o0) : Nat) : Int))) then
 (bif (decide ((Int.toNat v15) < (List.length o0))) then
 (Option.bind (L ((costs_0, (band_1, ((), (v14, ((Go.IntKind.wrap Go.IntKind.i64 (v15 + (1:Int))), ()))))), ((List.set o0 (Int.toNat v15) (List.replicate (Int.toNat (((List.length (List.getD costs_0 (Int.toNat v15) ([] : List Int))) : Nat) : Int)) (0:Int))), ()))) (fun y8 =>
 (some y8)))
 else
 none)
 else
 none)
 else
 none)
 else
 none)
 else
 none)
 else
 none)
 else
 none)
 else
 (some (Sum.inl ((costs_0, (band_1, ((), ()))), (o0, ())))))
theorem ref14_Fill.eq0 (g_ref14_out : ref14_out.G) (g_ref14_Before : ref14_Before.G) (g_ref14_At : ref14_At.G) (l0 : ref14_Fill.A0) (l1 : ref14_Fill.A1) (l2 : ref14_Fill.A2) (L : ref14_Fill.A0) (x : ref14_Fill.s0.X) : rndO (ref14_Fill.E g_ref14_out g_ref14_Before g_ref14_At l0 l1 l2) ref14_Fill.hs ref14_Fill.c ref14_Fill.s0 ref14_Fill.x0 0 true L x = ref14_Fill.f0 L x.1.1 x.1.2.1 x.1.2.2.2.1 x.1.2.2.2.2.1 x.2.1 := by
  show _ = (_ : Option _)
  kernel_rfl
noncomputable def ref14_Fill.L0 : Y69 → Option Y70 := loop fun L x => ref14_Fill.f0 L x.1.1 x.1.2.1 x.1.2.2.2.1 x.1.2.2.2.2.1 x.2.1
def ref14_Fill.f2 (g_ref14_out : Y118 → Option Y142) (g_ref14_Before : Y105 → Option Y131) (g_ref14_At : Y105 → Option Y143) (L : Y50 → Option Y55) (costs_0 : List (List Int)) (band_1 i_7 v29 v30 v37 v38 : Int) (o0 : List (List Int)) : Option Y55 :=
  (bif (decide (v38 < v37)) then
 (bif (decide ((0:Int) ≤ i_7)) then
 (bif (decide (i_7 < (((List.length costs_0) : Nat) : Int))) then
 (Option.bind (g_ref14_out (((((List.length costs_0) : Nat) : Int), ((((List.length (List.getD costs_0 (Int.toNat i_7) ([] : List Int))) : Nat) : Int), (band_1, (i_7, (v38, ()))))), ())) (fun y3 =>
 (bif y3.1.1 then
 (Option.bind (L ((costs_0, (band_1, ((), (i_7, (v29, (v30, (v37, ((Go.IntKind.wrap Go.IntKind.i64 (v38 + (1:Int))), ())))))))), (o0, ()))) (fun y5 =>
 (some y5)))
 else
 (bif (decide ((0:Int) ≤ i_7)) then
 (bif (decide (i_7 < (((List.length o0) : Nat) : Int))) then
 (bif (decide ((Int.toNat i_7) < (List.length o0))) then
 (bif (decide ((0:Int) ≤ i_7)) then
 (bif (decide (i_7 < (((List.length costs_0) : Nat) : Int))) then
 (bif (decide ((0:Int) ≤ v38)) then
 (bif (decide (v38 < (((List.length (List.getD costs_0 (Int.toNat i_7) ([] : List Int))) : Nat) : Int))) then
 (bif (decide ((Int.toNat i_7) < (List.length o0))) then
 (bif (decide ((0:Int) ≤ v38)) then
 (bif (decide (v38 < (((List.length (List.getD o0 (Int.toNat i_7) ([] : List Int))) : Nat) : Int))) then
 (bif (decide ((Int.toNat i_7) < (List.length o0))) then
 (bif (decide ((Int.toNat v38) < (List.length (List.getD o0 (Int.toNat i_7) ([] : List Int))))) then
 (bif (decide ((Go.IntKind.wrap Go.IntKind.i64 (i_7 + v38)) > (0:Int))) then
 (Option.bind (g_ref14_Before (((List.set o0 (Int.toNat i_7) (List.set (List.getD o0 (Int.toNat i_7) ([] : List Int)) (Int.toNat v38) (List.getD (List.getD costs_0 (Int.toNat i_7) ([] : List Int)) (Int.toNat v38) (0:Int)))), (band_1, (i_7, (v38, ())))), ())) (fun y18 =>
 (bif (decide ((0:Int) ≤ i_7)) then
 (bif (decide (i_7 < (((List.length (List.set o0 (Int.toNat i_7) (List.set (List.getD o0 (Int.toNat i_7) ([] : List Int)) (Int.toNat v38) (List.getD (List.getD costs_0 (Int.toNat i_7) ([] : List Int)) (Int.toNat v38) (0:Int))))) : Nat) : Int))) then
 (bif (decide ((Int.toNat i_7) < (List.length (List.set o0 (Int.toNat i_7) (List.set (List.getD o0 (Int.toNat i_7) ([] : List Int)) (Int.toNat v38) (List.getD (List.getD costs_0 (Int.toNat i_7) ([] : List Int)) (Int.toNat v38) (0:Int))))))) then
 (bif (decide ((Int.toNat i_7) < (List.length (List.set o0 (Int.toNat i_7) (List.set (List.getD o0 (Int.toNat i_7) ([] : List Int)) (Int.toNat v38) (List.getD (List.getD costs_0 (Int.toNat i_7) ([] : List Int)) (Int.toNat v38) (0:Int))))))) then
 (bif (decide ((0:Int) ≤ v38)) then
 (bif (decide (v38 < (((List.length (List.getD (List.set o0 (Int.toNat i_7) (List.set (List.getD o0 (Int.toNat i_7) ([] : List Int)) (Int.toNat v38) (List.getD (List.getD costs_0 (Int.toNat i_7) ([] : List Int)) (Int.toNat v38) (0:Int)))) (Int.toNat i_7) ([] : List Int))) : Nat) : Int))) then
 (bif (decide ((Int.toNat i_7) < (List.length (List.set o0 (Int.toNat i_7) (List.set (List.getD o0 (Int.toNat i_7) ([] : List Int)) (Int.toNat v38) (List.getD (List.getD costs_0 (Int.toNat i_7) ([] : List Int)) (Int.toNat v38) (0:Int))))))) then
 (bif (decide ((Int.toNat v38) < (List.length (List.getD (List.set o0 (Int.toNat i_7) (List.set (List.getD o0 (Int.toNat i_7) ([] : List Int)) (Int.toNat v38) (List.getD (List.getD costs_0 (Int.toNat i_7) ([] : List Int)) (Int.toNat v38) (0:Int)))) (Int.toNat i_7) ([] : List Int))))) then
 (Option.bind (g_ref14_At (((List.set o0 (Int.toNat i_7) (List.set (List.getD o0 (Int.toNat i_7) ([] : List Int)) (Int.toNat v38) (List.getD (List.getD costs_0 (Int.toNat i_7) ([] : List Int)) (Int.toNat v38) (0:Int)))), (band_1, (y18.1.1.1, (y18.1.1.2.1, ())))), ())) (fun y27 =>
 (bif (decide ((Int.toNat i_7) < (List.length (List.set o0 (Int.toNat i_7) (List.set (List.getD o0 (Int.toNat i_7) ([] : List Int)) (Int.toNat v38) (List.getD (List.getD costs_0 (Int.toNat i_7) ([] : List Int)) (Int.toNat v38) (0:Int))))))) then
 (bif (decide ((0:Int) ≤ v38)) then
 (bif (decide (v38 < (((List.length (List.getD (List.set o0 (Int.toNat i_7) (List.set (List.getD o0 (Int.toNat i_7) ([] : List Int)) (Int.toNat v38) (List.getD (List.getD costs_0 (Int.toNat i_7) ([] : List Int)) (Int.toNat v38) (0:Int)))) (Int.toNat i_7) ([] : List Int))) : Nat) : Int))) then
 (bif (decide ((Int.toNat i_7) < (List.length (List.set o0 (Int.toNat i_7) (List.set (List.getD o0 (Int.toNat i_7) ([] : List Int)) (Int.toNat v38) (List.getD (List.getD costs_0 (Int.toNat i_7) ([] : List Int)) (Int.toNat v38) (0:Int))))))) then
 (bif (decide ((Int.toNat v38) < (List.length (List.getD (List.set o0 (Int.toNat i_7) (List.set (List.getD o0 (Int.toNat i_7) ([] : List Int)) (Int.toNat v38) (List.getD (List.getD costs_0 (Int.toNat i_7) ([] : List Int)) (Int.toNat v38) (0:Int)))) (Int.toNat i_7) ([] : List Int))))) then
 (Option.bind (L ((costs_0, (band_1, ((), (i_7, (v29, (v30, (v37, ((Go.IntKind.wrap Go.IntKind.i64 (v38 + (1:Int))), ())))))))), ((List.set (List.set o0 (Int.toNat i_7) (List.set (List.getD o0 (Int.toNat i_7) ([] : List Int)) (Int.toNat v38) (List.getD (List.getD costs_0 (Int.toNat i_7) ([] : List Int)) (Int.toNat v38) (0:Int)))) (Int.toNat i_7) (List.set (List.getD (List.set o0 (Int.toNat i_7) (List.set (List.getD o0 (Int.toNat i_7) ([] : List Int)) (Int.toNat v38) (List.getD (List.getD costs_0 (Int.toNat i_7) ([] : List Int)) (Int.toNat v38) (0:Int)))) (Int.toNat i_7) ([] : List Int)) (Int.toNat v38) (Go.IntKind.wrap Go.IntKind.i64 ((List.getD (List.getD (List.set o0 (Int.toNat i_7) (List.set (List.getD o0 (Int.toNat i_7) ([] : List Int)) (Int.toNat v38) (List.getD (List.getD costs_0 (Int.toNat i_7) ([] : List Int)) (Int.toNat v38) (0:Int)))) (Int.toNat i_7) ([] : List Int)) (Int.toNat v38) (0:Int)) + y27.1.1)))), ()))) (fun y33 =>
 (some y33)))
 else
 none)
 else
 none)
 else
 none)
 else
 none)
 else
 none)))
 else
 none)
 else
 none)
 else
 none)
 else
 none)
 else
 none)
 else
 none)
 else
 none)
 else
 none)))
 else
 (Option.bind (L ((costs_0, (band_1, ((), (i_7, (v29, (v30, (v37, ((Go.IntKind.wrap Go.IntKind.i64 (v38 + (1:Int))), ())))))))), ((List.set o0 (Int.toNat i_7) (List.set (List.getD o0 (Int.toNat i_7) ([] : List Int)) (Int.toNat v38) (List.getD (List.getD costs_0 (Int.toNat i_7) ([] : List Int)) (Int.toNat v38) (0:Int)))), ()))) (fun y18 =>
 (some y18))))
 else
 none)
 else
 none)
 else
 none)
 else
 none)
 else
 none)
 else
 none)
 else
 none)
 else
 none)
 else
 none)
 else
 none)
 else
 none)
 else
 none))))
 else
 none)
 else
 none)
 else
 (some (Sum.inl ((costs_0, (band_1, ((), (v29, (v30, ()))))), (o0, ())))))
theorem ref14_Fill.eq2 (g_ref14_out : ref14_out.G) (g_ref14_Before : ref14_Before.G) (g_ref14_At : ref14_At.G) (l0 : ref14_Fill.A0) (l1 : ref14_Fill.A1) (l2 : ref14_Fill.A2) (L : ref14_Fill.A2) (x : ref14_Fill.s2.X) : rndO (ref14_Fill.E g_ref14_out g_ref14_Before g_ref14_At l0 l1 l2) ref14_Fill.hs ref14_Fill.c ref14_Fill.s2 ref14_Fill.x2 2 true L x = ref14_Fill.f2 g_ref14_out g_ref14_Before g_ref14_At L x.1.1 x.1.2.1 x.1.2.2.2.1 x.1.2.2.2.2.1 x.1.2.2.2.2.2.1 x.1.2.2.2.2.2.2.1 x.1.2.2.2.2.2.2.2.1 x.2.1 := by
  show _ = (_ : Option _)
  kernel_rfl
noncomputable def ref14_Fill.L2 : Y50 → Option Y55 := loop fun L x => ref14_Fill.f2 ref14_out.F ref14_Before.F ref14_At.F L x.1.1 x.1.2.1 x.1.2.2.2.1 x.1.2.2.2.2.1 x.1.2.2.2.2.2.1 x.1.2.2.2.2.2.2.1 x.1.2.2.2.2.2.2.2.1 x.2.1
def ref14_Fill.f1 (l2 : Y50 → Option Y55) (L : Y69 → Option Y109) (costs_0 : List (List Int)) (band_1 v29 v30 : Int) (o0 : List (List Int)) : Option Y109 :=
  (bif (decide (v30 < v29)) then
 (bif (decide ((0:Int) ≤ v30)) then
 (bif (decide (v30 < (((List.length costs_0) : Nat) : Int))) then
 (Option.bind (l2 ((costs_0, (band_1, ((), (v30, (v29, (v30, ((((List.length (List.getD costs_0 (Int.toNat v30) ([] : List Int))) : Nat) : Int), ((0:Int), ())))))))), (o0, ()))) (fun y3 =>
 (Sum.elim (fun a4 =>
 (Option.bind (L ((a4.1.1, (a4.1.2.1, ((), (a4.1.2.2.2.1, ((Go.IntKind.wrap Go.IntKind.i64 (a4.1.2.2.2.2.1 + (1:Int))), ()))))), (a4.2.1, ()))) (fun y5 =>
 (some y5)))) (fun b4 =>
 (Empty.elim b4)) y3)))
 else
 none)
 else
 none)
 else
 (some (Sum.inl (((), ()), (o0, ())))))
theorem ref14_Fill.eq1 (g_ref14_out : ref14_out.G) (g_ref14_Before : ref14_Before.G) (g_ref14_At : ref14_At.G) (l0 : ref14_Fill.A0) (l1 : ref14_Fill.A1) (l2 : ref14_Fill.A2) (L : ref14_Fill.A1) (x : ref14_Fill.s1.X) : rndO (ref14_Fill.E g_ref14_out g_ref14_Before g_ref14_At l0 l1 l2) ref14_Fill.hs ref14_Fill.c ref14_Fill.s1 ref14_Fill.x1 1 true L x = ref14_Fill.f1 l2 L x.1.1 x.1.2.1 x.1.2.2.2.1 x.1.2.2.2.2.1 x.2.1 := by
  show _ = (_ : Option _)
  kernel_rfl
noncomputable def ref14_Fill.L1 : Y69 → Option Y109 := loop fun L x => ref14_Fill.f1 ref14_Fill.L2 L x.1.1 x.1.2.1 x.1.2.2.2.1 x.1.2.2.2.2.1 x.2.1
def ref14_Fill.f (l0 : Y69 → Option Y70) (l1 : Y69 → Option Y109) (costs : List (List Int)) (band : Int) : Option Y132 :=
  (bif (decide ((((List.length costs) : Nat) : Int) = (((List.length costs) : Nat) : Int))) then
 (bif ((decide (((((24:Nat) : Nat) : Int) * (((List.length costs) : Nat) : Int)) ≤ (281474976710656:Int))) && Bool.true) then
 (Option.bind (l0 ((costs, (band, ((), ((((List.length costs) : Nat) : Int), ((0:Int), ()))))), ((List.replicate (Int.toNat (((List.length costs) : Nat) : Int)) ([] : List Int)), ()))) (fun y2 =>
 (Sum.elim (fun a3 =>
 (Option.bind (l1 ((a3.1.1, (a3.1.2.1, ((), ((((List.length a3.1.1) : Nat) : Int), ((0:Int), ()))))), (a3.2.1, ()))) (fun y4 =>
 (Sum.elim (fun a5 =>
 (some ((a5.2.1, ()), ()))) (fun b5 =>
 (Empty.elim b5)) y4)))) (fun b3 =>
 (Empty.elim b3)) y2)))
 else
 none)
 else
 none)
theorem ref14_Fill.eq (g_ref14_out : ref14_out.G) (g_ref14_Before : ref14_Before.G) (g_ref14_At : ref14_At.G) (l0 : ref14_Fill.A0) (l1 : ref14_Fill.A1) (l2 : ref14_Fill.A2) (x : ref14_Fill.sh.X) : bodO (ref14_Fill.E g_ref14_out g_ref14_Before g_ref14_At l0 l1 l2) ref14_Fill.hs ref14_Fill.c Try.f66 ref14_Fill.sh ref14_Fill.osh x = ref14_Fill.f l0 l1 x.1.1 x.1.2.1 := by
  show _ = (_ : Option _)
  kernel_rfl
noncomputable def ref14_Fill (costs : List (List Int)) (band : Int) : Option Y132 := ref14_Fill.f ref14_Fill.L0 ref14_Fill.L1 costs band
noncomputable def ref14_Fill.F (x : Y125) : Option Y132 := ref14_Fill x.1.1 x.1.2.1
theorem ref14_Fill.L0_eq (costs_0 : List (List Int)) (band_1 v14 v15 : Int) (o0 : List (List Int)) : ref14_Fill.L0 ((costs_0, band_1, (), v14, v15, ()), (o0, ())) = ref14_Fill.f0 ref14_Fill.L0 costs_0 band_1 v14 v15 o0 :=
  loop_eq (E := (ref14_Fill.E ref14_out.F ref14_Before.F ref14_At.F ref14_Fill.L0 ref14_Fill.L1 ref14_Fill.L2)) (sh := ref14_Fill.s0) (es := ref14_Fill.x0) (lp := true) (H := fun L x => ref14_Fill.eq0 ref14_out.F ref14_Before.F ref14_At.F ref14_Fill.L0 ref14_Fill.L1 ref14_Fill.L2 L x) ((costs_0, band_1, (), v14, v15, ()), (o0, ()))
theorem ref14_Fill.L1_eq (costs_0 : List (List Int)) (band_1 v29 v30 : Int) (o0 : List (List Int)) : ref14_Fill.L1 ((costs_0, band_1, (), v29, v30, ()), (o0, ())) = ref14_Fill.f1 ref14_Fill.L2 ref14_Fill.L1 costs_0 band_1 v29 v30 o0 :=
  loop_eq (E := (ref14_Fill.E ref14_out.F ref14_Before.F ref14_At.F ref14_Fill.L0 ref14_Fill.L1 ref14_Fill.L2)) (sh := ref14_Fill.s1) (es := ref14_Fill.x1) (lp := true) (H := fun L x => ref14_Fill.eq1 ref14_out.F ref14_Before.F ref14_At.F ref14_Fill.L0 ref14_Fill.L1 ref14_Fill.L2 L x) ((costs_0, band_1, (), v29, v30, ()), (o0, ()))
theorem ref14_Fill.L2_eq (costs_0 : List (List Int)) (band_1 i_7 v29 v30 v37 v38 : Int) (o0 : List (List Int)) : ref14_Fill.L2 ((costs_0, band_1, (), i_7, v29, v30, v37, v38, ()), (o0, ())) = ref14_Fill.f2 ref14_out.F ref14_Before.F ref14_At.F ref14_Fill.L2 costs_0 band_1 i_7 v29 v30 v37 v38 o0 :=
  loop_eq (E := (ref14_Fill.E ref14_out.F ref14_Before.F ref14_At.F ref14_Fill.L0 ref14_Fill.L1 ref14_Fill.L2)) (sh := ref14_Fill.s2) (es := ref14_Fill.x2) (lp := true) (H := fun L x => ref14_Fill.eq2 ref14_out.F ref14_Before.F ref14_At.F ref14_Fill.L0 ref14_Fill.L1 ref14_Fill.L2 L x) ((costs_0, band_1, (), i_7, v29, v30, v37, v38, ()), (o0, ()))
theorem ref14_Fill.F_eq (costs : List (List Int)) (band : Int) : ref14_Fill.F ((costs, band, ()), ()) = ref14_Fill.f ref14_Fill.L0 ref14_Fill.L1 costs band := rfl
theorem ref14_Fill.ok {tabs : List (Nat × Go.Obj)} (ht : TabsOk tabs) : FOK Try.prog tabs 66 (ref14_Fill.fe ref14_Fill.F) := by
  refine fn_keep2 Try.func66 (ref14_Fill.eq ref14_out.F ref14_Before.F ref14_At.F ref14_Fill.L0 ref14_Fill.L1 ref14_Fill.L2) pw tb (gt_ok ht) (by kernel_rfl) (by kernel_rfl) (fun g ks fe h => ?_) ?_
  · rcases c_cons h with ⟨rfl, rfl⟩ | h
    · exact ref14_out.ok ht
    rcases c_cons h with ⟨rfl, rfl⟩ | h
    · exact ref14_Before.ok ht
    rcases c_cons h with ⟨rfl, rfl⟩ | h
    · exact ref14_At.ok ht
    cases h
  · refine known_at 3 (by kernel_rfl) fun i hi => ?_
    match i, hi with
    | 0, _ => exact atomH (loop_ok (es := ref14_Fill.x0) rfl (ref14_Fill.eq0 ref14_out.F ref14_Before.F ref14_At.F ref14_Fill.L0 ref14_Fill.L1 ref14_Fill.L2)) (by kernel_rfl)
    | 1, _ => exact atomH (loop_ok (es := ref14_Fill.x1) rfl (ref14_Fill.eq1 ref14_out.F ref14_Before.F ref14_At.F ref14_Fill.L0 ref14_Fill.L1 ref14_Fill.L2)) (by kernel_rfl)
    | 2, _ => exact atomH (loop_ok (es := ref14_Fill.x2) rfl (ref14_Fill.eq2 ref14_out.F ref14_Before.F ref14_At.F ref14_Fill.L0 ref14_Fill.L1 ref14_Fill.L2)) (by kernel_rfl)
    | n + 3, h => exact absurd h (by omega)

/-! ref14_Distance -/
def ref14_Distance.f (g_ref14_Check : Y115 → Option Y143) (g_ref14_Costs : Y124 → Option Y132) (g_ref14_Fill : Y125 → Option Y132) (x_ y : List Int) (band : Int) : Option Y140 :=
  (Option.bind (g_ref14_Check ((x_, (y, (band, ()))), ())) (fun y0 =>
 (bif (y0.1.1 != (0:Int)) then
 (some (((0:Int), (y0.1.1, ())), ()))
 else
 (Option.bind (g_ref14_Costs ((x_, (y, ())), ())) (fun y2 =>
 (Option.bind (g_ref14_Fill ((y2.1.1, (band, ())), ())) (fun y3 =>
 (bif (decide ((0:Int) ≤ (Go.IntKind.wrap Go.IntKind.i64 ((((List.length x_) : Nat) : Int) - (1:Int))))) then
 (bif (decide ((Go.IntKind.wrap Go.IntKind.i64 ((((List.length x_) : Nat) : Int) - (1:Int))) < (((List.length y3.1.1) : Nat) : Int))) then
 (bif (decide ((0:Int) ≤ (Go.IntKind.wrap Go.IntKind.i64 ((((List.length y) : Nat) : Int) - (1:Int))))) then
 (bif (decide ((Go.IntKind.wrap Go.IntKind.i64 ((((List.length y) : Nat) : Int) - (1:Int))) < (((List.length (List.getD y3.1.1 (Int.toNat (Go.IntKind.wrap Go.IntKind.i64 ((((List.length x_) : Nat) : Int) - (1:Int)))) ([] : List Int))) : Nat) : Int))) then
 (some (((List.getD (List.getD y3.1.1 (Int.toNat (Go.IntKind.wrap Go.IntKind.i64 ((((List.length x_) : Nat) : Int) - (1:Int)))) ([] : List Int)) (Int.toNat (Go.IntKind.wrap Go.IntKind.i64 ((((List.length y) : Nat) : Int) - (1:Int)))) (0:Int)), ((0:Int), ())), ()))
 else
 none)
 else
 none)
 else
 none)
 else
 none))))))))
theorem ref14_Distance.eq (g_ref14_Check : ref14_Check.G) (g_ref14_Costs : ref14_Costs.G) (g_ref14_Fill : ref14_Fill.G) (x : ref14_Distance.sh.X) : bodO (ref14_Distance.E g_ref14_Check g_ref14_Costs g_ref14_Fill) ref14_Distance.hs ref14_Distance.c Try.f45 ref14_Distance.sh ref14_Distance.osh x = ref14_Distance.f g_ref14_Check g_ref14_Costs g_ref14_Fill x.1.1 x.1.2.1 x.1.2.2.1 := by
  show _ = (_ : Option _)
  kernel_rfl
noncomputable def ref14_Distance (x_ y : List Int) (band : Int) : Option Y140 := ref14_Distance.f ref14_Check.F ref14_Costs.F ref14_Fill.F x_ y band
noncomputable def ref14_Distance.F (x : Y115) : Option Y140 := ref14_Distance x.1.1 x.1.2.1 x.1.2.2.1
theorem ref14_Distance.F_eq (x_ y : List Int) (band : Int) : ref14_Distance.F ((x_, y, band, ()), ()) = ref14_Distance.f ref14_Check.F ref14_Costs.F ref14_Fill.F x_ y band := rfl
theorem ref14_Distance.ok {tabs : List (Nat × Go.Obj)} (ht : TabsOk tabs) : FOK Try.prog tabs 45 (ref14_Distance.fe ref14_Distance.F) := by
  refine fn_keep2 Try.func45 (ref14_Distance.eq ref14_Check.F ref14_Costs.F ref14_Fill.F) pw tb (gt_ok ht) (by kernel_rfl) (by kernel_rfl) (fun g ks fe h => ?_) ?_
  · rcases c_cons h with ⟨rfl, rfl⟩ | h
    · exact ref14_Check.ok ht
    rcases c_cons h with ⟨rfl, rfl⟩ | h
    · exact ref14_Costs.ok ht
    rcases c_cons h with ⟨rfl, rfl⟩ | h
    · exact ref14_Fill.ok ht
    cases h
  · exact known_at 0 (by kernel_rfl) fun i hi => absurd hi (Nat.not_lt_zero i)

/-! ref15_check -/
def ref15_check.f (g_ref04_Sample : Y143 → Option Y142) (g_ref12_Two : Y115 → Option Y143) (x_ y : List Int) (gap : Int) : Option Y143 :=
  (Option.bind (g_ref04_Sample ((gap, ()), ())) (fun y0 =>
 (bif (!y0.1.1) then
 (some (((1:Int), ()), ()))
 else
 (Option.bind (g_ref12_Two ((x_, (y, ((32:Int), ()))), ())) (fun y2 =>
 (some ((y2.1.1, ()), ())))))))
theorem ref15_check.eq (g_ref04_Sample : ref04_Sample.G) (g_ref12_Two : ref12_Two.G) (x : ref15_check.sh.X) : bodO (ref15_check.E g_ref04_Sample g_ref12_Two) ref15_check.hs ref15_check.c Try.f68 ref15_check.sh ref15_check.osh x = ref15_check.f g_ref04_Sample g_ref12_Two x.1.1 x.1.2.1 x.1.2.2.1 := by
  show _ = (_ : Option _)
  kernel_rfl
noncomputable def ref15_check (x_ y : List Int) (gap : Int) : Option Y143 := ref15_check.f ref04_Sample.F ref12_Two.F x_ y gap
noncomputable def ref15_check.F (x : Y115) : Option Y143 := ref15_check x.1.1 x.1.2.1 x.1.2.2.1
theorem ref15_check.F_eq (x_ y : List Int) (gap : Int) : ref15_check.F ((x_, y, gap, ()), ()) = ref15_check.f ref04_Sample.F ref12_Two.F x_ y gap := rfl
theorem ref15_check.ok {tabs : List (Nat × Go.Obj)} (ht : TabsOk tabs) : FOK Try.prog tabs 68 (ref15_check.fe ref15_check.F) := by
  refine fn_keep2 Try.func68 (ref15_check.eq ref04_Sample.F ref12_Two.F) pw tb (gt_ok ht) (by kernel_rfl) (by kernel_rfl) (fun g ks fe h => ?_) ?_
  · rcases c_cons h with ⟨rfl, rfl⟩ | h
    · exact ref04_Sample.ok ht
    rcases c_cons h with ⟨rfl, rfl⟩ | h
    · exact ref12_Two.ok ht
    cases h
  · exact known_at 0 (by kernel_rfl) fun i hi => absurd hi (Nat.not_lt_zero i)

/-! ref15_Abs -/
def ref15_Abs.f (n : Int) : Option Y143 :=
  (some (((Go.VI.mx n (Go.IntKind.wrap Go.IntKind.i64 ((0:Int) - n))), ()), ()))
theorem ref15_Abs.eq (x : ref15_Abs.sh.X) : bodO (ref15_Abs.E) ref15_Abs.hs ref15_Abs.c Try.f89 ref15_Abs.sh ref15_Abs.osh x = ref15_Abs.f x.1.1 := by
  show _ = (_ : Option _)
  kernel_rfl
noncomputable def ref15_Abs (n : Int) : Option Y143 := ref15_Abs.f n
noncomputable def ref15_Abs.F (x : Y143) : Option Y143 := ref15_Abs x.1.1
theorem ref15_Abs.F_eq (n : Int) : ref15_Abs.F ((n, ()), ()) = ref15_Abs.f n := rfl
theorem ref15_Abs.ok {tabs : List (Nat × Go.Obj)} (ht : TabsOk tabs) : FOK Try.prog tabs 89 (ref15_Abs.fe ref15_Abs.F) := by
  refine fn_keep2 Try.func89 (ref15_Abs.eq) pw tb (gt_ok ht) (by kernel_rfl) (by kernel_rfl) (fun g ks fe h => ?_) ?_
  · cases h
  · exact known_at 0 (by kernel_rfl) fun i hi => absurd hi (Nat.not_lt_zero i)
end Go.Proofs.Ytefcciajemkicaa.V
