import Derived.Test.YtefcciajemkicaaVg0
import Derived.WalkKit
set_option linter.unusedVariables false
set_option maxRecDepth 100000
namespace Go.Proofs.Ytefcciajemkicaa.V
open Go (IntKind)
open Go.VI
/-! euclid_square -/
namespace euclid_square
noncomputable def c : Go.Code := Try.f92.body.getD .skip
abbrev sh : Sh := ⟨[q14, q14], []⟩
abbrev osh : Sh := ⟨[q13], []⟩
abbrev G := sh.X → Option osh.X
abbrev fe (g : G) : FE := FE.of [true,true] false sh osh g
abbrev s0 : Sh := ⟨[q14, q13, q14, q13, q13], []⟩
abbrev x0 : List (Ex × Sh) := [(.exit 0, ⟨[q13], []⟩)]
abbrev A0 := s0.X → Option (sumX x0)
def hs : List Hint := [⟨[0,1,0,1,1],0,[1,5,8,9,10],[(2,[5])]⟩]
def f0 (L : Y117 → Option Y158) (a : List Int) (b : Int) (c : List Int) (d h : Int) : Option Y158 :=
 bif decide (h < d) then
 bif decide (0 ≤ h) then
 bif decide (h < (c.length:Int)) then
 bif decide (0 ≤ h) then
 bif decide (h < (a.length:Int)) then
 bif decide (0 ≤ h) then
 bif decide (h < (a.length:Int)) then
 (L ((a,IntKind.wrap .i64 (b + (IntKind.wrap .i64 ((IntKind.wrap .i64 ((c.getD (h.toNat) 0) - (a.getD (h.toNat) 0))) * (IntKind.wrap .i64 ((c.getD (h.toNat) 0) - (a.getD (h.toNat) 0)))))),c,d,IntKind.wrap .i64 (h + 1),()),())).bind fun y7 =>
 some y7
 else none
 else none
 else none
 else none
 else none
 else none
 else
 some (Sum.inl ((b,()),()))
def u0 (L : Y117 → Option Y158) (x : Y117) := f0 L x.1.1 x.1.2.1 x.1.2.2.1 x.1.2.2.2.1 x.1.2.2.2.2.1
def f (l0 : Y117 → Option Y158) (a b : List Int) : Option Y164 :=
 (l0 ((b,0,a,(a.length:Int),0,()),())).bind fun y0 =>
 y0.elim (fun a1 => some ((a1.1.1,()),())) Empty.elim
def u (l0 : Y117 → Option Y158) (x : Y145) := f l0 x.1.1 x.1.2.1
section
variable (l0 : A0)
def E : Env := ⟨T,cE [],lE [LE.of s0 x0 l0],32,0,Gt⟩
variable {l0}
theorem e0 (L : A0) (x : s0.X) : rndO (E l0) hs c s0 x0 0 true L x = u0 L x := by
 show _ = (_ : Option _)
 kernel_rfl
theorem e (x : sh.X) : bodO (E l0) hs c Try.f92 sh osh x = u l0 x := by
 show _ = (_ : Option _)
 kernel_rfl
end
noncomputable def L0 : Y117 → Option Y158 := loop u0
noncomputable def F : Y145 → Option Y164 := u L0
noncomputable abbrev R : Env := E L0
theorem L0_eq (a : List Int) (b : Int) (c : List Int) (d h : Int) : L0 ((a,b,c,d,h,()),()) = f0 L0 a b c d h :=
 loopE (E := R) e0 ((a,b,c,d,h,()),())
theorem F_eq (a b : List Int) : F ((a,b,()),()) = f L0 a b := rfl
theorem ok {tabs} (ht : TabsOk tabs) : FOK Try.prog tabs 92 (fe F) :=
 fn_keep3 (E := R) (hs := hs) Try.func92 e pw tb (gt_ok ht) (by kernel_rfl) (by kernel_rfl) rfl trivial 1 (by kernel_rfl) ⟨lA e0 (by kernel_rfl) (by kernel_rfl),trivial⟩
end euclid_square
/-! euclid_Distance -/
namespace euclid_Distance
noncomputable def c : Go.Code := Try.f78.body.getD .skip
abbrev sh : Sh := ⟨[q14, q14], []⟩
abbrev osh : Sh := ⟨[q13, q13], []⟩
abbrev G := sh.X → Option osh.X
abbrev fe (g : G) : FE := FE.of [true,true] false sh osh g
def f (g0 : Y145 → Option Y164) (g1 : Y145 → Option Y164) (a b : List Int) : Option Y161 :=
 (g0 ((a,b,()),())).bind fun y0 =>
 bif y0.1.1 != 0 then
 some ((0,y0.1.1,()),())
 else
 (g1 ((a,b,()),())).bind fun y2 =>
 some ((y2.1.1,0,()),())
def u (g0 : Y145 → Option Y164) (g1 : Y145 → Option Y164) (x : Y145) := f g0 g1 x.1.1 x.1.2.1
section
variable (g0 : euclid_check.G) (g1 : euclid_square.G)
def E : Env := ⟨T,cE [(91,[],euclid_check.fe g0),(92,[],euclid_square.fe g1)],lE [],16,0,Gt⟩
variable {g0 g1}
theorem e (x : sh.X) : bodO (E g0 g1) [] c Try.f78 sh osh x = u g0 g1 x := by
 show _ = (_ : Option _)
 kernel_rfl
end
noncomputable def F : Y145 → Option Y161 := u euclid_check.F euclid_square.F
noncomputable abbrev R : Env := E euclid_check.F euclid_square.F
theorem F_eq (a b : List Int) : F ((a,b,()),()) = f euclid_check.F euclid_square.F a b := rfl
theorem ok {tabs} (ht : TabsOk tabs) : FOK Try.prog tabs 78 (fe F) :=
 fn_keep3 (E := R) (hs := []) Try.func78 e pw tb (gt_ok ht) (by kernel_rfl) (by kernel_rfl) rfl ⟨euclid_check.ok ht,euclid_square.ok ht,trivial⟩ 0 (by kernel_rfl) trivial
end euclid_Distance
/-! ratio_divisor -/
namespace ratio_divisor
noncomputable def c : Go.Code := Try.f73.body.getD .skip
abbrev sh : Sh := ⟨[q13, q13], []⟩
abbrev osh : Sh := ⟨[q13], []⟩
abbrev G := sh.X → Option osh.X
abbrev fe (g : G) : FE := FE.of [true,true] false sh osh g
abbrev s0 : Sh := ⟨[q13, q13], []⟩
abbrev x0 : List (Ex × Sh) := [(.exit 0, ⟨[q13], []⟩)]
abbrev A0 := s0.X → Option (sumX x0)
def hs : List Hint := [⟨[0,0,1],0,[0,1],[(2,[0])]⟩]
def f0 (L : Y161 → Option Y158) (a b : Int) : Option Y158 :=
 bif b != 0 then
 bif !(decide (b = 0)) then
 (L ((b,Int.tmod a b,()),())).bind fun y2 =>
 some y2
 else none
 else
 some (Sum.inl ((a,()),()))
def u0 (L : Y161 → Option Y158) (x : Y161) := f0 L x.1.1 x.1.2.1
def f (l0 : Y161 → Option Y158) (a b : Int) : Option Y164 :=
 (l0 ((a,b,()),())).bind fun y0 =>
 y0.elim (fun a1 => some ((a1.1.1,()),())) Empty.elim
def u (l0 : Y161 → Option Y158) (x : Y161) := f l0 x.1.1 x.1.2.1
section
variable (l0 : A0)
def E : Env := ⟨T,cE [],lE [LE.of s0 x0 l0],12,0,Gt⟩
variable {l0}
theorem e0 (L : A0) (x : s0.X) : rndO (E l0) hs c s0 x0 0 true L x = u0 L x := by
 show _ = (_ : Option _)
 kernel_rfl
theorem e (x : sh.X) : bodO (E l0) hs c Try.f73 sh osh x = u l0 x := by
 show _ = (_ : Option _)
 kernel_rfl
end
noncomputable def L0 : Y161 → Option Y158 := loop u0
noncomputable def F : Y161 → Option Y164 := u L0
noncomputable abbrev R : Env := E L0
theorem L0_eq (a b : Int) : L0 ((a,b,()),()) = f0 L0 a b :=
 loopE (E := R) e0 ((a,b,()),())
theorem F_eq (a b : Int) : F ((a,b,()),()) = f L0 a b := rfl
theorem ok {tabs} (ht : TabsOk tabs) : FOK Try.prog tabs 73 (fe F) :=
 fn_keep3 (E := R) (hs := hs) Try.func73 e pw tb (gt_ok ht) (by kernel_rfl) (by kernel_rfl) rfl trivial 1 (by kernel_rfl) ⟨lA e0 (by kernel_rfl) (by kernel_rfl),trivial⟩
end ratio_divisor
/-! ratio_within -/
namespace ratio_within
noncomputable def c : Go.Code := Try.f72.body.getD .skip
abbrev sh : Sh := ⟨[q10], []⟩
abbrev osh : Sh := ⟨[q15], []⟩
abbrev G := sh.X → Option osh.X
abbrev fe (g : G) : FE := FE.of [true] false sh osh g
def f (a b : Int) : Option Y163 :=
 bif decide (a ≥ 0) then
 bif decide (a ≤ 2305843009213693952) then
 bif decide (b ≥ 1) then
 some ((decide (b ≤ 1152921504606846976),()),())
 else
 some ((false,()),())
 else
 some ((false,()),())
 else
 some ((false,()),())
def u (x : Y152) := f x.1.1.1 x.1.1.2.1
section
def E : Env := ⟨T,cE [],lE [],21,0,Gt⟩
theorem e (x : sh.X) : bodO (E) [] c Try.f72 sh osh x = u x := by
 show _ = (_ : Option _)
 kernel_rfl
end
noncomputable def F : Y152 → Option Y163 := u
noncomputable abbrev R : Env := E
theorem F_eq (a b : Int) : F (((a,b,()),()),()) = f a b := rfl
theorem ok {tabs} (ht : TabsOk tabs) : FOK Try.prog tabs 72 (fe F) :=
 fn_keep3 (E := R) (hs := []) Try.func72 e pw tb (gt_ok ht) (by kernel_rfl) (by kernel_rfl) rfl trivial 0 (by kernel_rfl) trivial
end ratio_within
/-! ratio_Make -/
namespace ratio_Make
noncomputable def c : Go.Code := Try.f90.body.getD .skip
abbrev sh : Sh := ⟨[q13, q13], []⟩
abbrev osh : Sh := ⟨[q10, q13], []⟩
abbrev G := sh.X → Option osh.X
abbrev fe (g : G) : FE := FE.of [true,true] false sh osh g
abbrev s0 : Sh := ⟨[q13, q13, q16], [q1]⟩
abbrev x0 : List (Ex × Sh) := [(.normal, ⟨[q13, q13, q16, q15], [q1]⟩)]
abbrev A0 := s0.X → Option (sumX x0)
def hs : List Hint := [⟨[0,0,1],0,[0,1,4],[(0,[0,1,4,13])]⟩]
def f0 (a b c d : Int) : Option Y98 :=
 bif decide (a < 0) then
 some (Sum.inl ((a,b,(),true,()),(c,d,()),()))
 else
 some (Sum.inl ((a,b,(),decide (b < 1),()),(c,d,()),()))
def u0 (x : Y125) := f0 x.1.1 x.1.2.1 x.2.1.1 x.2.1.2.1
def f (g0 : Y161 → Option Y164) (g1 : Y152 → Option Y163) (l0 : Y125 → Option Y98) (a b : Int) : Option Y142 :=
 (l0 ((a,b,(),()),(0,0,()),())).bind fun y0 =>
 y0.elim (fun a1 => bif a1.1.2.2.2.1 then
 some (((0,0,()),1,()),())
 else
 (g0 ((a1.1.1,a1.1.2.1,()),())).bind fun y3 =>
 bif !(decide (y3.1.1 = 0)) then
 bif !(decide (y3.1.1 = 0)) then
 (g1 (((IntKind.wrap .i64 (Int.tdiv a1.1.1 y3.1.1),IntKind.wrap .i64 (Int.tdiv a1.1.2.1 y3.1.1),()),()),())).bind fun y6 =>
 bif !y6.1.1 then
 some (((0,0,()),1,()),())
 else
 some (((IntKind.wrap .i64 (Int.tdiv a1.1.1 y3.1.1),IntKind.wrap .i64 (Int.tdiv a1.1.2.1 y3.1.1),()),0,()),())
 else none
 else none) Empty.elim
def u (g0 : Y161 → Option Y164) (g1 : Y152 → Option Y163) (l0 : Y125 → Option Y98) (x : Y161) := f g0 g1 l0 x.1.1 x.1.2.1
section
variable (g0 : ratio_divisor.G) (g1 : ratio_within.G) (l0 : A0)
def E : Env := ⟨T,cE [(73,[],ratio_divisor.fe g0),(72,[],ratio_within.fe g1)],lE [LE.of s0 x0 l0],30,0,Gt⟩
variable {g0 g1 l0}
theorem e0 (L : A0) (x : s0.X) : rndO (E g0 g1 l0) hs c s0 x0 0 false L x = u0 x := by
 show _ = (_ : Option _)
 kernel_rfl
theorem e (x : sh.X) : bodO (E g0 g1 l0) hs c Try.f90 sh osh x = u g0 g1 l0 x := by
 show _ = (_ : Option _)
 kernel_rfl
end
noncomputable def L0 : Y125 → Option Y98 := u0
noncomputable def F : Y161 → Option Y142 := u ratio_divisor.F ratio_within.F L0
noncomputable abbrev R : Env := E ratio_divisor.F ratio_within.F L0
theorem L0_eq (a b c d : Int) : L0 ((a,b,(),()),((c,d,()),())) = f0 a b c d := rfl
theorem F_eq (a b : Int) : F ((a,b,()),()) = f ratio_divisor.F ratio_within.F L0 a b := rfl
theorem ok {tabs} (ht : TabsOk tabs) : FOK Try.prog tabs 90 (fe F) :=
 fn_keep3 (E := R) (hs := hs) Try.func90 e pw tb (gt_ok ht) (by kernel_rfl) (by kernel_rfl) rfl ⟨ratio_divisor.ok ht,ratio_within.ok ht,trivial⟩ 1 (by kernel_rfl) ⟨cA e0 (by kernel_rfl) (by kernel_rfl),trivial⟩
end ratio_Make
/-! measure_whole -/
namespace measure_whole
noncomputable def c : Go.Code := Try.f77.body.getD .skip
abbrev sh : Sh := ⟨[q13, q13], []⟩
abbrev osh : Sh := ⟨[q10, q13], []⟩
abbrev G := sh.X → Option osh.X
abbrev fe (g : G) : FE := FE.of [true,true] false sh osh g
def f (g0 : Y161 → Option Y142) (a b : Int) : Option Y142 :=
 bif b != 0 then
 some (((0,0,()),b,()),())
 else
 (g0 ((a,1,()),())).bind fun y1 =>
 some (((y1.1.1.1,y1.1.1.2.1,()),y1.1.2.1,()),())
def u (g0 : Y161 → Option Y142) (x : Y161) := f g0 x.1.1 x.1.2.1
section
variable (g0 : ratio_Make.G)
def E : Env := ⟨T,cE [(90,[],ratio_Make.fe g0)],lE [],14,0,Gt⟩
variable {g0}
theorem e (x : sh.X) : bodO (E g0) [] c Try.f77 sh osh x = u g0 x := by
 show _ = (_ : Option _)
 kernel_rfl
end
noncomputable def F : Y161 → Option Y142 := u ratio_Make.F
noncomputable abbrev R : Env := E ratio_Make.F
theorem F_eq (a b : Int) : F ((a,b,()),()) = f ratio_Make.F a b := rfl
theorem ok {tabs} (ht : TabsOk tabs) : FOK Try.prog tabs 77 (fe F) :=
 fn_keep3 (E := R) (hs := []) Try.func77 e pw tb (gt_ok ht) (by kernel_rfl) (by kernel_rfl) rfl ⟨ratio_Make.ok ht,trivial⟩ 0 (by kernel_rfl) trivial
end measure_whole
/-! measure_distances_1 -/
namespace measure_distances_1
noncomputable def c : Go.Code := Try.f76.body.getD .skip
abbrev sh : Sh := ⟨[q14, q14], []⟩
abbrev osh : Sh := ⟨[q10, q13], []⟩
abbrev G := sh.X → Option osh.X
abbrev fe (g : G) : FE := FE.of [true,true] false sh osh g
def f (g0 : Y145 → Option Y161) (g1 : Y161 → Option Y142) (a b : List Int) : Option Y142 :=
 (g0 ((a,b,()),())).bind fun y0 =>
 (g1 ((y0.1.1,y0.1.2.1,()),())).bind fun y1 =>
 some (((y1.1.1.1,y1.1.1.2.1,()),y1.1.2.1,()),())
def u (g0 : Y145 → Option Y161) (g1 : Y161 → Option Y142) (x : Y145) := f g0 g1 x.1.1 x.1.2.1
section
variable (g0 : euclid_Distance.G) (g1 : measure_whole.G)
def E : Env := ⟨T,cE [(78,[],euclid_Distance.fe g0),(77,[],measure_whole.fe g1)],lE [],14,0,Gt⟩
variable {g0 g1}
theorem e (x : sh.X) : bodO (E g0 g1) [] c Try.f76 sh osh x = u g0 g1 x := by
 show _ = (_ : Option _)
 kernel_rfl
end
noncomputable def F : Y145 → Option Y142 := u euclid_Distance.F measure_whole.F
noncomputable abbrev R : Env := E euclid_Distance.F measure_whole.F
theorem F_eq (a b : List Int) : F ((a,b,()),()) = f euclid_Distance.F measure_whole.F a b := rfl
theorem ok {tabs} (ht : TabsOk tabs) : FOK Try.prog tabs 76 (fe F) :=
 fn_keep3 (E := R) (hs := []) Try.func76 e pw tb (gt_ok ht) (by kernel_rfl) (by kernel_rfl) rfl ⟨euclid_Distance.ok ht,measure_whole.ok ht,trivial⟩ 0 (by kernel_rfl) trivial
end measure_distances_1
/-! euclid_Shifted -/
namespace euclid_Shifted
noncomputable def c : Go.Code := Try.f79.body.getD .skip
abbrev sh : Sh := ⟨[q14, q14], []⟩
abbrev osh : Sh := ⟨[q10, q13], []⟩
abbrev G := sh.X → Option osh.X
abbrev fe (g : G) : FE := FE.of [true,true] false sh osh g
abbrev s0 : Sh := ⟨[q14, q14, q16, q13, q13, q14, q13, q13], [q1]⟩
abbrev x0 : List (Ex × Sh) := [(.exit 0, ⟨[q14, q14, q16, q13, q13], [q1]⟩)]
abbrev A0 := s0.X → Option (sumX x0)
def hs : List Hint := [⟨[0,1,0,1,1,1],0,[0,1,4,7,8,20,21,22],[(2,[0,1,4,7,8])]⟩]
def f0 (L : Y57 → Option Y72) (a b : List Int) (c d : Int) (h : List Int) (i j k m : Int) : Option Y72 :=
 bif decide (j < i) then
 bif decide (0 ≤ j) then
 bif decide (j < (h.length:Int)) then
 bif decide (0 ≤ j) then
 bif decide (j < (b.length:Int)) then
 (L ((a,b,(),IntKind.wrap .i64 (c + (IntKind.wrap .i64 ((h.getD (j.toNat) 0) - (b.getD (j.toNat) 0)))),d,h,i,IntKind.wrap .i64 (j + 1),()),(k,m,()),())).bind fun y5 =>
 some y5
 else none
 else none
 else none
 else none
 else
 some (Sum.inl ((a,b,(),c,d,()),(k,m,()),()))
def u0 (L : Y57 → Option Y72) (x : Y57) := f0 L x.1.1 x.1.2.1 x.1.2.2.2.1 x.1.2.2.2.2.1 x.1.2.2.2.2.2.1 x.1.2.2.2.2.2.2.1 x.1.2.2.2.2.2.2.2.1 x.2.1.1 x.2.1.2.1
def f (g0 : Y145 → Option Y164) (g1 : Y145 → Option Y164) (g2 : Y161 → Option Y142) (l0 : Y57 → Option Y72) (a b : List Int) : Option Y142 :=
 (g0 ((a,b,()),())).bind fun y0 =>
 bif y0.1.1 != 0 then
 some (((0,0,()),y0.1.1,()),())
 else
 (l0 ((a,b,(),0,(a.length:Int),a,(a.length:Int),0,()),(0,0,()),())).bind fun y2 =>
 y2.elim (fun a3 => (g1 ((a3.1.1,a3.1.2.1,()),())).bind fun y4 =>
 (g2 ((IntKind.wrap .i64 ((IntKind.wrap .i64 (a3.1.2.2.2.2.1 * y4.1.1)) - (IntKind.wrap .i64 (a3.1.2.2.2.1 * a3.1.2.2.2.1))),a3.1.2.2.2.2.1,()),())).bind fun y5 =>
 some (((y5.1.1.1,y5.1.1.2.1,()),y5.1.2.1,()),())) Empty.elim
def u (g0 : Y145 → Option Y164) (g1 : Y145 → Option Y164) (g2 : Y161 → Option Y142) (l0 : Y57 → Option Y72) (x : Y145) := f g0 g1 g2 l0 x.1.1 x.1.2.1
section
variable (g0 : euclid_check.G) (g1 : euclid_square.G) (g2 : ratio_Make.G) (l0 : A0)
def E : Env := ⟨T,cE [(91,[],euclid_check.fe g0),(92,[],euclid_square.fe g1),(90,[],ratio_Make.fe g2)],lE [LE.of s0 x0 l0],49,0,Gt⟩
variable {g0 g1 g2 l0}
theorem e0 (L : A0) (x : s0.X) : rndO (E g0 g1 g2 l0) hs c s0 x0 0 true L x = u0 L x := by
 show _ = (_ : Option _)
 kernel_rfl
theorem e (x : sh.X) : bodO (E g0 g1 g2 l0) hs c Try.f79 sh osh x = u g0 g1 g2 l0 x := by
 show _ = (_ : Option _)
 kernel_rfl
end
noncomputable def L0 : Y57 → Option Y72 := loop u0
noncomputable def F : Y145 → Option Y142 := u euclid_check.F euclid_square.F ratio_Make.F L0
noncomputable abbrev R : Env := E euclid_check.F euclid_square.F ratio_Make.F L0
theorem L0_eq (a b : List Int) (c d : Int) (h : List Int) (i j k m : Int) : L0 ((a,b,(),c,d,h,i,j,()),((k,m,()),())) = f0 L0 a b c d h i j k m :=
 loopE (E := R) e0 ((a,b,(),c,d,h,i,j,()),((k,m,()),()))
theorem F_eq (a b : List Int) : F ((a,b,()),()) = f euclid_check.F euclid_square.F ratio_Make.F L0 a b := rfl
theorem ok {tabs} (ht : TabsOk tabs) : FOK Try.prog tabs 79 (fe F) :=
 fn_keep3 (E := R) (hs := hs) Try.func79 e pw tb (gt_ok ht) (by kernel_rfl) (by kernel_rfl) rfl ⟨euclid_check.ok ht,euclid_square.ok ht,ratio_Make.ok ht,trivial⟩ 1 (by kernel_rfl) ⟨lA e0 (by kernel_rfl) (by kernel_rfl),trivial⟩
end euclid_Shifted
/-! window_Variance -/
namespace window_Variance
noncomputable def c : Go.Code := Try.f105.body.getD .skip
abbrev sh : Sh := ⟨[q11], []⟩
abbrev osh : Sh := ⟨[q13], []⟩
abbrev G := sh.X → Option osh.X
abbrev fe (g : G) : FE := FE.of [true] false sh osh g
abbrev s0 : Sh := ⟨[q16], [q0]⟩
abbrev x0 : List (Ex × Sh) := [(.normal, ⟨[q16, q15], [q0]⟩)]
abbrev A0 := s0.X → Option (sumX x0)
def hs : List Hint := [⟨[0,0,1],0,[1],[(0,[1,39])]⟩]
def f0 (a b c : Int) : Option Y109 :=
 bif decide (a < 1) then
 some (Sum.inl (((),true,()),(a,b,c,()),()))
 else
 bif decide (a > 2000) then
 some (Sum.inl (((),true,()),(a,b,c,()),()))
 else
 bif decide (b < IntKind.wrap .i64 ((-1000) * a)) then
 some (Sum.inl (((),true,()),(a,b,c,()),()))
 else
 bif decide (b > IntKind.wrap .i64 (1000 * a)) then
 some (Sum.inl (((),true,()),(a,b,c,()),()))
 else
 bif decide (c < 0) then
 some (Sum.inl (((),true,()),(a,b,c,()),()))
 else
 some (Sum.inl (((),decide (c > IntKind.wrap .i64 (1000000 * a)),()),(a,b,c,()),()))
def u0 (x : Y133) := f0 x.2.1.1 x.2.1.2.1 x.2.1.2.2.1
def f (l0 : Y133 → Option Y109) (a b c : Int) : Option Y164 :=
 (l0 (((),()),(a,b,c,()),())).bind fun y0 =>
 y0.elim (fun a1 => bif a1.1.2.1 then
 some ((0,()),())
 else
 some ((Go.VI.mx 0 (IntKind.wrap .i64 ((IntKind.wrap .i64 (a1.2.1.1 * a1.2.1.2.2.1)) - (IntKind.wrap .i64 (a1.2.1.2.1 * a1.2.1.2.1)))),()),())) Empty.elim
def u (l0 : Y133 → Option Y109) (x : Y141) := f l0 x.1.1.1 x.1.1.2.1 x.1.1.2.2.1
section
variable (l0 : A0)
def E : Env := ⟨T,cE [],lE [LE.of s0 x0 l0],52,0,Gt⟩
variable {l0}
theorem e0 (L : A0) (x : s0.X) : rndO (E l0) hs c s0 x0 0 false L x = u0 x := by
 show _ = (_ : Option _)
 kernel_rfl
theorem e (x : sh.X) : bodO (E l0) hs c Try.f105 sh osh x = u l0 x := by
 show _ = (_ : Option _)
 kernel_rfl
end
noncomputable def L0 : Y133 → Option Y109 := u0
noncomputable def F : Y141 → Option Y164 := u L0
noncomputable abbrev R : Env := E L0
theorem L0_eq (a b c : Int) : L0 (((),()),((a,b,c,()),())) = f0 a b c := rfl
theorem F_eq (a b c : Int) : F (((a,b,c,()),()),()) = f L0 a b c := rfl
theorem ok {tabs} (ht : TabsOk tabs) : FOK Try.prog tabs 105 (fe F) :=
 fn_keep3 (E := R) (hs := hs) Try.func105 e pw tb (gt_ok ht) (by kernel_rfl) (by kernel_rfl) rfl trivial 1 (by kernel_rfl) ⟨cA e0 (by kernel_rfl) (by kernel_rfl),trivial⟩
end window_Variance
/-! normal_variance -/
namespace normal_variance
noncomputable def c : Go.Code := Try.f100.body.getD .skip
abbrev sh : Sh := ⟨[q14], []⟩
abbrev osh : Sh := ⟨[q13], []⟩
abbrev G := sh.X → Option osh.X
abbrev fe (g : G) : FE := FE.of [true] false sh osh g
abbrev s0 : Sh := ⟨[q16, q14, q13, q13], [q0]⟩
abbrev x0 : List (Ex × Sh) := [(.exit 0, ⟨[q16], [q0]⟩)]
abbrev A0 := s0.X → Option (sumX x0)
def hs : List Hint := [⟨[0,1,0,1,1],0,[3,9,10,11],[(2,[3])]⟩]
def f0 (L : Y94 → Option Y116) (a : List Int) (b c d h i : Int) : Option Y116 :=
 bif decide (c < b) then
 bif decide (0 ≤ c) then
 bif decide (c < (a.length:Int)) then
 (L (((),a,b,IntKind.wrap .i64 (c + 1),()),(d,IntKind.wrap .i64 (h + (a.getD (c.toNat) 0)),IntKind.wrap .i64 (i + (IntKind.wrap .i64 ((a.getD (c.toNat) 0) * (a.getD (c.toNat) 0)))),()),())).bind fun y3 =>
 some y3
 else none
 else none
 else
 some (Sum.inl (((),()),(d,h,i,()),()))
def u0 (L : Y94 → Option Y116) (x : Y94) := f0 L x.1.2.1 x.1.2.2.1 x.1.2.2.2.1 x.2.1.1 x.2.1.2.1 x.2.1.2.2.1
def f (g0 : Y141 → Option Y164) (l0 : Y94 → Option Y116) (a : List Int) : Option Y164 :=
 (l0 (((),a,(a.length:Int),0,()),((a.length:Int),0,0,()),())).bind fun y0 =>
 y0.elim (fun a1 => (g0 (((a1.2.1.1,a1.2.1.2.1,a1.2.1.2.2.1,()),()),())).bind fun y2 =>
 some ((y2.1.1,()),())) Empty.elim
def u (g0 : Y141 → Option Y164) (l0 : Y94 → Option Y116) (x : Y159) := f g0 l0 x.1.1
section
variable (g0 : window_Variance.G) (l0 : A0)
def E : Env := ⟨T,cE [(105,[],window_Variance.fe g0)],lE [LE.of s0 x0 l0],30,0,Gt⟩
variable {g0 l0}
theorem e0 (L : A0) (x : s0.X) : rndO (E g0 l0) hs c s0 x0 0 true L x = u0 L x := by
 show _ = (_ : Option _)
 kernel_rfl
theorem e (x : sh.X) : bodO (E g0 l0) hs c Try.f100 sh osh x = u g0 l0 x := by
 show _ = (_ : Option _)
 kernel_rfl
end
noncomputable def L0 : Y94 → Option Y116 := loop u0
noncomputable def F : Y159 → Option Y164 := u window_Variance.F L0
noncomputable abbrev R : Env := E window_Variance.F L0
theorem L0_eq (a : List Int) (b c d h i : Int) : L0 (((),a,b,c,()),((d,h,i,()),())) = f0 L0 a b c d h i :=
 loopE (E := R) e0 (((),a,b,c,()),((d,h,i,()),()))
theorem F_eq (a : List Int) : F ((a,()),()) = f window_Variance.F L0 a := rfl
theorem ok {tabs} (ht : TabsOk tabs) : FOK Try.prog tabs 100 (fe F) :=
 fn_keep3 (E := R) (hs := hs) Try.func100 e pw tb (gt_ok ht) (by kernel_rfl) (by kernel_rfl) rfl ⟨window_Variance.ok ht,trivial⟩ 1 (by kernel_rfl) ⟨lA e0 (by kernel_rfl) (by kernel_rfl),trivial⟩
end normal_variance
/-! normal_product -/
namespace normal_product
noncomputable def c : Go.Code := Try.f101.body.getD .skip
abbrev sh : Sh := ⟨[q14, q14], []⟩
abbrev osh : Sh := ⟨[q13], []⟩
abbrev G := sh.X → Option osh.X
abbrev fe (g : G) : FE := FE.of [true,true] false sh osh g
abbrev s0 : Sh := ⟨[q14, q14, q13, q13, q13, q14, q13, q13], []⟩
abbrev x0 : List (Ex × Sh) := [(.exit 0, ⟨[q14, q13, q13, q13], []⟩)]
abbrev A0 := s0.X → Option (sumX x0)
def hs : List Hint := [⟨[0,1,0,1,1],0,[0,1,5,6,7,10,11,12],[(2,[0,5,6,7])]⟩]
def f0 (L : Y80 → Option Y123) (a b : List Int) (c d h : Int) (i : List Int) (j k : Int) : Option Y123 :=
 bif decide (k < j) then
 bif decide (0 ≤ k) then
 bif decide (k < (i.length:Int)) then
 bif decide (0 ≤ k) then
 bif decide (k < (b.length:Int)) then
 bif decide (0 ≤ k) then
 bif decide (k < (b.length:Int)) then
 (L ((a,b,IntKind.wrap .i64 (c + (IntKind.wrap .i64 ((i.getD (k.toNat) 0) * (b.getD (k.toNat) 0)))),IntKind.wrap .i64 (d + (i.getD (k.toNat) 0)),IntKind.wrap .i64 (h + (b.getD (k.toNat) 0)),i,j,IntKind.wrap .i64 (k + 1),()),())).bind fun y7 =>
 some y7
 else none
 else none
 else none
 else none
 else none
 else none
 else
 some (Sum.inl ((a,c,d,h,()),()))
def u0 (L : Y80 → Option Y123) (x : Y80) := f0 L x.1.1 x.1.2.1 x.1.2.2.1 x.1.2.2.2.1 x.1.2.2.2.2.1 x.1.2.2.2.2.2.1 x.1.2.2.2.2.2.2.1 x.1.2.2.2.2.2.2.2.1
def f (l0 : Y80 → Option Y123) (a b : List Int) : Option Y164 :=
 (l0 ((a,b,0,0,0,a,(a.length:Int),0,()),())).bind fun y0 =>
 y0.elim (fun a1 => some ((IntKind.wrap .i64 ((IntKind.wrap .i64 ((a1.1.1.length:Int) * a1.1.2.1)) - (IntKind.wrap .i64 (a1.1.2.2.1 * a1.1.2.2.2.1))),()),())) Empty.elim
def u (l0 : Y80 → Option Y123) (x : Y145) := f l0 x.1.1 x.1.2.1
section
variable (l0 : A0)
def E : Env := ⟨T,cE [],lE [LE.of s0 x0 l0],43,0,Gt⟩
variable {l0}
theorem e0 (L : A0) (x : s0.X) : rndO (E l0) hs c s0 x0 0 true L x = u0 L x := by
 show _ = (_ : Option _)
 kernel_rfl
theorem e (x : sh.X) : bodO (E l0) hs c Try.f101 sh osh x = u l0 x := by
 show _ = (_ : Option _)
 kernel_rfl
end
noncomputable def L0 : Y80 → Option Y123 := loop u0
noncomputable def F : Y145 → Option Y164 := u L0
noncomputable abbrev R : Env := E L0
theorem L0_eq (a b : List Int) (c d h : Int) (i : List Int) (j k : Int) : L0 ((a,b,c,d,h,i,j,k,()),()) = f0 L0 a b c d h i j k :=
 loopE (E := R) e0 ((a,b,c,d,h,i,j,k,()),())
theorem F_eq (a b : List Int) : F ((a,b,()),()) = f L0 a b := rfl
theorem ok {tabs} (ht : TabsOk tabs) : FOK Try.prog tabs 101 (fe F) :=
 fn_keep3 (E := R) (hs := hs) Try.func101 e pw tb (gt_ok ht) (by kernel_rfl) (by kernel_rfl) rfl trivial 1 (by kernel_rfl) ⟨lA e0 (by kernel_rfl) (by kernel_rfl),trivial⟩
end normal_product
/-! normal_gap -/
namespace normal_gap
noncomputable def c : Go.Code := Try.f93.body.getD .skip
abbrev sh : Sh := ⟨[q14, q14], []⟩
abbrev osh : Sh := ⟨[q10, q13], []⟩
abbrev G := sh.X → Option osh.X
abbrev fe (g : G) : FE := FE.of [true,true] false sh osh g
abbrev s0 : Sh := ⟨[q14, q14, q16, q13, q13], [q1]⟩
abbrev x0 : List (Ex × Sh) := [(.ret, ⟨[q16, q13], [q1]⟩), (.normal, ⟨[q14, q14, q16, q13, q13], [q1]⟩)]
abbrev A0 := s0.X → Option (sumX x0)
abbrev s1 : Sh := ⟨[q14, q14, q16, q13, q13], [q1]⟩
abbrev x1 : List (Ex × Sh) := [(.normal, ⟨[q14, q14, q16, q13, q13, q15], [q1]⟩)]
abbrev A1 := s1.X → Option (sumX x1)
def hs : List Hint := [⟨[0,1,1],0,[0,1,4,6,7],[(1,[4,5]),(0,[0,1,4,6,7])]⟩,⟨[0,0,0,1,1],1,[0,1,4,6,7],[(0,[0,1,4,6,7,13])]⟩]
def f1 (a b : List Int) (c d h i : Int) : Option Y67 :=
 bif c == 0 then
 some (Sum.inl ((a,b,(),c,d,d == 0,()),(h,i,()),()))
 else
 some (Sum.inl ((a,b,(),c,d,false,()),(h,i,()),()))
def u1 (x : Y84) := f1 x.1.1 x.1.2.1 x.1.2.2.2.1 x.1.2.2.2.2.1 x.2.1.1 x.2.1.2.1
def f0 (g1 : Y161 → Option Y142) (l1 : Y84 → Option Y67) (a b : List Int) (c d h i : Int) : Option Y35 :=
 (l1 ((a,b,(),c,d,()),(h,i,()),())).bind fun y0 =>
 y0.elim (fun a1 => bif a1.1.2.2.2.2.2.1 then
 (g1 ((0,1,()),())).bind fun y3 =>
 some (Sum.inl (((),y3.1.2.1,()),(y3.1.1.1,y3.1.1.2.1,()),()))
 else
 bif a1.1.2.2.2.1 == 0 then
 (g1 ((1,1,()),())).bind fun y4 =>
 some (Sum.inl (((),y4.1.2.1,()),(y4.1.1.1,y4.1.1.2.1,()),()))
 else
 bif a1.1.2.2.2.2.1 == 0 then
 (g1 ((1,1,()),())).bind fun y5 =>
 some (Sum.inl (((),y5.1.2.1,()),(y5.1.1.1,y5.1.1.2.1,()),()))
 else
 some (Sum.inr (Sum.inl ((a1.1.1,a1.1.2.1,(),a1.1.2.2.2.1,a1.1.2.2.2.2.1,()),(a1.2.1.1,a1.2.1.2.1,()),())))) Empty.elim
def u0 (g1 : Y161 → Option Y142) (l1 : Y84 → Option Y67) (x : Y84) := f0 g1 l1 x.1.1 x.1.2.1 x.1.2.2.2.1 x.1.2.2.2.2.1 x.2.1.1 x.2.1.2.1
def f (g0 : Y159 → Option Y164) (g1 : Y161 → Option Y142) (g2 : Y145 → Option Y164) (l0 : Y84 → Option Y35) (a b : List Int) : Option Y142 :=
 (g0 ((a,()),())).bind fun y0 =>
 (g0 ((b,()),())).bind fun y1 =>
 (l0 ((a,b,(),y0.1.1,y1.1.1,()),(0,0,()),())).bind fun y2 =>
 y2.elim (fun a3 => some (((a3.2.1.1,a3.2.1.2.1,()),a3.1.2.1,()),())) (fun b3 => b3.elim (fun a4 => (g2 ((a4.1.1,a4.1.2.1,()),())).bind fun y5 =>
 bif decide (y5.1.1 < 0) then
 (g1 ((IntKind.wrap .i64 ((IntKind.wrap .i64 (a4.1.2.2.2.1 * a4.1.2.2.2.2.1)) + (IntKind.wrap .i64 (y5.1.1 * y5.1.1))),IntKind.wrap .i64 (a4.1.2.2.2.1 * a4.1.2.2.2.2.1),()),())).bind fun y7 =>
 some (((y7.1.1.1,y7.1.1.2.1,()),y7.1.2.1,()),())
 else
 (g1 ((IntKind.wrap .i64 ((IntKind.wrap .i64 (a4.1.2.2.2.1 * a4.1.2.2.2.2.1)) - (IntKind.wrap .i64 (y5.1.1 * y5.1.1))),IntKind.wrap .i64 (a4.1.2.2.2.1 * a4.1.2.2.2.2.1),()),())).bind fun y7 =>
 some (((y7.1.1.1,y7.1.1.2.1,()),y7.1.2.1,()),())) Empty.elim)
def u (g0 : Y159 → Option Y164) (g1 : Y161 → Option Y142) (g2 : Y145 → Option Y164) (l0 : Y84 → Option Y35) (x : Y145) := f g0 g1 g2 l0 x.1.1 x.1.2.1
section
variable (g0 : normal_variance.G) (g1 : ratio_Make.G) (g2 : normal_product.G) (l0 : A0) (l1 : A1)
def E : Env := ⟨T,cE [(100,[],normal_variance.fe g0),(90,[],ratio_Make.fe g1),(101,[],normal_product.fe g2)],lE [LE.of s0 x0 l0,LE.of s1 x1 l1],64,0,Gt⟩
variable {g0 g1 g2 l0 l1}
theorem e1 (L : A1) (x : s1.X) : rndO (E g0 g1 g2 l0 l1) hs c s1 x1 1 false L x = u1 x := by
 show _ = (_ : Option _)
 kernel_rfl
theorem e0 (L : A0) (x : s0.X) : rndO (E g0 g1 g2 l0 l1) hs c s0 x0 0 false L x = u0 g1 l1 x := by
 show _ = (_ : Option _)
 kernel_rfl
theorem e (x : sh.X) : bodO (E g0 g1 g2 l0 l1) hs c Try.f93 sh osh x = u g0 g1 g2 l0 x := by
 show _ = (_ : Option _)
 kernel_rfl
end
noncomputable def L1 : Y84 → Option Y67 := u1
noncomputable def L0 : Y84 → Option Y35 := u0 ratio_Make.F L1
noncomputable def F : Y145 → Option Y142 := u normal_variance.F ratio_Make.F normal_product.F L0
noncomputable abbrev R : Env := E normal_variance.F ratio_Make.F normal_product.F L0 L1
theorem L0_eq (a b : List Int) (c d h i : Int) : L0 ((a,b,(),c,d,()),((h,i,()),())) = f0 ratio_Make.F L1 a b c d h i := rfl
theorem L1_eq (a b : List Int) (c d h i : Int) : L1 ((a,b,(),c,d,()),((h,i,()),())) = f1 a b c d h i := rfl
theorem F_eq (a b : List Int) : F ((a,b,()),()) = f normal_variance.F ratio_Make.F normal_product.F L0 a b := rfl
theorem ok {tabs} (ht : TabsOk tabs) : FOK Try.prog tabs 93 (fe F) :=
 fn_keep3 (E := R) (hs := hs) Try.func93 e pw tb (gt_ok ht) (by kernel_rfl) (by kernel_rfl) rfl ⟨normal_variance.ok ht,ratio_Make.ok ht,normal_product.ok ht,trivial⟩ 2 (by kernel_rfl) ⟨cA e0 (by kernel_rfl) (by kernel_rfl),cA e1 (by kernel_rfl) (by kernel_rfl),trivial⟩
end normal_gap
/-! normal_Gap -/
namespace normal_Gap
noncomputable def c : Go.Code := Try.f80.body.getD .skip
abbrev sh : Sh := ⟨[q14, q14], []⟩
abbrev osh : Sh := ⟨[q10, q13], []⟩
abbrev G := sh.X → Option osh.X
abbrev fe (g : G) : FE := FE.of [true,true] false sh osh g
def f (g0 : Y145 → Option Y161) (g1 : Y145 → Option Y142) (a b : List Int) : Option Y142 :=
 (g0 ((a,b,()),())).bind fun y0 =>
 bif y0.1.2.1 != 0 then
 some (((0,0,()),y0.1.2.1,()),())
 else
 (g1 ((a,b,()),())).bind fun y2 =>
 some (((y2.1.1.1,y2.1.1.2.1,()),y2.1.2.1,()),())
def u (g0 : Y145 → Option Y161) (g1 : Y145 → Option Y142) (x : Y145) := f g0 g1 x.1.1 x.1.2.1
section
variable (g0 : euclid_Distance.G) (g1 : normal_gap.G)
def E : Env := ⟨T,cE [(78,[],euclid_Distance.fe g0),(93,[],normal_gap.fe g1)],lE [],23,0,Gt⟩
variable {g0 g1}
theorem e (x : sh.X) : bodO (E g0 g1) [] c Try.f80 sh osh x = u g0 g1 x := by
 show _ = (_ : Option _)
 kernel_rfl
end
noncomputable def F : Y145 → Option Y142 := u euclid_Distance.F normal_gap.F
noncomputable abbrev R : Env := E euclid_Distance.F normal_gap.F
theorem F_eq (a b : List Int) : F ((a,b,()),()) = f euclid_Distance.F normal_gap.F a b := rfl
theorem ok {tabs} (ht : TabsOk tabs) : FOK Try.prog tabs 80 (fe F) :=
 fn_keep3 (E := R) (hs := []) Try.func80 e pw tb (gt_ok ht) (by kernel_rfl) (by kernel_rfl) rfl ⟨euclid_Distance.ok ht,normal_gap.ok ht,trivial⟩ 0 (by kernel_rfl) trivial
end normal_Gap
/-! warp_check -/
namespace warp_check
noncomputable def c : Go.Code := Try.f94.body.getD .skip
abbrev sh : Sh := ⟨[q14, q14, q13], []⟩
abbrev osh : Sh := ⟨[q13], []⟩
abbrev G := sh.X → Option osh.X
abbrev fe (g : G) : FE := FE.of [true,true,true] false sh osh g
abbrev s0 : Sh := ⟨[q14, q14, q13], []⟩
abbrev x0 : List (Ex × Sh) := [(.normal, ⟨[q14, q14, q13, q15], []⟩)]
abbrev A0 := s0.X → Option (sumX x0)
abbrev s1 : Sh := ⟨[q14, q14, q13, q13, q13], []⟩
abbrev x1 : List (Ex × Sh) := [(.normal, ⟨[q14, q14, q13, q13, q13, q15], []⟩)]
abbrev A1 := s1.X → Option (sumX x1)
def hs : List Hint := [⟨[0,0,1],0,[0,1,2],[(0,[0,1,2,16])]⟩,⟨[0,0,0,1,1,1,1],1,[0,1,2,8,10],[(0,[0,1,2,8,10,29])]⟩]
def f0 (a b : List Int) (c : Int) : Option Y113 :=
 bif decide (c < 0) then
 some (Sum.inl ((a,b,c,true,()),()))
 else
 some (Sum.inl ((a,b,c,decide (c > 32),()),()))
def u0 (x : Y136) := f0 x.1.1 x.1.2.1 x.1.2.2.1
def f1 (a b : List Int) (c d h : Int) : Option Y91 :=
 bif d == 8 then
 some (Sum.inl ((a,b,c,d,h,true,()),()))
 else
 some (Sum.inl ((a,b,c,d,h,h == 8,()),()))
def u1 (x : Y118) := f1 x.1.1 x.1.2.1 x.1.2.2.1 x.1.2.2.2.1 x.1.2.2.2.2.1
def f (g0 : Y145 → Option Y161) (l0 : Y136 → Option Y113) (l1 : Y118 → Option Y91) (a b : List Int) (c : Int) : Option Y164 :=
 (l0 ((a,b,c,()),())).bind fun y0 =>
 y0.elim (fun a1 => bif a1.1.2.2.2.1 then
 some ((1,()),())
 else
 (g0 ((a1.1.1,a1.1.1,()),())).bind fun y3 =>
 (g0 ((a1.1.2.1,a1.1.2.1,()),())).bind fun y4 =>
 (l1 ((a1.1.1,a1.1.2.1,a1.1.2.2.1,y3.1.2.1,y4.1.2.1,()),())).bind fun y5 =>
 y5.elim (fun a6 => bif a6.1.2.2.2.2.2.1 then
 some ((8,()),())
 else
 bif a6.1.2.2.2.1 != 0 then
 some ((a6.1.2.2.2.1,()),())
 else
 bif a6.1.2.2.2.2.1 != 0 then
 some ((a6.1.2.2.2.2.1,()),())
 else
 bif decide (IntKind.wrap .i64 ((a6.1.1.length:Int) - (a6.1.2.1.length:Int)) > a6.1.2.2.1) then
 some ((8,()),())
 else
 bif decide (IntKind.wrap .i64 ((a6.1.2.1.length:Int) - (a6.1.1.length:Int)) > a6.1.2.2.1) then
 some ((8,()),())
 else
 some ((0,()),())) Empty.elim) Empty.elim
def u (g0 : Y145 → Option Y161) (l0 : Y136 → Option Y113) (l1 : Y118 → Option Y91) (x : Y136) := f g0 l0 l1 x.1.1 x.1.2.1 x.1.2.2.1
section
variable (g0 : euclid_Distance.G) (l0 : A0) (l1 : A1)
def E : Env := ⟨T,cE [(78,[],euclid_Distance.fe g0)],lE [LE.of s0 x0 l0,LE.of s1 x1 l1],61,0,Gt⟩
variable {g0 l0 l1}
theorem e0 (L : A0) (x : s0.X) : rndO (E g0 l0 l1) hs c s0 x0 0 false L x = u0 x := by
 show _ = (_ : Option _)
 kernel_rfl
theorem e1 (L : A1) (x : s1.X) : rndO (E g0 l0 l1) hs c s1 x1 1 false L x = u1 x := by
 show _ = (_ : Option _)
 kernel_rfl
theorem e (x : sh.X) : bodO (E g0 l0 l1) hs c Try.f94 sh osh x = u g0 l0 l1 x := by
 show _ = (_ : Option _)
 kernel_rfl
end
noncomputable def L0 : Y136 → Option Y113 := u0
noncomputable def L1 : Y118 → Option Y91 := u1
noncomputable def F : Y136 → Option Y164 := u euclid_Distance.F L0 L1
noncomputable abbrev R : Env := E euclid_Distance.F L0 L1
theorem L0_eq (a b : List Int) (c : Int) : L0 ((a,b,c,()),()) = f0 a b c := rfl
theorem L1_eq (a b : List Int) (c d h : Int) : L1 ((a,b,c,d,h,()),()) = f1 a b c d h := rfl
theorem F_eq (a b : List Int) (c : Int) : F ((a,b,c,()),()) = f euclid_Distance.F L0 L1 a b c := rfl
theorem ok {tabs} (ht : TabsOk tabs) : FOK Try.prog tabs 94 (fe F) :=
 fn_keep3 (E := R) (hs := hs) Try.func94 e pw tb (gt_ok ht) (by kernel_rfl) (by kernel_rfl) rfl ⟨euclid_Distance.ok ht,trivial⟩ 2 (by kernel_rfl) ⟨cA e0 (by kernel_rfl) (by kernel_rfl),cA e1 (by kernel_rfl) (by kernel_rfl),trivial⟩
end warp_check
/-! warp_near -/
namespace warp_near
noncomputable def c : Go.Code := Try.f106.body.getD .skip
abbrev sh : Sh := ⟨[q13, q13, q13], []⟩
abbrev osh : Sh := ⟨[q15], []⟩
abbrev G := sh.X → Option osh.X
abbrev fe (g : G) : FE := FE.of [true,true,true] false sh osh g
def f (a b c : Int) : Option Y163 :=
 bif decide (IntKind.wrap .i64 (a - b) ≤ c) then
 some ((decide (IntKind.wrap .i64 (b - a) ≤ c),()),())
 else
 some ((false,()),())
def u (x : Y156) := f x.1.1 x.1.2.1 x.1.2.2.1
section
def E : Env := ⟨T,cE [],lE [],19,0,Gt⟩
theorem e (x : sh.X) : bodO (E) [] c Try.f106 sh osh x = u x := by
 show _ = (_ : Option _)
 kernel_rfl
end
noncomputable def F : Y156 → Option Y163 := u
noncomputable abbrev R : Env := E
theorem F_eq (a b c : Int) : F ((a,b,c,()),()) = f a b c := rfl
theorem ok {tabs} (ht : TabsOk tabs) : FOK Try.prog tabs 106 (fe F) :=
 fn_keep3 (E := R) (hs := []) Try.func106 e pw tb (gt_ok ht) (by kernel_rfl) (by kernel_rfl) rfl trivial 0 (by kernel_rfl) trivial
end warp_near
/-! warp_fill -/
namespace warp_fill
noncomputable def c : Go.Code := Try.f102.body.getD .skip
abbrev sh : Sh := ⟨[q18, q14, q14, q14, q13, q13], [.row 3 (.int .i64)]⟩
abbrev osh : Sh := ⟨[], [.row 3 (.int .i64)]⟩
abbrev G := sh.X → Option osh.X
abbrev fe (g : G) : FE := FE.of [false,true,true,true,true,true] false sh osh g
abbrev s0 : Sh := ⟨[q18, q14, q14, q14, q13, q13, q13, q13], [.row 3 (.int .i64)]⟩
abbrev x0 : List (Ex × Sh) := [(.exit 0, ⟨[], [.row 3 (.int .i64)]⟩)]
abbrev A0 := s0.X → Option (sumX x0)
abbrev s1 : Sh := ⟨[q18, q14, q14, q14, q13, q13, q13, q13, q13, q13], [.row 3 (.int .i64)]⟩
abbrev x1 : List (Ex × Sh) := [(.normal, ⟨[q18, q14, q14, q14, q13, q13, q13, q13, q13, q13, q15], [.row 3 (.int .i64)]⟩)]
abbrev A1 := s1.X → Option (sumX x1)
abbrev s2 : Sh := ⟨[q18, q14, q14, q14, q13, q13, q13, q13, q13, q13, q15], [.row 3 (.int .i64)]⟩
abbrev x2 : List (Ex × Sh) := [(.normal, ⟨[q18, q14, q14, q14, q13, q13, q13, q13, q13, q13], [.row 3 (.int .i64)]⟩)]
abbrev A2 := s2.X → Option (sumX x2)
abbrev s3 : Sh := ⟨[q18, q14, q14, q14, q13, q13, q13, q13, q13, q13, q15], [.row 3 (.int .i64)]⟩
abbrev x3 : List (Ex × Sh) := [(.normal, ⟨[q18, q14, q14, q14, q13, q13, q13, q13, q13, q13], [.row 3 (.int .i64)]⟩)]
abbrev A3 := s3.X → Option (sumX x3)
abbrev s4 : Sh := ⟨[q18, q14, q14, q14, q13, q13, q13, q13, q13, q13, q15], [.row 3 (.int .i64)]⟩
abbrev x4 : List (Ex × Sh) := [(.normal, ⟨[q18, q14, q14, q14, q13, q13, q13, q13, q13, q13], [.row 3 (.int .i64)]⟩)]
abbrev A4 := s4.X → Option (sumX x4)
abbrev s5 : Sh := ⟨[q18, q14, q14, q14, q13, q13, q13, q13, q13, q13], [.row 3 (.int .i64)]⟩
abbrev x5 : List (Ex × Sh) := [(.normal, ⟨[q18, q14, q14, q14, q13, q13, q13, q13, q13, q13, q15], [.row 3 (.int .i64)]⟩)]
abbrev A5 := s5.X → Option (sumX x5)
def hs : List Hint := [⟨[0,1],0,[0,1,2,3,4,5,15,16],[(2,[])]⟩,⟨[0,0,1,1,1,1,0,0,1,1,0,0,1],1,[0,1,2,3,4,5,12,13,15,16],[(0,[0,1,2,3,4,5,12,13,15,16,32])]⟩,⟨[1,0,1,1,1,1,0,0,1,1,0,0,1],2,[0,1,2,3,4,5,12,13,15,16,32],[(0,[0,1,2,3,4,5,12,13,15,16])]⟩,⟨[1,0,1,1,1,1,1,0,0,1,1,0,0,1],3,[0,1,2,3,4,5,12,13,15,16,34],[(0,[0,1,2,3,4,5,12,13,15,16])]⟩,⟨[1,0,1,1,1,1,1,1,0,0,1,1,0,0,1],4,[0,1,2,3,4,5,12,13,15,16,43],[(0,[0,1,2,3,4,5,12,13,15,16])]⟩,⟨[0,0,1,1,1,1,1,1,1,0,0,1,1,0,0,1],5,[0,1,2,3,4,5,12,13,15,16],[(0,[0,1,2,3,4,5,12,13,15,16,55])]⟩]
def f1 (a b c : List Int) (d h i j k m : Int) (n : List Int) : Option Y40 :=
 bif h == 0 then
 some (Sum.inl (((),a,b,c,d,h,i,j,k,m,i == 0,()),n,()))
 else
 some (Sum.inl (((),a,b,c,d,h,i,j,k,m,false,()),n,()))
def u1 (x : Y53) := f1 x.1.2.1 x.1.2.2.1 x.1.2.2.2.1 x.1.2.2.2.2.1 x.1.2.2.2.2.2.1 x.1.2.2.2.2.2.2.1 x.1.2.2.2.2.2.2.2.1 x.1.2.2.2.2.2.2.2.2.1 x.1.2.2.2.2.2.2.2.2.2.1 x.2.1
def f2 (a b c : List Int) (d h i j k m : Int) (n : Bool) (o : List Int) : Option Y43 :=
 bif n then
 some (Sum.inl (((),a,b,c,d,h,i,0,k,m,()),o,()))
 else
 some (Sum.inl (((),a,b,c,d,h,i,j,k,m,()),o,()))
def u2 (x : Y46) := f2 x.1.2.1 x.1.2.2.1 x.1.2.2.2.1 x.1.2.2.2.2.1 x.1.2.2.2.2.2.1 x.1.2.2.2.2.2.2.1 x.1.2.2.2.2.2.2.2.1 x.1.2.2.2.2.2.2.2.2.1 x.1.2.2.2.2.2.2.2.2.2.1 x.1.2.2.2.2.2.2.2.2.2.2.1 x.2.1
def f3 (a b c : List Int) (d h i j k m : Int) (n : Bool) (o : List Int) : Option Y43 :=
 bif n then
 bif decide (0 ≤ IntKind.wrap .i64 (i - 1)) then
 bif decide (IntKind.wrap .i64 (i - 1) < (o.length:Int)) then
 some (Sum.inl (((),a,b,c,d,h,i,Go.VI.mn j (o.getD (Int.toNat (IntKind.wrap .i64 (i - 1))) 0),k,m,()),o,()))
 else none
 else none
 else
 some (Sum.inl (((),a,b,c,d,h,i,j,k,m,()),o,()))
def u3 (x : Y46) := f3 x.1.2.1 x.1.2.2.1 x.1.2.2.2.1 x.1.2.2.2.2.1 x.1.2.2.2.2.2.1 x.1.2.2.2.2.2.2.1 x.1.2.2.2.2.2.2.2.1 x.1.2.2.2.2.2.2.2.2.1 x.1.2.2.2.2.2.2.2.2.2.1 x.1.2.2.2.2.2.2.2.2.2.2.1 x.2.1
def f4 (a b c : List Int) (d h i j k m : Int) (n : Bool) (o : List Int) : Option Y43 :=
 bif n then
 bif decide (0 ≤ i) then
 bif decide (i < (a.length:Int)) then
 some (Sum.inl (((),a,b,c,d,h,i,Go.VI.mn j (a.getD (i.toNat) 0),k,m,()),o,()))
 else none
 else none
 else
 some (Sum.inl (((),a,b,c,d,h,i,j,k,m,()),o,()))
def u4 (x : Y46) := f4 x.1.2.1 x.1.2.2.1 x.1.2.2.2.1 x.1.2.2.2.2.1 x.1.2.2.2.2.2.1 x.1.2.2.2.2.2.2.1 x.1.2.2.2.2.2.2.2.1 x.1.2.2.2.2.2.2.2.2.1 x.1.2.2.2.2.2.2.2.2.2.1 x.1.2.2.2.2.2.2.2.2.2.2.1 x.2.1
def f5 (a b c : List Int) (d h i j k m : Int) (n : List Int) : Option Y40 :=
 bif decide (h > 0) then
 some (Sum.inl (((),a,b,c,d,h,i,j,k,m,decide (i > 0),()),n,()))
 else
 some (Sum.inl (((),a,b,c,d,h,i,j,k,m,false,()),n,()))
def u5 (x : Y53) := f5 x.1.2.1 x.1.2.2.1 x.1.2.2.2.1 x.1.2.2.2.2.1 x.1.2.2.2.2.2.1 x.1.2.2.2.2.2.2.1 x.1.2.2.2.2.2.2.2.1 x.1.2.2.2.2.2.2.2.2.1 x.1.2.2.2.2.2.2.2.2.2.1 x.2.1
def f0 (g0 : Y156 → Option Y163) (l1 : Y53 → Option Y40) (l2 : Y46 → Option Y43) (l3 : Y46 → Option Y43) (l4 : Y46 → Option Y43) (l5 : Y53 → Option Y40) (L : Y65 → Option Y150) (a b c : List Int) (d h i j : Int) (k : List Int) : Option Y150 :=
 bif decide (j < i) then
 bif decide (0 ≤ j) then
 bif decide (j < (k.length:Int)) then
 (g0 ((h,j,d,()),())).bind fun y3 =>
 bif !y3.1.1 then
 (L (((),a,b,c,d,h,i,IntKind.wrap .i64 (j + 1),()),k.set (j.toNat) 4611686018427387904,())).bind fun y5 =>
 some y5
 else
 (l1 (((),a,b,c,d,h,j,4611686018427387904,i,j,()),k.set (j.toNat) 4611686018427387904,())).bind fun y5 =>
 y5.elim (fun a6 => (l2 (((),a6.1.2.1,a6.1.2.2.1,a6.1.2.2.2.1,a6.1.2.2.2.2.1,a6.1.2.2.2.2.2.1,a6.1.2.2.2.2.2.2.1,a6.1.2.2.2.2.2.2.2.1,a6.1.2.2.2.2.2.2.2.2.1,a6.1.2.2.2.2.2.2.2.2.2.1,a6.1.2.2.2.2.2.2.2.2.2.2.1,()),a6.2.1,())).bind fun y7 =>
 y7.elim (fun a8 => (l3 (((),a8.1.2.1,a8.1.2.2.1,a8.1.2.2.2.1,a8.1.2.2.2.2.1,a8.1.2.2.2.2.2.1,a8.1.2.2.2.2.2.2.1,a8.1.2.2.2.2.2.2.2.1,a8.1.2.2.2.2.2.2.2.2.1,a8.1.2.2.2.2.2.2.2.2.2.1,decide (a8.1.2.2.2.2.2.2.1 > 0),()),a8.2.1,())).bind fun y9 =>
 y9.elim (fun a10 => (l4 (((),a10.1.2.1,a10.1.2.2.1,a10.1.2.2.2.1,a10.1.2.2.2.2.1,a10.1.2.2.2.2.2.1,a10.1.2.2.2.2.2.2.1,a10.1.2.2.2.2.2.2.2.1,a10.1.2.2.2.2.2.2.2.2.1,a10.1.2.2.2.2.2.2.2.2.2.1,decide (a10.1.2.2.2.2.2.1 > 0),()),a10.2.1,())).bind fun y11 =>
 y11.elim (fun a12 => (l5 (((),a12.1.2.1,a12.1.2.2.1,a12.1.2.2.2.1,a12.1.2.2.2.2.1,a12.1.2.2.2.2.2.1,a12.1.2.2.2.2.2.2.1,a12.1.2.2.2.2.2.2.2.1,a12.1.2.2.2.2.2.2.2.2.1,a12.1.2.2.2.2.2.2.2.2.2.1,()),a12.2.1,())).bind fun y13 =>
 y13.elim (fun a14 => bif a14.1.2.2.2.2.2.2.2.2.2.2.1 then
 bif decide (0 ≤ a14.1.2.2.2.2.2.2.1) then
 bif decide (a14.1.2.2.2.2.2.2.1 < (a14.1.2.1.length:Int)) then
 bif decide (0 ≤ IntKind.wrap .i64 (a14.1.2.2.2.2.2.2.1 - 1)) then
 bif decide (IntKind.wrap .i64 (a14.1.2.2.2.2.2.2.1 - 1) < (a14.1.2.1.length:Int)) then
 bif decide (0 ≤ a14.1.2.2.2.2.2.1) then
 bif decide (a14.1.2.2.2.2.2.1 < (a14.1.2.2.1.length:Int)) then
 bif decide (0 ≤ a14.1.2.2.2.2.2.2.1) then
 bif decide (a14.1.2.2.2.2.2.2.1 < (a14.1.2.2.2.1.length:Int)) then
 bif decide (0 ≤ a14.1.2.2.2.2.2.1) then
 bif decide (a14.1.2.2.2.2.2.1 < (a14.1.2.2.1.length:Int)) then
 bif decide (0 ≤ a14.1.2.2.2.2.2.2.1) then
 bif decide (a14.1.2.2.2.2.2.2.1 < (a14.1.2.2.2.1.length:Int)) then
 bif decide (0 ≤ a14.1.2.2.2.2.2.2.1) then
 bif decide (a14.1.2.2.2.2.2.2.1 < (a14.2.1.length:Int)) then
 (L (((),a14.1.2.1,a14.1.2.2.1,a14.1.2.2.2.1,a14.1.2.2.2.2.1,a14.1.2.2.2.2.2.1,a14.1.2.2.2.2.2.2.2.2.1,IntKind.wrap .i64 (a14.1.2.2.2.2.2.2.2.2.2.1 + 1),()),a14.2.1.set (a14.1.2.2.2.2.2.2.1.toNat) (Go.VI.mn 4611686018427387904 (IntKind.wrap .i64 ((Go.VI.mn (Go.VI.mn a14.1.2.2.2.2.2.2.2.1 (a14.1.2.1.getD (a14.1.2.2.2.2.2.2.1.toNat) 0)) (a14.1.2.1.getD (Int.toNat (IntKind.wrap .i64 (a14.1.2.2.2.2.2.2.1 - 1))) 0)) + (IntKind.wrap .i64 ((IntKind.wrap .i64 ((a14.1.2.2.1.getD (a14.1.2.2.2.2.2.1.toNat) 0) - (a14.1.2.2.2.1.getD (a14.1.2.2.2.2.2.2.1.toNat) 0))) * (IntKind.wrap .i64 ((a14.1.2.2.1.getD (a14.1.2.2.2.2.2.1.toNat) 0) - (a14.1.2.2.2.1.getD (a14.1.2.2.2.2.2.2.1.toNat) 0)))))))),())).bind fun y30 =>
 some y30
 else none
 else none
 else none
 else none
 else none
 else none
 else none
 else none
 else none
 else none
 else none
 else none
 else none
 else none
 else
 bif decide (0 ≤ a14.1.2.2.2.2.2.1) then
 bif decide (a14.1.2.2.2.2.2.1 < (a14.1.2.2.1.length:Int)) then
 bif decide (0 ≤ a14.1.2.2.2.2.2.2.1) then
 bif decide (a14.1.2.2.2.2.2.2.1 < (a14.1.2.2.2.1.length:Int)) then
 bif decide (0 ≤ a14.1.2.2.2.2.2.1) then
 bif decide (a14.1.2.2.2.2.2.1 < (a14.1.2.2.1.length:Int)) then
 bif decide (0 ≤ a14.1.2.2.2.2.2.2.1) then
 bif decide (a14.1.2.2.2.2.2.2.1 < (a14.1.2.2.2.1.length:Int)) then
 bif decide (0 ≤ a14.1.2.2.2.2.2.2.1) then
 bif decide (a14.1.2.2.2.2.2.2.1 < (a14.2.1.length:Int)) then
 (L (((),a14.1.2.1,a14.1.2.2.1,a14.1.2.2.2.1,a14.1.2.2.2.2.1,a14.1.2.2.2.2.2.1,a14.1.2.2.2.2.2.2.2.2.1,IntKind.wrap .i64 (a14.1.2.2.2.2.2.2.2.2.2.1 + 1),()),a14.2.1.set (a14.1.2.2.2.2.2.2.1.toNat) (Go.VI.mn 4611686018427387904 (IntKind.wrap .i64 (a14.1.2.2.2.2.2.2.2.1 + (IntKind.wrap .i64 ((IntKind.wrap .i64 ((a14.1.2.2.1.getD (a14.1.2.2.2.2.2.1.toNat) 0) - (a14.1.2.2.2.1.getD (a14.1.2.2.2.2.2.2.1.toNat) 0))) * (IntKind.wrap .i64 ((a14.1.2.2.1.getD (a14.1.2.2.2.2.2.1.toNat) 0) - (a14.1.2.2.2.1.getD (a14.1.2.2.2.2.2.2.1.toNat) 0)))))))),())).bind fun y26 =>
 some y26
 else none
 else none
 else none
 else none
 else none
 else none
 else none
 else none
 else none
 else none) Empty.elim) Empty.elim) Empty.elim) Empty.elim) Empty.elim
 else none
 else none
 else
 some (Sum.inl ((),k,()))
def u0 (g0 : Y156 → Option Y163) (l1 : Y53 → Option Y40) (l2 : Y46 → Option Y43) (l3 : Y46 → Option Y43) (l4 : Y46 → Option Y43) (l5 : Y53 → Option Y40) (L : Y65 → Option Y150) (x : Y65) := f0 g0 l1 l2 l3 l4 l5 L x.1.2.1 x.1.2.2.1 x.1.2.2.2.1 x.1.2.2.2.2.1 x.1.2.2.2.2.2.1 x.1.2.2.2.2.2.2.1 x.1.2.2.2.2.2.2.2.1 x.2.1
def f (l0 : Y65 → Option Y150) (a b c : List Int) (d h : Int) (i : List Int) : Option Y160 :=
 (l0 (((),a,b,c,d,h,(c.length:Int),0,()),i,())).bind fun y0 =>
 y0.elim (fun a1 => some ((),a1.2.1,())) Empty.elim
def u (l0 : Y65 → Option Y150) (x : Y78) := f l0 x.1.2.1 x.1.2.2.1 x.1.2.2.2.1 x.1.2.2.2.2.1 x.1.2.2.2.2.2.1 x.2.1
section
variable (g0 : warp_near.G) (l0 : A0) (l1 : A1) (l2 : A2) (l3 : A3) (l4 : A4) (l5 : A5)
def E : Env := ⟨T,cE [(106,[],warp_near.fe g0)],lE [LE.of s0 x0 l0,LE.of s1 x1 l1,LE.of s2 x2 l2,LE.of s3 x3 l3,LE.of s4 x4 l4,LE.of s5 x5 l5],93,1,Gt⟩
variable {g0 l0 l1 l2 l3 l4 l5}
theorem e1 (L : A1) (x : s1.X) : rndO (E g0 l0 l1 l2 l3 l4 l5) hs c s1 x1 1 false L x = u1 x := by
 show _ = (_ : Option _)
 kernel_rfl
theorem e2 (L : A2) (x : s2.X) : rndO (E g0 l0 l1 l2 l3 l4 l5) hs c s2 x2 2 false L x = u2 x := by
 show _ = (_ : Option _)
 kernel_rfl
theorem e3 (L : A3) (x : s3.X) : rndO (E g0 l0 l1 l2 l3 l4 l5) hs c s3 x3 3 false L x = u3 x := by
 show _ = (_ : Option _)
 kernel_rfl
theorem e4 (L : A4) (x : s4.X) : rndO (E g0 l0 l1 l2 l3 l4 l5) hs c s4 x4 4 false L x = u4 x := by
 show _ = (_ : Option _)
 kernel_rfl
theorem e5 (L : A5) (x : s5.X) : rndO (E g0 l0 l1 l2 l3 l4 l5) hs c s5 x5 5 false L x = u5 x := by
 show _ = (_ : Option _)
 kernel_rfl
theorem e0 (L : A0) (x : s0.X) : rndO (E g0 l0 l1 l2 l3 l4 l5) hs c s0 x0 0 true L x = u0 g0 l1 l2 l3 l4 l5 L x := by
 show _ = (_ : Option _)
 kernel_rfl
theorem e (x : sh.X) : bodO (E g0 l0 l1 l2 l3 l4 l5) hs c Try.f102 sh osh x = u l0 x := by
 show _ = (_ : Option _)
 kernel_rfl
end
noncomputable def L1 : Y53 → Option Y40 := u1
noncomputable def L2 : Y46 → Option Y43 := u2
noncomputable def L3 : Y46 → Option Y43 := u3
noncomputable def L4 : Y46 → Option Y43 := u4
noncomputable def L5 : Y53 → Option Y40 := u5
noncomputable def L0 : Y65 → Option Y150 := loop (u0 warp_near.F L1 L2 L3 L4 L5)
noncomputable def F : Y78 → Option Y160 := u L0
noncomputable abbrev R : Env := E warp_near.F L0 L1 L2 L3 L4 L5
theorem L0_eq (a b c : List Int) (d h i j : Int) (k : List Int) : L0 (((),a,b,c,d,h,i,j,()),(k,())) = f0 warp_near.F L1 L2 L3 L4 L5 L0 a b c d h i j k :=
 loopE (E := R) e0 (((),a,b,c,d,h,i,j,()),(k,()))
theorem L1_eq (a b c : List Int) (d h i j k m : Int) (n : List Int) : L1 (((),a,b,c,d,h,i,j,k,m,()),(n,())) = f1 a b c d h i j k m n := rfl
theorem L2_eq (a b c : List Int) (d h i j k m : Int) (n : Bool) (o : List Int) : L2 (((),a,b,c,d,h,i,j,k,m,n,()),(o,())) = f2 a b c d h i j k m n o := rfl
theorem L3_eq (a b c : List Int) (d h i j k m : Int) (n : Bool) (o : List Int) : L3 (((),a,b,c,d,h,i,j,k,m,n,()),(o,())) = f3 a b c d h i j k m n o := rfl
theorem L4_eq (a b c : List Int) (d h i j k m : Int) (n : Bool) (o : List Int) : L4 (((),a,b,c,d,h,i,j,k,m,n,()),(o,())) = f4 a b c d h i j k m n o := rfl
theorem L5_eq (a b c : List Int) (d h i j k m : Int) (n : List Int) : L5 (((),a,b,c,d,h,i,j,k,m,()),(n,())) = f5 a b c d h i j k m n := rfl
theorem F_eq (a b c : List Int) (d h : Int) (i : List Int) : F (((),a,b,c,d,h,()),(i,())) = f L0 a b c d h i := rfl
theorem ok {tabs} (ht : TabsOk tabs) : FOK Try.prog tabs 102 (fe F) :=
 fn_keep3 (E := R) (hs := hs) Try.func102 e pw tb (gt_ok ht) (by kernel_rfl) (by kernel_rfl) rfl ⟨warp_near.ok ht,trivial⟩ 6 (by kernel_rfl) ⟨lA e0 (by kernel_rfl) (by kernel_rfl),cA e1 (by kernel_rfl) (by kernel_rfl),cA e2 (by kernel_rfl) (by kernel_rfl),cA e3 (by kernel_rfl) (by kernel_rfl),cA e4 (by kernel_rfl) (by kernel_rfl),cA e5 (by kernel_rfl) (by kernel_rfl),trivial⟩
end warp_fill
/-! slices_Min -/
namespace slices_Min
noncomputable def c : Go.Code := Try.f103.body.getD .skip
abbrev sh : Sh := ⟨[q14], []⟩
abbrev osh : Sh := ⟨[q13], []⟩
abbrev G := sh.X → Option osh.X
abbrev fe (g : G) : FE := FE.of [true] false sh osh g
abbrev s0 : Sh := ⟨[q14, q13, q13], []⟩
abbrev x0 : List (Ex × Sh) := [(.exit 0, ⟨[q13], []⟩)]
abbrev A0 := s0.X → Option (sumX x0)
def hs : List Hint := [⟨[0,1,0,1,1,1],0,[0,3,4],[(2,[3])]⟩]
def f0 (L : Y148 → Option Y158) (a : List Int) (b c : Int) : Option Y158 :=
 bif decide (c < (a.length:Int)) then
 bif decide (0 ≤ c) then
 bif decide (c < (a.length:Int)) then
 (L ((a,Go.VI.mn b (a.getD (c.toNat) 0),IntKind.wrap .i64 (c + 1),()),())).bind fun y3 =>
 some y3
 else none
 else none
 else
 some (Sum.inl ((b,()),()))
def u0 (L : Y148 → Option Y158) (x : Y148) := f0 L x.1.1 x.1.2.1 x.1.2.2.1
def f (l0 : Y148 → Option Y158) (a : List Int) : Option Y164 :=
 bif decide ((a.length:Int) < 1) then
 none
 else
 bif decide (0 < (a.length:Int)) then
 (l0 ((a,a.getD (Int.toNat 0) 0,1,()),())).bind fun y2 =>
 y2.elim (fun a3 => some ((a3.1.1,()),())) Empty.elim
 else none
def u (l0 : Y148 → Option Y158) (x : Y159) := f l0 x.1.1
section
variable (l0 : A0)
def E : Env := ⟨T,cE [],lE [LE.of s0 x0 l0],25,0,Gt⟩
variable {l0}
theorem e0 (L : A0) (x : s0.X) : rndO (E l0) hs c s0 x0 0 true L x = u0 L x := by
 show _ = (_ : Option _)
 kernel_rfl
theorem e (x : sh.X) : bodO (E l0) hs c Try.f103 sh osh x = u l0 x := by
 show _ = (_ : Option _)
 kernel_rfl
end
noncomputable def L0 : Y148 → Option Y158 := loop u0
noncomputable def F : Y159 → Option Y164 := u L0
noncomputable abbrev R : Env := E L0
theorem L0_eq (a : List Int) (b c : Int) : L0 ((a,b,c,()),()) = f0 L0 a b c :=
 loopE (E := R) e0 ((a,b,c,()),())
theorem F_eq (a : List Int) : F ((a,()),()) = f L0 a := rfl
theorem ok {tabs} (ht : TabsOk tabs) : FOK Try.prog tabs 103 (fe F) :=
 fn_keep3 (E := R) (hs := hs) Try.func103 e pw tb (gt_ok ht) (by kernel_rfl) (by kernel_rfl) rfl trivial 1 (by kernel_rfl) ⟨lA e0 (by kernel_rfl) (by kernel_rfl),trivial⟩
end slices_Min
/-! warp_distance -/
namespace warp_distance
noncomputable def c : Go.Code := Try.f95.body.getD .skip
abbrev sh : Sh := ⟨[q14, q14, q13, q13], []⟩
abbrev osh : Sh := ⟨[q13], []⟩
abbrev G := sh.X → Option osh.X
abbrev fe (g : G) : FE := FE.of [true,true,true,true] false sh osh g
abbrev s0 : Sh := ⟨[q14, q14, q13, q13, q18, q23, q13, q13], [.row 3 (.int .i64), .row 3 (.int .i64)]⟩
abbrev x0 : List (Ex × Sh) := [(.exit 0, ⟨[q14, q18], [.row 3 (.int .i64)]⟩), (.ret, ⟨[q13], []⟩)]
abbrev A0 := s0.X → Option (sumX x0)
def hs : List Hint := [⟨[0,1,0,1,1],0,[0,1,2,3,9,10,19,20],[(2,[1,10]),(1,[8])]⟩]
def f0 (g0 : Y78 → Option Y160) (g1 : Y159 → Option Y164) (L : Y60 → Option Y81) (a b : List Int) (c d h i : Int) (j k : List Int) : Option Y81 :=
 bif decide (i < h) then
 (g0 (((),k,a,b,c,i,()),j,())).bind fun y1 =>
 (g1 ((y1.2.1,()),())).bind fun y2 =>
 bif decide (y2.1.1 > d) then
 some (Sum.inr (Sum.inl ((4611686018427387904,()),())))
 else
 (L ((a,b,c,d,(),(),h,IntKind.wrap .i64 (i + 1),()),k,y1.2.1,())).bind fun y4 =>
 some y4
 else
 some (Sum.inl ((b,(),()),k,()))
def u0 (g0 : Y78 → Option Y160) (g1 : Y159 → Option Y164) (L : Y60 → Option Y81) (x : Y60) := f0 g0 g1 L x.1.1 x.1.2.1 x.1.2.2.1 x.1.2.2.2.1 x.1.2.2.2.2.2.2.1 x.1.2.2.2.2.2.2.2.1 x.2.1 x.2.2.1
def f (l0 : Y60 → Option Y81) (a b : List Int) (c d : Int) : Option Y164 :=
 bif decide ((b.length:Int) = (b.length:Int)) then
 bif decide (((((8:Nat):Nat):Int) * (b.length:Int)) ≤ 281474976710656) && true then
 bif decide ((b.length:Int) = (b.length:Int)) then
 bif decide (((((8:Nat):Nat):Int) * (b.length:Int)) ≤ 281474976710656) && true then
 (l0 ((a,b,c,d,(),(),(a.length:Int),0,()),List.replicate (Int.toNat (b.length:Int)) (0:Int),List.replicate (Int.toNat (b.length:Int)) (0:Int),())).bind fun y4 =>
 y4.elim (fun a5 => bif decide (0 ≤ IntKind.wrap .i64 ((a5.1.1.length:Int) - 1)) then
 bif decide (IntKind.wrap .i64 ((a5.1.1.length:Int) - 1) < (a5.2.1.length:Int)) then
 some ((a5.2.1.getD (Int.toNat (IntKind.wrap .i64 ((a5.1.1.length:Int) - 1))) 0,()),())
 else none
 else none) (fun b5 => b5.elim (fun a6 => some ((a6.1.1,()),())) Empty.elim)
 else none
 else none
 else none
 else none
def u (l0 : Y60 → Option Y81) (x : Y127) := f l0 x.1.1 x.1.2.1 x.1.2.2.1 x.1.2.2.2.1
section
variable (g0 : warp_fill.G) (g1 : slices_Min.G) (l0 : A0)
def E : Env := ⟨T,cE [(102,[],warp_fill.fe g0),(103,[],slices_Min.fe g1)],lE [LE.of s0 x0 l0],43,0,Gt⟩
variable {g0 g1 l0}
theorem e0 (L : A0) (x : s0.X) : rndO (E g0 g1 l0) hs c s0 x0 0 true L x = u0 g0 g1 L x := by
 show _ = (_ : Option _)
 kernel_rfl
theorem e (x : sh.X) : bodO (E g0 g1 l0) hs c Try.f95 sh osh x = u l0 x := by
 show _ = (_ : Option _)
 kernel_rfl
end
noncomputable def L0 : Y60 → Option Y81 := loop (u0 warp_fill.F slices_Min.F)
noncomputable def F : Y127 → Option Y164 := u L0
noncomputable abbrev R : Env := E warp_fill.F slices_Min.F L0
theorem L0_eq (a b : List Int) (c d h i : Int) (j k : List Int) : L0 ((a,b,c,d,(),(),h,i,()),(j,k,())) = f0 warp_fill.F slices_Min.F L0 a b c d h i j k :=
 loopE (E := R) e0 ((a,b,c,d,(),(),h,i,()),(j,k,()))
theorem F_eq (a b : List Int) (c d : Int) : F ((a,b,c,d,()),()) = f L0 a b c d := rfl
theorem ok {tabs} (ht : TabsOk tabs) : FOK Try.prog tabs 95 (fe F) :=
 fn_keep3 (E := R) (hs := hs) Try.func95 e pw tb (gt_ok ht) (by kernel_rfl) (by kernel_rfl) rfl ⟨warp_fill.ok ht,slices_Min.ok ht,trivial⟩ 1 (by kernel_rfl) ⟨lA e0 (by kernel_rfl) (by kernel_rfl),trivial⟩
end warp_distance
/-! warp_Distance -/
namespace warp_Distance
noncomputable def c : Go.Code := Try.f82.body.getD .skip
abbrev sh : Sh := ⟨[q14, q14, q13], []⟩
abbrev osh : Sh := ⟨[q13, q13], []⟩
abbrev G := sh.X → Option osh.X
abbrev fe (g : G) : FE := FE.of [true,true,true] false sh osh g
def f (g0 : Y136 → Option Y164) (g1 : Y127 → Option Y164) (a b : List Int) (c : Int) : Option Y161 :=
 (g0 ((a,b,c,()),())).bind fun y0 =>
 bif y0.1.1 != 0 then
 some ((0,y0.1.1,()),())
 else
 (g1 ((a,b,c,4611686018427387904,()),())).bind fun y2 =>
 some ((y2.1.1,0,()),())
def u (g0 : Y136 → Option Y164) (g1 : Y127 → Option Y164) (x : Y136) := f g0 g1 x.1.1 x.1.2.1 x.1.2.2.1
section
variable (g0 : warp_check.G) (g1 : warp_distance.G)
def E : Env := ⟨T,cE [(94,[],warp_check.fe g0),(95,[],warp_distance.fe g1)],lE [],20,0,Gt⟩
variable {g0 g1}
theorem e (x : sh.X) : bodO (E g0 g1) [] c Try.f82 sh osh x = u g0 g1 x := by
 show _ = (_ : Option _)
 kernel_rfl
end
noncomputable def F : Y136 → Option Y161 := u warp_check.F warp_distance.F
noncomputable abbrev R : Env := E warp_check.F warp_distance.F
theorem F_eq (a b : List Int) (c : Int) : F ((a,b,c,()),()) = f warp_check.F warp_distance.F a b c := rfl
theorem ok {tabs} (ht : TabsOk tabs) : FOK Try.prog tabs 82 (fe F) :=
 fn_keep3 (E := R) (hs := []) Try.func82 e pw tb (gt_ok ht) (by kernel_rfl) (by kernel_rfl) rfl ⟨warp_check.ok ht,warp_distance.ok ht,trivial⟩ 0 (by kernel_rfl) trivial
end warp_Distance
/-! measure_distances_2 -/
namespace measure_distances_2
noncomputable def c : Go.Code := Try.f81.body.getD .skip
abbrev sh : Sh := ⟨[q14, q14, q16], [q0]⟩
abbrev osh : Sh := ⟨[q10, q13], [q0]⟩
abbrev G := sh.X → Option osh.X
abbrev fe (g : G) : FE := FE.of [true,true] false sh osh g
def f (g0 : Y136 → Option Y161) (g1 : Y161 → Option Y142) (a b : List Int) (c d h : Int) : Option Y103 :=
 (g0 ((a,b,d,()),())).bind fun y0 =>
 (g1 ((y0.1.1,y0.1.2.1,()),())).bind fun y1 =>
 some (((y1.1.1.1,y1.1.1.2.1,()),y1.1.2.1,()),(c,d,h,()),())
def u (g0 : Y136 → Option Y161) (g1 : Y161 → Option Y142) (x : Y92) := f g0 g1 x.1.1 x.1.2.1 x.2.1.1 x.2.1.2.1 x.2.1.2.2.1
section
variable (g0 : warp_Distance.G) (g1 : measure_whole.G)
def E : Env := ⟨T,cE [(82,[],warp_Distance.fe g0),(77,[],measure_whole.fe g1)],lE [],17,1,Gt⟩
variable {g0 g1}
theorem e (x : sh.X) : bodO (E g0 g1) [] c Try.f81 sh osh x = u g0 g1 x := by
 show _ = (_ : Option _)
 kernel_rfl
end
noncomputable def F : Y92 → Option Y103 := u warp_Distance.F measure_whole.F
noncomputable abbrev R : Env := E warp_Distance.F measure_whole.F
theorem F_eq (a b : List Int) (c d h : Int) : F ((a,b,(),()),((c,d,h,()),())) = f warp_Distance.F measure_whole.F a b c d h := rfl
theorem ok {tabs} (ht : TabsOk tabs) : FOK Try.prog tabs 81 (fe F) :=
 fn_keep3 (E := R) (hs := []) Try.func81 e pw tb (gt_ok ht) (by kernel_rfl) (by kernel_rfl) rfl ⟨warp_Distance.ok ht,measure_whole.ok ht,trivial⟩ 0 (by kernel_rfl) trivial
end measure_distances_2
/-! edit_check -/
namespace edit_check
noncomputable def c : Go.Code := Try.f96.body.getD .skip
abbrev sh : Sh := ⟨[q14, q14, q13], []⟩
abbrev osh : Sh := ⟨[q13], []⟩
abbrev G := sh.X → Option osh.X
abbrev fe (g : G) : FE := FE.of [true,true,true] false sh osh g
abbrev s0 : Sh := ⟨[q14, q14, q13], []⟩
abbrev x0 : List (Ex × Sh) := [(.normal, ⟨[q14, q14, q15], []⟩)]
abbrev A0 := s0.X → Option (sumX x0)
def hs : List Hint := [⟨[0,0,1],0,[0,1,2],[(0,[0,1,16])]⟩]
def f0 (a b : List Int) (c : Int) : Option Y119 :=
 bif decide (c < -1000) then
 some (Sum.inl ((a,b,true,()),()))
 else
 some (Sum.inl ((a,b,decide (c > 1000),()),()))
def u0 (x : Y136) := f0 x.1.1 x.1.2.1 x.1.2.2.1
def f (g0 : Y145 → Option Y161) (l0 : Y136 → Option Y119) (a b : List Int) (c : Int) : Option Y164 :=
 (l0 ((a,b,c,()),())).bind fun y0 =>
 y0.elim (fun a1 => bif a1.1.2.2.1 then
 some ((1,()),())
 else
 (g0 ((a1.1.1,a1.1.1,()),())).bind fun y3 =>
 (g0 ((a1.1.2.1,a1.1.2.1,()),())).bind fun y4 =>
 bif y3.1.2.1 == 8 then
 some ((8,()),())
 else
 bif y4.1.2.1 == 8 then
 some ((8,()),())
 else
 some ((Go.VI.mx y3.1.2.1 y4.1.2.1,()),())) Empty.elim
def u (g0 : Y145 → Option Y161) (l0 : Y136 → Option Y119) (x : Y136) := f g0 l0 x.1.1 x.1.2.1 x.1.2.2.1
section
variable (g0 : euclid_Distance.G) (l0 : A0)
def E : Env := ⟨T,cE [(78,[],euclid_Distance.fe g0)],lE [LE.of s0 x0 l0],38,0,Gt⟩
variable {g0 l0}
theorem e0 (L : A0) (x : s0.X) : rndO (E g0 l0) hs c s0 x0 0 false L x = u0 x := by
 show _ = (_ : Option _)
 kernel_rfl
theorem e (x : sh.X) : bodO (E g0 l0) hs c Try.f96 sh osh x = u g0 l0 x := by
 show _ = (_ : Option _)
 kernel_rfl
end
noncomputable def L0 : Y136 → Option Y119 := u0
noncomputable def F : Y136 → Option Y164 := u euclid_Distance.F L0
noncomputable abbrev R : Env := E euclid_Distance.F L0
theorem L0_eq (a b : List Int) (c : Int) : L0 ((a,b,c,()),()) = f0 a b c := rfl
theorem F_eq (a b : List Int) (c : Int) : F ((a,b,c,()),()) = f euclid_Distance.F L0 a b c := rfl
theorem ok {tabs} (ht : TabsOk tabs) : FOK Try.prog tabs 96 (fe F) :=
 fn_keep3 (E := R) (hs := hs) Try.func96 e pw tb (gt_ok ht) (by kernel_rfl) (by kernel_rfl) rfl ⟨euclid_Distance.ok ht,trivial⟩ 1 (by kernel_rfl) ⟨cA e0 (by kernel_rfl) (by kernel_rfl),trivial⟩
end edit_check
/-! edit_apart -/
namespace edit_apart
noncomputable def c : Go.Code := Try.f107.body.getD .skip
abbrev sh : Sh := ⟨[q13, q13], []⟩
abbrev osh : Sh := ⟨[q13], []⟩
abbrev G := sh.X → Option osh.X
abbrev fe (g : G) : FE := FE.of [true,true] false sh osh g
def f (a b : Int) : Option Y164 :=
 some ((Go.VI.mx (IntKind.wrap .i64 (a - b)) (IntKind.wrap .i64 (b - a)),()),())
def u (x : Y161) := f x.1.1 x.1.2.1
section
def E : Env := ⟨T,cE [],lE [],12,0,Gt⟩
theorem e (x : sh.X) : bodO (E) [] c Try.f107 sh osh x = u x := by
 show _ = (_ : Option _)
 kernel_rfl
end
noncomputable def F : Y161 → Option Y164 := u
noncomputable abbrev R : Env := E
theorem F_eq (a b : Int) : F ((a,b,()),()) = f a b := rfl
theorem ok {tabs} (ht : TabsOk tabs) : FOK Try.prog tabs 107 (fe F) :=
 fn_keep3 (E := R) (hs := []) Try.func107 e pw tb (gt_ok ht) (by kernel_rfl) (by kernel_rfl) rfl trivial 0 (by kernel_rfl) trivial
end edit_apart
end Go.Proofs.Ytefcciajemkicaa.V
