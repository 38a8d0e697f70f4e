import Derived.Test.YtefcciajemkicaaVg3
import Derived.WalkKit
set_option linter.unusedVariables false
set_option maxRecDepth 100000
namespace Go.Proofs.Ytefcciajemkicaa.V
open Go (IntKind)
open Go.VI
/-! ref14_Check -/
namespace ref14_Check
noncomputable def c : Go.Code := Try.f65.body.getD .skip
abbrev sh : Sh := ⟨[q14, q14, q13], []⟩
abbrev osh : Sh := ⟨[q13], []⟩
abbrev G := sh.X → Option osh.X
abbrev fe (g : G) : FE := FE.of [true,true,true] false sh osh g
def f (g0 : Y136 → Option Y164) (a b : List Int) (c : Int) : Option Y164 :=
 bif decide (c < 0) then
 some ((1,()),())
 else
 bif decide (c > 32) then
 some ((1,()),())
 else
 (g0 ((a,b,c,()),())).bind fun y2 =>
 some ((y2.1.1,()),())
def u (g0 : Y136 → Option Y164) (x : Y136) := f g0 x.1.1 x.1.2.1 x.1.2.2.1
section
variable (g0 : ref12_Two.G)
def E : Env := ⟨T,cE [(59,[],ref12_Two.fe g0)],lE [],17,0,Gt⟩
variable {g0}
theorem e (x : sh.X) : bodO (E g0) [] c Try.f65 sh osh x = u g0 x := by
 show _ = (_ : Option _)
 kernel_rfl
end
noncomputable def F : Y136 → Option Y164 := u ref12_Two.F
noncomputable abbrev R : Env := E ref12_Two.F
theorem F_eq (a b : List Int) (c : Int) : F ((a,b,c,()),()) = f ref12_Two.F a b c := rfl
theorem ok {tabs} (ht : TabsOk tabs) : FOK Try.prog tabs 65 (fe F) :=
 fn_keep3 (E := R) (hs := []) Try.func65 e pw tb (gt_ok ht) (by kernel_rfl) (by kernel_rfl) rfl ⟨ref12_Two.ok ht,trivial⟩ 0 (by kernel_rfl) trivial
end ref14_Check
/-! ref14_Costs -/
namespace ref14_Costs
noncomputable def c : Go.Code := Try.f67.body.getD .skip
abbrev sh : Sh := ⟨[q14, q14], []⟩
abbrev osh : Sh := ⟨[q21], []⟩
abbrev G := sh.X → Option osh.X
abbrev fe (g : G) : FE := FE.of [true,true] true sh osh g
abbrev s0 : Sh := ⟨[q14, q14, q18, q13, q13], [.grid 22 3]⟩
abbrev x0 : List (Ex × Sh) := [(.exit 0, ⟨[q18], [.grid 22 3]⟩)]
abbrev A0 := s0.X → Option (sumX x0)
abbrev s1 : Sh := ⟨[q14, q14, q18, q13, q13, q13, q13, q13], [.grid 22 3]⟩
abbrev x1 : List (Ex × Sh) := [(.exit 2, ⟨[q14, q14, q18, q13, q13], [.grid 22 3]⟩)]
abbrev A1 := s1.X → Option (sumX x1)
def hs : List Hint := [⟨[0,1,0,1,1],0,[0,1,5,12,13],[(2,[5])]⟩,⟨[0,1,1,0,0,1,1,0,0,1,0,1,1],1,[0,1,5,6,12,13,17,18],[(4,[0,1,5,12,13])]⟩]
def f1 (L : Y68 → Option Y74) (a b : List Int) (c d h i j : Int) (k : List (List Int)) : Option Y74 :=
 bif decide (j < i) then
 bif decide (0 ≤ c) then
 bif decide (c < (k.length:Int)) then
 bif decide (c.toNat < k.length) then
 bif decide (0 ≤ c) then
 bif decide (c < (a.length:Int)) then
 bif decide (0 ≤ j) then
 bif decide (j < (b.length:Int)) then
 bif decide (0 ≤ c) then
 bif decide (c < (a.length:Int)) then
 bif decide (0 ≤ j) then
 bif decide (j < (b.length:Int)) then
 bif decide (c.toNat < k.length) then
 bif decide ((((List.length (k.getD (c.toNat) ([]:List Int))) + (List.length [IntKind.wrap .i64 ((IntKind.wrap .i64 ((a.getD (c.toNat) 0) - (b.getD (j.toNat) 0))) * (IntKind.wrap .i64 ((a.getD (c.toNat) 0) - (b.getD (j.toNat) 0))))])) * (8:Nat)) ≤ (140737488355328:Nat)) then
 bif decide (0 ≤ c) then
 bif decide (c < (k.length:Int)) then
 bif decide (c.toNat = c.toNat) && decide (c.toNat < k.length) then
 (L ((a,b,(),c,d,h,i,IntKind.wrap .i64 (j + 1),()),k.set (c.toNat) ((k.getD (c.toNat) ([]:List Int)) ++ [IntKind.wrap .i64 ((IntKind.wrap .i64 ((a.getD (c.toNat) 0) - (b.getD (j.toNat) 0))) * (IntKind.wrap .i64 ((a.getD (c.toNat) 0) - (b.getD (j.toNat) 0))))]),())).bind fun y17 =>
 some y17
 else none
 else none
 else none
 else none
 else none
 else none
 else none
 else none
 else none
 else none
 else none
 else none
 else none
 else none
 else none
 else none
 else
 some (Sum.inl ((a,b,(),d,h,()),k,()))
def u1 (L : Y68 → Option Y74) (x : Y68) := f1 L x.1.1 x.1.2.1 x.1.2.2.2.1 x.1.2.2.2.2.1 x.1.2.2.2.2.2.1 x.1.2.2.2.2.2.2.1 x.1.2.2.2.2.2.2.2.1 x.2.1
def f0 (l1 : Y68 → Option Y74) (L : Y86 → Option Y128) (a b : List Int) (c d : Int) (h : List (List Int)) : Option Y128 :=
 bif decide (d < c) then
 (l1 ((a,b,(),d,c,d,(b.length:Int),0,()),h,())).bind fun y1 =>
 y1.elim (fun a2 => (L ((a2.1.1,a2.1.2.1,(),a2.1.2.2.2.1,IntKind.wrap .i64 (a2.1.2.2.2.2.1 + 1),()),a2.2.1,())).bind fun y3 =>
 some y3) Empty.elim
 else
 some (Sum.inl (((),()),h,()))
def u0 (l1 : Y68 → Option Y74) (L : Y86 → Option Y128) (x : Y86) := f0 l1 L x.1.1 x.1.2.1 x.1.2.2.2.1 x.1.2.2.2.2.1 x.2.1
def f (l0 : Y86 → Option Y128) (a b : List Int) : Option Y153 :=
 bif decide ((a.length:Int) = (a.length:Int)) then
 bif decide (((((24:Nat):Nat):Int) * (a.length:Int)) ≤ 281474976710656) && true then
 (l0 ((a,b,(),(a.length:Int),0,()),List.replicate (Int.toNat (a.length:Int)) ([]:List Int),())).bind fun y2 =>
 y2.elim (fun a3 => some ((a3.2.1,()),())) Empty.elim
 else none
 else none
def u (l0 : Y86 → Option Y128) (x : Y145) := f l0 x.1.1 x.1.2.1
section
variable (l0 : A0) (l1 : A1)
def E : Env := ⟨T,cE [],lE [LE.of s0 x0 l0,LE.of s1 x1 l1],52,0,Gt⟩
variable {l0 l1}
theorem e1 (L : A1) (x : s1.X) : rndO (E l0 l1) hs c s1 x1 1 true L x = u1 L x := by
 show _ = (_ : Option _)
 kernel_rfl
theorem e0 (L : A0) (x : s0.X) : rndO (E l0 l1) hs c s0 x0 0 true L x = u0 l1 L x := by
 show _ = (_ : Option _)
 kernel_rfl
theorem e (x : sh.X) : bodO (E l0 l1) hs c Try.f67 sh osh x = u l0 x := by
 show _ = (_ : Option _)
 kernel_rfl
end
noncomputable def L1 : Y68 → Option Y74 := loop u1
noncomputable def L0 : Y86 → Option Y128 := loop (u0 L1)
noncomputable def F : Y145 → Option Y153 := u L0
noncomputable abbrev R : Env := E L0 L1
theorem L0_eq (a b : List Int) (c d : Int) (h : List (List Int)) : L0 ((a,b,(),c,d,()),(h,())) = f0 L1 L0 a b c d h :=
 loopE (E := R) e0 ((a,b,(),c,d,()),(h,()))
theorem L1_eq (a b : List Int) (c d h i j : Int) (k : List (List Int)) : L1 ((a,b,(),c,d,h,i,j,()),(k,())) = f1 L1 a b c d h i j k :=
 loopE (E := R) e1 ((a,b,(),c,d,h,i,j,()),(k,()))
theorem F_eq (a b : List Int) : F ((a,b,()),()) = f L0 a b := rfl
theorem ok {tabs} (ht : TabsOk tabs) : FOK Try.prog tabs 67 (fe F) :=
 fn_keep3 (E := R) (hs := hs) Try.func67 e pw tb (gt_ok ht) (by kernel_rfl) (by kernel_rfl) rfl trivial 2 (by kernel_rfl) ⟨lA e0 (by kernel_rfl) (by kernel_rfl),lA e1 (by kernel_rfl) (by kernel_rfl),trivial⟩
end ref14_Costs
/-! ref14_out -/
namespace ref14_out
noncomputable def c : Go.Code := Try.f86.body.getD .skip
abbrev sh : Sh := ⟨[q13, q13, q13, q13, q13], []⟩
abbrev osh : Sh := ⟨[q15], []⟩
abbrev G := sh.X → Option osh.X
abbrev fe (g : G) : FE := FE.of [true,true,true,true,true] false sh osh g
abbrev s0 : Sh := ⟨[q13, q13, q13, q13, q13], []⟩
abbrev x0 : List (Ex × Sh) := [(.normal, ⟨[q15], []⟩)]
abbrev A0 := s0.X → Option (sumX x0)
def hs : List Hint := [⟨[0,1],0,[0,1,2,3,4],[(0,[10])]⟩]
def f0 (a b c d h : Int) : Option Y157 :=
 bif decide (d < 0) then
 some (Sum.inl ((true,()),()))
 else
 bif decide (h < 0) then
 some (Sum.inl ((true,()),()))
 else
 bif decide (d ≥ a) then
 some (Sum.inl ((true,()),()))
 else
 bif decide (h ≥ b) then
 some (Sum.inl ((true,()),()))
 else
 bif decide (IntKind.wrap .i64 (d - h) > c) then
 some (Sum.inl ((true,()),()))
 else
 some (Sum.inl ((decide (IntKind.wrap .i64 (h - d) > c),()),()))
def u0 (x : Y139) := f0 x.1.1 x.1.2.1 x.1.2.2.1 x.1.2.2.2.1 x.1.2.2.2.2.1
def f (l0 : Y139 → Option Y157) (a b c d h : Int) : Option Y163 :=
 (l0 ((a,b,c,d,h,()),())).bind fun y0 =>
 y0.elim (fun a1 => some ((a1.1.1,()),())) Empty.elim
def u (l0 : Y139 → Option Y157) (x : Y139) := f l0 x.1.1 x.1.2.1 x.1.2.2.1 x.1.2.2.2.1 x.1.2.2.2.2.1
section
variable (l0 : A0)
def E : Env := ⟨T,cE [],lE [LE.of s0 x0 l0],41,0,Gt⟩
variable {l0}
theorem e0 (L : A0) (x : s0.X) : rndO (E l0) hs c s0 x0 0 false L x = u0 x := by
 show _ = (_ : Option _)
 kernel_rfl
theorem e (x : sh.X) : bodO (E l0) hs c Try.f86 sh osh x = u l0 x := by
 show _ = (_ : Option _)
 kernel_rfl
end
noncomputable def L0 : Y139 → Option Y157 := u0
noncomputable def F : Y139 → Option Y163 := u L0
noncomputable abbrev R : Env := E L0
theorem L0_eq (a b c d h : Int) : L0 ((a,b,c,d,h,()),()) = f0 a b c d h := rfl
theorem F_eq (a b c d h : Int) : F ((a,b,c,d,h,()),()) = f L0 a b c d h := rfl
theorem ok {tabs} (ht : TabsOk tabs) : FOK Try.prog tabs 86 (fe F) :=
 fn_keep3 (E := R) (hs := hs) Try.func86 e pw tb (gt_ok ht) (by kernel_rfl) (by kernel_rfl) rfl trivial 1 (by kernel_rfl) ⟨cA e0 (by kernel_rfl) (by kernel_rfl),trivial⟩
end ref14_out
/-! ref14_At -/
namespace ref14_At
noncomputable def c : Go.Code := Try.f88.body.getD .skip
abbrev sh : Sh := ⟨[q21, q13, q13, q13], []⟩
abbrev osh : Sh := ⟨[q13], []⟩
abbrev G := sh.X → Option osh.X
abbrev fe (g : G) : FE := FE.of [true,true,true,true] false sh osh g
def f (g0 : Y139 → Option Y163) (a : List (List Int)) (b c d : Int) : Option Y164 :=
 bif (a.length:Int) == 0 then
 some ((4611686018427387904,()),())
 else
 bif decide (0 < (a.length:Int)) then
 (g0 (((a.length:Int),(List.length (a.getD (Int.toNat 0) ([]:List Int)):Int),b,c,d,()),())).bind fun y2 =>
 bif y2.1.1 then
 some ((4611686018427387904,()),())
 else
 bif decide (0 ≤ c) then
 bif decide (c < (a.length:Int)) then
 bif decide (0 ≤ d) then
 bif decide (d < (List.length (a.getD (c.toNat) ([]:List Int)):Int)) then
 some ((List.getD (a.getD (c.toNat) ([]:List Int)) (d.toNat) 0,()),())
 else none
 else none
 else none
 else none
 else none
def u (g0 : Y139 → Option Y163) (x : Y126) := f g0 x.1.1 x.1.2.1 x.1.2.2.1 x.1.2.2.2.1
section
variable (g0 : ref14_out.G)
def E : Env := ⟨T,cE [(86,[],ref14_out.fe g0)],lE [],31,0,Gt⟩
variable {g0}
theorem e (x : sh.X) : bodO (E g0) [] c Try.f88 sh osh x = u g0 x := by
 show _ = (_ : Option _)
 kernel_rfl
end
noncomputable def F : Y126 → Option Y164 := u ref14_out.F
noncomputable abbrev R : Env := E ref14_out.F
theorem F_eq (a : List (List Int)) (b c d : Int) : F ((a,b,c,d,()),()) = f ref14_out.F a b c d := rfl
theorem ok {tabs} (ht : TabsOk tabs) : FOK Try.prog tabs 88 (fe F) :=
 fn_keep3 (E := R) (hs := []) Try.func88 e pw tb (gt_ok ht) (by kernel_rfl) (by kernel_rfl) rfl ⟨ref14_out.ok ht,trivial⟩ 0 (by kernel_rfl) trivial
end ref14_At
/-! ref14_Before -/
namespace ref14_Before
noncomputable def c : Go.Code := Try.f87.body.getD .skip
abbrev sh : Sh := ⟨[q21, q13, q13, q13], []⟩
abbrev osh : Sh := ⟨[q10], []⟩
abbrev G := sh.X → Option osh.X
abbrev fe (g : G) : FE := FE.of [true,true,true,true] false sh osh g
abbrev s0 : Sh := ⟨[q21, q13, q16, q17, .agg [.pv (.int .i64), .pv (.int .i64), .pv (.int .i64), .pv (.int .i64)], q13], [q1, q1]⟩
abbrev x0 : List (Ex × Sh) := [(.exit 0, ⟨[q16, q17], [q1, q1]⟩)]
abbrev A0 := s0.X → Option (sumX x0)
def hs : List Hint := [⟨[0,1,0,1,1],0,[0,1,8,9,25,26],[(2,[8,9])]⟩]
def f0 (g0 : Y126 → Option Y164) (L : Y38 → Option Y85) (a : List (List Int)) (b c d h i j k m n o : Int) : Option Y85 :=
 bif decide (j < 2) then
 bif decide (0 ≤ j) then
 bif decide (j < (((2:Nat):Nat):Int)) then
 bif j == (((0:Nat):Nat):Int) then
 (g0 ((a,b,c,d,()),())).bind fun y4 =>
 (g0 ((a,b,n,o,()),())).bind fun y5 =>
 bif decide (y4.1.1 < y5.1.1) then
 (L ((a,b,(),(),(c,d,h,i,()),IntKind.wrap .i64 (j + 1),()),(k,m,()),(c,d,()),())).bind fun y7 =>
 some y7
 else
 (L ((a,b,(),(),(c,d,h,i,()),IntKind.wrap .i64 (j + 1),()),(k,m,()),(n,o,()),())).bind fun y7 =>
 some y7
 else
 bif j == (((0:Nat) + (1:Nat):Nat):Int) then
 (g0 ((a,b,h,i,()),())).bind fun y5 =>
 (g0 ((a,b,n,o,()),())).bind fun y6 =>
 bif decide (y5.1.1 < y6.1.1) then
 (L ((a,b,(),(),(c,d,h,i,()),IntKind.wrap .i64 (j + 1),()),(k,m,()),(h,i,()),())).bind fun y8 =>
 some y8
 else
 (L ((a,b,(),(),(c,d,h,i,()),IntKind.wrap .i64 (j + 1),()),(k,m,()),(n,o,()),())).bind fun y8 =>
 some y8
 else none
 else none
 else none
 else
 some (Sum.inl (((),(),()),(k,m,()),(n,o,()),()))
def u0 (g0 : Y126 → Option Y164) (L : Y38 → Option Y85) (x : Y38) := f0 g0 L x.1.1 x.1.2.1 x.1.2.2.2.2.1.1 x.1.2.2.2.2.1.2.1 x.1.2.2.2.2.1.2.2.1 x.1.2.2.2.2.1.2.2.2.1 x.1.2.2.2.2.2.1 x.2.1.1 x.2.1.2.1 x.2.2.1.1 x.2.2.1.2.1
def f (l0 : Y38 → Option Y85) (a : List (List Int)) (b c d : Int) : Option Y152 :=
 (l0 ((a,b,(),(),(IntKind.wrap .i64 (c - 1),d,c,IntKind.wrap .i64 (d - 1),()),0,()),(0,0,()),(IntKind.wrap .i64 (c - 1),IntKind.wrap .i64 (d - 1),()),())).bind fun y0 =>
 y0.elim (fun a1 => some (((a1.2.2.1.1,a1.2.2.1.2.1,()),()),())) Empty.elim
def u (l0 : Y38 → Option Y85) (x : Y126) := f l0 x.1.1 x.1.2.1 x.1.2.2.1 x.1.2.2.2.1
section
variable (g0 : ref14_At.G) (l0 : A0)
def E : Env := ⟨T,cE [(88,[],ref14_At.fe g0)],lE [LE.of s0 x0 l0],47,0,Gt⟩
variable {g0 l0}
theorem e0 (L : A0) (x : s0.X) : rndO (E g0 l0) hs c s0 x0 0 true L x = u0 g0 L x := by
 show _ = (_ : Option _)
 kernel_rfl
theorem e (x : sh.X) : bodO (E g0 l0) hs c Try.f87 sh osh x = u l0 x := by
 show _ = (_ : Option _)
 kernel_rfl
end
noncomputable def L0 : Y38 → Option Y85 := loop (u0 ref14_At.F)
noncomputable def F : Y126 → Option Y152 := u L0
noncomputable abbrev R : Env := E ref14_At.F L0
theorem L0_eq (a : List (List Int)) (b c d h i j k m n o : Int) : L0 ((a,b,(),(),(c,d,h,i,()),j,()),((k,m,()),(n,o,()),())) = f0 ref14_At.F L0 a b c d h i j k m n o :=
 loopE (E := R) e0 ((a,b,(),(),(c,d,h,i,()),j,()),((k,m,()),(n,o,()),()))
theorem F_eq (a : List (List Int)) (b c d : Int) : F ((a,b,c,d,()),()) = f L0 a b c d := rfl
theorem ok {tabs} (ht : TabsOk tabs) : FOK Try.prog tabs 87 (fe F) :=
 fn_keep3 (E := R) (hs := hs) Try.func87 e pw tb (gt_ok ht) (by kernel_rfl) (by kernel_rfl) rfl ⟨ref14_At.ok ht,trivial⟩ 1 (by kernel_rfl) ⟨lA e0 (by kernel_rfl) (by kernel_rfl),trivial⟩
end ref14_Before
/-! ref14_Fill -/
namespace ref14_Fill
noncomputable def c : Go.Code := Try.f66.body.getD .skip
abbrev sh : Sh := ⟨[q21, q13], []⟩
abbrev osh : Sh := ⟨[q21], []⟩
abbrev G := sh.X → Option osh.X
abbrev fe (g : G) : FE := FE.of [true,true] true sh osh g
abbrev s0 : Sh := ⟨[q21, q13, q18, q13, q13], [.grid 22 3]⟩
abbrev x0 : List (Ex × Sh) := [(.exit 0, ⟨[q21, q13, q18], [.grid 22 3]⟩)]
abbrev A0 := s0.X → Option (sumX x0)
abbrev s1 : Sh := ⟨[q21, q13, q18, q13, q13], [.grid 22 3]⟩
abbrev x1 : List (Ex × Sh) := [(.exit 2, ⟨[q18], [.grid 22 3]⟩)]
abbrev A1 := s1.X → Option (sumX x1)
abbrev s2 : Sh := ⟨[q21, q13, q18, q13, q13, q13, q13, q13], [.grid 22 3]⟩
abbrev x2 : List (Ex × Sh) := [(.exit 4, ⟨[q21, q13, q18, q13, q13], [.grid 22 3]⟩)]
abbrev A2 := s2.X → Option (sumX x2)
def hs : List Hint := [⟨[0,1,0,1,1],0,[0,1,5,14,15],[(2,[0,1,5])]⟩,⟨[0,1,0,1,1,1],1,[0,1,5,29,30],[(4,[5])]⟩,⟨[0,1,1,0,0,1,1,0,0,1,0,1,1,1],2,[0,1,5,7,29,30,37,38],[(6,[0,1,5,29,30])]⟩]
def f0 (L : Y87 → Option Y89) (a : List (List Int)) (b c d : Int) (h : List (List Int)) : Option Y89 :=
 bif decide (d < c) then
 bif decide (0 ≤ d) then
 bif decide (d < (a.length:Int)) then
 bif decide ((List.length (a.getD (d.toNat) ([]:List Int)):Int) = (List.length (a.getD (d.toNat) ([]:List Int)):Int)) then
 bif decide (((((8:Nat):Nat):Int) * (List.length (a.getD (d.toNat) ([]:List Int)):Int)) ≤ 281474976710656) && true then
 bif decide (0 ≤ d) then
 bif decide (d < (h.length:Int)) then
 bif decide (d.toNat < h.length) then
 (L ((a,b,(),c,IntKind.wrap .i64 (d + 1),()),h.set (d.toNat) (List.replicate (Int.toNat (List.length (a.getD (d.toNat) ([]:List Int)):Int)) (0:Int)),())).bind fun y8 =>
 some y8
 else none
 else none
 else none
 else none
 else none
 else none
 else none
 else
 some (Sum.inl ((a,b,(),()),h,()))
def u0 (L : Y87 → Option Y89) (x : Y87) := f0 L x.1.1 x.1.2.1 x.1.2.2.2.1 x.1.2.2.2.2.1 x.2.1
def f2 (g0 : Y139 → Option Y163) (g1 : Y126 → Option Y152) (g2 : Y126 → Option Y164) (L : Y66 → Option Y73) (a : List (List Int)) (b c d h i j : Int) (k : List (List Int)) : Option Y73 :=
 bif decide (j < i) then
 bif decide (0 ≤ c) then
 bif decide (c < (a.length:Int)) then
 (g0 (((a.length:Int),(List.length (a.getD (c.toNat) ([]:List Int)):Int),b,c,j,()),())).bind fun y3 =>
 bif y3.1.1 then
 (L ((a,b,(),c,d,h,i,IntKind.wrap .i64 (j + 1),()),k,())).bind fun y5 =>
 some y5
 else
 bif decide (0 ≤ c) then
 bif decide (c < (k.length:Int)) then
 bif decide (c.toNat < k.length) then
 bif decide (0 ≤ c) then
 bif decide (c < (a.length:Int)) then
 bif decide (0 ≤ j) then
 bif decide (j < (List.length (a.getD (c.toNat) ([]:List Int)):Int)) then
 bif decide (c.toNat < k.length) then
 bif decide (0 ≤ j) then
 bif decide (j < (List.length (k.getD (c.toNat) ([]:List Int)):Int)) then
 bif decide (c.toNat < k.length) then
 bif decide (j.toNat < List.length (k.getD (c.toNat) ([]:List Int))) then
 bif decide (IntKind.wrap .i64 (c + j) > 0) then
 (g1 ((k.set (c.toNat) (List.set (k.getD (c.toNat) ([]:List Int)) (j.toNat) (List.getD (a.getD (c.toNat) ([]:List Int)) (j.toNat) 0)),b,c,j,()),())).bind fun y18 =>
 bif decide (0 ≤ c) then
 bif decide (c < (List.length (k.set (c.toNat) (List.set (k.getD (c.toNat) ([]:List Int)) (j.toNat) (List.getD (a.getD (c.toNat) ([]:List Int)) (j.toNat) 0))):Int)) then
 bif decide (c.toNat < List.length (k.set (c.toNat) (List.set (k.getD (c.toNat) ([]:List Int)) (j.toNat) (List.getD (a.getD (c.toNat) ([]:List Int)) (j.toNat) 0)))) then
 bif decide (c.toNat < List.length (k.set (c.toNat) (List.set (k.getD (c.toNat) ([]:List Int)) (j.toNat) (List.getD (a.getD (c.toNat) ([]:List Int)) (j.toNat) 0)))) then
 bif decide (0 ≤ j) then
 bif decide (j < (List.length (List.getD (k.set (c.toNat) (List.set (k.getD (c.toNat) ([]:List Int)) (j.toNat) (List.getD (a.getD (c.toNat) ([]:List Int)) (j.toNat) 0))) (c.toNat) ([]:List Int)):Int)) then
 bif decide (c.toNat < List.length (k.set (c.toNat) (List.set (k.getD (c.toNat) ([]:List Int)) (j.toNat) (List.getD (a.getD (c.toNat) ([]:List Int)) (j.toNat) 0)))) then
 bif decide (j.toNat < List.length (List.getD (k.set (c.toNat) (List.set (k.getD (c.toNat) ([]:List Int)) (j.toNat) (List.getD (a.getD (c.toNat) ([]:List Int)) (j.toNat) 0))) (c.toNat) ([]:List Int))) then
 (g2 ((k.set (c.toNat) (List.set (k.getD (c.toNat) ([]:List Int)) (j.toNat) (List.getD (a.getD (c.toNat) ([]:List Int)) (j.toNat) 0)),b,y18.1.1.1,y18.1.1.2.1,()),())).bind fun y27 =>
 bif decide (c.toNat < List.length (k.set (c.toNat) (List.set (k.getD (c.toNat) ([]:List Int)) (j.toNat) (List.getD (a.getD (c.toNat) ([]:List Int)) (j.toNat) 0)))) then
 bif decide (0 ≤ j) then
 bif decide (j < (List.length (List.getD (k.set (c.toNat) (List.set (k.getD (c.toNat) ([]:List Int)) (j.toNat) (List.getD (a.getD (c.toNat) ([]:List Int)) (j.toNat) 0))) (c.toNat) ([]:List Int)):Int)) then
 bif decide (c.toNat < List.length (k.set (c.toNat) (List.set (k.getD (c.toNat) ([]:List Int)) (j.toNat) (List.getD (a.getD (c.toNat) ([]:List Int)) (j.toNat) 0)))) then
 bif decide (j.toNat < List.length (List.getD (k.set (c.toNat) (List.set (k.getD (c.toNat) ([]:List Int)) (j.toNat) (List.getD (a.getD (c.toNat) ([]:List Int)) (j.toNat) 0))) (c.toNat) ([]:List Int))) then
 (L ((a,b,(),c,d,h,i,IntKind.wrap .i64 (j + 1),()),List.set (k.set (c.toNat) (List.set (k.getD (c.toNat) ([]:List Int)) (j.toNat) (List.getD (a.getD (c.toNat) ([]:List Int)) (j.toNat) 0))) (c.toNat) (List.set (List.getD (k.set (c.toNat) (List.set (k.getD (c.toNat) ([]:List Int)) (j.toNat) (List.getD (a.getD (c.toNat) ([]:List Int)) (j.toNat) 0))) (c.toNat) ([]:List Int)) (j.toNat) (IntKind.wrap .i64 ((List.getD (List.getD (k.set (c.toNat) (List.set (k.getD (c.toNat) ([]:List Int)) (j.toNat) (List.getD (a.getD (c.toNat) ([]:List Int)) (j.toNat) 0))) (c.toNat) ([]:List Int)) (j.toNat) 0) + y27.1.1))),())).bind fun y33 =>
 some y33
 else none
 else none
 else none
 else none
 else none
 else none
 else none
 else none
 else none
 else none
 else none
 else none
 else none
 else
 (L ((a,b,(),c,d,h,i,IntKind.wrap .i64 (j + 1),()),k.set (c.toNat) (List.set (k.getD (c.toNat) ([]:List Int)) (j.toNat) (List.getD (a.getD (c.toNat) ([]:List Int)) (j.toNat) 0)),())).bind fun y18 =>
 some y18
 else none
 else none
 else none
 else none
 else none
 else none
 else none
 else none
 else none
 else none
 else none
 else none
 else none
 else none
 else
 some (Sum.inl ((a,b,(),d,h,()),k,()))
def u2 (g0 : Y139 → Option Y163) (g1 : Y126 → Option Y152) (g2 : Y126 → Option Y164) (L : Y66 → Option Y73) (x : Y66) := f2 g0 g1 g2 L x.1.1 x.1.2.1 x.1.2.2.2.1 x.1.2.2.2.2.1 x.1.2.2.2.2.2.1 x.1.2.2.2.2.2.2.1 x.1.2.2.2.2.2.2.2.1 x.2.1
def f1 (l2 : Y66 → Option Y73) (L : Y87 → Option Y128) (a : List (List Int)) (b c d : Int) (h : List (List Int)) : Option Y128 :=
 bif decide (d < c) then
 bif decide (0 ≤ d) then
 bif decide (d < (a.length:Int)) then
 (l2 ((a,b,(),d,c,d,(List.length (a.getD (d.toNat) ([]:List Int)):Int),0,()),h,())).bind fun y3 =>
 y3.elim (fun a4 => (L ((a4.1.1,a4.1.2.1,(),a4.1.2.2.2.1,IntKind.wrap .i64 (a4.1.2.2.2.2.1 + 1),()),a4.2.1,())).bind fun y5 =>
 some y5) Empty.elim
 else none
 else none
 else
 some (Sum.inl (((),()),h,()))
def u1 (l2 : Y66 → Option Y73) (L : Y87 → Option Y128) (x : Y87) := f1 l2 L x.1.1 x.1.2.1 x.1.2.2.2.1 x.1.2.2.2.2.1 x.2.1
def f (l0 : Y87 → Option Y89) (l1 : Y87 → Option Y128) (a : List (List Int)) (b : Int) : Option Y153 :=
 bif decide ((a.length:Int) = (a.length:Int)) then
 bif decide (((((24:Nat):Nat):Int) * (a.length:Int)) ≤ 281474976710656) && true then
 (l0 ((a,b,(),(a.length:Int),0,()),List.replicate (Int.toNat (a.length:Int)) ([]:List Int),())).bind fun y2 =>
 y2.elim (fun a3 => (l1 ((a3.1.1,a3.1.2.1,(),(a3.1.1.length:Int),0,()),a3.2.1,())).bind fun y4 =>
 y4.elim (fun a5 => some ((a5.2.1,()),())) Empty.elim) Empty.elim
 else none
 else none
def u (l0 : Y87 → Option Y89) (l1 : Y87 → Option Y128) (x : Y146) := f l0 l1 x.1.1 x.1.2.1
section
variable (g0 : ref14_out.G) (g1 : ref14_Before.G) (g2 : ref14_At.G) (l0 : A0) (l1 : A1) (l2 : A2)
def E : Env := ⟨T,cE [(86,[],ref14_out.fe g0),(87,[],ref14_Before.fe g1),(88,[],ref14_At.fe g2)],lE [LE.of s0 x0 l0,LE.of s1 x1 l1,LE.of s2 x2 l2],93,0,Gt⟩
variable {g0 g1 g2 l0 l1 l2}
theorem e0 (L : A0) (x : s0.X) : rndO (E g0 g1 g2 l0 l1 l2) hs c s0 x0 0 true L x = u0 L x := by
 show _ = (_ : Option _)
 kernel_rfl
theorem e2 (L : A2) (x : s2.X) : rndO (E g0 g1 g2 l0 l1 l2) hs c s2 x2 2 true L x = u2 g0 g1 g2 L x := by
 show _ = (_ : Option _)
 kernel_rfl
theorem e1 (L : A1) (x : s1.X) : rndO (E g0 g1 g2 l0 l1 l2) hs c s1 x1 1 true L x = u1 l2 L x := by
 show _ = (_ : Option _)
 kernel_rfl
theorem e (x : sh.X) : bodO (E g0 g1 g2 l0 l1 l2) hs c Try.f66 sh osh x = u l0 l1 x := by
 show _ = (_ : Option _)
 kernel_rfl
end
noncomputable def L0 : Y87 → Option Y89 := loop u0
noncomputable def L2 : Y66 → Option Y73 := loop (u2 ref14_out.F ref14_Before.F ref14_At.F)
noncomputable def L1 : Y87 → Option Y128 := loop (u1 L2)
noncomputable def F : Y146 → Option Y153 := u L0 L1
noncomputable abbrev R : Env := E ref14_out.F ref14_Before.F ref14_At.F L0 L1 L2
theorem L0_eq (a : List (List Int)) (b c d : Int) (h : List (List Int)) : L0 ((a,b,(),c,d,()),(h,())) = f0 L0 a b c d h :=
 loopE (E := R) e0 ((a,b,(),c,d,()),(h,()))
theorem L1_eq (a : List (List Int)) (b c d : Int) (h : List (List Int)) : L1 ((a,b,(),c,d,()),(h,())) = f1 L2 L1 a b c d h :=
 loopE (E := R) e1 ((a,b,(),c,d,()),(h,()))
theorem L2_eq (a : List (List Int)) (b c d h i j : Int) (k : List (List Int)) : L2 ((a,b,(),c,d,h,i,j,()),(k,())) = f2 ref14_out.F ref14_Before.F ref14_At.F L2 a b c d h i j k :=
 loopE (E := R) e2 ((a,b,(),c,d,h,i,j,()),(k,()))
theorem F_eq (a : List (List Int)) (b : Int) : F ((a,b,()),()) = f L0 L1 a b := rfl
theorem ok {tabs} (ht : TabsOk tabs) : FOK Try.prog tabs 66 (fe F) :=
 fn_keep3 (E := R) (hs := hs) Try.func66 e pw tb (gt_ok ht) (by kernel_rfl) (by kernel_rfl) rfl ⟨ref14_out.ok ht,ref14_Before.ok ht,ref14_At.ok ht,trivial⟩ 3 (by kernel_rfl) ⟨lA e0 (by kernel_rfl) (by kernel_rfl),lA e1 (by kernel_rfl) (by kernel_rfl),lA e2 (by kernel_rfl) (by kernel_rfl),trivial⟩
end ref14_Fill
/-! ref14_Distance -/
namespace ref14_Distance
noncomputable def c : Go.Code := Try.f45.body.getD .skip
abbrev sh : Sh := ⟨[q14, q14, q13], []⟩
abbrev osh : Sh := ⟨[q13, q13], []⟩
abbrev G := sh.X → Option osh.X
abbrev fe (g : G) : FE := FE.of [true,true,true] false sh osh g
def f (g0 : Y136 → Option Y164) (g1 : Y145 → Option Y153) (g2 : Y146 → Option Y153) (a b : List Int) (c : Int) : Option Y161 :=
 (g0 ((a,b,c,()),())).bind fun y0 =>
 bif y0.1.1 != 0 then
 some ((0,y0.1.1,()),())
 else
 (g1 ((a,b,()),())).bind fun y2 =>
 (g2 ((y2.1.1,c,()),())).bind fun y3 =>
 bif decide (0 ≤ IntKind.wrap .i64 ((a.length:Int) - 1)) then
 bif decide (IntKind.wrap .i64 ((a.length:Int) - 1) < (y3.1.1.length:Int)) then
 bif decide (0 ≤ IntKind.wrap .i64 ((b.length:Int) - 1)) then
 bif decide (IntKind.wrap .i64 ((b.length:Int) - 1) < (List.length (y3.1.1.getD (Int.toNat (IntKind.wrap .i64 ((a.length:Int) - 1))) ([]:List Int)):Int)) then
 some ((List.getD (y3.1.1.getD (Int.toNat (IntKind.wrap .i64 ((a.length:Int) - 1))) ([]:List Int)) (Int.toNat (IntKind.wrap .i64 ((b.length:Int) - 1))) 0,0,()),())
 else none
 else none
 else none
 else none
def u (g0 : Y136 → Option Y164) (g1 : Y145 → Option Y153) (g2 : Y146 → Option Y153) (x : Y136) := f g0 g1 g2 x.1.1 x.1.2.1 x.1.2.2.1
section
variable (g0 : ref14_Check.G) (g1 : ref14_Costs.G) (g2 : ref14_Fill.G)
def E : Env := ⟨T,cE [(65,[],ref14_Check.fe g0),(67,[],ref14_Costs.fe g1),(66,[],ref14_Fill.fe g2)],lE [],31,0,Gt⟩
variable {g0 g1 g2}
theorem e (x : sh.X) : bodO (E g0 g1 g2) [] c Try.f45 sh osh x = u g0 g1 g2 x := by
 show _ = (_ : Option _)
 kernel_rfl
end
noncomputable def F : Y136 → Option Y161 := u ref14_Check.F ref14_Costs.F ref14_Fill.F
noncomputable abbrev R : Env := E ref14_Check.F ref14_Costs.F ref14_Fill.F
theorem F_eq (a b : List Int) (c : Int) : F ((a,b,c,()),()) = f ref14_Check.F ref14_Costs.F ref14_Fill.F a b c := rfl
theorem ok {tabs} (ht : TabsOk tabs) : FOK Try.prog tabs 45 (fe F) :=
 fn_keep3 (E := R) (hs := []) Try.func45 e pw tb (gt_ok ht) (by kernel_rfl) (by kernel_rfl) rfl ⟨ref14_Check.ok ht,ref14_Costs.ok ht,ref14_Fill.ok ht,trivial⟩ 0 (by kernel_rfl) trivial
end ref14_Distance
/-! ref15_check -/
namespace ref15_check
noncomputable def c : Go.Code := Try.f68.body.getD .skip
abbrev sh : Sh := ⟨[q14, q14, q13], []⟩
abbrev osh : Sh := ⟨[q13], []⟩
abbrev G := sh.X → Option osh.X
abbrev fe (g : G) : FE := FE.of [true,true,true] false sh osh g
def f (g0 : Y164 → Option Y163) (g1 : Y136 → Option Y164) (a b : List Int) (c : Int) : Option Y164 :=
 (g0 ((c,()),())).bind fun y0 =>
 bif !y0.1.1 then
 some ((1,()),())
 else
 (g1 ((a,b,32,()),())).bind fun y2 =>
 some ((y2.1.1,()),())
def u (g0 : Y164 → Option Y163) (g1 : Y136 → Option Y164) (x : Y136) := f g0 g1 x.1.1 x.1.2.1 x.1.2.2.1
section
variable (g0 : ref04_Sample.G) (g1 : ref12_Two.G)
def E : Env := ⟨T,cE [(53,[],ref04_Sample.fe g0),(59,[],ref12_Two.fe g1)],lE [],13,0,Gt⟩
variable {g0 g1}
theorem e (x : sh.X) : bodO (E g0 g1) [] c Try.f68 sh osh x = u g0 g1 x := by
 show _ = (_ : Option _)
 kernel_rfl
end
noncomputable def F : Y136 → Option Y164 := u ref04_Sample.F ref12_Two.F
noncomputable abbrev R : Env := E ref04_Sample.F ref12_Two.F
theorem F_eq (a b : List Int) (c : Int) : F ((a,b,c,()),()) = f ref04_Sample.F ref12_Two.F a b c := rfl
theorem ok {tabs} (ht : TabsOk tabs) : FOK Try.prog tabs 68 (fe F) :=
 fn_keep3 (E := R) (hs := []) Try.func68 e pw tb (gt_ok ht) (by kernel_rfl) (by kernel_rfl) rfl ⟨ref04_Sample.ok ht,ref12_Two.ok ht,trivial⟩ 0 (by kernel_rfl) trivial
end ref15_check
/-! ref15_Abs -/
namespace ref15_Abs
noncomputable def c : Go.Code := Try.f89.body.getD .skip
abbrev sh : Sh := ⟨[q13], []⟩
abbrev osh : Sh := ⟨[q13], []⟩
abbrev G := sh.X → Option osh.X
abbrev fe (g : G) : FE := FE.of [true] false sh osh g
def f (a : Int) : Option Y164 :=
 some ((Go.VI.mx a (IntKind.wrap .i64 (0 - a)),()),())
def u (x : Y164) := f x.1.1
section
def E : Env := ⟨T,cE [],lE [],7,0,Gt⟩
theorem e (x : sh.X) : bodO (E) [] c Try.f89 sh osh x = u x := by
 show _ = (_ : Option _)
 kernel_rfl
end
noncomputable def F : Y164 → Option Y164 := u
noncomputable abbrev R : Env := E
theorem F_eq (a : Int) : F ((a,()),()) = f a := rfl
theorem ok {tabs} (ht : TabsOk tabs) : FOK Try.prog tabs 89 (fe F) :=
 fn_keep3 (E := R) (hs := []) Try.func89 e pw tb (gt_ok ht) (by kernel_rfl) (by kernel_rfl) rfl trivial 0 (by kernel_rfl) trivial
end ref15_Abs
/-! ref15_table -/
namespace ref15_table
noncomputable def c : Go.Code := Try.f69.body.getD .skip
abbrev sh : Sh := ⟨[q14, q14, q13], []⟩
abbrev osh : Sh := ⟨[q21], []⟩
abbrev G := sh.X → Option osh.X
abbrev fe (g : G) : FE := FE.of [true,true,true] true sh osh g
abbrev s0 : Sh := ⟨[q14, q14, q13, q18, q13, q13], [.grid 22 3]⟩
abbrev x0 : List (Ex × Sh) := [(.exit 0, ⟨[q18], [.grid 22 3]⟩)]
abbrev A0 := s0.X → Option (sumX x0)
abbrev s1 : Sh := ⟨[q14, q14, q13, q18, q13, q13, q13, q13, q13], [.grid 22 3]⟩
abbrev x1 : List (Ex × Sh) := [(.exit 2, ⟨[q14, q14, q13, q18, q13, q13], [.grid 22 3]⟩)]
abbrev A1 := s1.X → Option (sumX x1)
abbrev s2 : Sh := ⟨[q14, q14, q13, q18, q13, q13, q13, q13, q13, q13, q13], [.grid 22 3]⟩
abbrev x2 : List (Ex × Sh) := [(.normal, ⟨[q14, q14, q13, q18, q13, q13, q13, q13, q13, q13, q13, q15], [.grid 22 3]⟩)]
abbrev A2 := s2.X → Option (sumX x2)
abbrev s3 : Sh := ⟨[q14, q14, q13, q18, q13, q13, q13, q13, q13, q13, q13, q15], [.grid 22 3]⟩
abbrev x3 : List (Ex × Sh) := [(.normal, ⟨[q14, q14, q13, q18, q13, q13, q13, q13, q13, q13, q13], [.grid 22 3]⟩)]
abbrev A3 := s3.X → Option (sumX x3)
def hs : List Hint := [⟨[0,1,0,1,1],0,[0,1,2,7,16,17],[(2,[7])]⟩,⟨[0,1,1,1,0,0,1,1,0,0,1,0,1,1],1,[0,1,2,7,8,16,17,31,32],[(4,[0,1,2,7,16,17])]⟩,⟨[0,0,1,1,1,0,0,1,1,0,0,1,1,1,0,0,1,1,0,0,1,0,1,1],2,[0,1,2,7,8,9,10,16,17,31,32],[(0,[0,1,2,7,8,9,10,16,17,31,32,44])]⟩,⟨[1,0,1,1,1,0,0,1,1,0,0,1,1,1,0,0,1,1,0,0,1,0,1,1],3,[0,1,2,7,8,9,10,16,17,31,32,44],[(0,[0,1,2,7,8,9,10,16,17,31,32])]⟩]
def f2 (a b : List Int) (c d h i j k m n : Int) (o : List (List Int)) : Option Y39 :=
 bif decide (d > 0) then
 some (Sum.inl ((a,b,c,(),d,h,i,j,k,m,n,decide (h > 0),()),o,()))
 else
 some (Sum.inl ((a,b,c,(),d,h,i,j,k,m,n,false,()),o,()))
def u2 (x : Y47) := f2 x.1.1 x.1.2.1 x.1.2.2.1 x.1.2.2.2.2.1 x.1.2.2.2.2.2.1 x.1.2.2.2.2.2.2.1 x.1.2.2.2.2.2.2.2.1 x.1.2.2.2.2.2.2.2.2.1 x.1.2.2.2.2.2.2.2.2.2.1 x.1.2.2.2.2.2.2.2.2.2.2.1 x.2.1
def f3 (g0 : Y164 → Option Y164) (a b : List Int) (c d h i j k m n : Int) (o : Bool) (p : List (List Int)) : Option Y41 :=
 bif o then
 bif decide (0 ≤ IntKind.wrap .i64 (d - 1)) then
 bif decide (IntKind.wrap .i64 (d - 1) < (p.length:Int)) then
 bif decide (Int.toNat (IntKind.wrap .i64 (d - 1)) < p.length) then
 bif decide (Int.toNat (IntKind.wrap .i64 (d - 1)) < p.length) then
 bif decide (0 ≤ IntKind.wrap .i64 (h - 1)) then
 bif decide (IntKind.wrap .i64 (h - 1) < (List.length (p.getD (Int.toNat (IntKind.wrap .i64 (d - 1))) ([]:List Int)):Int)) then
 bif decide (Int.toNat (IntKind.wrap .i64 (d - 1)) < p.length) then
 bif decide (Int.toNat (IntKind.wrap .i64 (h - 1)) < List.length (p.getD (Int.toNat (IntKind.wrap .i64 (d - 1))) ([]:List Int))) then
 bif decide (0 ≤ IntKind.wrap .i64 (d - 1)) then
 bif decide (IntKind.wrap .i64 (d - 1) < (a.length:Int)) then
 bif decide (0 ≤ IntKind.wrap .i64 (h - 1)) then
 bif decide (IntKind.wrap .i64 (h - 1) < (b.length:Int)) then
 (g0 ((IntKind.wrap .i64 ((a.getD (Int.toNat (IntKind.wrap .i64 (d - 1))) 0) - (b.getD (Int.toNat (IntKind.wrap .i64 (h - 1))) 0)),()),())).bind fun y13 =>
 some (Sum.inl ((a,b,c,(),d,h,IntKind.wrap .i64 ((List.getD (p.getD (Int.toNat (IntKind.wrap .i64 (d - 1))) ([]:List Int)) (Int.toNat (IntKind.wrap .i64 (h - 1))) 0) + y13.1.1),j,k,m,n,()),p,()))
 else none
 else none
 else none
 else none
 else none
 else none
 else none
 else none
 else none
 else none
 else none
 else none
 else
 some (Sum.inl ((a,b,c,(),d,h,i,j,k,m,n,()),p,()))
def u3 (g0 : Y164 → Option Y164) (x : Y42) := f3 g0 x.1.1 x.1.2.1 x.1.2.2.1 x.1.2.2.2.2.1 x.1.2.2.2.2.2.1 x.1.2.2.2.2.2.2.1 x.1.2.2.2.2.2.2.2.1 x.1.2.2.2.2.2.2.2.2.1 x.1.2.2.2.2.2.2.2.2.2.1 x.1.2.2.2.2.2.2.2.2.2.2.1 x.1.2.2.2.2.2.2.2.2.2.2.2.1 x.2.1
def f1 (g0 : Y164 → Option Y164) (l2 : Y47 → Option Y39) (l3 : Y42 → Option Y41) (L : Y61 → Option Y69) (a b : List Int) (c d h i j k : Int) (m : List (List Int)) : Option Y69 :=
 bif decide (k < j) then
 bif IntKind.wrap .i64 (d + k) == 0 then
 (L ((a,b,c,(),d,h,i,j,IntKind.wrap .i64 (k + 1),()),m,())).bind fun y2 =>
 some y2
 else
 (l2 ((a,b,c,(),d,k,4611686018427387904,h,i,j,k,()),m,())).bind fun y2 =>
 y2.elim (fun a3 => (l3 ((a3.1.1,a3.1.2.1,a3.1.2.2.1,(),a3.1.2.2.2.2.1,a3.1.2.2.2.2.2.1,a3.1.2.2.2.2.2.2.1,a3.1.2.2.2.2.2.2.2.1,a3.1.2.2.2.2.2.2.2.2.1,a3.1.2.2.2.2.2.2.2.2.2.1,a3.1.2.2.2.2.2.2.2.2.2.2.1,a3.1.2.2.2.2.2.2.2.2.2.2.2.1,()),a3.2.1,())).bind fun y4 =>
 y4.elim (fun a5 => bif decide (a5.1.2.2.2.2.1 > 0) then
 bif decide (0 ≤ IntKind.wrap .i64 (a5.1.2.2.2.2.1 - 1)) then
 bif decide (IntKind.wrap .i64 (a5.1.2.2.2.2.1 - 1) < (a5.2.1.length:Int)) then
 bif decide (Int.toNat (IntKind.wrap .i64 (a5.1.2.2.2.2.1 - 1)) < a5.2.1.length) then
 bif decide (Int.toNat (IntKind.wrap .i64 (a5.1.2.2.2.2.1 - 1)) < a5.2.1.length) then
 bif decide (0 ≤ a5.1.2.2.2.2.2.1) then
 bif decide (a5.1.2.2.2.2.2.1 < (List.length (a5.2.1.getD (Int.toNat (IntKind.wrap .i64 (a5.1.2.2.2.2.1 - 1))) ([]:List Int)):Int)) then
 bif decide (Int.toNat (IntKind.wrap .i64 (a5.1.2.2.2.2.1 - 1)) < a5.2.1.length) then
 bif decide (a5.1.2.2.2.2.2.1.toNat < List.length (a5.2.1.getD (Int.toNat (IntKind.wrap .i64 (a5.1.2.2.2.2.1 - 1))) ([]:List Int))) then
 bif decide (0 ≤ IntKind.wrap .i64 (a5.1.2.2.2.2.1 - 1)) then
 bif decide (IntKind.wrap .i64 (a5.1.2.2.2.2.1 - 1) < (a5.1.1.length:Int)) then
 (g0 ((IntKind.wrap .i64 ((a5.1.1.getD (Int.toNat (IntKind.wrap .i64 (a5.1.2.2.2.2.1 - 1))) 0) - a5.1.2.2.1),()),())).bind fun y17 =>
 bif decide (a5.1.2.2.2.2.2.1 > 0) then
 bif decide (0 ≤ a5.1.2.2.2.2.1) then
 bif decide (a5.1.2.2.2.2.1 < (a5.2.1.length:Int)) then
 bif decide (a5.1.2.2.2.2.1.toNat < a5.2.1.length) then
 bif decide (a5.1.2.2.2.2.1.toNat < a5.2.1.length) then
 bif decide (0 ≤ IntKind.wrap .i64 (a5.1.2.2.2.2.2.1 - 1)) then
 bif decide (IntKind.wrap .i64 (a5.1.2.2.2.2.2.1 - 1) < (List.length (a5.2.1.getD (a5.1.2.2.2.2.1.toNat) ([]:List Int)):Int)) then
 bif decide (a5.1.2.2.2.2.1.toNat < a5.2.1.length) then
 bif decide (Int.toNat (IntKind.wrap .i64 (a5.1.2.2.2.2.2.1 - 1)) < List.length (a5.2.1.getD (a5.1.2.2.2.2.1.toNat) ([]:List Int))) then
 bif decide (0 ≤ IntKind.wrap .i64 (a5.1.2.2.2.2.2.1 - 1)) then
 bif decide (IntKind.wrap .i64 (a5.1.2.2.2.2.2.1 - 1) < (a5.1.2.1.length:Int)) then
 (g0 ((IntKind.wrap .i64 ((a5.1.2.1.getD (Int.toNat (IntKind.wrap .i64 (a5.1.2.2.2.2.2.1 - 1))) 0) - a5.1.2.2.1),()),())).bind fun y29 =>
 bif decide (0 ≤ a5.1.2.2.2.2.1) then
 bif decide (a5.1.2.2.2.2.1 < (a5.2.1.length:Int)) then
 bif decide (a5.1.2.2.2.2.1.toNat < a5.2.1.length) then
 bif decide (a5.1.2.2.2.2.1.toNat < a5.2.1.length) then
 bif decide (0 ≤ a5.1.2.2.2.2.2.1) then
 bif decide (a5.1.2.2.2.2.2.1 < (List.length (a5.2.1.getD (a5.1.2.2.2.2.1.toNat) ([]:List Int)):Int)) then
 bif decide (a5.1.2.2.2.2.1.toNat < a5.2.1.length) then
 bif decide (a5.1.2.2.2.2.2.1.toNat < List.length (a5.2.1.getD (a5.1.2.2.2.2.1.toNat) ([]:List Int))) then
 (L ((a5.1.1,a5.1.2.1,a5.1.2.2.1,(),a5.1.2.2.2.2.1,a5.1.2.2.2.2.2.2.2.1,a5.1.2.2.2.2.2.2.2.2.1,a5.1.2.2.2.2.2.2.2.2.2.1,IntKind.wrap .i64 (a5.1.2.2.2.2.2.2.2.2.2.2.1 + 1),()),a5.2.1.set (a5.1.2.2.2.2.1.toNat) (List.set (a5.2.1.getD (a5.1.2.2.2.2.1.toNat) ([]:List Int)) (a5.1.2.2.2.2.2.1.toNat) (Go.VI.mn (Go.VI.mn a5.1.2.2.2.2.2.2.1 (IntKind.wrap .i64 ((List.getD (a5.2.1.getD (Int.toNat (IntKind.wrap .i64 (a5.1.2.2.2.2.1 - 1))) ([]:List Int)) (a5.1.2.2.2.2.2.1.toNat) 0) + y17.1.1))) (IntKind.wrap .i64 ((List.getD (a5.2.1.getD (a5.1.2.2.2.2.1.toNat) ([]:List Int)) (Int.toNat (IntKind.wrap .i64 (a5.1.2.2.2.2.2.1 - 1))) 0) + y29.1.1)))),())).bind fun y38 =>
 some y38
 else none
 else none
 else none
 else none
 else none
 else none
 else none
 else none
 else none
 else none
 else none
 else none
 else none
 else none
 else none
 else none
 else none
 else none
 else
 bif decide (0 ≤ a5.1.2.2.2.2.1) then
 bif decide (a5.1.2.2.2.2.1 < (a5.2.1.length:Int)) then
 bif decide (a5.1.2.2.2.2.1.toNat < a5.2.1.length) then
 bif decide (a5.1.2.2.2.2.1.toNat < a5.2.1.length) then
 bif decide (0 ≤ a5.1.2.2.2.2.2.1) then
 bif decide (a5.1.2.2.2.2.2.1 < (List.length (a5.2.1.getD (a5.1.2.2.2.2.1.toNat) ([]:List Int)):Int)) then
 bif decide (a5.1.2.2.2.2.1.toNat < a5.2.1.length) then
 bif decide (a5.1.2.2.2.2.2.1.toNat < List.length (a5.2.1.getD (a5.1.2.2.2.2.1.toNat) ([]:List Int))) then
 (L ((a5.1.1,a5.1.2.1,a5.1.2.2.1,(),a5.1.2.2.2.2.1,a5.1.2.2.2.2.2.2.2.1,a5.1.2.2.2.2.2.2.2.2.1,a5.1.2.2.2.2.2.2.2.2.2.1,IntKind.wrap .i64 (a5.1.2.2.2.2.2.2.2.2.2.2.1 + 1),()),a5.2.1.set (a5.1.2.2.2.2.1.toNat) (List.set (a5.2.1.getD (a5.1.2.2.2.2.1.toNat) ([]:List Int)) (a5.1.2.2.2.2.2.1.toNat) (Go.VI.mn a5.1.2.2.2.2.2.2.1 (IntKind.wrap .i64 ((List.getD (a5.2.1.getD (Int.toNat (IntKind.wrap .i64 (a5.1.2.2.2.2.1 - 1))) ([]:List Int)) (a5.1.2.2.2.2.2.1.toNat) 0) + y17.1.1)))),())).bind fun y27 =>
 some y27
 else none
 else none
 else none
 else none
 else none
 else none
 else none
 else none
 else none
 else none
 else none
 else none
 else none
 else none
 else none
 else none
 else none
 else none
 else
 bif decide (a5.1.2.2.2.2.2.1 > 0) then
 bif decide (0 ≤ a5.1.2.2.2.2.1) then
 bif decide (a5.1.2.2.2.2.1 < (a5.2.1.length:Int)) then
 bif decide (a5.1.2.2.2.2.1.toNat < a5.2.1.length) then
 bif decide (a5.1.2.2.2.2.1.toNat < a5.2.1.length) then
 bif decide (0 ≤ IntKind.wrap .i64 (a5.1.2.2.2.2.2.1 - 1)) then
 bif decide (IntKind.wrap .i64 (a5.1.2.2.2.2.2.1 - 1) < (List.length (a5.2.1.getD (a5.1.2.2.2.2.1.toNat) ([]:List Int)):Int)) then
 bif decide (a5.1.2.2.2.2.1.toNat < a5.2.1.length) then
 bif decide (Int.toNat (IntKind.wrap .i64 (a5.1.2.2.2.2.2.1 - 1)) < List.length (a5.2.1.getD (a5.1.2.2.2.2.1.toNat) ([]:List Int))) then
 bif decide (0 ≤ IntKind.wrap .i64 (a5.1.2.2.2.2.2.1 - 1)) then
 bif decide (IntKind.wrap .i64 (a5.1.2.2.2.2.2.1 - 1) < (a5.1.2.1.length:Int)) then
 (g0 ((IntKind.wrap .i64 ((a5.1.2.1.getD (Int.toNat (IntKind.wrap .i64 (a5.1.2.2.2.2.2.1 - 1))) 0) - a5.1.2.2.1),()),())).bind fun y18 =>
 bif decide (0 ≤ a5.1.2.2.2.2.1) then
 bif decide (a5.1.2.2.2.2.1 < (a5.2.1.length:Int)) then
 bif decide (a5.1.2.2.2.2.1.toNat < a5.2.1.length) then
 bif decide (a5.1.2.2.2.2.1.toNat < a5.2.1.length) then
 bif decide (0 ≤ a5.1.2.2.2.2.2.1) then
 bif decide (a5.1.2.2.2.2.2.1 < (List.length (a5.2.1.getD (a5.1.2.2.2.2.1.toNat) ([]:List Int)):Int)) then
 bif decide (a5.1.2.2.2.2.1.toNat < a5.2.1.length) then
 bif decide (a5.1.2.2.2.2.2.1.toNat < List.length (a5.2.1.getD (a5.1.2.2.2.2.1.toNat) ([]:List Int))) then
 (L ((a5.1.1,a5.1.2.1,a5.1.2.2.1,(),a5.1.2.2.2.2.1,a5.1.2.2.2.2.2.2.2.1,a5.1.2.2.2.2.2.2.2.2.1,a5.1.2.2.2.2.2.2.2.2.2.1,IntKind.wrap .i64 (a5.1.2.2.2.2.2.2.2.2.2.2.1 + 1),()),a5.2.1.set (a5.1.2.2.2.2.1.toNat) (List.set (a5.2.1.getD (a5.1.2.2.2.2.1.toNat) ([]:List Int)) (a5.1.2.2.2.2.2.1.toNat) (Go.VI.mn a5.1.2.2.2.2.2.2.1 (IntKind.wrap .i64 ((List.getD (a5.2.1.getD (a5.1.2.2.2.2.1.toNat) ([]:List Int)) (Int.toNat (IntKind.wrap .i64 (a5.1.2.2.2.2.2.1 - 1))) 0) + y18.1.1)))),())).bind fun y27 =>
 some y27
 else none
 else none
 else none
 else none
 else none
 else none
 else none
 else none
 else none
 else none
 else none
 else none
 else none
 else none
 else none
 else none
 else none
 else none
 else
 bif decide (0 ≤ a5.1.2.2.2.2.1) then
 bif decide (a5.1.2.2.2.2.1 < (a5.2.1.length:Int)) then
 bif decide (a5.1.2.2.2.2.1.toNat < a5.2.1.length) then
 bif decide (a5.1.2.2.2.2.1.toNat < a5.2.1.length) then
 bif decide (0 ≤ a5.1.2.2.2.2.2.1) then
 bif decide (a5.1.2.2.2.2.2.1 < (List.length (a5.2.1.getD (a5.1.2.2.2.2.1.toNat) ([]:List Int)):Int)) then
 bif decide (a5.1.2.2.2.2.1.toNat < a5.2.1.length) then
 bif decide (a5.1.2.2.2.2.2.1.toNat < List.length (a5.2.1.getD (a5.1.2.2.2.2.1.toNat) ([]:List Int))) then
 (L ((a5.1.1,a5.1.2.1,a5.1.2.2.1,(),a5.1.2.2.2.2.1,a5.1.2.2.2.2.2.2.2.1,a5.1.2.2.2.2.2.2.2.2.1,a5.1.2.2.2.2.2.2.2.2.2.1,IntKind.wrap .i64 (a5.1.2.2.2.2.2.2.2.2.2.2.1 + 1),()),a5.2.1.set (a5.1.2.2.2.2.1.toNat) (List.set (a5.2.1.getD (a5.1.2.2.2.2.1.toNat) ([]:List Int)) (a5.1.2.2.2.2.2.1.toNat) a5.1.2.2.2.2.2.2.1),())).bind fun y16 =>
 some y16
 else none
 else none
 else none
 else none
 else none
 else none
 else none
 else none) Empty.elim) Empty.elim
 else
 some (Sum.inl ((a,b,c,(),h,i,()),m,()))
def u1 (g0 : Y164 → Option Y164) (l2 : Y47 → Option Y39) (l3 : Y42 → Option Y41) (L : Y61 → Option Y69) (x : Y61) := f1 g0 l2 l3 L x.1.1 x.1.2.1 x.1.2.2.1 x.1.2.2.2.2.1 x.1.2.2.2.2.2.1 x.1.2.2.2.2.2.2.1 x.1.2.2.2.2.2.2.2.1 x.1.2.2.2.2.2.2.2.2.1 x.2.1
def f0 (l1 : Y61 → Option Y69) (L : Y77 → Option Y128) (a b : List Int) (c d h : Int) (i : List (List Int)) : Option Y128 :=
 bif decide (h < d) then
 bif decide (IntKind.wrap .i64 ((b.length:Int) + 1) = IntKind.wrap .i64 ((b.length:Int) + 1)) then
 bif decide (0 ≤ IntKind.wrap .i64 ((b.length:Int) + 1)) then
 bif decide (((((8:Nat):Nat):Int) * (IntKind.wrap .i64 ((b.length:Int) + 1))) ≤ 281474976710656) && true then
 bif decide (0 ≤ h) then
 bif decide (h < (i.length:Int)) then
 bif decide (h.toNat < i.length) then
 bif decide (0 ≤ h) then
 bif decide (h < (List.length (i.set (h.toNat) (List.replicate (Int.toNat (IntKind.wrap .i64 ((b.length:Int) + 1))) (0:Int))):Int)) then
 bif decide (h.toNat < List.length (i.set (h.toNat) (List.replicate (Int.toNat (IntKind.wrap .i64 ((b.length:Int) + 1))) (0:Int)))) then
 bif decide (h.toNat < List.length (i.set (h.toNat) (List.replicate (Int.toNat (IntKind.wrap .i64 ((b.length:Int) + 1))) (0:Int)))) then
 (l1 ((a,b,c,(),h,d,h,(List.length (List.getD (i.set (h.toNat) (List.replicate (Int.toNat (IntKind.wrap .i64 ((b.length:Int) + 1))) (0:Int))) (h.toNat) ([]:List Int)):Int),0,()),i.set (h.toNat) (List.replicate (Int.toNat (IntKind.wrap .i64 ((b.length:Int) + 1))) (0:Int)),())).bind fun y11 =>
 y11.elim (fun a12 => (L ((a12.1.1,a12.1.2.1,a12.1.2.2.1,(),a12.1.2.2.2.2.1,IntKind.wrap .i64 (a12.1.2.2.2.2.2.1 + 1),()),a12.2.1,())).bind fun y13 =>
 some y13) Empty.elim
 else none
 else none
 else none
 else none
 else none
 else none
 else none
 else none
 else none
 else none
 else
 some (Sum.inl (((),()),i,()))
def u0 (l1 : Y61 → Option Y69) (L : Y77 → Option Y128) (x : Y77) := f0 l1 L x.1.1 x.1.2.1 x.1.2.2.1 x.1.2.2.2.2.1 x.1.2.2.2.2.2.1 x.2.1
def f (l0 : Y77 → Option Y128) (a b : List Int) (c : Int) : Option Y153 :=
 bif decide (IntKind.wrap .i64 ((a.length:Int) + 1) = IntKind.wrap .i64 ((a.length:Int) + 1)) then
 bif decide (0 ≤ IntKind.wrap .i64 ((a.length:Int) + 1)) then
 bif decide (((((24:Nat):Nat):Int) * (IntKind.wrap .i64 ((a.length:Int) + 1))) ≤ 281474976710656) && true then
 (l0 ((a,b,c,(),(List.length (List.replicate (Int.toNat (IntKind.wrap .i64 ((a.length:Int) + 1))) ([]:List Int)):Int),0,()),List.replicate (Int.toNat (IntKind.wrap .i64 ((a.length:Int) + 1))) ([]:List Int),())).bind fun y3 =>
 y3.elim (fun a4 => some ((a4.2.1,()),())) Empty.elim
 else none
 else none
 else none
def u (l0 : Y77 → Option Y128) (x : Y136) := f l0 x.1.1 x.1.2.1 x.1.2.2.1
section
variable (g0 : ref15_Abs.G) (l0 : A0) (l1 : A1) (l2 : A2) (l3 : A3)
def E : Env := ⟨T,cE [(89,[],ref15_Abs.fe g0)],lE [LE.of s0 x0 l0,LE.of s1 x1 l1,LE.of s2 x2 l2,LE.of s3 x3 l3],119,0,Gt⟩
variable {g0 l0 l1 l2 l3}
theorem e2 (L : A2) (x : s2.X) : rndO (E g0 l0 l1 l2 l3) hs c s2 x2 2 false L x = u2 x := by
 show _ = (_ : Option _)
 kernel_rfl
theorem e3 (L : A3) (x : s3.X) : rndO (E g0 l0 l1 l2 l3) hs c s3 x3 3 false L x = u3 g0 x := by
 show _ = (_ : Option _)
 kernel_rfl
theorem e1 (L : A1) (x : s1.X) : rndO (E g0 l0 l1 l2 l3) hs c s1 x1 1 true L x = u1 g0 l2 l3 L x := by
 show _ = (_ : Option _)
 kernel_rfl
theorem e0 (L : A0) (x : s0.X) : rndO (E g0 l0 l1 l2 l3) hs c s0 x0 0 true L x = u0 l1 L x := by
 show _ = (_ : Option _)
 kernel_rfl
theorem e (x : sh.X) : bodO (E g0 l0 l1 l2 l3) hs c Try.f69 sh osh x = u l0 x := by
 show _ = (_ : Option _)
 kernel_rfl
end
noncomputable def L2 : Y47 → Option Y39 := u2
noncomputable def L3 : Y42 → Option Y41 := u3 ref15_Abs.F
noncomputable def L1 : Y61 → Option Y69 := loop (u1 ref15_Abs.F L2 L3)
noncomputable def L0 : Y77 → Option Y128 := loop (u0 L1)
noncomputable def F : Y136 → Option Y153 := u L0
noncomputable abbrev R : Env := E ref15_Abs.F L0 L1 L2 L3
theorem L0_eq (a b : List Int) (c d h : Int) (i : List (List Int)) : L0 ((a,b,c,(),d,h,()),(i,())) = f0 L1 L0 a b c d h i :=
 loopE (E := R) e0 ((a,b,c,(),d,h,()),(i,()))
theorem L1_eq (a b : List Int) (c d h i j k : Int) (m : List (List Int)) : L1 ((a,b,c,(),d,h,i,j,k,()),(m,())) = f1 ref15_Abs.F L2 L3 L1 a b c d h i j k m :=
 loopE (E := R) e1 ((a,b,c,(),d,h,i,j,k,()),(m,()))
theorem L2_eq (a b : List Int) (c d h i j k m n : Int) (o : List (List Int)) : L2 ((a,b,c,(),d,h,i,j,k,m,n,()),(o,())) = f2 a b c d h i j k m n o := rfl
theorem L3_eq (a b : List Int) (c d h i j k m n : Int) (o : Bool) (p : List (List Int)) : L3 ((a,b,c,(),d,h,i,j,k,m,n,o,()),(p,())) = f3 ref15_Abs.F a b c d h i j k m n o p := rfl
theorem F_eq (a b : List Int) (c : Int) : F ((a,b,c,()),()) = f L0 a b c := rfl
theorem ok {tabs} (ht : TabsOk tabs) : FOK Try.prog tabs 69 (fe F) :=
 fn_keep3 (E := R) (hs := hs) Try.func69 e pw tb (gt_ok ht) (by kernel_rfl) (by kernel_rfl) rfl ⟨ref15_Abs.ok ht,trivial⟩ 4 (by kernel_rfl) ⟨lA e0 (by kernel_rfl) (by kernel_rfl),lA e1 (by kernel_rfl) (by kernel_rfl),cA e2 (by kernel_rfl) (by kernel_rfl),cA e3 (by kernel_rfl) (by kernel_rfl),trivial⟩
end ref15_table
/-! ref15_Distance -/
namespace ref15_Distance
noncomputable def c : Go.Code := Try.f46.body.getD .skip
abbrev sh : Sh := ⟨[q14, q14, q13], []⟩
abbrev osh : Sh := ⟨[q13, q13], []⟩
abbrev G := sh.X → Option osh.X
abbrev fe (g : G) : FE := FE.of [true,true,true] false sh osh g
def f (g0 : Y136 → Option Y164) (g1 : Y136 → Option Y153) (a b : List Int) (c : Int) : Option Y161 :=
 (g0 ((a,b,c,()),())).bind fun y0 =>
 bif y0.1.1 != 0 then
 some ((0,y0.1.1,()),())
 else
 (g1 ((a,b,c,()),())).bind fun y2 =>
 bif decide ((a.length:Int) < (y2.1.1.length:Int)) then
 bif decide ((b.length:Int) < (List.length (y2.1.1.getD (Int.toNat (a.length:Int)) ([]:List Int)):Int)) then
 some ((List.getD (y2.1.1.getD (Int.toNat (a.length:Int)) ([]:List Int)) (Int.toNat (b.length:Int)) 0,0,()),())
 else none
 else none
def u (g0 : Y136 → Option Y164) (g1 : Y136 → Option Y153) (x : Y136) := f g0 g1 x.1.1 x.1.2.1 x.1.2.2.1
section
variable (g0 : ref15_check.G) (g1 : ref15_table.G)
def E : Env := ⟨T,cE [(68,[],ref15_check.fe g0),(69,[],ref15_table.fe g1)],lE [],28,0,Gt⟩
variable {g0 g1}
theorem e (x : sh.X) : bodO (E g0 g1) [] c Try.f46 sh osh x = u g0 g1 x := by
 show _ = (_ : Option _)
 kernel_rfl
end
noncomputable def F : Y136 → Option Y161 := u ref15_check.F ref15_table.F
noncomputable abbrev R : Env := E ref15_check.F ref15_table.F
theorem F_eq (a b : List Int) (c : Int) : F ((a,b,c,()),()) = f ref15_check.F ref15_table.F a b c := rfl
theorem ok {tabs} (ht : TabsOk tabs) : FOK Try.prog tabs 46 (fe F) :=
 fn_keep3 (E := R) (hs := []) Try.func46 e pw tb (gt_ok ht) (by kernel_rfl) (by kernel_rfl) rfl ⟨ref15_check.ok ht,ref15_table.ok ht,trivial⟩ 0 (by kernel_rfl) trivial
end ref15_Distance
/-! ref17_Distance -/
namespace ref17_Distance
noncomputable def c : Go.Code := Try.f23.body.getD .skip
abbrev sh : Sh := ⟨[q11, q14, q14], []⟩
abbrev osh : Sh := ⟨[q10, q13], []⟩
abbrev G := sh.X → Option osh.X
abbrev fe (g : G) : FE := FE.of [true,true,true] false sh osh g
def f (g0 : Y141 → Option Y164) (g1 : Y145 → Option Y142) (g2 : Y145 → Option Y142) (g3 : Y145 → Option Y161) (g4 : Y136 → Option Y161) (g5 : Y136 → Option Y161) (a b c : Int) (d h : List Int) : Option Y142 :=
 (g0 (((a,b,c,()),()),())).bind fun y0 =>
 bif y0.1.1 != 0 then
 some (((0,0,()),y0.1.1,()),())
 else
 bif a == 2 then
 (g1 ((d,h,()),())).bind fun y3 =>
 some (((y3.1.1.1,y3.1.1.2.1,()),y3.1.2.1,()),())
 else
 bif a == 3 then
 (g2 ((d,h,()),())).bind fun y4 =>
 some (((y4.1.1.1,y4.1.1.2.1,()),y4.1.2.1,()),())
 else
 bif a == 1 then
 (g3 ((d,h,()),())).bind fun y5 =>
 bif y5.1.2.1 != 0 then
 some (((0,0,()),y5.1.2.1,()),())
 else
 some (((y5.1.1,1,()),0,()),())
 else
 bif a == 4 then
 (g4 ((d,h,b,()),())).bind fun y6 =>
 bif y6.1.2.1 != 0 then
 some (((0,0,()),y6.1.2.1,()),())
 else
 some (((y6.1.1,1,()),0,()),())
 else
 (g5 ((d,h,c,()),())).bind fun y6 =>
 bif y6.1.2.1 != 0 then
 some (((0,0,()),y6.1.2.1,()),())
 else
 some (((y6.1.1,1,()),0,()),())
def u (g0 : Y141 → Option Y164) (g1 : Y145 → Option Y142) (g2 : Y145 → Option Y142) (g3 : Y145 → Option Y161) (g4 : Y136 → Option Y161) (g5 : Y136 → Option Y161) (x : Y105) := f g0 g1 g2 g3 g4 g5 x.1.1.1 x.1.1.2.1 x.1.1.2.2.1 x.1.2.1 x.1.2.2.1
section
variable (g0 : ref17_Check.G) (g1 : ref12_Shifted.G) (g2 : ref13_Gap.G) (g3 : ref12_Distance.G) (g4 : ref14_Distance.G) (g5 : ref15_Distance.G)
def E : Env := ⟨T,cE [(32,[],ref17_Check.fe g0),(42,[],ref12_Shifted.fe g1),(43,[],ref13_Gap.fe g2),(44,[],ref12_Distance.fe g3),(45,[],ref14_Distance.fe g4),(46,[],ref15_Distance.fe g5)],lE [],65,0,Gt⟩
variable {g0 g1 g2 g3 g4 g5}
theorem e (x : sh.X) : bodO (E g0 g1 g2 g3 g4 g5) [] c Try.f23 sh osh x = u g0 g1 g2 g3 g4 g5 x := by
 show _ = (_ : Option _)
 kernel_rfl
end
noncomputable def F : Y105 → Option Y142 := u ref17_Check.F ref12_Shifted.F ref13_Gap.F ref12_Distance.F ref14_Distance.F ref15_Distance.F
noncomputable abbrev R : Env := E ref17_Check.F ref12_Shifted.F ref13_Gap.F ref12_Distance.F ref14_Distance.F ref15_Distance.F
theorem F_eq (a b c : Int) (d h : List Int) : F (((a,b,c,()),d,h,()),()) = f ref17_Check.F ref12_Shifted.F ref13_Gap.F ref12_Distance.F ref14_Distance.F ref15_Distance.F a b c d h := rfl
theorem ok {tabs} (ht : TabsOk tabs) : FOK Try.prog tabs 23 (fe F) :=
 fn_keep3 (E := R) (hs := []) Try.func23 e pw tb (gt_ok ht) (by kernel_rfl) (by kernel_rfl) rfl ⟨ref17_Check.ok ht,ref12_Shifted.ok ht,ref13_Gap.ok ht,ref12_Distance.ok ht,ref14_Distance.ok ht,ref15_Distance.ok ht,trivial⟩ 0 (by kernel_rfl) trivial
end ref17_Distance
end Go.Proofs.Ytefcciajemkicaa.V
