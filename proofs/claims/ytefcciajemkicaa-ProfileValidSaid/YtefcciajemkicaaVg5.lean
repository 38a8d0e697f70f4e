import Derived.Test.YtefcciajemkicaaVg4
import Derived.WalkKit
set_option linter.unusedVariables false
set_option maxRecDepth 100000
namespace Go.Proofs.Ytefcciajemkicaa.V
open Go (IntKind)
open Go.VI
/-! ref01_Cmp -/
namespace ref01_Cmp
noncomputable def c : Go.Code := Try.f47.body.getD .skip
abbrev sh : Sh := ⟨[q9, q9], []⟩
abbrev osh : Sh := ⟨[q13], []⟩
abbrev G := sh.X → Option osh.X
abbrev fe (g : G) : FE := FE.of [true,true] false sh osh g
abbrev s0 : Sh := ⟨[q15, q17], [q1, q1]⟩
abbrev x0 : List (Ex × Sh) := [(.normal, ⟨[q15, q17, q16], [q1, q1]⟩)]
abbrev A0 := s0.X → Option (sumX x0)
def hs : List Hint := [⟨[0,0,1],0,[2,3],[(0,[2,3,12])]⟩]
def f0 (g0 : Y149 → Option Y160) (a b c d : Int) : Option Y69 :=
 (g0 (((a,b,()),()),())).bind fun y0 =>
 bif !y0.1.1 then
 some (Sum.inl (((),(),true,()),(a,b,()),(c,d,()),()))
 else
 (g0 (((c,d,()),()),())).bind fun y2 =>
 some (Sum.inl (((),(),!y2.1.1,()),(a,b,()),(c,d,()),()))
def u0 (g0 : Y149 → Option Y160) (x : Y96) := f0 g0 x.2.1.1 x.2.1.2.1 x.2.2.1.1 x.2.2.1.2.1
def f (g1 : Y146 → Option Y161) (l0 : Y96 → Option Y69) (a b c d : Int) : Option Y161 :=
 (l0 (((),(),()),(a,b,()),(c,d,()),())).bind fun y0 =>
 y0.elim (fun a1 => bif a1.1.2.2.1 then
 some ((0,()),())
 else
 (g1 ((a1.2.1.1,a1.2.1.2.1,a1.2.2.1),())).bind fun y3 =>
 some y3) Empty.elim
def u (g1 : Y146 → Option Y161) (l0 : Y96 → Option Y69) (x : Y116) := f g1 l0 x.1.1.1 x.1.1.2.1 x.1.2.1.1 x.1.2.1.2.1
section
variable (g0 : ref01_Valid.G) (g1 : ref01_order.G) (l0 : A0)
def E : Env := ⟨T,cE [(54,[],ref01_Valid.fe g0),(70,[],ref01_order.fe g1)],lE [LE.of s0 x0 l0],22,0,Gt⟩
variable {g0 g1 l0}
theorem e0 (L : A0) (x : s0.X) : rndO (E g0 g1 l0) hs c s0 x0 0 false L x = u0 g0 x := by
 show _ = (_ : Option _)
 kernel_rfl
theorem e (x : sh.X) : bodO (E g0 g1 l0) hs c Try.f47 sh osh x = u g1 l0 x := by
 show _ = (_ : Option _)
 kernel_rfl
end
noncomputable def L0 : Y96 → Option Y69 := u0 ref01_Valid.F
noncomputable def F : Y116 → Option Y161 := u ref01_order.F L0
noncomputable abbrev R : Env := E ref01_Valid.F ref01_order.F L0
theorem L0_eq (a b c d : Int) : L0 (((),(),()),((a,b,()),(c,d,()),())) = f0 ref01_Valid.F a b c d := rfl
theorem F_eq (a b c d : Int) : F (((a,b,()),(c,d,()),()),()) = f ref01_order.F L0 a b c d := rfl
theorem ok {tabs} (ht : TabsOk tabs) : FOK Try.prog tabs 47 (fe F) :=
 fn_keep3 (E := R) (hs := hs) Try.func47 e pw tb (gt_ok ht) (by kernel_rfl) (by kernel_rfl) rfl ⟨ref01_Valid.ok ht,ref01_order.ok ht,trivial⟩ 1 (by kernel_rfl) ⟨cA e0 (by kernel_rfl) (by kernel_rfl),trivial⟩
end ref01_Cmp
/-! ref01_Less -/
namespace ref01_Less
noncomputable def c : Go.Code := Try.f24.body.getD .skip
abbrev sh : Sh := ⟨[q9, q9], []⟩
abbrev osh : Sh := ⟨[q16], []⟩
abbrev G := sh.X → Option osh.X
abbrev fe (g : G) : FE := FE.of [true,true] false sh osh g
def f (g0 : Y116 → Option Y161) (a b c d : Int) : Option Y160 :=
 (g0 (((a,b,()),(c,d,()),()),())).bind fun y0 =>
 some ((decide (y0.1.1 < 0),()),())
def u (g0 : Y116 → Option Y161) (x : Y116) := f g0 x.1.1.1 x.1.1.2.1 x.1.2.1.1 x.1.2.1.2.1
section
variable (g0 : ref01_Cmp.G)
def E : Env := ⟨T,cE [(47,[],ref01_Cmp.fe g0)],lE [],9,0,Gt⟩
variable {g0}
theorem e (x : sh.X) : bodO (E g0) [] c Try.f24 sh osh x = u g0 x := by
 show _ = (_ : Option _)
 kernel_rfl
end
noncomputable def F : Y116 → Option Y160 := u ref01_Cmp.F
noncomputable abbrev R : Env := E ref01_Cmp.F
theorem F_eq (a b c d : Int) : F (((a,b,()),(c,d,()),()),()) = f ref01_Cmp.F a b c d := rfl
theorem ok {tabs} (ht : TabsOk tabs) : FOK Try.prog tabs 24 (fe F) :=
 fn_keep3 (E := R) (hs := []) Try.func24 e pw tb (gt_ok ht) (by kernel_rfl) (by kernel_rfl) rfl ⟨ref01_Cmp.ok ht,trivial⟩ 0 (by kernel_rfl) trivial
end ref01_Less
/-! ref37_Nearer -/
namespace ref37_Nearer
noncomputable def c : Go.Code := Try.f16.body.getD .skip
abbrev sh : Sh := ⟨[q10, q10], []⟩
abbrev osh : Sh := ⟨[q16], []⟩
abbrev G := sh.X → Option osh.X
abbrev fe (g : G) : FE := FE.of [true,true] false sh osh g
abbrev s0 : Sh := ⟨[q15, q17], [q0, q0]⟩
abbrev x0 : List (Ex × Sh) := [(.normal, ⟨[q15, q17, q16], [q0, q0]⟩)]
abbrev A0 := s0.X → Option (sumX x0)
abbrev s1 : Sh := ⟨[q15, q17], [q0, q0]⟩
abbrev x1 : List (Ex × Sh) := [(.normal, ⟨[q16], []⟩)]
abbrev A1 := s1.X → Option (sumX x1)
def hs : List Hint := [⟨[0,0,1],0,[2,3],[(0,[2,3,12])]⟩,⟨[0,0,1,0,1],1,[2,3],[(0,[4])]⟩]
def f0 (a b c d h i : Int) : Option Y55 :=
 bif decide (a < 0) then
 some (Sum.inl (((),(),true,()),(a,b,c,()),(d,h,i,()),()))
 else
 some (Sum.inl (((),(),decide (d < 0),()),(a,b,c,()),(d,h,i,()),()))
def u0 (x : Y75) := f0 x.2.1.1 x.2.1.2.1 x.2.1.2.2.1 x.2.2.1.1 x.2.2.1.2.1 x.2.2.1.2.2.1
def f1 (a b c d h i : Int) : Option Y154 :=
 bif decide (a ≥ 0) then
 some (Sum.inl ((decide (d < 0),()),()))
 else
 some (Sum.inl ((false,()),()))
def u1 (x : Y75) := f1 x.2.1.1 x.2.1.2.1 x.2.1.2.2.1 x.2.2.1.1 x.2.2.1.2.1 x.2.2.1.2.2.1
def f (g0 : Y116 → Option Y160) (l0 : Y75 → Option Y55) (l1 : Y75 → Option Y154) (a b c d h i : Int) : Option Y160 :=
 (l0 (((),(),()),(a,b,c,()),(d,h,i,()),())).bind fun y0 =>
 y0.elim (fun a1 => bif a1.1.2.2.1 then
 (l1 (((),(),()),a1.2)).bind fun y3 =>
 y3.elim (fun a4 => some a4) Empty.elim
 else
 (g0 ((a1.2.1.2,a1.2.2.1.2,()),())).bind fun y3 =>
 bif y3.1.1 then
 some ((true,()),())
 else
 (g0 ((a1.2.2.1.2,a1.2.1.2,()),())).bind fun y5 =>
 bif !y5.1.1 then
 some ((decide (a1.2.1.1 < a1.2.2.1.1),()),())
 else
 some ((false,()),())) Empty.elim
def u (g0 : Y116 → Option Y160) (l0 : Y75 → Option Y55) (l1 : Y75 → Option Y154) (x : Y99) := f g0 l0 l1 x.1.1.1 x.1.1.2.1 x.1.1.2.2.1 x.1.2.1.1 x.1.2.1.2.1 x.1.2.1.2.2.1
section
variable (g0 : ref01_Less.G) (l0 : A0) (l1 : A1)
def E : Env := ⟨T,cE [(24,[],ref01_Less.fe g0)],lE [LE.of s0 x0 l0,LE.of s1 x1 l1],41,0,Gt⟩
variable {g0 l0 l1}
theorem e0 (L : A0) (x : s0.X) : rndO (E g0 l0 l1) hs c s0 x0 0 false L x = u0 x := by
 show _ = (_ : Option _)
 kernel_rfl
theorem e1 (L : A1) (x : s1.X) : rndO (E g0 l0 l1) hs c s1 x1 1 false L x = u1 x := by
 show _ = (_ : Option _)
 kernel_rfl
theorem e (x : sh.X) : bodO (E g0 l0 l1) hs c Try.f16 sh osh x = u g0 l0 l1 x := by
 show _ = (_ : Option _)
 kernel_rfl
end
noncomputable def L0 : Y75 → Option Y55 := u0
noncomputable def L1 : Y75 → Option Y154 := u1
noncomputable def F : Y99 → Option Y160 := u ref01_Less.F L0 L1
noncomputable abbrev R : Env := E ref01_Less.F L0 L1
theorem L0_eq (a b c d h i : Int) : L0 (((),(),()),((a,b,c,()),(d,h,i,()),())) = f0 a b c d h i := rfl
theorem L1_eq (a b c d h i : Int) : L1 (((),(),()),((a,b,c,()),(d,h,i,()),())) = f1 a b c d h i := rfl
theorem F_eq (a b c d h i : Int) : F (((a,b,c,()),(d,h,i,()),()),()) = f ref01_Less.F L0 L1 a b c d h i := rfl
theorem ok {tabs} (ht : TabsOk tabs) : FOK Try.prog tabs 16 (fe F) :=
 fn_keep3 (E := R) (hs := hs) Try.func16 e pw tb (gt_ok ht) (by kernel_rfl) (by kernel_rfl) rfl ⟨ref01_Less.ok ht,trivial⟩ 2 (by kernel_rfl) ⟨cA e0 (by kernel_rfl) (by kernel_rfl),cA e1 (by kernel_rfl) (by kernel_rfl),trivial⟩
end ref37_Nearer
/-! ref37_Of -/
namespace ref37_Of
noncomputable def c : Go.Code := Try.f26.body.getD .skip
abbrev sh : Sh := ⟨[q14, q10, q13, q13], []⟩
abbrev osh : Sh := ⟨[q12, q13], [.row 31 (.pair (.int .i64) (.pair (.int .i64) (.int .i64))), .row 31 (.pair (.int .i64) (.pair (.int .i64) (.int .i64))), .row 31 (.pair (.int .i64) (.pair (.int .i64) (.int .i64)))]⟩
abbrev G := sh.X → Option osh.X
abbrev fe (g : G) : FE := FE.of [true,true,true,true] false sh osh g
abbrev s0 : Sh := ⟨[q14, q13, q13, q15, q17, q19], [q0, q2, .row 4 .bool]⟩
abbrev x0 : List (Ex × Sh) := [(.normal, ⟨[q14, q13, q13, q15, q17, q19, q16], [q0, q2, .row 4 .bool]⟩)]
abbrev A0 := s0.X → Option (sumX x0)
abbrev s1 : Sh := ⟨[q14, q13, q13, q15, q17, q19, q20, q13], [q0, q2, .row 4 .bool, q5, .row 31 (.pair (.int .i64) (.pair (.int .i64) (.int .i64))), .row 31 (.pair (.int .i64) (.pair (.int .i64) (.int .i64))), .row 31 (.pair (.int .i64) (.pair (.int .i64) (.int .i64)))]⟩
abbrev x1 : List (Ex × Sh) := [(.exit 0, ⟨[q15, q17], [q2, q7, .row 31 (.pair (.int .i64) (.pair (.int .i64) (.int .i64))), .row 31 (.pair (.int .i64) (.pair (.int .i64) (.int .i64))), .row 31 (.pair (.int .i64) (.pair (.int .i64) (.int .i64)))]⟩)]
abbrev A1 := s1.X → Option (sumX x1)
abbrev s2 : Sh := ⟨[q14, q13, q13, q15, q17, q19, q20, q13, q24, q25, q13], [q0, q2, .row 4 .bool, q6, q0, q0, .row 31 (.pair (.int .i64) (.pair (.int .i64) (.int .i64))), .row 31 (.pair (.int .i64) (.pair (.int .i64) (.int .i64))), .row 31 (.pair (.int .i64) (.pair (.int .i64) (.int .i64)))]⟩
abbrev x2 : List (Ex × Sh) := [(.exit 2, ⟨[q14, q13, q13, q15, q17, q19, q20, q13, q24, q25], [q0, q2, .row 4 .bool, q6, q0, q0, .row 31 (.pair (.int .i64) (.pair (.int .i64) (.int .i64))), .row 31 (.pair (.int .i64) (.pair (.int .i64) (.int .i64))), .row 31 (.pair (.int .i64) (.pair (.int .i64) (.int .i64)))]⟩)]
abbrev A2 := s2.X → Option (sumX x2)
abbrev s3 : Sh := ⟨[q14, q13, q13, q15, q17, q19, q20, q13, q24, q25, q13], [q0, q2, .row 4 .bool, q6, q0, q0, .row 31 (.pair (.int .i64) (.pair (.int .i64) (.int .i64))), .row 31 (.pair (.int .i64) (.pair (.int .i64) (.int .i64))), .row 31 (.pair (.int .i64) (.pair (.int .i64) (.int .i64)))]⟩
abbrev x3 : List (Ex × Sh) := [(.normal, ⟨[q14, q13, q13, q15, q17, q19, q20, q13, q24, q25, q13], [q0, q2, .row 4 .bool, q6, q0, q0, .row 31 (.pair (.int .i64) (.pair (.int .i64) (.int .i64))), .row 31 (.pair (.int .i64) (.pair (.int .i64) (.int .i64))), .row 31 (.pair (.int .i64) (.pair (.int .i64) (.int .i64)))]⟩)]
abbrev A3 := s3.X → Option (sumX x3)
abbrev s4 : Sh := ⟨[q14, q13, q13, q15, q17, q19, q20, q13, q24, q25, q13], [q0, q2, .row 4 .bool, q6, q0, q0, .row 31 (.pair (.int .i64) (.pair (.int .i64) (.int .i64))), .row 31 (.pair (.int .i64) (.pair (.int .i64) (.int .i64))), .row 31 (.pair (.int .i64) (.pair (.int .i64) (.int .i64)))]⟩
abbrev x4 : List (Ex × Sh) := [(.normal, ⟨[q14, q13, q13, q15, q17, q19, q20, q13, q24, q25, q13, q16], [q0, q2, .row 4 .bool, q6, q0, q0, .row 31 (.pair (.int .i64) (.pair (.int .i64) (.int .i64))), .row 31 (.pair (.int .i64) (.pair (.int .i64) (.int .i64))), .row 31 (.pair (.int .i64) (.pair (.int .i64) (.int .i64)))]⟩)]
abbrev A4 := s4.X → Option (sumX x4)
abbrev s5 : Sh := ⟨[q14, q13, q13, q15, q17, q19, q20, q13, q24, q25, q13, .one (.is (.ptr 6 0 0))], [q0, q2, .row 4 .bool, q8, q0, q0, q0, .row 31 (.pair (.int .i64) (.pair (.int .i64) (.int .i64))), .row 31 (.pair (.int .i64) (.pair (.int .i64) (.int .i64))), .row 31 (.pair (.int .i64) (.pair (.int .i64) (.int .i64)))]⟩
abbrev x5 : List (Ex × Sh) := [(.normal, ⟨[q14, q13, q13, q15, q17, q19, q20, q13, q24, q25, q13, .one (.is (.ptr 6 0 0)), q16], [q0, q2, .row 4 .bool, q8, q0, q0, q0, .row 31 (.pair (.int .i64) (.pair (.int .i64) (.int .i64))), .row 31 (.pair (.int .i64) (.pair (.int .i64) (.int .i64))), .row 31 (.pair (.int .i64) (.pair (.int .i64) (.int .i64)))]⟩)]
abbrev A5 := s5.X → Option (sumX x5)
def hs : List Hint := [⟨[0,0,1,1,1,1],0,[0,2,3,5,8,11],[(0,[0,2,3,5,8,11,43])]⟩,⟨[0,1,0,1,1,1,1,1,1],1,[0,2,3,5,8,11,13,14],[(2,[8,13])]⟩,⟨[0,1,0,1,0,0,1,0,0,1,0,1,1,1,1,1,1],2,[0,2,3,5,8,11,13,14,15,16,17],[(4,[0,2,3,5,8,11,13,14,15,16])]⟩,⟨[0,1,0,0,1,0,1,0,0,1,0,0,1,0,1,1,1,1,1,1],3,[0,2,3,5,8,11,13,14,15,16,17],[(0,[0,2,3,5,8,11,13,14,15,16,17])]⟩,⟨[0,0,0,0,1,0,0,1,0,1,0,0,1,0,0,1,0,1,1,1,1,1,1],4,[0,2,3,5,8,11,13,14,15,16,17],[(0,[0,2,3,5,8,11,13,14,15,16,17,88])]⟩,⟨[0,0,1,1,1,0,0,1,0,0,1,0,1,0,0,1,0,0,1,0,1,1,1,1,1,1],5,[0,2,3,5,8,11,13,14,15,16,17,20],[(0,[0,2,3,5,8,11,13,14,15,16,17,20,116])]⟩]
def f0 (a : List Int) (b c d h i j k m n o : Int) (p : List Bool) : Option Y23 :=
 bif decide (c < 1) then
 some (Sum.inl ((a,b,c,(),(),(),true,()),(d,h,i,()),(j,k,m,n,o,(),(),(),()),p,()))
 else
 some (Sum.inl ((a,b,c,(),(),(),decide (c > 64),()),(d,h,i,()),(j,k,m,n,o,(),(),(),()),p,()))
def u0 (x : Y29) := f0 x.1.1 x.1.2.1 x.1.2.2.1 x.2.1.1 x.2.1.2.1 x.2.1.2.2.1 x.2.2.1.1 x.2.2.1.2.1 x.2.2.1.2.2.1 x.2.2.1.2.2.2.1 x.2.2.1.2.2.2.2.1 x.2.2.2.1
def f4 (a : List Int) (b c d h i j k m n o p q : Int) (r : List Bool) (s t v w z p0 p1 p2 p3 p4 p5 : Int) (p6 p7 p8 : List Y162) : Option Y3 :=
 bif decide (0 ≤ d) then
 bif decide (d < (r.length:Int)) then
 bif !(r.getD (d.toNat) false) then
 some (Sum.inl ((a,b,c,(),(),(),(),d,(),(),h,true,()),(i,j,k,()),(m,n,o,p,q,(),(),(),()),r,(s,t,v,w,z,(),(),(),()),(p0,p1,p2,()),(p3,p4,p5,()),p6,p7,p8,()))
 else
 bif decide (0 ≤ h) then
 bif decide (h < (r.length:Int)) then
 bif !(r.getD (h.toNat) false) then
 some (Sum.inl ((a,b,c,(),(),(),(),d,(),(),h,true,()),(i,j,k,()),(m,n,o,p,q,(),(),(),()),r,(s,t,v,w,z,(),(),(),()),(p0,p1,p2,()),(p3,p4,p5,()),p6,p7,p8,()))
 else
 bif decide (h > IntKind.wrap .i64 (d - c)) then
 some (Sum.inl ((a,b,c,(),(),(),(),d,(),(),h,decide (h < IntKind.wrap .i64 (d + c)),()),(i,j,k,()),(m,n,o,p,q,(),(),(),()),r,(s,t,v,w,z,(),(),(),()),(p0,p1,p2,()),(p3,p4,p5,()),p6,p7,p8,()))
 else
 some (Sum.inl ((a,b,c,(),(),(),(),d,(),(),h,false,()),(i,j,k,()),(m,n,o,p,q,(),(),(),()),r,(s,t,v,w,z,(),(),(),()),(p0,p1,p2,()),(p3,p4,p5,()),p6,p7,p8,()))
 else none
 else none
 else none
 else none
def u4 (x : Y7) := f4 x.1.1 x.1.2.1 x.1.2.2.1 x.1.2.2.2.2.2.2.2.1 x.1.2.2.2.2.2.2.2.2.2.2.1 x.2.1.1 x.2.1.2.1 x.2.1.2.2.1 x.2.2.1.1 x.2.2.1.2.1 x.2.2.1.2.2.1 x.2.2.1.2.2.2.1 x.2.2.1.2.2.2.2.1 x.2.2.2.1 x.2.2.2.2.1.1 x.2.2.2.2.1.2.1 x.2.2.2.2.1.2.2.1 x.2.2.2.2.1.2.2.2.1 x.2.2.2.2.1.2.2.2.2.1 x.2.2.2.2.2.1.1 x.2.2.2.2.2.1.2.1 x.2.2.2.2.2.1.2.2.1 x.2.2.2.2.2.2.1.1 x.2.2.2.2.2.2.1.2.1 x.2.2.2.2.2.2.1.2.2.1 x.2.2.2.2.2.2.2.1 x.2.2.2.2.2.2.2.2.1 x.2.2.2.2.2.2.2.2.2.1
def f5 (g4 : Y99 → Option Y160) (a : List Int) (b c d h i j k m n o p q : Int) (r : List Bool) (s t v w z p0 p1 p2 p3 p4 p5 p6 p7 p8 : Int) (p9 p10 p11 : List Y162) : Option Y0 :=
 bif decide (h < d) then
 (g4 (((p6,p7,p8,()),(p0,p1,p2,()),()),())).bind fun y1 =>
 some (Sum.inl ((a,b,c,(),(),(),(),d,(),(),h,(),y1.1),(i,j,k,()),(m,n,o,p,q,(),(),(),()),r,(s,t,v,w,z,(),(),(),()),(p0,p1,p2,()),(p3,p4,p5,()),(p6,p7,p8,()),p9,p10,p11,()))
 else
 some (Sum.inl ((a,b,c,(),(),(),(),d,(),(),h,(),false,()),(i,j,k,()),(m,n,o,p,q,(),(),(),()),r,(s,t,v,w,z,(),(),(),()),(p0,p1,p2,()),(p3,p4,p5,()),(p6,p7,p8,()),p9,p10,p11,()))
def u5 (g4 : Y99 → Option Y160) (x : Y2) := f5 g4 x.1.1 x.1.2.1 x.1.2.2.1 x.1.2.2.2.2.2.2.2.1 x.1.2.2.2.2.2.2.2.2.2.2.1 x.2.1.1 x.2.1.2.1 x.2.1.2.2.1 x.2.2.1.1 x.2.2.1.2.1 x.2.2.1.2.2.1 x.2.2.1.2.2.2.1 x.2.2.1.2.2.2.2.1 x.2.2.2.1 x.2.2.2.2.1.1 x.2.2.2.2.1.2.1 x.2.2.2.2.1.2.2.1 x.2.2.2.2.1.2.2.2.1 x.2.2.2.2.1.2.2.2.2.1 x.2.2.2.2.2.1.1 x.2.2.2.2.2.1.2.1 x.2.2.2.2.2.1.2.2.1 x.2.2.2.2.2.2.1.1 x.2.2.2.2.2.2.1.2.1 x.2.2.2.2.2.2.1.2.2.1 x.2.2.2.2.2.2.2.1.1 x.2.2.2.2.2.2.2.1.2.1 x.2.2.2.2.2.2.2.1.2.2.1 x.2.2.2.2.2.2.2.2.1 x.2.2.2.2.2.2.2.2.2.1 x.2.2.2.2.2.2.2.2.2.2.1
def f3 (g3 : Y100 → Option Y138) (g4 : Y99 → Option Y160) (l4 : Y7 → Option Y3) (l5 : Y2 → Option Y0) (a : List Int) (b c d h i j k m n o p q : Int) (r : List Bool) (s t v w z p0 p1 p2 p3 p4 p5 : Int) (p6 p7 p8 : List Y162) : Option Y4 :=
 (l4 ((a,b,c,(),(),(),(),d,(),(),h,()),(i,j,k,()),(m,n,o,p,q,(),(),(),()),r,(s,t,v,w,z,(),(),(),()),(p0,p1,p2,()),(p3,p4,p5,()),p6,p7,p8,())).bind fun y0 =>
 y0.elim (fun a1 => bif a1.1.2.2.2.2.2.2.2.2.2.2.2.1 then
 some (Sum.inl ((a1.1.1,a1.1.2.1,a1.1.2.2.1,(),(),(),(),a1.1.2.2.2.2.2.2.2.1,(),(),a1.1.2.2.2.2.2.2.2.2.2.2.1,()),a1.2))
 else
 bif decide (0 ≤ a1.1.2.2.2.2.2.2.2.1) then
 bif decide (a1.1.2.2.2.2.2.2.2.1 ≤ IntKind.wrap .i64 (a1.1.2.2.2.2.2.2.2.1 + a1.1.2.1)) then
 bif decide (IntKind.wrap .i64 (a1.1.2.2.2.2.2.2.2.1 + a1.1.2.1) ≤ (a1.1.1.length:Int)) then
 bif decide (0 ≤ a1.1.2.2.2.2.2.2.2.2.2.2.1) then
 bif decide (a1.1.2.2.2.2.2.2.2.2.2.2.1 ≤ IntKind.wrap .i64 (a1.1.2.2.2.2.2.2.2.2.2.2.1 + a1.1.2.1)) then
 bif decide (IntKind.wrap .i64 (a1.1.2.2.2.2.2.2.2.2.2.2.1 + a1.1.2.1) ≤ (a1.1.1.length:Int)) then
 (g3 ((a1.2.1,List.drop (a1.1.2.2.2.2.2.2.2.1.toNat) (List.take (Int.toNat (IntKind.wrap .i64 (a1.1.2.2.2.2.2.2.2.1 + a1.1.2.1))) a1.1.1),List.drop (a1.1.2.2.2.2.2.2.2.2.2.2.1.toNat) (List.take (Int.toNat (IntKind.wrap .i64 (a1.1.2.2.2.2.2.2.2.2.2.2.1 + a1.1.2.1))) a1.1.1),()),())).bind fun y9 =>
 (l5 ((a1.1.1,a1.1.2.1,a1.1.2.2.1,(),(),(),(),a1.1.2.2.2.2.2.2.2.1,(),(),a1.1.2.2.2.2.2.2.2.2.2.2.1,(),()),a1.2.1,a1.2.2.1,a1.2.2.2.1,a1.2.2.2.2.1,a1.2.2.2.2.2.1,a1.2.2.2.2.2.2.1,(a1.1.2.2.2.2.2.2.2.2.2.2.1,y9.1.1),a1.2.2.2.2.2.2.2)).bind fun y10 =>
 y10.elim (fun a11 => bif a11.1.2.2.2.2.2.2.2.2.2.2.2.2.1 then
 bif decide (a11.1.2.2.2.2.2.2.2.2.2.2.1 > a11.1.2.2.2.2.2.2.2.1) then
 (g4 ((a11.2.2.2.2.2.2.2.1,a11.2.2.2.2.2.2.1,()),())).bind fun y14 =>
 bif y14.1.1 then
 some (Sum.inl ((a11.1.1,a11.1.2.1,a11.1.2.2.1,(),(),(),(),a11.1.2.2.2.2.2.2.2.1,(),(),a11.1.2.2.2.2.2.2.2.2.2.2.1,()),a11.2.1,a11.2.2.1,a11.2.2.2.1,a11.2.2.2.2.1,a11.2.2.2.2.2.2.2.1,a11.2.2.2.2.2.2.2))
 else
 some (Sum.inl ((a11.1.1,a11.1.2.1,a11.1.2.2.1,(),(),(),(),a11.1.2.2.2.2.2.2.2.1,(),(),a11.1.2.2.2.2.2.2.2.2.2.2.1,()),a11.2.1,a11.2.2.1,a11.2.2.2.1,a11.2.2.2.2.1,a11.2.2.2.2.2.2.2.1,a11.2.2.2.2.2.2.1,a11.2.2.2.2.2.2.2.2))
 else
 some (Sum.inl ((a11.1.1,a11.1.2.1,a11.1.2.2.1,(),(),(),(),a11.1.2.2.2.2.2.2.2.1,(),(),a11.1.2.2.2.2.2.2.2.2.2.2.1,()),a11.2.1,a11.2.2.1,a11.2.2.2.1,a11.2.2.2.2.1,a11.2.2.2.2.2.2.2.1,a11.2.2.2.2.2.2.1,a11.2.2.2.2.2.2.2.2))
 else
 bif decide (a11.1.2.2.2.2.2.2.2.2.2.2.1 > a11.1.2.2.2.2.2.2.2.1) then
 (g4 ((a11.2.2.2.2.2.2.2.1,a11.2.2.2.2.2.2.1,()),())).bind fun y14 =>
 bif y14.1.1 then
 some (Sum.inl ((a11.1.1,a11.1.2.1,a11.1.2.2.1,(),(),(),(),a11.1.2.2.2.2.2.2.2.1,(),(),a11.1.2.2.2.2.2.2.2.2.2.2.1,()),a11.2.1,a11.2.2.1,a11.2.2.2.1,a11.2.2.2.2.1,a11.2.2.2.2.2.1,a11.2.2.2.2.2.2.2))
 else
 some (Sum.inl ((a11.1.1,a11.1.2.1,a11.1.2.2.1,(),(),(),(),a11.1.2.2.2.2.2.2.2.1,(),(),a11.1.2.2.2.2.2.2.2.2.2.2.1,()),a11.2.1,a11.2.2.1,a11.2.2.2.1,a11.2.2.2.2.1,a11.2.2.2.2.2.1,a11.2.2.2.2.2.2.1,a11.2.2.2.2.2.2.2.2))
 else
 some (Sum.inl ((a11.1.1,a11.1.2.1,a11.1.2.2.1,(),(),(),(),a11.1.2.2.2.2.2.2.2.1,(),(),a11.1.2.2.2.2.2.2.2.2.2.2.1,()),a11.2.1,a11.2.2.1,a11.2.2.2.1,a11.2.2.2.2.1,a11.2.2.2.2.2.1,a11.2.2.2.2.2.2.1,a11.2.2.2.2.2.2.2.2))) Empty.elim
 else none
 else none
 else none
 else none
 else none
 else none) Empty.elim
def u3 (g3 : Y100 → Option Y138) (g4 : Y99 → Option Y160) (l4 : Y7 → Option Y3) (l5 : Y2 → Option Y0) (x : Y7) := f3 g3 g4 l4 l5 x.1.1 x.1.2.1 x.1.2.2.1 x.1.2.2.2.2.2.2.2.1 x.1.2.2.2.2.2.2.2.2.2.2.1 x.2.1.1 x.2.1.2.1 x.2.1.2.2.1 x.2.2.1.1 x.2.2.1.2.1 x.2.2.1.2.2.1 x.2.2.1.2.2.2.1 x.2.2.1.2.2.2.2.1 x.2.2.2.1 x.2.2.2.2.1.1 x.2.2.2.2.1.2.1 x.2.2.2.2.1.2.2.1 x.2.2.2.2.1.2.2.2.1 x.2.2.2.2.1.2.2.2.2.1 x.2.2.2.2.2.1.1 x.2.2.2.2.2.1.2.1 x.2.2.2.2.2.1.2.2.1 x.2.2.2.2.2.2.1.1 x.2.2.2.2.2.2.1.2.1 x.2.2.2.2.2.2.1.2.2.1 x.2.2.2.2.2.2.2.1 x.2.2.2.2.2.2.2.2.1 x.2.2.2.2.2.2.2.2.2.1
def f2 (l3 : Y7 → Option Y4) (L : Y7 → Option Y6) (a : List Int) (b c d h i j k m n o p q : Int) (r : List Bool) (s t v w z p0 p1 p2 p3 p4 p5 : Int) (p6 p7 p8 : List Y162) : Option Y6 :=
 bif decide (h < (r.length:Int)) then
 (l3 ((a,b,c,(),(),(),(),d,(),(),h,()),(i,j,k,()),(m,n,o,p,q,(),(),(),()),r,(s,t,v,w,z,(),(),(),()),(p0,p1,p2,()),(p3,p4,p5,()),p6,p7,p8,())).bind fun y1 =>
 y1.elim (fun a2 => (L ((a2.1.1,a2.1.2.1,a2.1.2.2.1,(),(),(),(),a2.1.2.2.2.2.2.2.2.1,(),(),IntKind.wrap .i64 (a2.1.2.2.2.2.2.2.2.2.2.2.1 + 1),()),a2.2)).bind fun y3 =>
 some y3) Empty.elim
 else
 some (Sum.inl ((a,b,c,(),(),(),(),d,(),(),()),(i,j,k,()),(m,n,o,p,q,(),(),(),()),r,(s,t,v,w,z,(),(),(),()),(p0,p1,p2,()),(p3,p4,p5,()),p6,p7,p8,()))
def u2 (l3 : Y7 → Option Y4) (L : Y7 → Option Y6) (x : Y7) := f2 l3 L x.1.1 x.1.2.1 x.1.2.2.1 x.1.2.2.2.2.2.2.2.1 x.1.2.2.2.2.2.2.2.2.2.2.1 x.2.1.1 x.2.1.2.1 x.2.1.2.2.1 x.2.2.1.1 x.2.2.1.2.1 x.2.2.1.2.2.1 x.2.2.1.2.2.2.1 x.2.2.1.2.2.2.2.1 x.2.2.2.1 x.2.2.2.2.1.1 x.2.2.2.2.1.2.1 x.2.2.2.2.1.2.2.1 x.2.2.2.2.1.2.2.2.1 x.2.2.2.2.1.2.2.2.2.1 x.2.2.2.2.2.1.1 x.2.2.2.2.2.1.2.1 x.2.2.2.2.2.1.2.2.1 x.2.2.2.2.2.2.1.1 x.2.2.2.2.2.2.1.2.1 x.2.2.2.2.2.2.1.2.2.1 x.2.2.2.2.2.2.2.1 x.2.2.2.2.2.2.2.2.1 x.2.2.2.2.2.2.2.2.2.1
def f1 (g2 : Y163 → Option Y139) (g4 : Y99 → Option Y160) (l2 : Y7 → Option Y6) (L : Y14 → Option Y18) (a : List Int) (b c d h i j k m n o p : Int) (q : List Bool) (r s t v w : Int) (z p0 p1 : List Y162) : Option Y18 :=
 bif decide (d < (q.length:Int)) then
 (g2 ((),())).bind fun y1 =>
 (g2 ((),())).bind fun y2 =>
 (l2 ((a,b,c,(),(),(),(),d,(),(),0,()),(h,i,j,()),(k,m,n,o,p,(),(),(),()),q,(r,s,t,v,w,(),(),(),()),y1.1.1,y2.1.1,z,p0,p1,())).bind fun y3 =>
 y3.elim (fun a4 => (g4 ((a4.2.2.2.2.2.2.1,a4.2.2.2.2.2.1,()),())).bind fun y5 =>
 bif y5.1.1 then
 bif decide ((((a4.2.2.2.2.2.2.2.1.length) + (List.length [(a4.2.2.2.2.2.2.1.1,a4.2.2.2.2.2.2.1.2.1,a4.2.2.2.2.2.2.1.2.2.1)])) * (24:Nat)) ≤ (140737488355328:Nat)) then
 bif decide ((((a4.2.2.2.2.2.2.2.2.1.length) + (List.length [(a4.2.2.2.2.2.1.1,a4.2.2.2.2.2.1.2.1,a4.2.2.2.2.2.1.2.2.1)])) * (24:Nat)) ≤ (140737488355328:Nat)) then
 bif decide ((((a4.2.2.2.2.2.2.2.2.2.1.length) + (List.length [(a4.2.2.2.2.2.2.1.1,a4.2.2.2.2.2.2.1.2.1,a4.2.2.2.2.2.2.1.2.2.1)])) * (24:Nat)) ≤ (140737488355328:Nat)) then
 (L ((a4.1.1,a4.1.2.1,a4.1.2.2.1,(),(),(),(),IntKind.wrap .i64 (a4.1.2.2.2.2.2.2.2.1 + 1),()),a4.2.1,a4.2.2.1,a4.2.2.2.1,a4.2.2.2.2.1,a4.2.2.2.2.2.2.2.1 ++ [(a4.2.2.2.2.2.2.1.1,a4.2.2.2.2.2.2.1.2.1,a4.2.2.2.2.2.2.1.2.2.1)],a4.2.2.2.2.2.2.2.2.1 ++ [(a4.2.2.2.2.2.1.1,a4.2.2.2.2.2.1.2.1,a4.2.2.2.2.2.1.2.2.1)],a4.2.2.2.2.2.2.2.2.2.1 ++ [(a4.2.2.2.2.2.2.1.1,a4.2.2.2.2.2.2.1.2.1,a4.2.2.2.2.2.2.1.2.2.1)],())).bind fun y10 =>
 some y10
 else none
 else none
 else none
 else
 bif decide ((((a4.2.2.2.2.2.2.2.1.length) + (List.length [(a4.2.2.2.2.2.1.1,a4.2.2.2.2.2.1.2.1,a4.2.2.2.2.2.1.2.2.1)])) * (24:Nat)) ≤ (140737488355328:Nat)) then
 bif decide ((((a4.2.2.2.2.2.2.2.2.1.length) + (List.length [(a4.2.2.2.2.2.1.1,a4.2.2.2.2.2.1.2.1,a4.2.2.2.2.2.1.2.2.1)])) * (24:Nat)) ≤ (140737488355328:Nat)) then
 bif decide ((((a4.2.2.2.2.2.2.2.2.2.1.length) + (List.length [(a4.2.2.2.2.2.2.1.1,a4.2.2.2.2.2.2.1.2.1,a4.2.2.2.2.2.2.1.2.2.1)])) * (24:Nat)) ≤ (140737488355328:Nat)) then
 (L ((a4.1.1,a4.1.2.1,a4.1.2.2.1,(),(),(),(),IntKind.wrap .i64 (a4.1.2.2.2.2.2.2.2.1 + 1),()),a4.2.1,a4.2.2.1,a4.2.2.2.1,a4.2.2.2.2.1,a4.2.2.2.2.2.2.2.1 ++ [(a4.2.2.2.2.2.1.1,a4.2.2.2.2.2.1.2.1,a4.2.2.2.2.2.1.2.2.1)],a4.2.2.2.2.2.2.2.2.1 ++ [(a4.2.2.2.2.2.1.1,a4.2.2.2.2.2.1.2.1,a4.2.2.2.2.2.1.2.2.1)],a4.2.2.2.2.2.2.2.2.2.1 ++ [(a4.2.2.2.2.2.2.1.1,a4.2.2.2.2.2.2.1.2.1,a4.2.2.2.2.2.2.1.2.2.1)],())).bind fun y10 =>
 some y10
 else none
 else none
 else none) Empty.elim
 else
 some (Sum.inl (((),(),()),(k,m,n,o,p,(),(),(),()),(r,s,t,v,w,(),(),(),()),z,p0,p1,()))
def u1 (g2 : Y163 → Option Y139) (g4 : Y99 → Option Y160) (l2 : Y7 → Option Y6) (L : Y14 → Option Y18) (x : Y14) := f1 g2 g4 l2 L x.1.1 x.1.2.1 x.1.2.2.1 x.1.2.2.2.2.2.2.2.1 x.2.1.1 x.2.1.2.1 x.2.1.2.2.1 x.2.2.1.1 x.2.2.1.2.1 x.2.2.1.2.2.1 x.2.2.1.2.2.2.1 x.2.2.1.2.2.2.2.1 x.2.2.2.1 x.2.2.2.2.1.1 x.2.2.2.2.1.2.1 x.2.2.2.2.1.2.2.1 x.2.2.2.2.1.2.2.2.1 x.2.2.2.2.1.2.2.2.2.1 x.2.2.2.2.2.1 x.2.2.2.2.2.2.1 x.2.2.2.2.2.2.2.1
def f (g0 : Y139 → Option Y161) (g1 : Y152 → Option Y141) (l0 : Y29 → Option Y23) (l1 : Y14 → Option Y18) (a : List Int) (b c d h i : Int) : Option Y27 :=
 (g0 (((b,c,d,()),()),())).bind fun y0 =>
 bif y0.1.1 != 0 then
 some (((0,0,0,0,0,(),(),(),()),y0.1),([]:List Y162),([]:List Y162),([]:List Y162),())
 else
 (g1 ((a,h,()),())).bind fun y2 =>
 bif y2.1.2.1 != 0 then
 some (((0,0,0,0,0,(),(),(),()),y2.1.2),([]:List Y162),([]:List Y162),([]:List Y162),())
 else
 (l0 ((a,h,i,(),(),(),()),(b,c,d,()),(0,0,0,0,0,(),(),(),()),y2.2)).bind fun y4 =>
 y4.elim (fun a5 => bif a5.1.2.2.2.2.2.2.1 then
 some (((0,0,0,0,0,(),(),(),()),29,()),([]:List Y162),([]:List Y162),([]:List Y162),())
 else
 (l1 ((a5.1.1,a5.1.2.1,a5.1.2.2.1,(),(),(),(),0,()),a5.2.1,a5.2.2.1,a5.2.2.2.1,(a5.2.1.1,a5.2.1.2.1,a5.2.1.2.2.1,a5.1.2.1,a5.1.2.2.1,(),(),(),()),([]:List Y162),([]:List Y162),([]:List Y162),())).bind fun y7 =>
 y7.elim (fun a8 => some ((a8.2.2.1,0,()),a8.2.2.2)) Empty.elim) Empty.elim
def u (g0 : Y139 → Option Y161) (g1 : Y152 → Option Y141) (l0 : Y29 → Option Y23) (l1 : Y14 → Option Y18) (x : Y101) := f g0 g1 l0 l1 x.1.1 x.1.2.1.1 x.1.2.1.2.1 x.1.2.1.2.2.1 x.1.2.2.1 x.1.2.2.2.1
section
variable (g0 : ref17_Check.G) (g1 : ref37_Windows.G) (g2 : ref37_none.G) (g3 : ref17_Distance.G) (g4 : ref37_Nearer.G) (l0 : A0) (l1 : A1) (l2 : A2) (l3 : A3) (l4 : A4) (l5 : A5)
def E : Env := ⟨T,cE [(32,[],ref17_Check.fe g0),(49,[],ref37_Windows.fe g1),(50,[],ref37_none.fe g2),(23,[],ref17_Distance.fe g3),(16,[],ref37_Nearer.fe g4)],lE [LE.of s0 x0 l0,LE.of s1 x1 l1,LE.of s2 x2 l2,LE.of s3 x3 l3,LE.of s4 x4 l4,LE.of s5 x5 l5],151,0,Gt⟩
variable {g0 g1 g2 g3 g4 l0 l1 l2 l3 l4 l5}
theorem e0 (L : A0) (x : s0.X) : rndO (E g0 g1 g2 g3 g4 l0 l1 l2 l3 l4 l5) hs c s0 x0 0 false L x = u0 x := by
 show _ = (_ : Option _)
 kernel_rfl
theorem e4 (L : A4) (x : s4.X) : rndO (E g0 g1 g2 g3 g4 l0 l1 l2 l3 l4 l5) hs c s4 x4 4 false L x = u4 x := by
 show _ = (_ : Option _)
 kernel_rfl
theorem e5 (L : A5) (x : s5.X) : rndO (E g0 g1 g2 g3 g4 l0 l1 l2 l3 l4 l5) hs c s5 x5 5 false L x = u5 g4 x := by
 show _ = (_ : Option _)
 kernel_rfl
theorem e3 (L : A3) (x : s3.X) : rndO (E g0 g1 g2 g3 g4 l0 l1 l2 l3 l4 l5) hs c s3 x3 3 false L x = u3 g3 g4 l4 l5 x := by
 show _ = (_ : Option _)
 kernel_rfl
theorem e2 (L : A2) (x : s2.X) : rndO (E g0 g1 g2 g3 g4 l0 l1 l2 l3 l4 l5) hs c s2 x2 2 true L x = u2 l3 L x := by
 show _ = (_ : Option _)
 kernel_rfl
theorem e1 (L : A1) (x : s1.X) : rndO (E g0 g1 g2 g3 g4 l0 l1 l2 l3 l4 l5) hs c s1 x1 1 true L x = u1 g2 g4 l2 L x := by
 show _ = (_ : Option _)
 kernel_rfl
theorem e (x : sh.X) : bodO (E g0 g1 g2 g3 g4 l0 l1 l2 l3 l4 l5) hs c Try.f26 sh osh x = u g0 g1 l0 l1 x := by
 show _ = (_ : Option _)
 kernel_rfl
end
noncomputable def L0 : Y29 → Option Y23 := u0
noncomputable def L4 : Y7 → Option Y3 := u4
noncomputable def L5 : Y2 → Option Y0 := u5 ref37_Nearer.F
noncomputable def L3 : Y7 → Option Y4 := u3 ref17_Distance.F ref37_Nearer.F L4 L5
noncomputable def L2 : Y7 → Option Y6 := loop (u2 L3)
noncomputable def L1 : Y14 → Option Y18 := loop (u1 ref37_none.F ref37_Nearer.F L2)
noncomputable def F : Y101 → Option Y27 := u ref17_Check.F ref37_Windows.F L0 L1
noncomputable abbrev R : Env := E ref17_Check.F ref37_Windows.F ref37_none.F ref17_Distance.F ref37_Nearer.F L0 L1 L2 L3 L4 L5
theorem L0_eq (a : List Int) (b c d h i j k m n o : Int) (p : List Bool) : L0 ((a,b,c,(),(),(),()),((d,h,i,()),(j,k,m,n,o,(),(),(),()),p,())) = f0 a b c d h i j k m n o p := rfl
theorem L1_eq (a : List Int) (b c d h i j k m n o p : Int) (q : List Bool) (r s t v w : Int) (z p0 p1 : List Y162) : L1 ((a,b,c,(),(),(),(),d,()),((h,i,j,()),(k,m,n,o,p,(),(),(),()),q,(r,s,t,v,w,(),(),(),()),z,p0,p1,())) = f1 ref37_none.F ref37_Nearer.F L2 L1 a b c d h i j k m n o p q r s t v w z p0 p1 :=
 loopE (E := R) e1 ((a,b,c,(),(),(),(),d,()),((h,i,j,()),(k,m,n,o,p,(),(),(),()),q,(r,s,t,v,w,(),(),(),()),z,p0,p1,()))
theorem L2_eq (a : List Int) (b c d h i j k m n o p q : Int) (r : List Bool) (s t v w z p0 p1 p2 p3 p4 p5 : Int) (p6 p7 p8 : List Y162) : L2 ((a,b,c,(),(),(),(),d,(),(),h,()),((i,j,k,()),(m,n,o,p,q,(),(),(),()),r,(s,t,v,w,z,(),(),(),()),(p0,p1,p2,()),(p3,p4,p5,()),p6,p7,p8,())) = f2 L3 L2 a b c d h i j k m n o p q r s t v w z p0 p1 p2 p3 p4 p5 p6 p7 p8 :=
 loopE (E := R) e2 ((a,b,c,(),(),(),(),d,(),(),h,()),((i,j,k,()),(m,n,o,p,q,(),(),(),()),r,(s,t,v,w,z,(),(),(),()),(p0,p1,p2,()),(p3,p4,p5,()),p6,p7,p8,()))
theorem L3_eq (a : List Int) (b c d h i j k m n o p q : Int) (r : List Bool) (s t v w z p0 p1 p2 p3 p4 p5 : Int) (p6 p7 p8 : List Y162) : L3 ((a,b,c,(),(),(),(),d,(),(),h,()),((i,j,k,()),(m,n,o,p,q,(),(),(),()),r,(s,t,v,w,z,(),(),(),()),(p0,p1,p2,()),(p3,p4,p5,()),p6,p7,p8,())) = f3 ref17_Distance.F ref37_Nearer.F L4 L5 a b c d h i j k m n o p q r s t v w z p0 p1 p2 p3 p4 p5 p6 p7 p8 := rfl
theorem L4_eq (a : List Int) (b c d h i j k m n o p q : Int) (r : List Bool) (s t v w z p0 p1 p2 p3 p4 p5 : Int) (p6 p7 p8 : List Y162) : L4 ((a,b,c,(),(),(),(),d,(),(),h,()),((i,j,k,()),(m,n,o,p,q,(),(),(),()),r,(s,t,v,w,z,(),(),(),()),(p0,p1,p2,()),(p3,p4,p5,()),p6,p7,p8,())) = f4 a b c d h i j k m n o p q r s t v w z p0 p1 p2 p3 p4 p5 p6 p7 p8 := rfl
theorem L5_eq (a : List Int) (b c d h i j k m n o p q : Int) (r : List Bool) (s t v w z p0 p1 p2 p3 p4 p5 p6 p7 p8 : Int) (p9 p10 p11 : List Y162) : L5 ((a,b,c,(),(),(),(),d,(),(),h,(),()),((i,j,k,()),(m,n,o,p,q,(),(),(),()),r,(s,t,v,w,z,(),(),(),()),(p0,p1,p2,()),(p3,p4,p5,()),(p6,p7,p8,()),p9,p10,p11,())) = f5 ref37_Nearer.F a b c d h i j k m n o p q r s t v w z p0 p1 p2 p3 p4 p5 p6 p7 p8 p9 p10 p11 := rfl
theorem F_eq (a : List Int) (b c d h i : Int) : F ((a,(b,c,d,()),h,i,()),()) = f ref17_Check.F ref37_Windows.F L0 L1 a b c d h i := rfl
theorem ok {tabs} (ht : TabsOk tabs) : FOK Try.prog tabs 26 (fe F) :=
 fn_keep3 (E := R) (hs := hs) Try.func26 e pw tb (gt_ok ht) (by kernel_rfl) (by kernel_rfl) rfl ⟨ref17_Check.ok ht,ref37_Windows.ok ht,ref37_none.ok ht,ref17_Distance.ok ht,ref37_Nearer.ok ht,trivial⟩ 6 (by kernel_rfl) ⟨cA e0 (by kernel_rfl) (by kernel_rfl),lA e1 (by kernel_rfl) (by kernel_rfl),lA e2 (by kernel_rfl) (by kernel_rfl),cA e3 (by kernel_rfl) (by kernel_rfl),cA e4 (by kernel_rfl) (by kernel_rfl),cA e5 (by kernel_rfl) (by kernel_rfl),trivial⟩
end ref37_Of
/-! second_Deck_Profile -/
namespace second_Deck_Profile
noncomputable def c : Go.Code := Try.f11.body.getD .skip
abbrev sh : Sh := ⟨[q15, q13], [q3]⟩
abbrev osh : Sh := ⟨[.agg [.pv (.int .i64), .pv (.int .i64), .pv (.int .i64), .pv (.int .i64), .pv (.int .i64), .is (.own 1), .is (.own 2), .is (.own 3)], .one (.is (.own 4))], [q3, .row 31 (.pair (.int .i64) (.pair (.int .i64) (.int .i64))), .row 31 (.pair (.int .i64) (.pair (.int .i64) (.int .i64))), .row 31 (.pair (.int .i64) (.pair (.int .i64) (.int .i64))), .row 3 (.int .i64)]⟩
abbrev G := sh.X → Option osh.X
abbrev fe (g : G) : FE := FE.of [true,true] true sh osh g
def f (g0 : Y119 → Option Y131) (g1 : Y119 → Option Y110) (g2 : Y119 → Option Y97) (g3 : Y129 → Option Y131) (g4 : Y101 → Option Y27) (a : Int) (b : List Int) (c : Int) : Option Y20 :=
 (g0 (((),IntKind.wrap .i64 (a + 1),()),(b,c,()),())).bind fun y0 =>
 (g1 (((),y0.1),y0.2)).bind fun y1 =>
 (g2 (((),0,()),y1.2.1,())).bind fun y2 =>
 (g3 (((),()),y2.2)).bind fun y3 =>
 (g0 (((),5,()),y3.2)).bind fun y4 =>
 (g4 ((y1.2.2.1,y2.1.1,y3.1.1,IntKind.wrap .i64 (1 + y4.1.1),()),())).bind fun y5 =>
 some ((y5.1.1,(),()),y4.2.1,y5.2.1,y5.2.2.1,y5.2.2.2.1,y1.2.2)
def u (g0 : Y119 → Option Y131) (g1 : Y119 → Option Y110) (g2 : Y119 → Option Y97) (g3 : Y129 → Option Y131) (g4 : Y101 → Option Y27) (x : Y119) := f g0 g1 g2 g3 g4 x.1.2.1 x.2.1.1 x.2.1.2.1
section
variable (g0 : second_Deck_Next.G) (g1 : second_Deck_Values.G) (g2 : second_Deck_Measure.G) (g3 : second_Deck_Length.G) (g4 : ref37_Of.G)
def E : Env := ⟨T,cE [(18,[],second_Deck_Next.fe g0),(17,[],second_Deck_Values.fe g1),(19,[],second_Deck_Measure.fe g2),(20,[],second_Deck_Length.fe g3),(26,[],ref37_Of.fe g4)],lE [],29,1,Gt⟩
variable {g0 g1 g2 g3 g4}
theorem e (x : sh.X) : bodO (E g0 g1 g2 g3 g4) [] c Try.f11 sh osh x = u g0 g1 g2 g3 g4 x := by
 show _ = (_ : Option _)
 kernel_rfl
end
noncomputable def F : Y119 → Option Y20 := u second_Deck_Next.F second_Deck_Values.F second_Deck_Measure.F second_Deck_Length.F ref37_Of.F
noncomputable abbrev R : Env := E second_Deck_Next.F second_Deck_Values.F second_Deck_Measure.F second_Deck_Length.F ref37_Of.F
theorem F_eq (a : Int) (b : List Int) (c : Int) : F (((),a,()),((b,c,()),())) = f second_Deck_Next.F second_Deck_Values.F second_Deck_Measure.F second_Deck_Length.F ref37_Of.F a b c := rfl
theorem ok {tabs} (ht : TabsOk tabs) : FOK Try.prog tabs 11 (fe F) :=
 fn_keep3 (E := R) (hs := []) Try.func11 e pw tb (gt_ok ht) (by kernel_rfl) (by kernel_rfl) rfl ⟨second_Deck_Next.ok ht,second_Deck_Values.ok ht,second_Deck_Measure.ok ht,second_Deck_Length.ok ht,ref37_Of.ok ht,trivial⟩ 0 (by kernel_rfl) trivial
end second_Deck_Profile
/-! ref37_right -/
namespace ref37_right
noncomputable def c : Go.Code := Try.f33.body.getD .skip
abbrev sh : Sh := ⟨[q10, q13, q13, q13, q16, q16], []⟩
abbrev osh : Sh := ⟨[q16], []⟩
abbrev G := sh.X → Option osh.X
abbrev fe (g : G) : FE := FE.of [true,true,true,true,true,true] false sh osh g
abbrev s0 : Sh := ⟨[q13, q13, q13, q16, q16, q15], [q0]⟩
abbrev x0 : List (Ex × Sh) := [(.normal, ⟨[q13, q13, q16, q16, q15, q16], [q0]⟩)]
abbrev A0 := s0.X → Option (sumX x0)
def hs : List Hint := [⟨[0,0,1,1],0,[1,2,3,4,5,6],[(0,[1,3,4,5,6,34])]⟩]
def f0 (g0 : Y149 → Option Y160) (a b c : Int) (d h : Bool) (i j k : Int) : Option Y64 :=
 bif decide (i < 0) then
 some (Sum.inl ((a,c,d,h,(),true,()),(i,j,k,()),()))
 else
 bif decide (i ≥ b) then
 some (Sum.inl ((a,c,d,h,(),true,()),(i,j,k,()),()))
 else
 (g0 (((j,k,()),()),())).bind fun y2 =>
 some (Sum.inl ((a,c,d,h,(),!y2.1.1,()),(i,j,k,()),()))
def u0 (g0 : Y149 → Option Y160) (x : Y78) := f0 g0 x.1.1 x.1.2.1 x.1.2.2.1 x.1.2.2.2.1 x.1.2.2.2.2.1 x.2.1.1 x.2.1.2.1 x.2.1.2.2.1
def f (l0 : Y78 → Option Y64) (a b c d h i : Int) (j k : Bool) : Option Y160 :=
 bif a == -1 then
 some ((b == 0 && (c == 1 && true),()),())
 else
 (l0 ((d,h,i,j,k,(),()),(a,b,c,()),())).bind fun y1 =>
 y1.elim (fun a2 => bif a2.1.2.2.2.2.2.1 then
 some ((false,()),())
 else
 bif a2.1.2.2.1 then
 bif decide (a2.2.1.1 ≤ IntKind.wrap .i64 (a2.1.1 - a2.1.2.1)) then
 some ((true,()),())
 else
 bif a2.1.2.2.2.1 then
 some ((decide (a2.2.1.1 ≥ IntKind.wrap .i64 (a2.1.1 + a2.1.2.1)),()),())
 else
 some ((false,()),())
 else
 bif a2.1.2.2.2.1 then
 some ((decide (a2.2.1.1 ≥ IntKind.wrap .i64 (a2.1.1 + a2.1.2.1)),()),())
 else
 some ((false,()),())) Empty.elim
def u (l0 : Y78 → Option Y64) (x : Y89) := f l0 x.1.1.1 x.1.1.2.1 x.1.1.2.2.1 x.1.2.1 x.1.2.2.1 x.1.2.2.2.1 x.1.2.2.2.2.1 x.1.2.2.2.2.2.1
section
variable (g0 : ref01_Valid.G) (l0 : A0)
def E : Env := ⟨T,cE [(54,[],ref01_Valid.fe g0)],lE [LE.of s0 x0 l0],55,0,Gt⟩
variable {g0 l0}
theorem e0 (L : A0) (x : s0.X) : rndO (E g0 l0) hs c s0 x0 0 false L x = u0 g0 x := by
 show _ = (_ : Option _)
 kernel_rfl
theorem e (x : sh.X) : bodO (E g0 l0) hs c Try.f33 sh osh x = u l0 x := by
 show _ = (_ : Option _)
 kernel_rfl
end
noncomputable def L0 : Y78 → Option Y64 := u0 ref01_Valid.F
noncomputable def F : Y89 → Option Y160 := u L0
noncomputable abbrev R : Env := E ref01_Valid.F L0
theorem L0_eq (a b c : Int) (d h : Bool) (i j k : Int) : L0 ((a,b,c,d,h,(),()),((i,j,k,()),())) = f0 ref01_Valid.F a b c d h i j k := rfl
theorem F_eq (a b c d h i : Int) (j k : Bool) : F (((a,b,c,()),d,h,i,j,k,()),()) = f L0 a b c d h i j k := rfl
theorem ok {tabs} (ht : TabsOk tabs) : FOK Try.prog tabs 33 (fe F) :=
 fn_keep3 (E := R) (hs := hs) Try.func33 e pw tb (gt_ok ht) (by kernel_rfl) (by kernel_rfl) rfl ⟨ref01_Valid.ok ht,trivial⟩ 1 (by kernel_rfl) ⟨cA e0 (by kernel_rfl) (by kernel_rfl),trivial⟩
end ref37_right
/-! ref37_Valid -/
namespace ref37_Valid
noncomputable def c : Go.Code := Try.f14.body.getD .skip
abbrev sh : Sh := ⟨[q11], []⟩
abbrev osh : Sh := ⟨[q16], []⟩
abbrev G := sh.X → Option osh.X
abbrev fe (g : G) : FE := FE.of [true] false sh osh g
abbrev s0 : Sh := ⟨[q15, q13], [q4]⟩
abbrev x0 : List (Ex × Sh) := [(.normal, ⟨[q15, q13, q16], [q4]⟩)]
abbrev A0 := s0.X → Option (sumX x0)
abbrev s1 : Sh := ⟨[q15, q13, q13], [q4]⟩
abbrev x1 : List (Ex × Sh) := [(.exit 0, ⟨[], []⟩), (.ret, ⟨[q16], []⟩)]
abbrev A1 := s1.X → Option (sumX x1)
abbrev s2 : Sh := ⟨[q15, q13, q13], [q4]⟩
abbrev x2 : List (Ex × Sh) := [(.normal, ⟨[q15, q13, q13, q16], [q4]⟩)]
abbrev A2 := s2.X → Option (sumX x2)
def hs : List Hint := [⟨[0,0,1,1],0,[1,3],[(0,[1,3,50])]⟩,⟨[0,1,0,1,1,1],1,[1,3,4],[(2,[]),(1,[2])]⟩,⟨[0,0,0,0,1,0,0,1,0,1,1,1],2,[1,3,4],[(0,[1,3,4,79])]⟩]
def f0 (g0 : Y139 → Option Y161) (a b c d h i : Int) (j k m : List Y162) : Option Y26 :=
 (g0 (((b,c,d,()),()),())).bind fun y0 =>
 bif y0.1.1 != 0 then
 some (Sum.inl (((),a,true,()),(b,c,d,h,i,j,k,m,()),()))
 else
 bif decide (h < 2) then
 some (Sum.inl (((),a,true,()),(b,c,d,h,i,j,k,m,()),()))
 else
 bif decide (h > 32) then
 some (Sum.inl (((),a,true,()),(b,c,d,h,i,j,k,m,()),()))
 else
 bif decide (i < 1) then
 some (Sum.inl (((),a,true,()),(b,c,d,h,i,j,k,m,()),()))
 else
 bif decide (i > 64) then
 some (Sum.inl (((),a,true,()),(b,c,d,h,i,j,k,m,()),()))
 else
 bif decide (a > 2000) then
 some (Sum.inl (((),a,true,()),(b,c,d,h,i,j,k,m,()),()))
 else
 bif (k.length:Int) != a then
 some (Sum.inl (((),a,true,()),(b,c,d,h,i,j,k,m,()),()))
 else
 some (Sum.inl (((),a,(m.length:Int) != a,()),(b,c,d,h,i,j,k,m,()),()))
def u0 (g0 : Y139 → Option Y161) (x : Y31) := f0 g0 x.1.2.1 x.2.1.1 x.2.1.2.1 x.2.1.2.2.1 x.2.1.2.2.2.1 x.2.1.2.2.2.2.1 x.2.1.2.2.2.2.2.1 x.2.1.2.2.2.2.2.2.1 x.2.1.2.2.2.2.2.2.2.1
def f2 (g1 : Y89 → Option Y160) (a b c d h i j : Int) (k m n : List Y162) : Option Y24 :=
 bif decide (0 ≤ b) then
 bif decide (b < (m.length:Int)) then
 (g1 ((((m.getD (b.toNat) (0,0,0)).1,(m.getD (b.toNat) (0,0,0)).2.1,(m.getD (b.toNat) (0,0,0)).2.2,()),b,a,j,true,false,()),())).bind fun y2 =>
 bif !y2.1.1 then
 some (Sum.inl (((),a,b,true,()),(c,d,h,i,j,k,m,n,()),()))
 else
 bif decide (0 ≤ b) then
 bif decide (b < (n.length:Int)) then
 (g1 ((((n.getD (b.toNat) (0,0,0)).1,(n.getD (b.toNat) (0,0,0)).2.1,(n.getD (b.toNat) (0,0,0)).2.2,()),b,a,j,false,true,()),())).bind fun y6 =>
 some (Sum.inl (((),a,b,!y6.1.1,()),(c,d,h,i,j,k,m,n,()),()))
 else none
 else none
 else none
 else none
def u2 (g1 : Y89 → Option Y160) (x : Y30) := f2 g1 x.1.2.1 x.1.2.2.1 x.2.1.1 x.2.1.2.1 x.2.1.2.2.1 x.2.1.2.2.2.1 x.2.1.2.2.2.2.1 x.2.1.2.2.2.2.2.1 x.2.1.2.2.2.2.2.2.1 x.2.1.2.2.2.2.2.2.2.1
def f1 (g2 : Y99 → Option Y160) (l2 : Y30 → Option Y24) (L : Y30 → Option Y125) (a b c d h i j : Int) (k m n : List Y162) : Option Y125 :=
 bif decide (b < a) then
 (l2 (((),a,b,()),(c,d,h,i,j,k,m,n,()),())).bind fun y1 =>
 y1.elim (fun a2 => bif a2.1.2.2.2.1 then
 some (Sum.inr (Sum.inl ((false,()),())))
 else
 bif decide (0 ≤ a2.1.2.2.1) then
 bif decide (a2.1.2.2.1 < (a2.2.1.2.2.2.2.2.2.1.length:Int)) then
 bif decide (0 ≤ a2.1.2.2.1) then
 bif decide (a2.1.2.2.1 < (a2.2.1.2.2.2.2.2.2.2.1.length:Int)) then
 (g2 ((((a2.2.1.2.2.2.2.2.2.2.1.getD (a2.1.2.2.1.toNat) (0,0,0)).1,(a2.2.1.2.2.2.2.2.2.2.1.getD (a2.1.2.2.1.toNat) (0,0,0)).2.1,(a2.2.1.2.2.2.2.2.2.2.1.getD (a2.1.2.2.1.toNat) (0,0,0)).2.2,()),((a2.2.1.2.2.2.2.2.2.1.getD (a2.1.2.2.1.toNat) (0,0,0)).1,(a2.2.1.2.2.2.2.2.2.1.getD (a2.1.2.2.1.toNat) (0,0,0)).2.1,(a2.2.1.2.2.2.2.2.2.1.getD (a2.1.2.2.1.toNat) (0,0,0)).2.2,()),()),())).bind fun y8 =>
 bif y8.1.1 then
 bif decide (0 ≤ a2.1.2.2.1) then
 bif decide (a2.1.2.2.1 < (a2.2.1.2.2.2.2.2.2.2.1.length:Int)) then
 bif decide (0 ≤ a2.1.2.2.1) then
 bif decide (a2.1.2.2.1 < (a2.2.1.2.2.2.2.2.1.length:Int)) then
 bif !((a2.2.1.2.2.2.2.2.1.getD (a2.1.2.2.1.toNat) (0,0,0)).1 == (a2.2.1.2.2.2.2.2.2.2.1.getD (a2.1.2.2.1.toNat) (0,0,0)).1 && (((a2.2.1.2.2.2.2.2.1.getD (a2.1.2.2.1.toNat) (0,0,0)).2.1 == (a2.2.1.2.2.2.2.2.2.2.1.getD (a2.1.2.2.1.toNat) (0,0,0)).2.1 && ((a2.2.1.2.2.2.2.2.1.getD (a2.1.2.2.1.toNat) (0,0,0)).2.2 == (a2.2.1.2.2.2.2.2.2.2.1.getD (a2.1.2.2.1.toNat) (0,0,0)).2.2 && true)) && true)) then
 some (Sum.inr (Sum.inl ((false,()),())))
 else
 (L (((),a2.1.2.1,IntKind.wrap .i64 (a2.1.2.2.1 + 1),()),a2.2)).bind fun y15 =>
 some y15
 else none
 else none
 else none
 else none
 else
 bif decide (0 ≤ a2.1.2.2.1) then
 bif decide (a2.1.2.2.1 < (a2.2.1.2.2.2.2.2.1.length:Int)) then
 bif !((a2.2.1.2.2.2.2.2.1.getD (a2.1.2.2.1.toNat) (0,0,0)).1 == (a2.2.1.2.2.2.2.2.2.1.getD (a2.1.2.2.1.toNat) (0,0,0)).1 && (((a2.2.1.2.2.2.2.2.1.getD (a2.1.2.2.1.toNat) (0,0,0)).2.1 == (a2.2.1.2.2.2.2.2.2.1.getD (a2.1.2.2.1.toNat) (0,0,0)).2.1 && ((a2.2.1.2.2.2.2.2.1.getD (a2.1.2.2.1.toNat) (0,0,0)).2.2 == (a2.2.1.2.2.2.2.2.2.1.getD (a2.1.2.2.1.toNat) (0,0,0)).2.2 && true)) && true)) then
 some (Sum.inr (Sum.inl ((false,()),())))
 else
 (L (((),a2.1.2.1,IntKind.wrap .i64 (a2.1.2.2.1 + 1),()),a2.2)).bind fun y13 =>
 some y13
 else none
 else none
 else none
 else none
 else none
 else none) Empty.elim
 else
 some (Sum.inl ((),()))
def u1 (g2 : Y99 → Option Y160) (l2 : Y30 → Option Y24) (L : Y30 → Option Y125) (x : Y30) := f1 g2 l2 L x.1.2.1 x.1.2.2.1 x.2.1.1 x.2.1.2.1 x.2.1.2.2.1 x.2.1.2.2.2.1 x.2.1.2.2.2.2.1 x.2.1.2.2.2.2.2.1 x.2.1.2.2.2.2.2.2.1 x.2.1.2.2.2.2.2.2.2.1
def f (l0 : Y31 → Option Y26) (l1 : Y30 → Option Y125) (a b c d h : Int) (i j k : List Y162) : Option Y160 :=
 (l0 (((),(i.length:Int),()),(a,b,c,d,h,i,j,k,()),())).bind fun y0 =>
 y0.elim (fun a1 => bif a1.1.2.2.1 then
 some ((false,()),())
 else
 (l1 (((),a1.1.2.1,0,()),a1.2)).bind fun y3 =>
 y3.elim (fun a4 => some ((true,()),())) (fun b4 => b4.elim (fun a5 => some a5) Empty.elim)) Empty.elim
def u (l0 : Y31 → Option Y26) (l1 : Y30 → Option Y125) (x : Y34) := f l0 l1 x.1.1.1 x.1.1.2.1 x.1.1.2.2.1 x.1.1.2.2.2.1 x.1.1.2.2.2.2.1 x.1.1.2.2.2.2.2.1 x.1.1.2.2.2.2.2.2.1 x.1.1.2.2.2.2.2.2.2.1
section
variable (g0 : ref17_Check.G) (g1 : ref37_right.G) (g2 : ref37_Nearer.G) (l0 : A0) (l1 : A1) (l2 : A2)
def E : Env := ⟨T,cE [(32,[],ref17_Check.fe g0),(33,[],ref37_right.fe g1),(16,[],ref37_Nearer.fe g2)],lE [LE.of s0 x0 l0,LE.of s1 x1 l1,LE.of s2 x2 l2],104,0,Gt⟩
variable {g0 g1 g2 l0 l1 l2}
theorem e0 (L : A0) (x : s0.X) : rndO (E g0 g1 g2 l0 l1 l2) hs c s0 x0 0 false L x = u0 g0 x := by
 show _ = (_ : Option _)
 kernel_rfl
theorem e2 (L : A2) (x : s2.X) : rndO (E g0 g1 g2 l0 l1 l2) hs c s2 x2 2 false L x = u2 g1 x := by
 show _ = (_ : Option _)
 kernel_rfl
theorem e1 (L : A1) (x : s1.X) : rndO (E g0 g1 g2 l0 l1 l2) hs c s1 x1 1 true L x = u1 g2 l2 L x := by
 show _ = (_ : Option _)
 kernel_rfl
theorem e (x : sh.X) : bodO (E g0 g1 g2 l0 l1 l2) hs c Try.f14 sh osh x = u l0 l1 x := by
 show _ = (_ : Option _)
 kernel_rfl
end
noncomputable def L0 : Y31 → Option Y26 := u0 ref17_Check.F
noncomputable def L2 : Y30 → Option Y24 := u2 ref37_right.F
noncomputable def L1 : Y30 → Option Y125 := loop (u1 ref37_Nearer.F L2)
noncomputable def F : Y34 → Option Y160 := u L0 L1
noncomputable abbrev R : Env := E ref17_Check.F ref37_right.F ref37_Nearer.F L0 L1 L2
theorem L0_eq (a b c d h i : Int) (j k m : List Y162) : L0 (((),a,()),((b,c,d,h,i,j,k,m,()),())) = f0 ref17_Check.F a b c d h i j k m := rfl
theorem L1_eq (a b c d h i j : Int) (k m n : List Y162) : L1 (((),a,b,()),((c,d,h,i,j,k,m,n,()),())) = f1 ref37_Nearer.F L2 L1 a b c d h i j k m n :=
 loopE (E := R) e1 (((),a,b,()),((c,d,h,i,j,k,m,n,()),()))
theorem L2_eq (a b c d h i j : Int) (k m n : List Y162) : L2 (((),a,b,()),((c,d,h,i,j,k,m,n,()),())) = f2 ref37_right.F a b c d h i j k m n := rfl
theorem F_eq (a b c d h : Int) (i j k : List Y162) : F (((a,b,c,d,h,i,j,k,()),()),()) = f L0 L1 a b c d h i j k := rfl
theorem ok {tabs} (ht : TabsOk tabs) : FOK Try.prog tabs 14 (fe F) :=
 fn_keep3 (E := R) (hs := hs) Try.func14 e pw tb (gt_ok ht) (by kernel_rfl) (by kernel_rfl) rfl ⟨ref17_Check.ok ht,ref37_right.ok ht,ref37_Nearer.ok ht,trivial⟩ 3 (by kernel_rfl) ⟨cA e0 (by kernel_rfl) (by kernel_rfl),lA e1 (by kernel_rfl) (by kernel_rfl),cA e2 (by kernel_rfl) (by kernel_rfl),trivial⟩
end ref37_Valid
/-! law37_ProfileValid -/
namespace law37_ProfileValid
noncomputable def c : Go.Code := Try.f3.body.getD .skip
abbrev sh : Sh := ⟨[q14, q11, q10, q10, q13, q13, q13], []⟩
abbrev osh : Sh := ⟨[q16], []⟩
abbrev G := sh.X → Option osh.X
abbrev fe (g : G) : FE := FE.of [true,true,true,true,true,true,true] false sh osh g
abbrev s0 : Sh := ⟨[q14, q13, q13, q13, q15, q17, q26], [q4, q0, q0]⟩
abbrev x0 : List (Ex × Sh) := [(.normal, ⟨[q14, q13, q13, q13, q15, q17, q26, q16], [q4, q0, q0]⟩)]
abbrev A0 := s0.X → Option (sumX x0)
abbrev s1 : Sh := ⟨[q13, q13, q13, q15, q17, q26, q20, q13, q16], [q4, q0, q0, q5, .row 31 (.pair (.int .i64) (.pair (.int .i64) (.int .i64))), .row 31 (.pair (.int .i64) (.pair (.int .i64) (.int .i64))), .row 31 (.pair (.int .i64) (.pair (.int .i64) (.int .i64)))]⟩
abbrev x1 : List (Ex × Sh) := [(.normal, ⟨[q15, q17, q26, q20], [q4, q0, q0, .box [.pv (.int .i64), .pv (.int .i64), .pv (.int .i64), .pv (.int .i64), .pv (.int .i64), .pv (.list (.pair (.int .i64) (.pair (.int .i64) (.int .i64)))), .is (.own 4), .is (.own 5)], .row 31 (.pair (.int .i64) (.pair (.int .i64) (.int .i64))), .row 31 (.pair (.int .i64) (.pair (.int .i64) (.int .i64)))]⟩)]
abbrev A1 := s1.X → Option (sumX x1)
def hs : List Hint := [⟨[0,0,1],0,[0,4,5,6,8,9,10],[(0,[0,4,5,6,8,9,10,35])]⟩,⟨[1,1,0,1,1,1],1,[4,5,6,8,9,10,15,17,47],[(0,[8,9,10,15])]⟩]
def f0 (g0 : Y156 → Option Y160) (a : List Int) (b c d h i j k m : Int) (n o p : List Y162) (q r s t v w : Int) : Option Y15 :=
 (g0 ((a,()),())).bind fun y0 =>
 bif !y0.1.1 then
 some (Sum.inl ((a,b,c,d,(),(),(),true,()),(h,i,j,k,m,n,o,p,()),(q,r,s,()),(t,v,w,()),()))
 else
 some (Sum.inl ((a,b,c,d,(),(),(),decide (IntKind.wrap .i64 ((IntKind.wrap .i64 ((n.length:Int) + (o.length:Int))) + (p.length:Int)) > 300),()),(h,i,j,k,m,n,o,p,()),(q,r,s,()),(t,v,w,()),()))
def u0 (g0 : Y156 → Option Y160) (x : Y17) := f0 g0 x.1.1 x.1.2.1 x.1.2.2.1 x.1.2.2.2.1 x.2.1.1 x.2.1.2.1 x.2.1.2.2.1 x.2.1.2.2.2.1 x.2.1.2.2.2.2.1 x.2.1.2.2.2.2.2.1 x.2.1.2.2.2.2.2.2.1 x.2.1.2.2.2.2.2.2.2.1 x.2.2.1.1 x.2.2.1.2.1 x.2.2.1.2.2.1 x.2.2.2.1.1 x.2.2.2.1.2.1 x.2.2.2.1.2.2.1
def f1 (g4 : Y158 → Option Y161) (a b c d : Int) (h : Bool) (i j k m n : Int) (o p q : List Y162) (r s t v w z p0 p1 p2 p3 p4 : Int) (p5 p6 p7 : List Y162) : Option Y8 :=
 bif h then
 (g4 ((b,d,()),())).bind fun y1 =>
 (g4 ((a,12,()),())).bind fun y2 =>
 bif y2.1.1 == 0 then
 (g4 ((c,IntKind.wrap .i64 (d + 2),()),())).bind fun y4 =>
 bif decide (0 ≤ y1.1.1) then
 bif decide (y1.1.1 < (p5.length:Int)) then
 some (Sum.inl (((),(),(),(),()),(i,j,k,m,n,o,p,q,()),(r,s,t,()),(v,w,z,()),(p0,p1,p2,p3,p4,p5.set (y1.1.1.toNat) (IntKind.wrap .i64 (y4.1.1 - 1),(p5.getD (y1.1.1.toNat) (0,0,0)).2.1,(p5.getD (y1.1.1.toNat) (0,0,0)).2.2),(),(),()),p6,p7,()))
 else none
 else none
 else
 bif y2.1.1 == 1 then
 (g4 ((c,IntKind.wrap .i64 (d + 2),()),())).bind fun y5 =>
 bif decide (0 ≤ y1.1.1) then
 bif decide (y1.1.1 < (p6.length:Int)) then
 some (Sum.inl (((),(),(),(),()),(i,j,k,m,n,o,p,q,()),(r,s,t,()),(v,w,z,()),(p0,p1,p2,p3,p4,p5,(),(),()),p6.set (y1.1.1.toNat) (IntKind.wrap .i64 (y5.1.1 - 1),(p6.getD (y1.1.1.toNat) (0,0,0)).2.1,(p6.getD (y1.1.1.toNat) (0,0,0)).2.2),p7,()))
 else none
 else none
 else
 bif y2.1.1 == 2 then
 (g4 ((c,IntKind.wrap .i64 (d + 2),()),())).bind fun y6 =>
 bif decide (0 ≤ y1.1.1) then
 bif decide (y1.1.1 < (p7.length:Int)) then
 some (Sum.inl (((),(),(),(),()),(i,j,k,m,n,o,p,q,()),(r,s,t,()),(v,w,z,()),(p0,p1,p2,p3,p4,p5,(),(),()),p6,p7.set (y1.1.1.toNat) (IntKind.wrap .i64 (y6.1.1 - 1),(p7.getD (y1.1.1.toNat) (0,0,0)).2.1,(p7.getD (y1.1.1.toNat) (0,0,0)).2.2),()))
 else none
 else none
 else
 bif y2.1.1 == 3 then
 (g4 ((c,30,()),())).bind fun y7 =>
 bif decide (0 ≤ y1.1.1) then
 bif decide (y1.1.1 < (p5.length:Int)) then
 some (Sum.inl (((),(),(),(),()),(i,j,k,m,n,o,p,q,()),(r,s,t,()),(v,w,z,()),(p0,p1,p2,p3,p4,p5.set (y1.1.1.toNat) ((p5.getD (y1.1.1.toNat) (0,0,0)).1,y7.1.1,(p5.getD (y1.1.1.toNat) (0,0,0)).2.2),(),(),()),p6,p7,()))
 else none
 else none
 else
 bif y2.1.1 == 4 then
 (g4 ((c,30,()),())).bind fun y8 =>
 (g4 ((c,3,()),())).bind fun y9 =>
 bif decide (0 ≤ y1.1.1) then
 bif decide (y1.1.1 < (p6.length:Int)) then
 some (Sum.inl (((),(),(),(),()),(i,j,k,m,n,o,p,q,()),(r,s,t,()),(v,w,z,()),(p0,p1,p2,p3,p4,p5,(),(),()),p6.set (y1.1.1.toNat) ((p6.getD (y1.1.1.toNat) (0,0,0)).1,y8.1.1,y9.1.1),p7,()))
 else none
 else none
 else
 bif y2.1.1 == 5 then
 (g4 ((c,9,()),())).bind fun y9 =>
 some (Sum.inl (((),(),(),(),()),(i,j,k,m,n,o,p,q,()),(r,s,t,()),(v,w,z,()),(p0,p1,p2,p3,y9.1.1,p5,(),(),()),p6,p7,()))
 else
 bif y2.1.1 == 6 then
 (g4 ((c,35,()),())).bind fun y10 =>
 some (Sum.inl (((),(),(),(),()),(i,j,k,m,n,o,p,q,()),(r,s,t,()),(v,w,z,()),(p0,p1,p2,y10.1.1,p4,p5,(),(),()),p6,p7,()))
 else
 bif y2.1.1 == 7 then
 bif decide (1 ≤ (p5.length:Int)) then
 some (Sum.inl (((),(),(),(),()),(i,j,k,m,n,o,p,q,()),(r,s,t,()),(v,w,z,()),(p0,p1,p2,p3,p4,List.drop (Int.toNat 1) (List.take (Int.toNat (p5.length:Int)) p5),(),(),()),p6,p7,()))
 else none
 else
 bif y2.1.1 == 8 then
 some (Sum.inl (((),(),(),(),()),(i,j,k,m,n,o,p,q,()),(r,s,t,()),(v,w,z,()),(c,p1,p2,p3,p4,p5,(),(),()),p6,p7,()))
 else
 bif y2.1.1 == 9 then
 bif decide (0 ≤ y1.1.1) then
 bif decide (y1.1.1 < (p7.length:Int)) then
 bif decide (0 ≤ y1.1.1) then
 bif decide (y1.1.1 < (p5.length:Int)) then
 some (Sum.inl (((),(),(),(),()),(i,j,k,m,n,o,p,q,()),(r,s,t,()),(v,w,z,()),(p0,p1,p2,p3,p4,p5.set (y1.1.1.toNat) ((p7.getD (y1.1.1.toNat) (0,0,0)).1,(p7.getD (y1.1.1.toNat) (0,0,0)).2.1,(p7.getD (y1.1.1.toNat) (0,0,0)).2.2),(),(),()),p6,p7,()))
 else none
 else none
 else none
 else none
 else
 some (Sum.inl (((),(),(),(),()),(i,j,k,m,n,o,p,q,()),(r,s,t,()),(v,w,z,()),(p0,p1,p2,p3,p4,p5,(),(),()),p6,p7,()))
 else
 some (Sum.inl (((),(),(),(),()),(i,j,k,m,n,o,p,q,()),(r,s,t,()),(v,w,z,()),(p0,p1,p2,p3,p4,p5,(),(),()),p6,p7,()))
def u1 (g4 : Y158 → Option Y161) (x : Y5) := f1 g4 x.1.1 x.1.2.1 x.1.2.2.1 x.1.2.2.2.2.2.2.2.1 x.1.2.2.2.2.2.2.2.2.1 x.2.1.1 x.2.1.2.1 x.2.1.2.2.1 x.2.1.2.2.2.1 x.2.1.2.2.2.2.1 x.2.1.2.2.2.2.2.1 x.2.1.2.2.2.2.2.2.1 x.2.1.2.2.2.2.2.2.2.1 x.2.2.1.1 x.2.2.1.2.1 x.2.2.1.2.2.1 x.2.2.2.1.1 x.2.2.2.1.2.1 x.2.2.2.1.2.2.1 x.2.2.2.2.1.1 x.2.2.2.2.1.2.1 x.2.2.2.2.1.2.2.1 x.2.2.2.2.1.2.2.2.1 x.2.2.2.2.1.2.2.2.2.1 x.2.2.2.2.2.1 x.2.2.2.2.2.2.1 x.2.2.2.2.2.2.2.1
def f (g1 : Y163 → Option Y160) (g2 : Y156 → Option Y129) (g3 : Y119 → Option Y20) (g5 : Y34 → Option Y160) (g6 : Y34 → Option Y160) (g7 : Y99 → Option Y160) (g8 : Y99 → Option Y160) (l0 : Y17 → Option Y15) (l1 : Y5 → Option Y8) (a : List Int) (b c d h i : Int) (j k m : List Y162) (n o p q r s t v w : Int) : Option Y160 :=
 (l0 ((a,t,v,w,(),(),(),()),(b,c,d,h,i,j,k,m,()),(n,o,p,()),(q,r,s,()),())).bind fun y0 =>
 y0.elim (fun a1 => bif a1.1.2.2.2.2.2.2.2.1 then
 (g1 ((),())).bind fun y3 =>
 some y3
 else
 (g2 ((a1.1.1,()),())).bind fun y3 =>
 (g3 (((),24,()),y3.2)).bind fun y4 =>
 (l1 ((a1.1.2.1,a1.1.2.2.1,a1.1.2.2.2.1,(),(),(),(),(y4.2.2.1.length:Int),decide ((y4.2.2.1.length:Int) > 0),()),a1.2.1,a1.2.2.1,a1.2.2.2.1,y4.1.1,y4.2.2.1,y4.2.2.2.1,y4.2.2.2.2.1,())).bind fun y5 =>
 y5.elim (fun a6 => (g5 (((a6.2.2.2.2.1.1,a6.2.2.2.2.1.2.1,a6.2.2.2.2.1.2.2.1,a6.2.2.2.2.1.2.2.2.1,a6.2.2.2.2.1.2.2.2.2.1,a6.2.2.2.2.1.2.2.2.2.2.1,a6.2.2.2.2.2),()),())).bind fun y7 =>
 (g6 (((a6.2.2.2.2.1.1,a6.2.2.2.2.1.2.1,a6.2.2.2.2.1.2.2.1,a6.2.2.2.2.1.2.2.2.1,a6.2.2.2.2.1.2.2.2.2.1,a6.2.2.2.2.1.2.2.2.2.2.1,a6.2.2.2.2.2),()),())).bind fun y8 =>
 bif y7.1.1 == y8.1.1 then
 (g5 ((a6.2.1,()),())).bind fun y10 =>
 (g6 ((a6.2.1,()),())).bind fun y11 =>
 bif y10.1.1 == y11.1.1 then
 (g7 ((a6.2.2.1,a6.2.2.2.1,()),())).bind fun y13 =>
 (g8 ((a6.2.2.1,a6.2.2.2.1,()),())).bind fun y14 =>
 bif y13.1.1 == y14.1.1 then
 (g1 ((),())).bind fun y16 =>
 some y16
 else
 some ((false,()),())
 else
 some ((false,()),())
 else
 some ((false,()),())) Empty.elim) Empty.elim
def u (g1 : Y163 → Option Y160) (g2 : Y156 → Option Y129) (g3 : Y119 → Option Y20) (g5 : Y34 → Option Y160) (g6 : Y34 → Option Y160) (g7 : Y99 → Option Y160) (g8 : Y99 → Option Y160) (l0 : Y17 → Option Y15) (l1 : Y5 → Option Y8) (x : Y19) := f g1 g2 g3 g5 g6 g7 g8 l0 l1 x.1.1 x.1.2.1.1 x.1.2.1.2.1 x.1.2.1.2.2.1 x.1.2.1.2.2.2.1 x.1.2.1.2.2.2.2.1 x.1.2.1.2.2.2.2.2.1 x.1.2.1.2.2.2.2.2.2.1 x.1.2.1.2.2.2.2.2.2.2.1 x.1.2.2.1.1 x.1.2.2.1.2.1 x.1.2.2.1.2.2.1 x.1.2.2.2.1.1 x.1.2.2.2.1.2.1 x.1.2.2.2.1.2.2.1 x.1.2.2.2.2.1 x.1.2.2.2.2.2.1 x.1.2.2.2.2.2.2.1
section
variable (g0 : second_Few.G) (g1 : law37_awake.G) (g2 : second_New.G) (g3 : second_Deck_Profile.G) (g4 : second_Mod.G) (g5 : profile_Valid.G) (g6 : ref37_Valid.G) (g7 : profile_Nearer.G) (g8 : ref37_Nearer.G) (l0 : A0) (l1 : A1)
def E : Env := ⟨T,cE [(8,[],second_Few.fe g0),(9,[],law37_awake.fe g1),(10,[],second_New.fe g2),(11,[],second_Deck_Profile.fe g3),(12,[],second_Mod.fe g4),(13,[],profile_Valid.fe g5),(14,[],ref37_Valid.fe g6),(15,[],profile_Nearer.fe g7),(16,[],ref37_Nearer.fe g8)],lE [LE.of s0 x0 l0,LE.of s1 x1 l1],167,0,Gt⟩
variable {g0 g1 g2 g3 g4 g5 g6 g7 g8 l0 l1}
theorem e0 (L : A0) (x : s0.X) : rndO (E g0 g1 g2 g3 g4 g5 g6 g7 g8 l0 l1) hs c s0 x0 0 false L x = u0 g0 x := by
 show _ = (_ : Option _)
 kernel_rfl
theorem e1 (L : A1) (x : s1.X) : rndO (E g0 g1 g2 g3 g4 g5 g6 g7 g8 l0 l1) hs c s1 x1 1 false L x = u1 g4 x := by
 show _ = (_ : Option _)
 kernel_rfl
theorem e (x : sh.X) : bodO (E g0 g1 g2 g3 g4 g5 g6 g7 g8 l0 l1) hs c Try.f3 sh osh x = u g1 g2 g3 g5 g6 g7 g8 l0 l1 x := by
 show _ = (_ : Option _)
 kernel_rfl
end
noncomputable def L0 : Y17 → Option Y15 := u0 second_Few.F
noncomputable def L1 : Y5 → Option Y8 := u1 second_Mod.F
noncomputable def F : Y19 → Option Y160 := u law37_awake.F second_New.F second_Deck_Profile.F profile_Valid.F ref37_Valid.F profile_Nearer.F ref37_Nearer.F L0 L1
noncomputable abbrev R : Env := E second_Few.F law37_awake.F second_New.F second_Deck_Profile.F second_Mod.F profile_Valid.F ref37_Valid.F profile_Nearer.F ref37_Nearer.F L0 L1
theorem L0_eq (a : List Int) (b c d h i j k m : Int) (n o p : List Y162) (q r s t v w : Int) : L0 ((a,b,c,d,(),(),(),()),((h,i,j,k,m,n,o,p,()),(q,r,s,()),(t,v,w,()),())) = f0 second_Few.F a b c d h i j k m n o p q r s t v w := rfl
theorem L1_eq (a b c d : Int) (h : Bool) (i j k m n : Int) (o p q : List Y162) (r s t v w z p0 p1 p2 p3 p4 : Int) (p5 p6 p7 : List Y162) : L1 ((a,b,c,(),(),(),(),d,h,()),((i,j,k,m,n,o,p,q,()),(r,s,t,()),(v,w,z,()),(p0,p1,p2,p3,p4,(),(),(),()),p5,p6,p7,())) = f1 second_Mod.F a b c d h i j k m n o p q r s t v w z p0 p1 p2 p3 p4 p5 p6 p7 := rfl
theorem F_eq (a : List Int) (b c d h i : Int) (j k m : List Y162) (n o p q r s t v w : Int) : F ((a,(b,c,d,h,i,j,k,m,()),(n,o,p,()),(q,r,s,()),t,v,w,()),()) = f law37_awake.F second_New.F second_Deck_Profile.F profile_Valid.F ref37_Valid.F profile_Nearer.F ref37_Nearer.F L0 L1 a b c d h i j k m n o p q r s t v w := rfl
theorem ok {tabs} (ht : TabsOk tabs) : FOK Try.prog tabs 3 (fe F) :=
 fn_keep3 (E := R) (hs := hs) Try.func3 e pw tb (gt_ok ht) (by kernel_rfl) (by kernel_rfl) rfl ⟨second_Few.ok ht,law37_awake.ok ht,second_New.ok ht,second_Deck_Profile.ok ht,second_Mod.ok ht,profile_Valid.ok ht,ref37_Valid.ok ht,profile_Nearer.ok ht,ref37_Nearer.ok ht,trivial⟩ 2 (by kernel_rfl) ⟨cA e0 (by kernel_rfl) (by kernel_rfl),cA e1 (by kernel_rfl) (by kernel_rfl),trivial⟩
end law37_ProfileValid
end Go.Proofs.Ytefcciajemkicaa.V
