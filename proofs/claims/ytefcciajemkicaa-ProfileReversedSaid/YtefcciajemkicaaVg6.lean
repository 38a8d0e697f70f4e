import Derived.Test.YtefcciajemkicaaVg5
import Derived.WalkKit
set_option linter.unusedVariables false
set_option maxRecDepth 100000
namespace Go.Proofs.Ytefcciajemkicaa.V
open Go (IntKind)
open Go.VI
/-! law37_ProfileMoved -/
namespace law37_ProfileMoved
noncomputable def c : Go.Code := Try.f6.body.getD .skip
abbrev sh : Sh := ⟨[q14, q25, q25], []⟩
abbrev osh : Sh := ⟨[q15], []⟩
abbrev G := sh.X → Option osh.X
abbrev fe (g : G) : FE := FE.of [true,true,true] false sh osh g
abbrev s0 : Sh := ⟨[q25, q25, q18, q17, q13, q13, q19, q13], [.row 3 (.int .i64), q0, .row 3 (.int .i64)]⟩
abbrev x0 : List (Ex × Sh) := [(.exit 0, ⟨[q25, q18, q17, q13, q13, q19], [.row 3 (.int .i64), q0, .row 3 (.int .i64)]⟩)]
abbrev A0 := s0.X → Option (sumX x0)
abbrev s1 : Sh := ⟨[q25, q18, q13, q13, q17, q13, q22, q13], [.row 3 (.int .i64), q9, .box [.pv (.int .i64), .pv (.int .i64), .pv (.int .i64), .pv (.int .i64), .pv (.int .i64), .is (.own 6), .is (.own 7), .is (.own 8)], .row 31 (.pair (.int .i64) (.pair (.int .i64) (.int .i64))), .row 31 (.pair (.int .i64) (.pair (.int .i64) (.int .i64))), .row 31 (.pair (.int .i64) (.pair (.int .i64) (.int .i64))), .row 31 (.pair (.int .i64) (.pair (.int .i64) (.int .i64))), .row 31 (.pair (.int .i64) (.pair (.int .i64) (.int .i64))), .row 31 (.pair (.int .i64) (.pair (.int .i64) (.int .i64)))]⟩
abbrev x1 : List (Ex × Sh) := [(.normal, ⟨[q25, q18, q13, q13, q15], [.row 3 (.int .i64)]⟩)]
abbrev A1 := s1.X → Option (sumX x1)
abbrev s2 : Sh := ⟨[q18, q13, q13, q13, q17, q19, q13], [.row 3 (.int .i64), q0, .row 3 (.int .i64)]⟩
abbrev x2 : List (Ex × Sh) := [(.exit 2, ⟨[q18, q13, q13, q17, q19], [.row 3 (.int .i64), q0, .row 3 (.int .i64)]⟩)]
abbrev A2 := s2.X → Option (sumX x2)
def hs : List Hint := [⟨[0,1,0,1,1,1,1,1,1],0,[1,2,8,9,10,11,12,13],[(2,[2,8,9,10,11,12])]⟩,⟨[0,0,1,1,1,1,1,1,1,1,1],1,[2,8,10,11,15,16,17,18],[(0,[2,8,10,11,104])]⟩,⟨[0,1,0,1,1,1,1,1,1,1,1,1,1,1,1,1],2,[8,10,11,19,20,21,22],[(4,[8,10,11,20,21])]⟩]
def f0 (L : Y44 → Option Y45) (a b c d h : Int) (i : List Int) (j k m : Int) (n : List Int) : Option Y45 :=
 bif decide (h < (i.length:Int)) then
 bif decide (0 ≤ h) then
 bif decide (h < (i.length:Int)) then
 bif i.getD (h.toNat) 0 != 1073741824 then
 bif decide (0 ≤ h) then
 bif decide (h < (i.length:Int)) then
 bif Go.VI.mx (-400) (Go.VI.mn 400 (i.getD (h.toNat) 0)) != 1073741824 then
 bif decide ((((n.length) + (List.length [IntKind.wrap .i64 ((Go.VI.mx (-400) (Go.VI.mn 400 (i.getD (h.toNat) 0))) + (IntKind.wrap .i64 a))])) * (8:Nat)) ≤ (140737488355328:Nat)) then
 (L ((a,b,(),(),c,d,(),IntKind.wrap .i64 (h + 1),()),i.set (h.toNat) (Go.VI.mx (-400) (Go.VI.mn 400 (i.getD (h.toNat) 0))),(j,k,m,()),n ++ [IntKind.wrap .i64 ((Go.VI.mx (-400) (Go.VI.mn 400 (i.getD (h.toNat) 0))) + (IntKind.wrap .i64 a))],())).bind fun y8 =>
 some y8
 else none
 else
 bif decide ((((n.length) + (List.length [Go.VI.mx (-400) (Go.VI.mn 400 (i.getD (h.toNat) 0))])) * (8:Nat)) ≤ (140737488355328:Nat)) then
 (L ((a,b,(),(),c,d,(),IntKind.wrap .i64 (h + 1),()),i.set (h.toNat) (Go.VI.mx (-400) (Go.VI.mn 400 (i.getD (h.toNat) 0))),(j,k,m,()),n ++ [Go.VI.mx (-400) (Go.VI.mn 400 (i.getD (h.toNat) 0))],())).bind fun y8 =>
 some y8
 else none
 else none
 else none
 else
 bif decide (0 ≤ h) then
 bif decide (h < (i.length:Int)) then
 bif i.getD (h.toNat) 0 != 1073741824 then
 bif decide ((((n.length) + (List.length [IntKind.wrap .i64 ((i.getD (h.toNat) 0) + (IntKind.wrap .i64 a))])) * (8:Nat)) ≤ (140737488355328:Nat)) then
 (L ((a,b,(),(),c,d,(),IntKind.wrap .i64 (h + 1),()),i.set (h.toNat) (i.getD (h.toNat) 0),(j,k,m,()),n ++ [IntKind.wrap .i64 ((i.getD (h.toNat) 0) + (IntKind.wrap .i64 a))],())).bind fun y8 =>
 some y8
 else none
 else
 bif decide ((((n.length) + (List.length [i.getD (h.toNat) 0])) * (8:Nat)) ≤ (140737488355328:Nat)) then
 (L ((a,b,(),(),c,d,(),IntKind.wrap .i64 (h + 1),()),i.set (h.toNat) (i.getD (h.toNat) 0),(j,k,m,()),n ++ [i.getD (h.toNat) 0],())).bind fun y8 =>
 some y8
 else none
 else none
 else none
 else none
 else none
 else
 some (Sum.inl ((b,(),(),c,d,(),()),i,(j,k,m,()),n,()))
def u0 (L : Y44 → Option Y45) (x : Y44) := f0 L x.1.1 x.1.2.1 x.1.2.2.2.2.1 x.1.2.2.2.2.2.1 x.1.2.2.2.2.2.2.2.1 x.2.1 x.2.2.1.1 x.2.2.1.2.1 x.2.2.1.2.2.1 x.2.2.2.1
def f1 (g8 : Y21 → Option Y163) (a b c d h : Int) (i : List Int) (j k m n o p q r s t : Int) (v w z p0 p1 p2 : List Y165) : Option Y101 :=
 bif d != 0 then
 some (Sum.inl ((a,(),b,c,true,()),i,()))
 else
 bif h != 0 then
 some (Sum.inl ((a,(),b,c,true,()),i,()))
 else
 (g8 (((j,k,m,n,o,v,w,z,()),(p,q,r,s,t,p0,p1,p2,()),()),())).bind fun y2 =>
 some (Sum.inl ((a,(),b,c,!y2.1.1,()),i,()))
def u1 (g8 : Y21 → Option Y163) (x : Y1) := f1 g8 x.1.1 x.1.2.2.1 x.1.2.2.2.1 x.1.2.2.2.2.2.1 x.1.2.2.2.2.2.2.2.1 x.2.1 x.2.2.1.1 x.2.2.1.2.1 x.2.2.1.2.2.1 x.2.2.1.2.2.2.1 x.2.2.1.2.2.2.2.1 x.2.2.2.1.1 x.2.2.2.1.2.1 x.2.2.2.1.2.2.1 x.2.2.2.1.2.2.2.1 x.2.2.2.1.2.2.2.2.1 x.2.2.2.2.1 x.2.2.2.2.2.1 x.2.2.2.2.2.2.1 x.2.2.2.2.2.2.2.1 x.2.2.2.2.2.2.2.2.1 x.2.2.2.2.2.2.2.2.2.1
def f2 (L : Y49 → Option Y52) (a b c d : Int) (h : List Int) (i j k : Int) (m : List Int) : Option Y52 :=
 bif decide (d < (h.length:Int)) then
 bif decide (0 ≤ d) then
 bif decide (d < (h.length:Int)) then
 bif h.getD (d.toNat) 0 != 1073741824 then
 bif decide ((((m.length) + (List.length [IntKind.wrap .i64 ((h.getD (d.toNat) 0) * c)])) * (8:Nat)) ≤ (140737488355328:Nat)) then
 (L (((),a,b,c,(),(),IntKind.wrap .i64 (d + 1),()),h,(i,j,k,()),m ++ [IntKind.wrap .i64 ((h.getD (d.toNat) 0) * c)],())).bind fun y5 =>
 some y5
 else none
 else
 bif decide ((((m.length) + (List.length [h.getD (d.toNat) 0])) * (8:Nat)) ≤ (140737488355328:Nat)) then
 (L (((),a,b,c,(),(),IntKind.wrap .i64 (d + 1),()),h,(i,j,k,()),m ++ [h.getD (d.toNat) 0],())).bind fun y5 =>
 some y5
 else none
 else none
 else none
 else
 some (Sum.inl (((),a,b,(),(),()),h,(i,j,k,()),m,()))
def u2 (L : Y49 → Option Y52) (x : Y49) := f2 L x.1.2.1 x.1.2.2.1 x.1.2.2.2.1 x.1.2.2.2.2.2.2.1 x.2.1 x.2.2.1.1 x.2.2.1.2.1 x.2.2.1.2.2.1 x.2.2.2.1
def f (g0 : Y159 → Option Y163) (g1 : Y166 → Option Y163) (g2 : Y159 → Option Y132) (g3 : Y122 → Option Y134) (g4 : Y122 → Option Y115) (g5 : Y122 → Option Y102) (g6 : Y132 → Option Y134) (g7 : Y107 → Option Y31) (g8 : Y21 → Option Y163) (l0 : Y44 → Option Y45) (l1 : Y1 → Option Y101) (l2 : Y49 → Option Y52) (a : List Int) (b c : Int) : Option Y163 :=
 (g0 ((a,()),())).bind fun y0 =>
 bif !y0.1.1 then
 (g1 ((),())).bind fun y2 =>
 some ((y2.1.1,()),())
 else
 (g2 ((a,()),())).bind fun y2 =>
 (g3 (((),22,()),(y2.2.1.1,y2.2.1.2.1,()),())).bind fun y3 =>
 (g4 (((),y3.1.1,()),(y3.2.1.1,y3.2.1.2.1,()),())).bind fun y4 =>
 (g3 (((),4,()),(y4.2.1.1,y4.2.1.2.1,()),())).bind fun y5 =>
 (g5 (((),IntKind.wrap .i64 (1 + y5.1.1),()),(y5.2.1.1,y5.2.1.2.1,()),())).bind fun y6 =>
 (g6 (((),()),(y6.2.1.1,y6.2.1.2.1,()),())).bind fun y7 =>
 (g3 (((),4,()),(y7.2.1.1,y7.2.1.2.1,()),())).bind fun y8 =>
 (l0 ((b,c,(),(),y7.1.1,IntKind.wrap .i64 (1 + y8.1.1),(),0,()),y4.2.2.1,(y6.1.1.1,y6.1.1.2.1,y6.1.1.2.2.1,()),([]:List Int),())).bind fun y9 =>
 y9.elim (fun a10 => (g7 ((a10.2.1,(a10.2.2.1.1,a10.2.2.1.2.1,a10.2.2.1.2.2.1,()),a10.1.2.2.2.1,a10.1.2.2.2.2.1,()),())).bind fun y11 =>
 (g7 ((a10.2.2.2.1,(a10.2.2.1.1,a10.2.2.1.2.1,a10.2.2.1.2.2.1,()),a10.1.2.2.2.1,a10.1.2.2.2.2.1,()),())).bind fun y12 =>
 (l1 ((a10.1.1,(),a10.1.2.2.2.1,a10.1.2.2.2.2.1,(),y11.1.2.1,(),y12.1.2.1,()),a10.2.1,(y11.1.1.1,y11.1.1.2.1,y11.1.1.2.2.1,y11.1.1.2.2.2.1,y11.1.1.2.2.2.2.1,(),(),(),()),(y12.1.1.1,y12.1.1.2.1,y12.1.1.2.2.1,y12.1.1.2.2.2.1,y12.1.1.2.2.2.2.1,(),(),(),()),y11.2.1,y11.2.2.1,y11.2.2.2.1,y12.2.1,y12.2.2.1,y12.2.2.2.1,())).bind fun y13 =>
 y13.elim (fun a14 => bif a14.1.2.2.2.2.1 then
 some ((false,()),())
 else
 (l2 (((),a14.1.2.2.1,a14.1.2.2.2.1,IntKind.wrap .i64 (1 + (Int.tmod (IntKind.wrap .i64 a14.1.1) 2)),(),(),0,()),a14.2.1,(3,0,0,()),([]:List Int),())).bind fun y16 =>
 y16.elim (fun a17 => (g7 ((a17.2.1,(a17.2.2.1.1,a17.2.2.1.2.1,a17.2.2.1.2.2.1,()),a17.1.2.1,a17.1.2.2.1,()),())).bind fun y18 =>
 (g7 ((a17.2.2.2.1,(a17.2.2.1.1,a17.2.2.1.2.1,a17.2.2.1.2.2.1,()),a17.1.2.1,a17.1.2.2.1,()),())).bind fun y19 =>
 bif y18.1.2.1 == 0 then
 bif y19.1.2.1 == 0 then
 (g8 (((y18.1.1.1,y18.1.1.2.1,y18.1.1.2.2.1,y18.1.1.2.2.2.1,y18.1.1.2.2.2.2.1,y18.2.1,y18.2.2.1,y18.2.2.2.1,()),(y19.1.1.1,y19.1.1.2.1,y19.1.1.2.2.1,y19.1.1.2.2.2.1,y19.1.1.2.2.2.2.1,y19.2.1,y19.2.2.1,y19.2.2.2.1,()),()),())).bind fun y22 =>
 bif y22.1.1 then
 (g1 ((),())).bind fun y24 =>
 some ((y24.1.1,()),())
 else
 some ((false,()),())
 else
 some ((false,()),())
 else
 some ((false,()),())) Empty.elim) Empty.elim) Empty.elim
def u (g0 : Y159 → Option Y163) (g1 : Y166 → Option Y163) (g2 : Y159 → Option Y132) (g3 : Y122 → Option Y134) (g4 : Y122 → Option Y115) (g5 : Y122 → Option Y102) (g6 : Y132 → Option Y134) (g7 : Y107 → Option Y31) (g8 : Y21 → Option Y163) (l0 : Y44 → Option Y45) (l1 : Y1 → Option Y101) (l2 : Y49 → Option Y52) (x : Y148) := f g0 g1 g2 g3 g4 g5 g6 g7 g8 l0 l1 l2 x.1.1 x.1.2.1 x.1.2.2.1
section
variable (g0 : second_Few.G) (g1 : law37_awake.G) (g2 : second_New.G) (g3 : second_Deck_Next.G) (g4 : second_Deck_Values.G) (g5 : second_Deck_Measure.G) (g6 : second_Deck_Length.G) (g7 : profile_Of.G) (g8 : ref37_Same.G) (l0 : A0) (l1 : A1) (l2 : A2)
def E : Env := ⟨T,cE [(8,[],second_Few.fe g0),(9,[],law37_awake.fe g1),(10,[],second_New.fe g2),(18,[],second_Deck_Next.fe g3),(17,[],second_Deck_Values.fe g4),(19,[],second_Deck_Measure.fe g5),(20,[],second_Deck_Length.fe g6),(21,[],profile_Of.fe g7),(25,[],ref37_Same.fe g8)],lE [LE.of s0 x0 l0,LE.of s1 x1 l1,LE.of s2 x2 l2],159,0,Gt⟩
variable {g0 g1 g2 g3 g4 g5 g6 g7 g8 l0 l1 l2}
theorem e0 (L : A0) (x : s0.X) : rndO (E g0 g1 g2 g3 g4 g5 g6 g7 g8 l0 l1 l2) hs c s0 x0 0 true L x = u0 L x := by
 show _ = (_ : Option _)
 kernel_rfl
theorem e1 (L : A1) (x : s1.X) : rndO (E g0 g1 g2 g3 g4 g5 g6 g7 g8 l0 l1 l2) hs c s1 x1 1 false L x = u1 g8 x := by
 show _ = (_ : Option _)
 kernel_rfl
theorem e2 (L : A2) (x : s2.X) : rndO (E g0 g1 g2 g3 g4 g5 g6 g7 g8 l0 l1 l2) hs c s2 x2 2 true L x = u2 L x := by
 show _ = (_ : Option _)
 kernel_rfl
theorem e (x : sh.X) : bodO (E g0 g1 g2 g3 g4 g5 g6 g7 g8 l0 l1 l2) hs c Try.f6 sh osh x = u g0 g1 g2 g3 g4 g5 g6 g7 g8 l0 l1 l2 x := by
 show _ = (_ : Option _)
 kernel_rfl
end
noncomputable def L0 : Y44 → Option Y45 := loop u0
noncomputable def L1 : Y1 → Option Y101 := u1 ref37_Same.F
noncomputable def L2 : Y49 → Option Y52 := loop u2
noncomputable def F : Y148 → Option Y163 := u second_Few.F law37_awake.F second_New.F second_Deck_Next.F second_Deck_Values.F second_Deck_Measure.F second_Deck_Length.F profile_Of.F ref37_Same.F L0 L1 L2
noncomputable abbrev R : Env := E second_Few.F law37_awake.F second_New.F second_Deck_Next.F second_Deck_Values.F second_Deck_Measure.F second_Deck_Length.F profile_Of.F ref37_Same.F L0 L1 L2
theorem L0_eq (a b c d h : Int) (i : List Int) (j k m : Int) (n : List Int) : L0 ((a,b,(),(),c,d,(),h,()),(i,(j,k,m,()),n,())) = f0 L0 a b c d h i j k m n :=
 loopE (E := R) e0 ((a,b,(),(),c,d,(),h,()),(i,(j,k,m,()),n,()))
theorem L1_eq (a b c d h : Int) (i : List Int) (j k m n o p q r s t : Int) (v w z p0 p1 p2 : List Y165) : L1 ((a,(),b,c,(),d,(),h,()),(i,(j,k,m,n,o,(),(),(),()),(p,q,r,s,t,(),(),(),()),v,w,z,p0,p1,p2,())) = f1 ref37_Same.F a b c d h i j k m n o p q r s t v w z p0 p1 p2 := rfl
theorem L2_eq (a b c d : Int) (h : List Int) (i j k : Int) (m : List Int) : L2 (((),a,b,c,(),(),d,()),(h,(i,j,k,()),m,())) = f2 L2 a b c d h i j k m :=
 loopE (E := R) e2 (((),a,b,c,(),(),d,()),(h,(i,j,k,()),m,()))
theorem F_eq (a : List Int) (b c : Int) : F ((a,b,c,()),()) = f second_Few.F law37_awake.F second_New.F second_Deck_Next.F second_Deck_Values.F second_Deck_Measure.F second_Deck_Length.F profile_Of.F ref37_Same.F L0 L1 L2 a b c := rfl
theorem ok {tabs} (ht : TabsOk tabs) : FOK Try.prog tabs 6 (fe F) :=
 fn_keep3 (E := R) (hs := hs) Try.func6 e pw tb (gt_ok ht) (by kernel_rfl) (by kernel_rfl) rfl ⟨second_Few.ok ht,law37_awake.ok ht,second_New.ok ht,second_Deck_Next.ok ht,second_Deck_Values.ok ht,second_Deck_Measure.ok ht,second_Deck_Length.ok ht,profile_Of.ok ht,ref37_Same.ok ht,trivial⟩ 3 (by kernel_rfl) ⟨lA e0 (by kernel_rfl) (by kernel_rfl),cA e1 (by kernel_rfl) (by kernel_rfl),lA e2 (by kernel_rfl) (by kernel_rfl),trivial⟩
end law37_ProfileMoved
/-! law37_ProfileReversed -/
namespace law37_ProfileReversed
noncomputable def c : Go.Code := Try.f7.body.getD .skip
abbrev sh : Sh := ⟨[q14], []⟩
abbrev osh : Sh := ⟨[q15], []⟩
abbrev G := sh.X → Option osh.X
abbrev fe (g : G) : FE := FE.of [true] false sh osh g
abbrev s0 : Sh := ⟨[q18, q17, q13, q13, q19, q13], [.row 3 (.int .i64), q0, .row 3 (.int .i64)]⟩
abbrev x0 : List (Ex × Sh) := [(.exit 0, ⟨[q18, q17, q13, q13, q19], [.row 3 (.int .i64), q0, .row 3 (.int .i64)]⟩)]
abbrev A0 := s0.X → Option (sumX x0)
abbrev s1 : Sh := ⟨[q16, q13, q17, q13, q13], [q4, q5, .row 31 (.pair (.int .i64) (.pair (.int .i64) (.int .i64))), .row 31 (.pair (.int .i64) (.pair (.int .i64) (.int .i64))), .row 31 (.pair (.int .i64) (.pair (.int .i64) (.int .i64))), .row 31 (.pair (.int .i64) (.pair (.int .i64) (.int .i64))), .row 31 (.pair (.int .i64) (.pair (.int .i64) (.int .i64))), .row 31 (.pair (.int .i64) (.pair (.int .i64) (.int .i64)))]⟩
abbrev x1 : List (Ex × Sh) := [(.normal, ⟨[q16, q17, q13, q15], [q4, q5, .row 31 (.pair (.int .i64) (.pair (.int .i64) (.int .i64))), .row 31 (.pair (.int .i64) (.pair (.int .i64) (.int .i64))), .row 31 (.pair (.int .i64) (.pair (.int .i64) (.int .i64))), .row 31 (.pair (.int .i64) (.pair (.int .i64) (.int .i64))), .row 31 (.pair (.int .i64) (.pair (.int .i64) (.int .i64))), .row 31 (.pair (.int .i64) (.pair (.int .i64) (.int .i64)))]⟩)]
abbrev A1 := s1.X → Option (sumX x1)
abbrev s2 : Sh := ⟨[q16, q17, q13, q13], [q4, q5, .row 31 (.pair (.int .i64) (.pair (.int .i64) (.int .i64))), .row 31 (.pair (.int .i64) (.pair (.int .i64) (.int .i64))), .row 31 (.pair (.int .i64) (.pair (.int .i64) (.int .i64))), .row 31 (.pair (.int .i64) (.pair (.int .i64) (.int .i64))), .row 31 (.pair (.int .i64) (.pair (.int .i64) (.int .i64))), .row 31 (.pair (.int .i64) (.pair (.int .i64) (.int .i64)))]⟩
abbrev x2 : List (Ex × Sh) := [(.exit 2, ⟨[], []⟩), (.ret, ⟨[q15], []⟩)]
abbrev A2 := s2.X → Option (sumX x2)
abbrev s3 : Sh := ⟨[q16, q17, q13, q13, q13], [q4, q5, .row 31 (.pair (.int .i64) (.pair (.int .i64) (.int .i64))), .row 31 (.pair (.int .i64) (.pair (.int .i64) (.int .i64))), .row 31 (.pair (.int .i64) (.pair (.int .i64) (.int .i64))), .row 31 (.pair (.int .i64) (.pair (.int .i64) (.int .i64))), .row 31 (.pair (.int .i64) (.pair (.int .i64) (.int .i64))), .row 31 (.pair (.int .i64) (.pair (.int .i64) (.int .i64)))]⟩
abbrev x3 : List (Ex × Sh) := [(.normal, ⟨[q16, q17, q13, q13, q15], [q4, q5, .row 31 (.pair (.int .i64) (.pair (.int .i64) (.int .i64))), .row 31 (.pair (.int .i64) (.pair (.int .i64) (.int .i64))), .row 31 (.pair (.int .i64) (.pair (.int .i64) (.int .i64))), .row 31 (.pair (.int .i64) (.pair (.int .i64) (.int .i64))), .row 31 (.pair (.int .i64) (.pair (.int .i64) (.int .i64))), .row 31 (.pair (.int .i64) (.pair (.int .i64) (.int .i64)))]⟩)]
abbrev A3 := s3.X → Option (sumX x3)
def hs : List Hint := [⟨[0,1,0,1,1,1,1,1,1],0,[4,5,6,7,8,9],[(2,[4,5,6,7,8])]⟩,⟨[0,0,1,1,1,1,1,1,1,1,1,1],1,[10,11,12,13,14],[(0,[10,12,14,107])]⟩,⟨[0,1,0,1,1,1,1,1,1,1,1,1,1,1],2,[10,12,14,15],[(4,[]),(1,[2])]⟩,⟨[0,1,0,0,1,0,0,1,0,1,1,1,1,1,1,1,1,1,1,1],3,[10,12,14,15,16],[(0,[10,12,14,15,176])]⟩]
def f0 (L : Y56 → Option Y51) (a b c : Int) (d : List Int) (h i j : Int) (k : List Int) : Option Y51 :=
 bif decide (c ≥ 0) then
 bif decide (0 ≤ c) then
 bif decide (c < (d.length:Int)) then
 bif decide ((((k.length) + (List.length [d.getD (c.toNat) 0])) * (8:Nat)) ≤ (140737488355328:Nat)) then
 (L (((),(),a,b,(),IntKind.wrap .i64 (c - 1),()),d,(h,i,j,()),k ++ [d.getD (c.toNat) 0],())).bind fun y4 =>
 some y4
 else none
 else none
 else none
 else
 some (Sum.inl (((),(),a,b,(),()),d,(h,i,j,()),k,()))
def u0 (L : Y56 → Option Y51) (x : Y56) := f0 L x.1.2.2.1 x.1.2.2.2.1 x.1.2.2.2.2.2.1 x.2.1 x.2.2.1.1 x.2.2.1.2.1 x.2.2.1.2.2.1 x.2.2.2.1
def f1 (a b c d h i j k m n o p q : Int) (r s t v w z : List Y165) : Option Y5 :=
 bif a != 0 then
 some (Sum.inl (((),(),c,true,()),(d,h,i,j,k,(),(),(),()),(m,n,o,p,q,(),(),(),()),r,s,t,v,w,z,()))
 else
 bif b != 0 then
 some (Sum.inl (((),(),c,true,()),(d,h,i,j,k,(),(),(),()),(m,n,o,p,q,(),(),(),()),r,s,t,v,w,z,()))
 else
 bif (v.length:Int) != c then
 some (Sum.inl (((),(),c,true,()),(d,h,i,j,k,(),(),(),()),(m,n,o,p,q,(),(),(),()),r,s,t,v,w,z,()))
 else
 bif (s.length:Int) != c then
 some (Sum.inl (((),(),c,true,()),(d,h,i,j,k,(),(),(),()),(m,n,o,p,q,(),(),(),()),r,s,t,v,w,z,()))
 else
 bif (t.length:Int) != c then
 some (Sum.inl (((),(),c,true,()),(d,h,i,j,k,(),(),(),()),(m,n,o,p,q,(),(),(),()),r,s,t,v,w,z,()))
 else
 bif (w.length:Int) != c then
 some (Sum.inl (((),(),c,true,()),(d,h,i,j,k,(),(),(),()),(m,n,o,p,q,(),(),(),()),r,s,t,v,w,z,()))
 else
 some (Sum.inl (((),(),c,(z.length:Int) != c,()),(d,h,i,j,k,(),(),(),()),(m,n,o,p,q,(),(),(),()),r,s,t,v,w,z,()))
def u1 (x : Y6) := f1 x.1.2.1 x.1.2.2.2.1 x.1.2.2.2.2.1 x.2.1.1 x.2.1.2.1 x.2.1.2.2.1 x.2.1.2.2.2.1 x.2.1.2.2.2.2.1 x.2.2.1.1 x.2.2.1.2.1 x.2.2.1.2.2.1 x.2.2.1.2.2.2.1 x.2.2.1.2.2.2.2.1 x.2.2.2.1 x.2.2.2.2.1 x.2.2.2.2.2.1 x.2.2.2.2.2.2.1 x.2.2.2.2.2.2.2.1 x.2.2.2.2.2.2.2.2.1
def f3 (a b c d h i j k m n o p q : Int) (r s t v w z : List Y165) : Option Y4 :=
 bif decide (0 ≤ b) then
 bif decide (b < (r.length:Int)) then
 bif decide (0 ≤ c) then
 bif decide (c < (v.length:Int)) then
 bif !((r.getD (b.toNat) (0,0,0)).2.1 == (v.getD (c.toNat) (0,0,0)).2.1 && ((r.getD (b.toNat) (0,0,0)).2.2 == (v.getD (c.toNat) (0,0,0)).2.2 && true)) then
 some (Sum.inl (((),(),a,b,true,()),(d,h,i,j,k,(),(),(),()),(m,n,o,p,q,(),(),(),()),r,s,t,v,w,z,()))
 else
 bif decide (0 ≤ b) then
 bif decide (b < (s.length:Int)) then
 bif decide (0 ≤ c) then
 bif decide (c < (z.length:Int)) then
 bif !((s.getD (b.toNat) (0,0,0)).2.1 == (z.getD (c.toNat) (0,0,0)).2.1 && ((s.getD (b.toNat) (0,0,0)).2.2 == (z.getD (c.toNat) (0,0,0)).2.2 && true)) then
 some (Sum.inl (((),(),a,b,true,()),(d,h,i,j,k,(),(),(),()),(m,n,o,p,q,(),(),(),()),r,s,t,v,w,z,()))
 else
 bif decide (0 ≤ b) then
 bif decide (b < (t.length:Int)) then
 bif decide (0 ≤ c) then
 bif decide (c < (w.length:Int)) then
 bif !((t.getD (b.toNat) (0,0,0)).2.1 == (w.getD (c.toNat) (0,0,0)).2.1 && ((t.getD (b.toNat) (0,0,0)).2.2 == (w.getD (c.toNat) (0,0,0)).2.2 && true)) then
 some (Sum.inl (((),(),a,b,true,()),(d,h,i,j,k,(),(),(),()),(m,n,o,p,q,(),(),(),()),r,s,t,v,w,z,()))
 else
 bif decide (0 ≤ b) then
 bif decide (b < (s.length:Int)) then
 bif decide (0 ≤ c) then
 bif decide (c < (z.length:Int)) then
 some (Sum.inl (((),(),a,b,!(decide ((s.getD (b.toNat) (0,0,0)).1 < 0) == decide ((z.getD (c.toNat) (0,0,0)).1 < 0)),()),(d,h,i,j,k,(),(),(),()),(m,n,o,p,q,(),(),(),()),r,s,t,v,w,z,()))
 else none
 else none
 else none
 else none
 else none
 else none
 else none
 else none
 else none
 else none
 else none
 else none
 else none
 else none
 else none
 else none
def u3 (x : Y7) := f3 x.1.2.2.1 x.1.2.2.2.1 x.1.2.2.2.2.1 x.2.1.1 x.2.1.2.1 x.2.1.2.2.1 x.2.1.2.2.2.1 x.2.1.2.2.2.2.1 x.2.2.1.1 x.2.2.1.2.1 x.2.2.1.2.2.1 x.2.2.1.2.2.2.1 x.2.2.1.2.2.2.2.1 x.2.2.2.1 x.2.2.2.2.1 x.2.2.2.2.2.1 x.2.2.2.2.2.2.1 x.2.2.2.2.2.2.2.1 x.2.2.2.2.2.2.2.2.1
def f2 (l3 : Y7 → Option Y4) (L : Y11 → Option Y130) (a b c d h i j k m n o p : Int) (q r s t v w : List Y165) : Option Y130 :=
 bif decide (b < a) then
 (l3 (((),(),a,b,IntKind.wrap .i64 ((IntKind.wrap .i64 (a - 1)) - b),()),(c,d,h,i,j,(),(),(),()),(k,m,n,o,p,(),(),(),()),q,r,s,t,v,w,())).bind fun y1 =>
 y1.elim (fun a2 => bif a2.1.2.2.2.2.1 then
 some (Sum.inr (Sum.inl ((false,()),())))
 else
 (L (((),(),a2.1.2.2.1,IntKind.wrap .i64 (a2.1.2.2.2.1 + 1),()),(a2.2.1.1,a2.2.1.2.1,a2.2.1.2.2.1,a2.2.1.2.2.2.1,a2.2.1.2.2.2.2.1,(),(),(),()),(a2.2.2.1.1,a2.2.2.1.2.1,a2.2.2.1.2.2.1,a2.2.2.1.2.2.2.1,a2.2.2.1.2.2.2.2.1,(),(),(),()),a2.2.2.2.1,a2.2.2.2.2.1,a2.2.2.2.2.2.1,a2.2.2.2.2.2.2.1,a2.2.2.2.2.2.2.2.1,a2.2.2.2.2.2.2.2.2.1,())).bind fun y4 =>
 some y4) Empty.elim
 else
 some (Sum.inl ((),()))
def u2 (l3 : Y7 → Option Y4) (L : Y11 → Option Y130) (x : Y11) := f2 l3 L x.1.2.2.1 x.1.2.2.2.1 x.2.1.1 x.2.1.2.1 x.2.1.2.2.1 x.2.1.2.2.2.1 x.2.1.2.2.2.2.1 x.2.2.1.1 x.2.2.1.2.1 x.2.2.1.2.2.1 x.2.2.1.2.2.2.1 x.2.2.1.2.2.2.2.1 x.2.2.2.1 x.2.2.2.2.1 x.2.2.2.2.2.1 x.2.2.2.2.2.2.1 x.2.2.2.2.2.2.2.1 x.2.2.2.2.2.2.2.2.1
def f (g0 : Y159 → Option Y163) (g1 : Y166 → Option Y163) (g2 : Y159 → Option Y132) (g3 : Y122 → Option Y134) (g4 : Y122 → Option Y115) (g5 : Y122 → Option Y102) (g6 : Y132 → Option Y134) (g7 : Y107 → Option Y31) (l0 : Y56 → Option Y51) (l1 : Y6 → Option Y5) (l2 : Y11 → Option Y130) (a : List Int) : Option Y163 :=
 (g0 ((a,()),())).bind fun y0 =>
 bif !y0.1.1 then
 (g1 ((),())).bind fun y2 =>
 some ((y2.1.1,()),())
 else
 (g2 ((a,()),())).bind fun y2 =>
 (g3 (((),20,()),(y2.2.1.1,y2.2.1.2.1,()),())).bind fun y3 =>
 (g4 (((),y3.1.1,()),(y3.2.1.1,y3.2.1.2.1,()),())).bind fun y4 =>
 (g5 (((),0,()),(y4.2.1.1,y4.2.1.2.1,()),())).bind fun y5 =>
 (g6 (((),()),(y5.2.1.1,y5.2.1.2.1,()),())).bind fun y6 =>
 (g3 (((),4,()),(y6.2.1.1,y6.2.1.2.1,()),())).bind fun y7 =>
 (l0 (((),(),y6.1.1,IntKind.wrap .i64 (1 + y7.1.1),(),IntKind.wrap .i64 ((y4.2.2.1.length:Int) - 1),()),y4.2.2.1,(y5.1.1.1,y5.1.1.2.1,y5.1.1.2.2.1,()),([]:List Int),())).bind fun y8 =>
 y8.elim (fun a9 => (g7 ((a9.2.1,(a9.2.2.1.1,a9.2.2.1.2.1,a9.2.2.1.2.2.1,()),a9.1.2.2.1,a9.1.2.2.2.1,()),())).bind fun y10 =>
 (g7 ((a9.2.2.2.1,(a9.2.2.1.1,a9.2.2.1.2.1,a9.2.2.1.2.2.1,()),a9.1.2.2.1,a9.1.2.2.2.1,()),())).bind fun y11 =>
 (l1 (((),y10.1.2.1,(),y11.1.2.1,(y10.2.1.length:Int),()),(y10.1.1.1,y10.1.1.2.1,y10.1.1.2.2.1,y10.1.1.2.2.2.1,y10.1.1.2.2.2.2.1,(),(),(),()),(y11.1.1.1,y11.1.1.2.1,y11.1.1.2.2.1,y11.1.1.2.2.2.1,y11.1.1.2.2.2.2.1,(),(),(),()),y10.2.1,y10.2.2.1,y10.2.2.2.1,y11.2.1,y11.2.2.1,y11.2.2.2.1,())).bind fun y12 =>
 y12.elim (fun a13 => bif a13.1.2.2.2.1 then
 some ((false,()),())
 else
 (l2 (((),(),a13.1.2.2.1,0,()),(a13.2.1.1,a13.2.1.2.1,a13.2.1.2.2.1,a13.2.1.2.2.2.1,a13.2.1.2.2.2.2.1,(),(),(),()),(a13.2.2.1.1,a13.2.2.1.2.1,a13.2.2.1.2.2.1,a13.2.2.1.2.2.2.1,a13.2.2.1.2.2.2.2.1,(),(),(),()),a13.2.2.2.1,a13.2.2.2.2.1,a13.2.2.2.2.2.1,a13.2.2.2.2.2.2.1,a13.2.2.2.2.2.2.2.1,a13.2.2.2.2.2.2.2.2.1,())).bind fun y15 =>
 y15.elim (fun a16 => (g1 ((),())).bind fun y17 =>
 some ((y17.1.1,()),())) (fun b16 => b16.elim (fun a17 => some ((a17.1.1,()),())) Empty.elim)) Empty.elim) Empty.elim
def u (g0 : Y159 → Option Y163) (g1 : Y166 → Option Y163) (g2 : Y159 → Option Y132) (g3 : Y122 → Option Y134) (g4 : Y122 → Option Y115) (g5 : Y122 → Option Y102) (g6 : Y132 → Option Y134) (g7 : Y107 → Option Y31) (l0 : Y56 → Option Y51) (l1 : Y6 → Option Y5) (l2 : Y11 → Option Y130) (x : Y159) := f g0 g1 g2 g3 g4 g5 g6 g7 l0 l1 l2 x.1.1
section
variable (g0 : second_Few.G) (g1 : law37_awake.G) (g2 : second_New.G) (g3 : second_Deck_Next.G) (g4 : second_Deck_Values.G) (g5 : second_Deck_Measure.G) (g6 : second_Deck_Length.G) (g7 : profile_Of.G) (l0 : A0) (l1 : A1) (l2 : A2) (l3 : A3)
def E : Env := ⟨T,cE [(8,[],second_Few.fe g0),(9,[],law37_awake.fe g1),(10,[],second_New.fe g2),(18,[],second_Deck_Next.fe g3),(17,[],second_Deck_Values.fe g4),(19,[],second_Deck_Measure.fe g5),(20,[],second_Deck_Length.fe g6),(21,[],profile_Of.fe g7)],lE [LE.of s0 x0 l0,LE.of s1 x1 l1,LE.of s2 x2 l2,LE.of s3 x3 l3],178,0,Gt⟩
variable {g0 g1 g2 g3 g4 g5 g6 g7 l0 l1 l2 l3}
theorem e0 (L : A0) (x : s0.X) : rndO (E g0 g1 g2 g3 g4 g5 g6 g7 l0 l1 l2 l3) hs c s0 x0 0 true L x = u0 L x := by
 show _ = (_ : Option _)
 kernel_rfl
theorem e1 (L : A1) (x : s1.X) : rndO (E g0 g1 g2 g3 g4 g5 g6 g7 l0 l1 l2 l3) hs c s1 x1 1 false L x = u1 x := by
 show _ = (_ : Option _)
 kernel_rfl
theorem e3 (L : A3) (x : s3.X) : rndO (E g0 g1 g2 g3 g4 g5 g6 g7 l0 l1 l2 l3) hs c s3 x3 3 false L x = u3 x := by
 show _ = (_ : Option _)
 kernel_rfl
theorem e2 (L : A2) (x : s2.X) : rndO (E g0 g1 g2 g3 g4 g5 g6 g7 l0 l1 l2 l3) hs c s2 x2 2 true L x = u2 l3 L x := by
 show _ = (_ : Option _)
 kernel_rfl
theorem e (x : sh.X) : bodO (E g0 g1 g2 g3 g4 g5 g6 g7 l0 l1 l2 l3) hs c Try.f7 sh osh x = u g0 g1 g2 g3 g4 g5 g6 g7 l0 l1 l2 x := by
 show _ = (_ : Option _)
 kernel_rfl
end
noncomputable def L0 : Y56 → Option Y51 := loop u0
noncomputable def L1 : Y6 → Option Y5 := u1
noncomputable def L3 : Y7 → Option Y4 := u3
noncomputable def L2 : Y11 → Option Y130 := loop (u2 L3)
noncomputable def F : Y159 → Option Y163 := u second_Few.F law37_awake.F second_New.F second_Deck_Next.F second_Deck_Values.F second_Deck_Measure.F second_Deck_Length.F profile_Of.F L0 L1 L2
noncomputable abbrev R : Env := E second_Few.F law37_awake.F second_New.F second_Deck_Next.F second_Deck_Values.F second_Deck_Measure.F second_Deck_Length.F profile_Of.F L0 L1 L2 L3
theorem L0_eq (a b c : Int) (d : List Int) (h i j : Int) (k : List Int) : L0 (((),(),a,b,(),c,()),(d,(h,i,j,()),k,())) = f0 L0 a b c d h i j k :=
 loopE (E := R) e0 (((),(),a,b,(),c,()),(d,(h,i,j,()),k,()))
theorem L1_eq (a b c d h i j k m n o p q : Int) (r s t v w z : List Y165) : L1 (((),a,(),b,c,()),((d,h,i,j,k,(),(),(),()),(m,n,o,p,q,(),(),(),()),r,s,t,v,w,z,())) = f1 a b c d h i j k m n o p q r s t v w z := rfl
theorem L2_eq (a b c d h i j k m n o p : Int) (q r s t v w : List Y165) : L2 (((),(),a,b,()),((c,d,h,i,j,(),(),(),()),(k,m,n,o,p,(),(),(),()),q,r,s,t,v,w,())) = f2 L3 L2 a b c d h i j k m n o p q r s t v w :=
 loopE (E := R) e2 (((),(),a,b,()),((c,d,h,i,j,(),(),(),()),(k,m,n,o,p,(),(),(),()),q,r,s,t,v,w,()))
theorem L3_eq (a b c d h i j k m n o p q : Int) (r s t v w z : List Y165) : L3 (((),(),a,b,c,()),((d,h,i,j,k,(),(),(),()),(m,n,o,p,q,(),(),(),()),r,s,t,v,w,z,())) = f3 a b c d h i j k m n o p q r s t v w z := rfl
theorem F_eq (a : List Int) : F ((a,()),()) = f second_Few.F law37_awake.F second_New.F second_Deck_Next.F second_Deck_Values.F second_Deck_Measure.F second_Deck_Length.F profile_Of.F L0 L1 L2 a := rfl
theorem ok {tabs} (ht : TabsOk tabs) : FOK Try.prog tabs 7 (fe F) :=
 fn_keep3 (E := R) (hs := hs) Try.func7 e pw tb (gt_ok ht) (by kernel_rfl) (by kernel_rfl) rfl ⟨second_Few.ok ht,law37_awake.ok ht,second_New.ok ht,second_Deck_Next.ok ht,second_Deck_Values.ok ht,second_Deck_Measure.ok ht,second_Deck_Length.ok ht,profile_Of.ok ht,trivial⟩ 4 (by kernel_rfl) ⟨lA e0 (by kernel_rfl) (by kernel_rfl),cA e1 (by kernel_rfl) (by kernel_rfl),lA e2 (by kernel_rfl) (by kernel_rfl),cA e3 (by kernel_rfl) (by kernel_rfl),trivial⟩
end law37_ProfileReversed
end Go.Proofs.Ytefcciajemkicaa.V
