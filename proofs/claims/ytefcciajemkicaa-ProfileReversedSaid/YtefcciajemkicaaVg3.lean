import Derived.Test.YtefcciajemkicaaVg2
import Derived.WalkKit
set_option linter.unusedVariables false
set_option maxRecDepth 100000
namespace Go.Proofs.Ytefcciajemkicaa.V
open Go (IntKind)
open Go.VI
/-! profile_Valid -/
namespace profile_Valid
noncomputable def c : Go.Code := Try.f13.body.getD .skip
abbrev sh : Sh := ⟨[q12], []⟩
abbrev osh : Sh := ⟨[q15], []⟩
abbrev G := sh.X → Option osh.X
abbrev fe (g : G) : FE := FE.of [true] false sh osh g
abbrev s0 : Sh := ⟨[q16, q13], [q7]⟩
abbrev x0 : List (Ex × Sh) := [(.normal, ⟨[q16, q13, q15], [q7]⟩)]
abbrev A0 := s0.X → Option (sumX x0)
abbrev s1 : Sh := ⟨[q16, q13, q13, q13], [q7]⟩
abbrev x1 : List (Ex × Sh) := [(.exit 0, ⟨[], []⟩), (.ret, ⟨[q15], []⟩)]
abbrev A1 := s1.X → Option (sumX x1)
abbrev s2 : Sh := ⟨[q16, q13, q13, q17, q13, q13], [q7, q0]⟩
abbrev x2 : List (Ex × Sh) := [(.normal, ⟨[q16, q13, q13, q13, q15], [q7]⟩)]
abbrev A2 := s2.X → Option (sumX x2)
def hs : List Hint := [⟨[0,0,1,1],0,[1,3],[(0,[1,3,42])]⟩,⟨[0,1,0,1,1,1],1,[1,3,43,44],[(2,[]),(1,[2])]⟩,⟨[0,1,1,1,0,0,1,1,0,0,1,0,1,1,1],2,[1,3,4,5,43,44],[(0,[1,3,43,44,90])]⟩]
def f0 (g0 : Y141 → Option Y164) (g1 : Y164 → Option Y163) (g2 : Y164 → Option Y163) (a b c d h i : Int) (j k m : List Y165) : Option Y30 :=
 (g0 (((b,c,d,()),()),())).bind fun y0 =>
 bif y0.1.1 != 0 then
 some (Sum.inl (((),a,true,()),(b,c,d,h,i,j,k,m,()),()))
 else
 (g1 ((h,()),())).bind fun y2 =>
 bif !y2.1.1 then
 some (Sum.inl (((),a,true,()),(b,c,d,h,i,j,k,m,()),()))
 else
 (g2 ((i,()),())).bind fun y4 =>
 bif !y4.1.1 then
 some (Sum.inl (((),a,true,()),(b,c,d,h,i,j,k,m,()),()))
 else
 bif (k.length:Int) != a then
 some (Sum.inl (((),a,true,()),(b,c,d,h,i,j,k,m,()),()))
 else
 bif (m.length:Int) != a then
 some (Sum.inl (((),a,true,()),(b,c,d,h,i,j,k,m,()),()))
 else
 some (Sum.inl (((),a,decide (a > 2000),()),(b,c,d,h,i,j,k,m,()),()))
def u0 (g0 : Y141 → Option Y164) (g1 : Y164 → Option Y163) (g2 : Y164 → Option Y163) (x : Y33) := f0 g0 g1 g2 x.1.2.1 x.2.1.1 x.2.1.2.1 x.2.1.2.2.1 x.2.1.2.2.2.1 x.2.1.2.2.2.2.1 x.2.1.2.2.2.2.2.1 x.2.1.2.2.2.2.2.2.1 x.2.1.2.2.2.2.2.2.2.1
def f2 (g4 : Y106 → Option Y163) (a b c d h i j k m : Int) (n o p : List Y165) (q r s : Int) : Option Y27 :=
 bif decide (0 ≤ b) then
 bif decide (b < (o.length:Int)) then
 (g4 ((((o.getD (b.toNat) (0,0,0)).1,(o.getD (b.toNat) (0,0,0)).2.1,(o.getD (b.toNat) (0,0,0)).2.2,()),b,a,m,false,()),())).bind fun y2 =>
 bif !y2.1.1 then
 some (Sum.inl (((),a,c,d,true,()),(h,i,j,k,m,n,o,p,()),()))
 else
 bif decide (0 ≤ b) then
 bif decide (b < (p.length:Int)) then
 (g4 ((((p.getD (b.toNat) (0,0,0)).1,(p.getD (b.toNat) (0,0,0)).2.1,(p.getD (b.toNat) (0,0,0)).2.2,()),b,a,m,true,()),())).bind fun y6 =>
 bif !y6.1.1 then
 some (Sum.inl (((),a,c,d,true,()),(h,i,j,k,m,n,o,p,()),()))
 else
 bif decide (0 ≤ b) then
 bif decide (b < (n.length:Int)) then
 some (Sum.inl (((),a,c,d,!((n.getD (b.toNat) (0,0,0)).1 == q && (((n.getD (b.toNat) (0,0,0)).2.1 == r && ((n.getD (b.toNat) (0,0,0)).2.2 == s && true)) && true)),()),(h,i,j,k,m,n,o,p,()),()))
 else none
 else none
 else none
 else none
 else none
 else none
def u2 (g4 : Y106 → Option Y163) (x : Y26) := f2 g4 x.1.2.1 x.1.2.2.1 x.1.2.2.2.2.1 x.1.2.2.2.2.2.1 x.2.1.1 x.2.1.2.1 x.2.1.2.2.1 x.2.1.2.2.2.1 x.2.1.2.2.2.2.1 x.2.1.2.2.2.2.2.1 x.2.1.2.2.2.2.2.2.1 x.2.1.2.2.2.2.2.2.2.1 x.2.2.1.1 x.2.2.1.2.1 x.2.2.1.2.2.1
def f1 (g3 : Y90 → Option Y143) (l2 : Y26 → Option Y27) (L : Y32 → Option Y130) (a b c d h i j k : Int) (m n o : List Y165) : Option Y130 :=
 bif decide (c < b) then
 bif decide (0 ≤ c) then
 bif decide (c < (n.length:Int)) then
 bif decide (0 ≤ c) then
 bif decide (c < (o.length:Int)) then
 (g3 (((),((o.getD (c.toNat) (0,0,0)).1,(o.getD (c.toNat) (0,0,0)).2.1,(o.getD (c.toNat) (0,0,0)).2.2,()),()),((n.getD (c.toNat) (0,0,0)).1,(n.getD (c.toNat) (0,0,0)).2.1,(n.getD (c.toNat) (0,0,0)).2.2,()),())).bind fun y5 =>
 (l2 (((),a,c,(),b,c,()),(d,h,i,j,k,m,n,o,()),(y5.2.1.1,y5.2.1.2.1,y5.2.1.2.2.1,()),())).bind fun y6 =>
 y6.elim (fun a7 => bif a7.1.2.2.2.2.1 then
 some (Sum.inr (Sum.inl ((false,()),())))
 else
 (L (((),a7.1.2.1,a7.1.2.2.1,IntKind.wrap .i64 (a7.1.2.2.2.1 + 1),()),(a7.2.1.1,a7.2.1.2.1,a7.2.1.2.2.1,a7.2.1.2.2.2.1,a7.2.1.2.2.2.2.1,a7.2.1.2.2.2.2.2.1,a7.2.1.2.2.2.2.2.2.1,a7.2.1.2.2.2.2.2.2.2.1,()),())).bind fun y9 =>
 some y9) Empty.elim
 else none
 else none
 else none
 else none
 else
 some (Sum.inl ((),()))
def u1 (g3 : Y90 → Option Y143) (l2 : Y26 → Option Y27) (L : Y32 → Option Y130) (x : Y32) := f1 g3 l2 L x.1.2.1 x.1.2.2.1 x.1.2.2.2.1 x.2.1.1 x.2.1.2.1 x.2.1.2.2.1 x.2.1.2.2.2.1 x.2.1.2.2.2.2.1 x.2.1.2.2.2.2.2.1 x.2.1.2.2.2.2.2.2.1 x.2.1.2.2.2.2.2.2.2.1
def f (l0 : Y33 → Option Y30) (l1 : Y32 → Option Y130) (a b c d h : Int) (i j k : List Y165) : Option Y163 :=
 (l0 (((),(i.length:Int),()),(a,b,c,d,h,i,j,k,()),())).bind fun y0 =>
 y0.elim (fun a1 => bif a1.1.2.2.1 then
 some ((false,()),())
 else
 (l1 (((),a1.1.2.1,a1.1.2.1,0,()),(a1.2.1.1,a1.2.1.2.1,a1.2.1.2.2.1,a1.2.1.2.2.2.1,a1.2.1.2.2.2.2.1,a1.2.1.2.2.2.2.2.1,a1.2.1.2.2.2.2.2.2.1,a1.2.1.2.2.2.2.2.2.2.1,()),())).bind fun y3 =>
 y3.elim (fun a4 => some ((true,()),())) (fun b4 => b4.elim (fun a5 => some ((a5.1.1,()),())) Empty.elim)) Empty.elim
def u (l0 : Y33 → Option Y30) (l1 : Y32 → Option Y130) (x : Y36) := f l0 l1 x.1.1.1 x.1.1.2.1 x.1.1.2.2.1 x.1.1.2.2.2.1 x.1.1.2.2.2.2.1 x.1.1.2.2.2.2.2.1 x.1.1.2.2.2.2.2.2.1 x.1.1.2.2.2.2.2.2.2.1
section
variable (g0 : measure_Check.G) (g1 : profile_Length.G) (g2 : profile_Zone.G) (g3 : profile_Best.G) (g4 : profile_neighbour.G) (l0 : A0) (l1 : A1) (l2 : A2)
def E : Env := ⟨T,cE [(27,[],measure_Check.fe g0),(28,[],profile_Length.fe g1),(29,[],profile_Zone.fe g2),(30,[],profile_Best.fe g3),(31,[],profile_neighbour.fe g4)],lE [LE.of s0 x0 l0,LE.of s1 x1 l1,LE.of s2 x2 l2],92,0,Gt⟩
variable {g0 g1 g2 g3 g4 l0 l1 l2}
theorem e0 (L : A0) (x : s0.X) : rndO (E g0 g1 g2 g3 g4 l0 l1 l2) hs c s0 x0 0 false L x = u0 g0 g1 g2 x := by
 show _ = (_ : Option _)
 kernel_rfl
theorem e2 (L : A2) (x : s2.X) : rndO (E g0 g1 g2 g3 g4 l0 l1 l2) hs c s2 x2 2 false L x = u2 g4 x := by
 show _ = (_ : Option _)
 kernel_rfl
theorem e1 (L : A1) (x : s1.X) : rndO (E g0 g1 g2 g3 g4 l0 l1 l2) hs c s1 x1 1 true L x = u1 g3 l2 L x := by
 show _ = (_ : Option _)
 kernel_rfl
theorem e (x : sh.X) : bodO (E g0 g1 g2 g3 g4 l0 l1 l2) hs c Try.f13 sh osh x = u l0 l1 x := by
 show _ = (_ : Option _)
 kernel_rfl
end
noncomputable def L0 : Y33 → Option Y30 := u0 measure_Check.F profile_Length.F profile_Zone.F
noncomputable def L2 : Y26 → Option Y27 := u2 profile_neighbour.F
noncomputable def L1 : Y32 → Option Y130 := loop (u1 profile_Best.F L2)
noncomputable def F : Y36 → Option Y163 := u L0 L1
noncomputable abbrev R : Env := E measure_Check.F profile_Length.F profile_Zone.F profile_Best.F profile_neighbour.F L0 L1 L2
theorem L0_eq (a b c d h i : Int) (j k m : List Y165) : L0 (((),a,()),((b,c,d,h,i,j,k,m,()),())) = f0 measure_Check.F profile_Length.F profile_Zone.F a b c d h i j k m := rfl
theorem L1_eq (a b c d h i j k : Int) (m n o : List Y165) : L1 (((),a,b,c,()),((d,h,i,j,k,m,n,o,()),())) = f1 profile_Best.F L2 L1 a b c d h i j k m n o :=
 loopE (E := R) e1 (((),a,b,c,()),((d,h,i,j,k,m,n,o,()),()))
theorem L2_eq (a b c d h i j k m : Int) (n o p : List Y165) (q r s : Int) : L2 (((),a,b,(),c,d,()),((h,i,j,k,m,n,o,p,()),(q,r,s,()),())) = f2 profile_neighbour.F a b c d h i j k m n o p q r s := rfl
theorem F_eq (a b c d h : Int) (i j k : List Y165) : F (((a,b,c,d,h,i,j,k,()),()),()) = f L0 L1 a b c d h i j k := rfl
theorem ok {tabs} (ht : TabsOk tabs) : FOK Try.prog tabs 13 (fe F) :=
 fn_keep3 (E := R) (hs := hs) Try.func13 e pw tb (gt_ok ht) (by kernel_rfl) (by kernel_rfl) rfl ⟨measure_Check.ok ht,profile_Length.ok ht,profile_Zone.ok ht,profile_Best.ok ht,profile_neighbour.ok ht,trivial⟩ 3 (by kernel_rfl) ⟨cA e0 (by kernel_rfl) (by kernel_rfl),lA e1 (by kernel_rfl) (by kernel_rfl),cA e2 (by kernel_rfl) (by kernel_rfl),trivial⟩
end profile_Valid
/-! law37_awake -/
namespace law37_awake
noncomputable def c : Go.Code := Try.f9.body.getD .skip
abbrev sh : Sh := ⟨[], []⟩
abbrev osh : Sh := ⟨[q15], []⟩
abbrev G := sh.X → Option osh.X
abbrev fe (g : G) : FE := FE.of [] false sh osh g
abbrev s0 : Sh := ⟨[q16, q13], [q8, .row 31 (.pair (.int .i64) (.pair (.int .i64) (.int .i64))), .row 31 (.pair (.int .i64) (.pair (.int .i64) (.int .i64))), .row 31 (.pair (.int .i64) (.pair (.int .i64) (.int .i64)))]⟩
abbrev x0 : List (Ex × Sh) := [(.normal, ⟨[q15], []⟩)]
abbrev A0 := s0.X → Option (sumX x0)
def hs : List Hint := [⟨[0,1,1],0,[1,2],[(0,[0])]⟩]
def f0 (g1 : Y36 → Option Y163) (a b c d h i : Int) (j k m : List Y165) : Option Y157 :=
 bif a == 0 then
 bif (j.length:Int) == 4 then
 bif decide (0 < (j.length:Int)) then
 bif (j.getD (Int.toNat 0) (0,0,0)).1 == 2 && (((j.getD (Int.toNat 0) (0,0,0)).2.1 == 0 && ((j.getD (Int.toNat 0) (0,0,0)).2.2 == 1 && true)) && true) then
 bif decide (0 < (k.length:Int)) then
 bif (k.getD (Int.toNat 0) (0,0,0)).1 == -1 then
 (g1 (((b,c,d,h,i,j,k,m,()),()),())).bind fun y6 =>
 some (Sum.inl ((y6.1.1,()),()))
 else
 some (Sum.inl ((false,()),()))
 else none
 else
 some (Sum.inl ((false,()),()))
 else none
 else
 some (Sum.inl ((false,()),()))
 else
 some (Sum.inl ((false,()),()))
def u0 (g1 : Y36 → Option Y163) (x : Y29) := f0 g1 x.1.2.1 x.2.1.1 x.2.1.2.1 x.2.1.2.2.1 x.2.1.2.2.2.1 x.2.1.2.2.2.2.1 x.2.2.1 x.2.2.2.1 x.2.2.2.2.1
def f (g0 : Y107 → Option Y31) (l0 : Y29 → Option Y157) : Option Y163 :=
 (g0 (([(0:Int),1,0,1,5],(1,0,0,()),2,2,()),())).bind fun y0 =>
 (l0 (((),y0.1.2.1,()),(y0.1.1.1,y0.1.1.2.1,y0.1.1.2.2.1,y0.1.1.2.2.2.1,y0.1.1.2.2.2.2.1,(),(),(),()),y0.2.1,y0.2.2.1,y0.2.2.2.1,())).bind fun y1 =>
 y1.elim (fun a2 => some ((a2.1.1,()),())) Empty.elim
def u (g0 : Y107 → Option Y31) (l0 : Y29 → Option Y157) (x : Y166) := f g0 l0
section
variable (g0 : profile_Of.G) (g1 : profile_Valid.G) (l0 : A0)
def E : Env := ⟨T,cE [(21,[],profile_Of.fe g0),(13,[],profile_Valid.fe g1)],lE [LE.of s0 x0 l0],38,0,Gt⟩
variable {g0 g1 l0}
theorem e0 (L : A0) (x : s0.X) : rndO (E g0 g1 l0) hs c s0 x0 0 false L x = u0 g1 x := by
 show _ = (_ : Option _)
 kernel_rfl
theorem e (x : sh.X) : bodO (E g0 g1 l0) hs c Try.f9 sh osh x = u g0 l0 x := by
 show _ = (_ : Option _)
 kernel_rfl
end
noncomputable def L0 : Y29 → Option Y157 := u0 profile_Valid.F
noncomputable def F : Y166 → Option Y163 := u profile_Of.F L0
noncomputable abbrev R : Env := E profile_Of.F profile_Valid.F L0
theorem L0_eq (a b c d h i : Int) (j k m : List Y165) : L0 (((),a,()),((b,c,d,h,i,(),(),(),()),j,k,m,())) = f0 profile_Valid.F a b c d h i j k m := rfl
theorem F_eq : F ((),()) = f profile_Of.F L0 := rfl
theorem ok {tabs} (ht : TabsOk tabs) : FOK Try.prog tabs 9 (fe F) :=
 fn_keep3 (E := R) (hs := hs) Try.func9 e pw tb (gt_ok ht) (by kernel_rfl) (by kernel_rfl) rfl ⟨profile_Of.ok ht,profile_Valid.ok ht,trivial⟩ 1 (by kernel_rfl) ⟨cA e0 (by kernel_rfl) (by kernel_rfl),trivial⟩
end law37_awake
/-! second_New -/
namespace second_New
noncomputable def c : Go.Code := Try.f10.body.getD .skip
abbrev sh : Sh := ⟨[q14], []⟩
abbrev osh : Sh := ⟨[q16], [q2]⟩
abbrev G := sh.X → Option osh.X
abbrev fe (g : G) : FE := FE.of [true] true sh osh g
def f (a : List Int) : Option Y132 :=
 some (((),()),(a,0,()),())
def u (x : Y159) := f x.1.1
section
def E : Env := ⟨T,cE [],lE [],6,0,Gt⟩
theorem e (x : sh.X) : bodO (E) [] c Try.f10 sh osh x = u x := by
 show _ = (_ : Option _)
 kernel_rfl
end
noncomputable def F : Y159 → Option Y132 := u
noncomputable abbrev R : Env := E
theorem F_eq (a : List Int) : F ((a,()),()) = f a := rfl
theorem ok {tabs} (ht : TabsOk tabs) : FOK Try.prog tabs 10 (fe F) :=
 fn_keep3 (E := R) (hs := []) Try.func10 e pw tb (gt_ok ht) (by kernel_rfl) (by kernel_rfl) rfl trivial 0 (by kernel_rfl) trivial
end second_New
/-! second_Mod -/
namespace second_Mod
noncomputable def c : Go.Code := Try.f12.body.getD .skip
abbrev sh : Sh := ⟨[q13, q13], []⟩
abbrev osh : Sh := ⟨[q13], []⟩
abbrev G := sh.X → Option osh.X
abbrev fe (g : G) : FE := FE.of [true,true] false sh osh g
def f (a b : Int) : Option Y164 :=
 bif !(decide (b = 0)) then
 bif !(decide (b = 0)) then
 some ((Int.tmod (IntKind.wrap .i64 ((Int.tmod a b) + b)) b,()),())
 else none
 else none
def u (x : Y161) := f x.1.1 x.1.2.1
section
def E : Env := ⟨T,cE [],lE [],12,0,Gt⟩
theorem e (x : sh.X) : bodO (E) [] c Try.f12 sh osh x = u x := by
 show _ = (_ : Option _)
 kernel_rfl
end
noncomputable def F : Y161 → Option Y164 := u
noncomputable abbrev R : Env := E
theorem F_eq (a b : Int) : F ((a,b,()),()) = f a b := rfl
theorem ok {tabs} (ht : TabsOk tabs) : FOK Try.prog tabs 12 (fe F) :=
 fn_keep3 (E := R) (hs := []) Try.func12 e pw tb (gt_ok ht) (by kernel_rfl) (by kernel_rfl) rfl trivial 0 (by kernel_rfl) trivial
end second_Mod
/-! second_Deck_Next -/
namespace second_Deck_Next
noncomputable def c : Go.Code := Try.f18.body.getD .skip
abbrev sh : Sh := ⟨[q16, q13], [q2]⟩
abbrev osh : Sh := ⟨[q13], [q2]⟩
abbrev G := sh.X → Option osh.X
abbrev fe (g : G) : FE := FE.of [true,true] true sh osh g
abbrev s0 : Sh := ⟨[q16, q13], [q2]⟩
abbrev x0 : List (Ex × Sh) := [(.normal, ⟨[q16, q13, q15], [q2]⟩)]
abbrev A0 := s0.X → Option (sumX x0)
def hs : List Hint := [⟨[0,0,1],0,[0,1],[(0,[0,1,18])]⟩]
def f0 (a : Int) (b : List Int) (c : Int) : Option Y96 :=
 bif decide (c ≥ (b.length:Int)) then
 some (Sum.inl (((),a,true,()),(b,c,()),()))
 else
 some (Sum.inl (((),a,decide (a ≤ 1),()),(b,c,()),()))
def u0 (x : Y122) := f0 x.1.2.1 x.2.1.1 x.2.1.2.1
def f (g0 : Y161 → Option Y164) (l0 : Y122 → Option Y96) (a : Int) (b : List Int) (c : Int) : Option Y134 :=
 (l0 (((),a,()),(b,c,()),())).bind fun y0 =>
 y0.elim (fun a1 => bif a1.1.2.2.1 then
 some ((0,()),(a1.2.1.1,a1.2.1.2.1,()),())
 else
 bif decide (0 ≤ IntKind.wrap .i64 ((IntKind.wrap .i64 (a1.2.1.2.1 + 1)) - 1)) then
 bif decide (IntKind.wrap .i64 ((IntKind.wrap .i64 (a1.2.1.2.1 + 1)) - 1) < (a1.2.1.1.length:Int)) then
 (g0 ((a1.2.1.1.getD (Int.toNat (IntKind.wrap .i64 ((IntKind.wrap .i64 (a1.2.1.2.1 + 1)) - 1))) 0,a1.1.2.1,()),())).bind fun y5 =>
 some ((y5.1.1,()),(a1.2.1.1,IntKind.wrap .i64 (a1.2.1.2.1 + 1),()),())
 else none
 else none) Empty.elim
def u (g0 : Y161 → Option Y164) (l0 : Y122 → Option Y96) (x : Y122) := f g0 l0 x.1.2.1 x.2.1.1 x.2.1.2.1
section
variable (g0 : second_Mod.G) (l0 : A0)
def E : Env := ⟨T,cE [(12,[],second_Mod.fe g0)],lE [LE.of s0 x0 l0],39,1,Gt⟩
variable {g0 l0}
theorem e0 (L : A0) (x : s0.X) : rndO (E g0 l0) hs c s0 x0 0 false L x = u0 x := by
 show _ = (_ : Option _)
 kernel_rfl
theorem e (x : sh.X) : bodO (E g0 l0) hs c Try.f18 sh osh x = u g0 l0 x := by
 show _ = (_ : Option _)
 kernel_rfl
end
noncomputable def L0 : Y122 → Option Y96 := u0
noncomputable def F : Y122 → Option Y134 := u second_Mod.F L0
noncomputable abbrev R : Env := E second_Mod.F L0
theorem L0_eq (a : Int) (b : List Int) (c : Int) : L0 (((),a,()),((b,c,()),())) = f0 a b c := rfl
theorem F_eq (a : Int) (b : List Int) (c : Int) : F (((),a,()),((b,c,()),())) = f second_Mod.F L0 a b c := rfl
theorem ok {tabs} (ht : TabsOk tabs) : FOK Try.prog tabs 18 (fe F) :=
 fn_keep3 (E := R) (hs := hs) Try.func18 e pw tb (gt_ok ht) (by kernel_rfl) (by kernel_rfl) rfl ⟨second_Mod.ok ht,trivial⟩ 1 (by kernel_rfl) ⟨cA e0 (by kernel_rfl) (by kernel_rfl),trivial⟩
end second_Deck_Next
/-! second_Deck_Sample -/
namespace second_Deck_Sample
noncomputable def c : Go.Code := Try.f35.body.getD .skip
abbrev sh : Sh := ⟨[q16], [q2]⟩
abbrev osh : Sh := ⟨[q13], [q2]⟩
abbrev G := sh.X → Option osh.X
abbrev fe (g : G) : FE := FE.of [true] true sh osh g
def f (g0 : Y122 → Option Y134) (a : List Int) (b : Int) : Option Y134 :=
 (g0 (((),12,()),(a,b,()),())).bind fun y0 =>
 bif y0.1.1 == 0 then
 (g0 (((),2001,()),(y0.2.1.1,y0.2.1.2.1,()),())).bind fun y2 =>
 some ((IntKind.wrap .i64 (y2.1.1 - 1000),()),(y2.2.1.1,y2.2.1.2.1,()),())
 else
 bif y0.1.1 == 1 then
 (g0 (((),2,()),(y0.2.1.1,y0.2.1.2.1,()),())).bind fun y3 =>
 bif decide (0 ≤ y3.1.1) then
 bif decide (y3.1.1 < (List.length [(1000:Int),-1000]:Int)) then
 some ((List.getD [(1000:Int),-1000] (y3.1.1.toNat) 0,()),(y3.2.1.1,y3.2.1.2.1,()),())
 else none
 else none
 else
 (g0 (((),13,()),(y0.2.1.1,y0.2.1.2.1,()),())).bind fun y3 =>
 some ((IntKind.wrap .i64 (y3.1.1 - 4),()),(y3.2.1.1,y3.2.1.2.1,()),())
def u (g0 : Y122 → Option Y134) (x : Y132) := f g0 x.2.1.1 x.2.1.2.1
section
variable (g0 : second_Deck_Next.G)
def E : Env := ⟨T,cE [(18,[],second_Deck_Next.fe g0)],lE [],20,1,Gt⟩
variable {g0}
theorem e (x : sh.X) : bodO (E g0) [] c Try.f35 sh osh x = u g0 x := by
 show _ = (_ : Option _)
 kernel_rfl
end
noncomputable def F : Y132 → Option Y134 := u second_Deck_Next.F
noncomputable abbrev R : Env := E second_Deck_Next.F
theorem F_eq (a : List Int) (b : Int) : F (((),()),((a,b,()),())) = f second_Deck_Next.F a b := rfl
theorem ok {tabs} (ht : TabsOk tabs) : FOK Try.prog tabs 35 (fe F) :=
 fn_keep3 (E := R) (hs := []) Try.func35 e pw tb (gt_ok ht) (by kernel_rfl) (by kernel_rfl) rfl ⟨second_Deck_Next.ok ht,trivial⟩ 0 (by kernel_rfl) trivial
end second_Deck_Sample
/-! second_Deck_Values -/
namespace second_Deck_Values
noncomputable def c : Go.Code := Try.f17.body.getD .skip
abbrev sh : Sh := ⟨[q16, q13], [q2]⟩
abbrev osh : Sh := ⟨[q23], [q2, .row 3 (.int .i64)]⟩
abbrev G := sh.X → Option osh.X
abbrev fe (g : G) : FE := FE.of [true,true] true sh osh g
abbrev s0 : Sh := ⟨[q16, q13, q23, q13, q13, q13], [q2, .row 3 (.int .i64)]⟩
abbrev x0 : List (Ex × Sh) := [(.exit 0, ⟨[q23], [q2, .row 3 (.int .i64)]⟩)]
abbrev A0 := s0.X → Option (sumX x0)
abbrev s1 : Sh := ⟨[q16, q13, q23, q13, q13, q13, q13, q13], [q2, .row 3 (.int .i64)]⟩
abbrev x1 : List (Ex × Sh) := [(.normal, ⟨[q16, q13, q23, q13, q13, q13, q13], [q2, .row 3 (.int .i64)]⟩)]
abbrev A1 := s1.X → Option (sumX x1)
abbrev s2 : Sh := ⟨[q16, q13, q23, q13, q13, q13, q13, q13, q15], [q2, .row 3 (.int .i64)]⟩
abbrev x2 : List (Ex × Sh) := [(.normal, ⟨[q16, q13, q23, q13, q13, q13, q13], [q2, .row 3 (.int .i64)]⟩)]
abbrev A2 := s2.X → Option (sumX x2)
def hs : List Hint := [⟨[0,1,0,1,1,1,1],0,[0,1,5,6,7,8],[(2,[5])]⟩,⟨[1,0,1,0,0,1,0,0,1,0,1,1,1,1],1,[0,1,5,6,7,8,9,22],[(0,[0,1,5,6,7,8,9])]⟩,⟨[1,0,1,0,1,0,0,1,0,0,1,0,1,1,1,1],2,[0,1,5,6,7,8,9,22,23],[(0,[0,1,5,6,7,8,9])]⟩]
def f2 (g0 : Y122 → Option Y134) (a b c d h i : Int) (j : Bool) (k : List Int) (m : Int) (n : List Int) : Option Y54 :=
 bif j then
 bif !(decide (c = 0)) then
 some (Sum.inl (((),a,(),b,c,d,IntKind.wrap .i64 ((Int.tmod d c) * 3),()),(k,m,()),n,()))
 else none
 else
 bif i == 1 then
 bif !(decide (c = 0)) then
 (g0 (((),2,()),(k,m,()),())).bind fun y3 =>
 some (Sum.inl (((),a,(),b,c,d,IntKind.wrap .i64 ((IntKind.wrap .i64 ((Int.tmod d c) * 4)) + y3.1.1),()),(y3.2.1.1,y3.2.1.2.1,()),n,()))
 else none
 else
 bif i == 2 then
 bif !(decide (c = 0)) then
 some (Sum.inl (((),a,(),b,c,d,IntKind.wrap .i64 ((IntKind.wrap .i64 (Int.tdiv d c)) * 2),()),(k,m,()),n,()))
 else none
 else
 some (Sum.inl (((),a,(),b,c,d,h,()),(k,m,()),n,()))
def u2 (g0 : Y122 → Option Y134) (x : Y48) := f2 g0 x.1.2.1 x.1.2.2.2.1 x.1.2.2.2.2.1 x.1.2.2.2.2.2.1 x.1.2.2.2.2.2.2.1 x.1.2.2.2.2.2.2.2.1 x.1.2.2.2.2.2.2.2.2.1 x.2.1.1 x.2.1.2.1 x.2.2.1
def f1 (l2 : Y48 → Option Y54) (a b c d h i : Int) (j : List Int) (k : Int) (m : List Int) : Option Y54 :=
 (l2 (((),a,(),b,c,d,h,i,i == 0,()),(j,k,()),m,())).bind fun y0 =>
 y0.elim (fun a1 => some (Sum.inl (((),a1.1.2.1,(),a1.1.2.2.2.1,a1.1.2.2.2.2.1,a1.1.2.2.2.2.2.1,a1.1.2.2.2.2.2.2.1,()),(a1.2.1.1,a1.2.1.2.1,()),a1.2.2.1,()))) Empty.elim
def u1 (l2 : Y48 → Option Y54) (x : Y59) := f1 l2 x.1.2.1 x.1.2.2.2.1 x.1.2.2.2.2.1 x.1.2.2.2.2.2.1 x.1.2.2.2.2.2.2.1 x.1.2.2.2.2.2.2.2.1 x.2.1.1 x.2.1.2.1 x.2.2.1
def f0 (g0 : Y122 → Option Y134) (g1 : Y132 → Option Y134) (l1 : Y59 → Option Y54) (L : Y70 → Option Y97) (a b c d : Int) (h : List Int) (i : Int) (j : List Int) : Option Y97 :=
 bif decide (d < a) then
 (g1 (((),()),(h,i,()),())).bind fun y1 =>
 (l1 (((),a,(),b,c,d,y1.1.1,b,()),(y1.2.1.1,y1.2.1.2.1,()),j,())).bind fun y2 =>
 y2.elim (fun a3 => (g0 (((),30,()),(a3.2.1.1,a3.2.1.2.1,()),())).bind fun y4 =>
 bif y4.1.1 == 29 then
 bif decide ((((a3.2.2.1.length) + (List.length [(1073741824:Int)])) * (8:Nat)) ≤ (140737488355328:Nat)) then
 (L (((),a3.1.2.1,(),a3.1.2.2.2.1,a3.1.2.2.2.2.1,IntKind.wrap .i64 (a3.1.2.2.2.2.2.1 + 1),()),(y4.2.1.1,y4.2.1.2.1,()),a3.2.2.1 ++ [(1073741824:Int)],())).bind fun y7 =>
 some y7
 else none
 else
 bif decide ((((a3.2.2.1.length) + (List.length [a3.1.2.2.2.2.2.2.1])) * (8:Nat)) ≤ (140737488355328:Nat)) then
 (L (((),a3.1.2.1,(),a3.1.2.2.2.1,a3.1.2.2.2.2.1,IntKind.wrap .i64 (a3.1.2.2.2.2.2.1 + 1),()),(y4.2.1.1,y4.2.1.2.1,()),a3.2.2.1 ++ [a3.1.2.2.2.2.2.2.1],())).bind fun y7 =>
 some y7
 else none) Empty.elim
 else
 some (Sum.inl (((),()),(h,i,()),j,()))
def u0 (g0 : Y122 → Option Y134) (g1 : Y132 → Option Y134) (l1 : Y59 → Option Y54) (L : Y70 → Option Y97) (x : Y70) := f0 g0 g1 l1 L x.1.2.1 x.1.2.2.2.1 x.1.2.2.2.2.1 x.1.2.2.2.2.2.1 x.2.1.1 x.2.1.2.1 x.2.2.1
def f (g0 : Y122 → Option Y134) (l0 : Y70 → Option Y97) (a : Int) (b : List Int) (c : Int) : Option Y115 :=
 (g0 (((),5,()),(b,c,()),())).bind fun y0 =>
 (g0 (((),4,()),(y0.2.1.1,y0.2.1.2.1,()),())).bind fun y1 =>
 (l0 (((),a,(),y0.1.1,IntKind.wrap .i64 (2 + y1.1.1),0,()),(y1.2.1.1,y1.2.1.2.1,()),([]:List Int),())).bind fun y2 =>
 y2.elim (fun a3 => some (((),()),(a3.2.1.1,a3.2.1.2.1,()),a3.2.2.1,())) Empty.elim
def u (g0 : Y122 → Option Y134) (l0 : Y70 → Option Y97) (x : Y122) := f g0 l0 x.1.2.1 x.2.1.1 x.2.1.2.1
section
variable (g0 : second_Deck_Next.G) (g1 : second_Deck_Sample.G) (l0 : A0) (l1 : A1) (l2 : A2)
def E : Env := ⟨T,cE [(18,[],second_Deck_Next.fe g0),(35,[],second_Deck_Sample.fe g1)],lE [LE.of s0 x0 l0,LE.of s1 x1 l1,LE.of s2 x2 l2],52,1,Gt⟩
variable {g0 g1 l0 l1 l2}
theorem e2 (L : A2) (x : s2.X) : rndO (E g0 g1 l0 l1 l2) hs c s2 x2 2 false L x = u2 g0 x := by
 show _ = (_ : Option _)
 kernel_rfl
theorem e1 (L : A1) (x : s1.X) : rndO (E g0 g1 l0 l1 l2) hs c s1 x1 1 false L x = u1 l2 x := by
 show _ = (_ : Option _)
 kernel_rfl
theorem e0 (L : A0) (x : s0.X) : rndO (E g0 g1 l0 l1 l2) hs c s0 x0 0 true L x = u0 g0 g1 l1 L x := by
 show _ = (_ : Option _)
 kernel_rfl
theorem e (x : sh.X) : bodO (E g0 g1 l0 l1 l2) hs c Try.f17 sh osh x = u g0 l0 x := by
 show _ = (_ : Option _)
 kernel_rfl
end
noncomputable def L2 : Y48 → Option Y54 := u2 second_Deck_Next.F
noncomputable def L1 : Y59 → Option Y54 := u1 L2
noncomputable def L0 : Y70 → Option Y97 := loop (u0 second_Deck_Next.F second_Deck_Sample.F L1)
noncomputable def F : Y122 → Option Y115 := u second_Deck_Next.F L0
noncomputable abbrev R : Env := E second_Deck_Next.F second_Deck_Sample.F L0 L1 L2
theorem L0_eq (a b c d : Int) (h : List Int) (i : Int) (j : List Int) : L0 (((),a,(),b,c,d,()),((h,i,()),j,())) = f0 second_Deck_Next.F second_Deck_Sample.F L1 L0 a b c d h i j :=
 loopE (E := R) e0 (((),a,(),b,c,d,()),((h,i,()),j,()))
theorem L1_eq (a b c d h i : Int) (j : List Int) (k : Int) (m : List Int) : L1 (((),a,(),b,c,d,h,i,()),((j,k,()),m,())) = f1 L2 a b c d h i j k m := rfl
theorem L2_eq (a b c d h i : Int) (j : Bool) (k : List Int) (m : Int) (n : List Int) : L2 (((),a,(),b,c,d,h,i,j,()),((k,m,()),n,())) = f2 second_Deck_Next.F a b c d h i j k m n := rfl
theorem F_eq (a : Int) (b : List Int) (c : Int) : F (((),a,()),((b,c,()),())) = f second_Deck_Next.F L0 a b c := rfl
theorem ok {tabs} (ht : TabsOk tabs) : FOK Try.prog tabs 17 (fe F) :=
 fn_keep3 (E := R) (hs := hs) Try.func17 e pw tb (gt_ok ht) (by kernel_rfl) (by kernel_rfl) rfl ⟨second_Deck_Next.ok ht,second_Deck_Sample.ok ht,trivial⟩ 3 (by kernel_rfl) ⟨lA e0 (by kernel_rfl) (by kernel_rfl),cA e1 (by kernel_rfl) (by kernel_rfl),cA e2 (by kernel_rfl) (by kernel_rfl),trivial⟩
end second_Deck_Values
/-! second_Deck_Measure -/
namespace second_Deck_Measure
noncomputable def c : Go.Code := Try.f19.body.getD .skip
abbrev sh : Sh := ⟨[q16, q13], [q2]⟩
abbrev osh : Sh := ⟨[q11], [q2]⟩
abbrev G := sh.X → Option osh.X
abbrev fe (g : G) : FE := FE.of [true,true] true sh osh g
def f (g0 : Y122 → Option Y134) (a : Int) (b : List Int) (c : Int) : Option Y102 :=
 bif a == 0 then
 (g0 (((),5,()),(b,c,()),())).bind fun y1 =>
 bif IntKind.wrap .i64 (1 + y1.1.1) == 4 then
 (g0 (((),5,()),(y1.2.1.1,y1.2.1.2.1,()),())).bind fun y3 =>
 bif decide (0 ≤ y3.1.1) then
 bif decide (y3.1.1 < (List.length [(0:Int),1,2,5,32]:Int)) then
 some (((IntKind.wrap .i64 (1 + y1.1.1),List.getD [(0:Int),1,2,5,32] (y3.1.1.toNat) 0,0,()),()),(y3.2.1.1,y3.2.1.2.1,()),())
 else none
 else none
 else
 bif IntKind.wrap .i64 (1 + y1.1.1) == 5 then
 (g0 (((),9,()),(y1.2.1.1,y1.2.1.2.1,()),())).bind fun y4 =>
 some (((IntKind.wrap .i64 (1 + y1.1.1),0,IntKind.wrap .i64 (y4.1.1 - 3),()),()),(y4.2.1.1,y4.2.1.2.1,()),())
 else
 some (((IntKind.wrap .i64 (1 + y1.1.1),0,0,()),()),(y1.2.1.1,y1.2.1.2.1,()),())
 else
 bif a == 4 then
 (g0 (((),5,()),(b,c,()),())).bind fun y2 =>
 bif decide (0 ≤ y2.1.1) then
 bif decide (y2.1.1 < (List.length [(0:Int),1,2,5,32]:Int)) then
 some (((a,List.getD [(0:Int),1,2,5,32] (y2.1.1.toNat) 0,0,()),()),(y2.2.1.1,y2.2.1.2.1,()),())
 else none
 else none
 else
 bif a == 5 then
 (g0 (((),9,()),(b,c,()),())).bind fun y3 =>
 some (((a,0,IntKind.wrap .i64 (y3.1.1 - 3),()),()),(y3.2.1.1,y3.2.1.2.1,()),())
 else
 some (((a,0,0,()),()),(b,c,()),())
def u (g0 : Y122 → Option Y134) (x : Y122) := f g0 x.1.2.1 x.2.1.1 x.2.1.2.1
section
variable (g0 : second_Deck_Next.G)
def E : Env := ⟨T,cE [(18,[],second_Deck_Next.fe g0)],lE [],31,1,Gt⟩
variable {g0}
theorem e (x : sh.X) : bodO (E g0) [] c Try.f19 sh osh x = u g0 x := by
 show _ = (_ : Option _)
 kernel_rfl
end
noncomputable def F : Y122 → Option Y102 := u second_Deck_Next.F
noncomputable abbrev R : Env := E second_Deck_Next.F
theorem F_eq (a : Int) (b : List Int) (c : Int) : F (((),a,()),((b,c,()),())) = f second_Deck_Next.F a b c := rfl
theorem ok {tabs} (ht : TabsOk tabs) : FOK Try.prog tabs 19 (fe F) :=
 fn_keep3 (E := R) (hs := []) Try.func19 e pw tb (gt_ok ht) (by kernel_rfl) (by kernel_rfl) rfl ⟨second_Deck_Next.ok ht,trivial⟩ 0 (by kernel_rfl) trivial
end second_Deck_Measure
/-! second_Deck_Length -/
namespace second_Deck_Length
noncomputable def c : Go.Code := Try.f20.body.getD .skip
abbrev sh : Sh := ⟨[q16], [q2]⟩
abbrev osh : Sh := ⟨[q13], [q2]⟩
abbrev G := sh.X → Option osh.X
abbrev fe (g : G) : FE := FE.of [true] true sh osh g
def f (g0 : Y122 → Option Y134) (a : List Int) (b : Int) : Option Y134 :=
 (g0 (((),5,()),(a,b,()),())).bind fun y0 =>
 some ((IntKind.wrap .i64 (2 + y0.1.1),()),(y0.2.1.1,y0.2.1.2.1,()),())
def u (g0 : Y122 → Option Y134) (x : Y132) := f g0 x.2.1.1 x.2.1.2.1
section
variable (g0 : second_Deck_Next.G)
def E : Env := ⟨T,cE [(18,[],second_Deck_Next.fe g0)],lE [],6,1,Gt⟩
variable {g0}
theorem e (x : sh.X) : bodO (E g0) [] c Try.f20 sh osh x = u g0 x := by
 show _ = (_ : Option _)
 kernel_rfl
end
noncomputable def F : Y132 → Option Y134 := u second_Deck_Next.F
noncomputable abbrev R : Env := E second_Deck_Next.F
theorem F_eq (a : List Int) (b : Int) : F (((),()),((a,b,()),())) = f second_Deck_Next.F a b := rfl
theorem ok {tabs} (ht : TabsOk tabs) : FOK Try.prog tabs 20 (fe F) :=
 fn_keep3 (E := R) (hs := []) Try.func20 e pw tb (gt_ok ht) (by kernel_rfl) (by kernel_rfl) rfl ⟨second_Deck_Next.ok ht,trivial⟩ 0 (by kernel_rfl) trivial
end second_Deck_Length
/-! ref04_Sample -/
namespace ref04_Sample
noncomputable def c : Go.Code := Try.f53.body.getD .skip
abbrev sh : Sh := ⟨[q13], []⟩
abbrev osh : Sh := ⟨[q15], []⟩
abbrev G := sh.X → Option osh.X
abbrev fe (g : G) : FE := FE.of [true] false sh osh g
def f (a : Int) : Option Y163 :=
 bif decide (a ≥ -1000) then
 some ((decide (a ≤ 1000),()),())
 else
 some ((false,()),())
def u (x : Y164) := f x.1.1
section
def E : Env := ⟨T,cE [],lE [],9,0,Gt⟩
theorem e (x : sh.X) : bodO (E) [] c Try.f53 sh osh x = u x := by
 show _ = (_ : Option _)
 kernel_rfl
end
noncomputable def F : Y164 → Option Y163 := u
noncomputable abbrev R : Env := E
theorem F_eq (a : Int) : F ((a,()),()) = f a := rfl
theorem ok {tabs} (ht : TabsOk tabs) : FOK Try.prog tabs 53 (fe F) :=
 fn_keep3 (E := R) (hs := []) Try.func53 e pw tb (gt_ok ht) (by kernel_rfl) (by kernel_rfl) rfl trivial 0 (by kernel_rfl) trivial
end ref04_Sample
/-! ref17_Check -/
namespace ref17_Check
noncomputable def c : Go.Code := Try.f32.body.getD .skip
abbrev sh : Sh := ⟨[q11], []⟩
abbrev osh : Sh := ⟨[q13], []⟩
abbrev G := sh.X → Option osh.X
abbrev fe (g : G) : FE := FE.of [true] false sh osh g
abbrev s0 : Sh := ⟨[q16], [q0]⟩
abbrev x0 : List (Ex × Sh) := [(.normal, ⟨[q15], []⟩)]
abbrev A0 := s0.X → Option (sumX x0)
def hs : List Hint := [⟨[0,0,1],0,[1],[(0,[46])]⟩]
def f0 (g0 : Y164 → Option Y163) (a b c : Int) : Option Y157 :=
 bif decide (a < 1) then
 some (Sum.inl ((true,()),()))
 else
 bif decide (a > 5) then
 some (Sum.inl ((true,()),()))
 else
 bif decide (b < 0) then
 some (Sum.inl ((true,()),()))
 else
 bif decide (b > 32) then
 some (Sum.inl ((true,()),()))
 else
 bif a != 4 then
 bif b != 0 then
 some (Sum.inl ((true,()),()))
 else
 (g0 ((c,()),())).bind fun y6 =>
 bif !y6.1.1 then
 some (Sum.inl ((true,()),()))
 else
 bif a != 5 then
 some (Sum.inl ((c != 0,()),()))
 else
 some (Sum.inl ((false,()),()))
 else
 (g0 ((c,()),())).bind fun y5 =>
 bif !y5.1.1 then
 some (Sum.inl ((true,()),()))
 else
 bif a != 5 then
 some (Sum.inl ((c != 0,()),()))
 else
 some (Sum.inl ((false,()),()))
def u0 (g0 : Y164 → Option Y163) (x : Y133) := f0 g0 x.2.1.1 x.2.1.2.1 x.2.1.2.2.1
def f (l0 : Y133 → Option Y157) (a b c : Int) : Option Y164 :=
 (l0 (((),()),(a,b,c,()),())).bind fun y0 =>
 y0.elim (fun a1 => bif a1.1.1 then
 some ((9,()),())
 else
 some ((0,()),())) Empty.elim
def u (l0 : Y133 → Option Y157) (x : Y141) := f l0 x.1.1.1 x.1.1.2.1 x.1.1.2.2.1
section
variable (g0 : ref04_Sample.G) (l0 : A0)
def E : Env := ⟨T,cE [(53,[],ref04_Sample.fe g0)],lE [LE.of s0 x0 l0],47,0,Gt⟩
variable {g0 l0}
theorem e0 (L : A0) (x : s0.X) : rndO (E g0 l0) hs c s0 x0 0 false L x = u0 g0 x := by
 show _ = (_ : Option _)
 kernel_rfl
theorem e (x : sh.X) : bodO (E g0 l0) hs c Try.f32 sh osh x = u l0 x := by
 show _ = (_ : Option _)
 kernel_rfl
end
noncomputable def L0 : Y133 → Option Y157 := u0 ref04_Sample.F
noncomputable def F : Y141 → Option Y164 := u L0
noncomputable abbrev R : Env := E ref04_Sample.F L0
theorem L0_eq (a b c : Int) : L0 (((),()),((a,b,c,()),())) = f0 ref04_Sample.F a b c := rfl
theorem F_eq (a b c : Int) : F (((a,b,c,()),()),()) = f L0 a b c := rfl
theorem ok {tabs} (ht : TabsOk tabs) : FOK Try.prog tabs 32 (fe F) :=
 fn_keep3 (E := R) (hs := hs) Try.func32 e pw tb (gt_ok ht) (by kernel_rfl) (by kernel_rfl) rfl ⟨ref04_Sample.ok ht,trivial⟩ 1 (by kernel_rfl) ⟨cA e0 (by kernel_rfl) (by kernel_rfl),trivial⟩
end ref17_Check
/-! ref12_Samples -/
namespace ref12_Samples
noncomputable def c : Go.Code := Try.f85.body.getD .skip
abbrev sh : Sh := ⟨[q14], []⟩
abbrev osh : Sh := ⟨[q13], []⟩
abbrev G := sh.X → Option osh.X
abbrev fe (g : G) : FE := FE.of [true] false sh osh g
abbrev s0 : Sh := ⟨[q14, q13, q13], []⟩
abbrev x0 : List (Ex × Sh) := [(.exit 0, ⟨[], []⟩), (.ret, ⟨[q13], []⟩)]
abbrev A0 := s0.X → Option (sumX x0)
def hs : List Hint := [⟨[0,1,0,1],0,[0,5,6],[(2,[]),(1,[2])]⟩]
def f0 (g0 : Y164 → Option Y163) (L : Y148 → Option Y131) (a : List Int) (b c : Int) : Option Y131 :=
 bif decide (c < b) then
 bif decide (0 ≤ c) then
 bif decide (c < (a.length:Int)) then
 (g0 ((a.getD (c.toNat) 0,()),())).bind fun y3 =>
 bif !y3.1.1 then
 some (Sum.inr (Sum.inl ((12,()),())))
 else
 (L ((a,b,IntKind.wrap .i64 (c + 1),()),())).bind fun y5 =>
 some y5
 else none
 else none
 else
 some (Sum.inl ((),()))
def u0 (g0 : Y164 → Option Y163) (L : Y148 → Option Y131) (x : Y148) := f0 g0 L x.1.1 x.1.2.1 x.1.2.2.1
def f (l0 : Y148 → Option Y131) (a : List Int) : Option Y164 :=
 (l0 ((a,(a.length:Int),0,()),())).bind fun y0 =>
 y0.elim (fun a1 => some ((0,()),())) (fun b1 => b1.elim (fun a2 => some ((a2.1.1,()),())) Empty.elim)
def u (l0 : Y148 → Option Y131) (x : Y159) := f l0 x.1.1
section
variable (g0 : ref04_Sample.G) (l0 : A0)
def E : Env := ⟨T,cE [(53,[],ref04_Sample.fe g0)],lE [LE.of s0 x0 l0],16,0,Gt⟩
variable {g0 l0}
theorem e0 (L : A0) (x : s0.X) : rndO (E g0 l0) hs c s0 x0 0 true L x = u0 g0 L x := by
 show _ = (_ : Option _)
 kernel_rfl
theorem e (x : sh.X) : bodO (E g0 l0) hs c Try.f85 sh osh x = u l0 x := by
 show _ = (_ : Option _)
 kernel_rfl
end
noncomputable def L0 : Y148 → Option Y131 := loop (u0 ref04_Sample.F)
noncomputable def F : Y159 → Option Y164 := u L0
noncomputable abbrev R : Env := E ref04_Sample.F L0
theorem L0_eq (a : List Int) (b c : Int) : L0 ((a,b,c,()),()) = f0 ref04_Sample.F L0 a b c :=
 loopE (E := R) e0 ((a,b,c,()),())
theorem F_eq (a : List Int) : F ((a,()),()) = f L0 a := rfl
theorem ok {tabs} (ht : TabsOk tabs) : FOK Try.prog tabs 85 (fe F) :=
 fn_keep3 (E := R) (hs := hs) Try.func85 e pw tb (gt_ok ht) (by kernel_rfl) (by kernel_rfl) rfl ⟨ref04_Sample.ok ht,trivial⟩ 1 (by kernel_rfl) ⟨lA e0 (by kernel_rfl) (by kernel_rfl),trivial⟩
end ref12_Samples
/-! ref12_Two -/
namespace ref12_Two
noncomputable def c : Go.Code := Try.f59.body.getD .skip
abbrev sh : Sh := ⟨[q14, q14, q13], []⟩
abbrev osh : Sh := ⟨[q13], []⟩
abbrev G := sh.X → Option osh.X
abbrev fe (g : G) : FE := FE.of [true,true,true] false sh osh g
abbrev s0 : Sh := ⟨[q14, q14, q13], []⟩
abbrev x0 : List (Ex × Sh) := [(.normal, ⟨[q14, q14, q13, q15], []⟩)]
abbrev A0 := s0.X → Option (sumX x0)
abbrev s1 : Sh := ⟨[q14, q14, q13], []⟩
abbrev x1 : List (Ex × Sh) := [(.normal, ⟨[q14, q14, q13, q15], []⟩)]
abbrev A1 := s1.X → Option (sumX x1)
def hs : List Hint := [⟨[0,0,1],0,[0,1,2],[(0,[0,1,2,24])]⟩,⟨[0,0,1,1],1,[0,1,2],[(0,[0,1,2,32])]⟩]
def f0 (a b : List Int) (c : Int) : Option Y113 :=
 bif decide ((a.length:Int) < 2) then
 some (Sum.inl ((a,b,c,true,()),()))
 else
 bif decide ((a.length:Int) > 32) then
 some (Sum.inl ((a,b,c,true,()),()))
 else
 bif decide ((b.length:Int) < 2) then
 some (Sum.inl ((a,b,c,true,()),()))
 else
 some (Sum.inl ((a,b,c,decide ((b.length:Int) > 32),()),()))
def u0 (x : Y136) := f0 x.1.1 x.1.2.1 x.1.2.2.1
def f1 (g0 : Y159 → Option Y164) (a b : List Int) (c : Int) : Option Y113 :=
 (g0 ((a,()),())).bind fun y0 =>
 bif y0.1.1 != 0 then
 some (Sum.inl ((a,b,c,true,()),()))
 else
 (g0 ((b,()),())).bind fun y2 =>
 some (Sum.inl ((a,b,c,y2.1.1 != 0,()),()))
def u1 (g0 : Y159 → Option Y164) (x : Y136) := f1 g0 x.1.1 x.1.2.1 x.1.2.2.1
def f (l0 : Y136 → Option Y113) (l1 : Y136 → Option Y113) (a b : List Int) (c : Int) : Option Y164 :=
 (l0 ((a,b,c,()),())).bind fun y0 =>
 y0.elim (fun a1 => bif a1.1.2.2.2.1 then
 some ((8,()),())
 else
 (l1 ((a1.1.1,a1.1.2.1,a1.1.2.2.1,()),())).bind fun y3 =>
 y3.elim (fun a4 => bif a4.1.2.2.2.1 then
 some ((12,()),())
 else
 bif decide (IntKind.wrap .i64 ((a4.1.1.length:Int) - (a4.1.2.1.length:Int)) > a4.1.2.2.1) then
 some ((8,()),())
 else
 bif decide (IntKind.wrap .i64 ((a4.1.2.1.length:Int) - (a4.1.1.length:Int)) > a4.1.2.2.1) then
 some ((8,()),())
 else
 some ((0,()),())) Empty.elim) Empty.elim
def u (l0 : Y136 → Option Y113) (l1 : Y136 → Option Y113) (x : Y136) := f l0 l1 x.1.1 x.1.2.1 x.1.2.2.1
section
variable (g0 : ref12_Samples.G) (l0 : A0) (l1 : A1)
def E : Env := ⟨T,cE [(85,[],ref12_Samples.fe g0)],lE [LE.of s0 x0 l0,LE.of s1 x1 l1],49,0,Gt⟩
variable {g0 l0 l1}
theorem e0 (L : A0) (x : s0.X) : rndO (E g0 l0 l1) hs c s0 x0 0 false L x = u0 x := by
 show _ = (_ : Option _)
 kernel_rfl
theorem e1 (L : A1) (x : s1.X) : rndO (E g0 l0 l1) hs c s1 x1 1 false L x = u1 g0 x := by
 show _ = (_ : Option _)
 kernel_rfl
theorem e (x : sh.X) : bodO (E g0 l0 l1) hs c Try.f59 sh osh x = u l0 l1 x := by
 show _ = (_ : Option _)
 kernel_rfl
end
noncomputable def L0 : Y136 → Option Y113 := u0
noncomputable def L1 : Y136 → Option Y113 := u1 ref12_Samples.F
noncomputable def F : Y136 → Option Y164 := u L0 L1
noncomputable abbrev R : Env := E ref12_Samples.F L0 L1
theorem L0_eq (a b : List Int) (c : Int) : L0 ((a,b,c,()),()) = f0 a b c := rfl
theorem L1_eq (a b : List Int) (c : Int) : L1 ((a,b,c,()),()) = f1 ref12_Samples.F a b c := rfl
theorem F_eq (a b : List Int) (c : Int) : F ((a,b,c,()),()) = f L0 L1 a b c := rfl
theorem ok {tabs} (ht : TabsOk tabs) : FOK Try.prog tabs 59 (fe F) :=
 fn_keep3 (E := R) (hs := hs) Try.func59 e pw tb (gt_ok ht) (by kernel_rfl) (by kernel_rfl) rfl ⟨ref12_Samples.ok ht,trivial⟩ 2 (by kernel_rfl) ⟨cA e0 (by kernel_rfl) (by kernel_rfl),cA e1 (by kernel_rfl) (by kernel_rfl),trivial⟩
end ref12_Two
/-! ref12_sums -/
namespace ref12_sums
noncomputable def c : Go.Code := Try.f60.body.getD .skip
abbrev sh : Sh := ⟨[q14, q14], []⟩
abbrev osh : Sh := ⟨[q13, q13], []⟩
abbrev G := sh.X → Option osh.X
abbrev fe (g : G) : FE := FE.of [true,true] false sh osh g
abbrev s0 : Sh := ⟨[q14, q14, q13, q13, q13, q13], []⟩
abbrev x0 : List (Ex × Sh) := [(.exit 0, ⟨[q13, q13], []⟩)]
abbrev A0 := s0.X → Option (sumX x0)
def hs : List Hint := [⟨[0,1,0,1,1],0,[0,1,6,7,10,11],[(2,[6,7])]⟩]
def f0 (L : Y112 → Option Y151) (a b : List Int) (c d h i : Int) : Option Y151 :=
 bif decide (i < h) then
 bif decide (0 ≤ i) then
 bif decide (i < (a.length:Int)) then
 bif decide (0 ≤ i) then
 bif decide (i < (b.length:Int)) then
 bif decide (0 ≤ i) then
 bif decide (i < (a.length:Int)) then
 bif decide (0 ≤ i) then
 bif decide (i < (b.length:Int)) then
 bif decide (0 ≤ i) then
 bif decide (i < (a.length:Int)) then
 bif decide (0 ≤ i) then
 bif decide (i < (b.length:Int)) then
 (L ((a,b,IntKind.wrap .i64 ((IntKind.wrap .i64 (c + (a.getD (i.toNat) 0))) - (b.getD (i.toNat) 0)),IntKind.wrap .i64 (d + (IntKind.wrap .i64 ((IntKind.wrap .i64 ((a.getD (i.toNat) 0) - (b.getD (i.toNat) 0))) * (IntKind.wrap .i64 ((a.getD (i.toNat) 0) - (b.getD (i.toNat) 0)))))),h,IntKind.wrap .i64 (i + 1),()),())).bind fun y13 =>
 some y13
 else none
 else none
 else none
 else none
 else none
 else none
 else none
 else none
 else none
 else none
 else none
 else none
 else
 some (Sum.inl ((c,d,()),()))
def u0 (L : Y112 → Option Y151) (x : Y112) := f0 L x.1.1 x.1.2.1 x.1.2.2.1 x.1.2.2.2.1 x.1.2.2.2.2.1 x.1.2.2.2.2.2.1
def f (l0 : Y112 → Option Y151) (a b : List Int) : Option Y161 :=
 (l0 ((a,b,0,0,(a.length:Int),0,()),())).bind fun y0 =>
 y0.elim (fun a1 => some ((a1.1.1,a1.1.2.1,()),())) Empty.elim
def u (l0 : Y112 → Option Y151) (x : Y145) := f l0 x.1.1 x.1.2.1
section
variable (l0 : A0)
def E : Env := ⟨T,cE [],lE [LE.of s0 x0 l0],49,0,Gt⟩
variable {l0}
theorem e0 (L : A0) (x : s0.X) : rndO (E l0) hs c s0 x0 0 true L x = u0 L x := by
 show _ = (_ : Option _)
 kernel_rfl
theorem e (x : sh.X) : bodO (E l0) hs c Try.f60 sh osh x = u l0 x := by
 show _ = (_ : Option _)
 kernel_rfl
end
noncomputable def L0 : Y112 → Option Y151 := loop u0
noncomputable def F : Y145 → Option Y161 := u L0
noncomputable abbrev R : Env := E L0
theorem L0_eq (a b : List Int) (c d h i : Int) : L0 ((a,b,c,d,h,i,()),()) = f0 L0 a b c d h i :=
 loopE (E := R) e0 ((a,b,c,d,h,i,()),())
theorem F_eq (a b : List Int) : F ((a,b,()),()) = f L0 a b := rfl
theorem ok {tabs} (ht : TabsOk tabs) : FOK Try.prog tabs 60 (fe F) :=
 fn_keep3 (E := R) (hs := hs) Try.func60 e pw tb (gt_ok ht) (by kernel_rfl) (by kernel_rfl) rfl trivial 1 (by kernel_rfl) ⟨lA e0 (by kernel_rfl) (by kernel_rfl),trivial⟩
end ref12_sums
/-! ref01_common -/
namespace ref01_common
noncomputable def c : Go.Code := Try.f74.body.getD .skip
abbrev sh : Sh := ⟨[q13, q13], []⟩
abbrev osh : Sh := ⟨[q13], []⟩
abbrev G := sh.X → Option osh.X
abbrev fe (g : G) : FE := FE.of [true,true] false sh osh g
abbrev s0 : Sh := ⟨[q13, q13], []⟩
abbrev x0 : List (Ex × Sh) := [(.exit 0, ⟨[q13], []⟩)]
abbrev A0 := s0.X → Option (sumX x0)
def hs : List Hint := [⟨[0,0,1],0,[0,1],[(2,[0])]⟩]
def f0 (L : Y161 → Option Y158) (a b : Int) : Option Y158 :=
 bif decide (b > 0) then
 bif !(decide (b = 0)) then
 (L ((b,Int.tmod a b,()),())).bind fun y2 =>
 some y2
 else none
 else
 some (Sum.inl ((a,()),()))
def u0 (L : Y161 → Option Y158) (x : Y161) := f0 L x.1.1 x.1.2.1
def f (l0 : Y161 → Option Y158) (a b : Int) : Option Y164 :=
 (l0 ((a,b,()),())).bind fun y0 =>
 y0.elim (fun a1 => some ((a1.1.1,()),())) Empty.elim
def u (l0 : Y161 → Option Y158) (x : Y161) := f l0 x.1.1 x.1.2.1
section
variable (l0 : A0)
def E : Env := ⟨T,cE [],lE [LE.of s0 x0 l0],12,0,Gt⟩
variable {l0}
theorem e0 (L : A0) (x : s0.X) : rndO (E l0) hs c s0 x0 0 true L x = u0 L x := by
 show _ = (_ : Option _)
 kernel_rfl
theorem e (x : sh.X) : bodO (E l0) hs c Try.f74 sh osh x = u l0 x := by
 show _ = (_ : Option _)
 kernel_rfl
end
noncomputable def L0 : Y161 → Option Y158 := loop u0
noncomputable def F : Y161 → Option Y164 := u L0
noncomputable abbrev R : Env := E L0
theorem L0_eq (a b : Int) : L0 ((a,b,()),()) = f0 L0 a b :=
 loopE (E := R) e0 ((a,b,()),())
theorem F_eq (a b : Int) : F ((a,b,()),()) = f L0 a b := rfl
theorem ok {tabs} (ht : TabsOk tabs) : FOK Try.prog tabs 74 (fe F) :=
 fn_keep3 (E := R) (hs := hs) Try.func74 e pw tb (gt_ok ht) (by kernel_rfl) (by kernel_rfl) rfl trivial 1 (by kernel_rfl) ⟨lA e0 (by kernel_rfl) (by kernel_rfl),trivial⟩
end ref01_common
/-! ref01_Valid -/
namespace ref01_Valid
noncomputable def c : Go.Code := Try.f54.body.getD .skip
abbrev sh : Sh := ⟨[q10], []⟩
abbrev osh : Sh := ⟨[q15], []⟩
abbrev G := sh.X → Option osh.X
abbrev fe (g : G) : FE := FE.of [true] false sh osh g
abbrev s0 : Sh := ⟨[q16], [q1]⟩
abbrev x0 : List (Ex × Sh) := [(.normal, ⟨[q15], []⟩)]
abbrev A0 := s0.X → Option (sumX x0)
def hs : List Hint := [⟨[0,1],0,[1],[(0,[2])]⟩]
def f0 (g0 : Y161 → Option Y164) (a b : Int) : Option Y157 :=
 bif decide (a ≥ 0) then
 bif decide (a ≤ 2305843009213693952) then
 bif decide (b ≥ 1) then
 bif decide (b ≤ 1152921504606846976) then
 (g0 ((a,b,()),())).bind fun y4 =>
 some (Sum.inl ((y4.1.1 == 1,()),()))
 else
 some (Sum.inl ((false,()),()))
 else
 some (Sum.inl ((false,()),()))
 else
 some (Sum.inl ((false,()),()))
 else
 some (Sum.inl ((false,()),()))
def u0 (g0 : Y161 → Option Y164) (x : Y140) := f0 g0 x.2.1.1 x.2.1.2.1
def f (l0 : Y140 → Option Y157) (a b : Int) : Option Y163 :=
 (l0 (((),()),(a,b,()),())).bind fun y0 =>
 y0.elim (fun a1 => some ((a1.1.1,()),())) Empty.elim
def u (l0 : Y140 → Option Y157) (x : Y152) := f l0 x.1.1.1 x.1.1.2.1
section
variable (g0 : ref01_common.G) (l0 : A0)
def E : Env := ⟨T,cE [(74,[],ref01_common.fe g0)],lE [LE.of s0 x0 l0],29,0,Gt⟩
variable {g0 l0}
theorem e0 (L : A0) (x : s0.X) : rndO (E g0 l0) hs c s0 x0 0 false L x = u0 g0 x := by
 show _ = (_ : Option _)
 kernel_rfl
theorem e (x : sh.X) : bodO (E g0 l0) hs c Try.f54 sh osh x = u l0 x := by
 show _ = (_ : Option _)
 kernel_rfl
end
noncomputable def L0 : Y140 → Option Y157 := u0 ref01_common.F
noncomputable def F : Y152 → Option Y163 := u L0
noncomputable abbrev R : Env := E ref01_common.F L0
theorem L0_eq (a b : Int) : L0 (((),()),((a,b,()),())) = f0 ref01_common.F a b := rfl
theorem F_eq (a b : Int) : F (((a,b,()),()),()) = f L0 a b := rfl
theorem ok {tabs} (ht : TabsOk tabs) : FOK Try.prog tabs 54 (fe F) :=
 fn_keep3 (E := R) (hs := hs) Try.func54 e pw tb (gt_ok ht) (by kernel_rfl) (by kernel_rfl) rfl ⟨ref01_common.ok ht,trivial⟩ 1 (by kernel_rfl) ⟨cA e0 (by kernel_rfl) (by kernel_rfl),trivial⟩
end ref01_Valid
/-! ref01_Make -/
namespace ref01_Make
noncomputable def c : Go.Code := Try.f61.body.getD .skip
abbrev sh : Sh := ⟨[q13, q13], []⟩
abbrev osh : Sh := ⟨[q10, q13], []⟩
abbrev G := sh.X → Option osh.X
abbrev fe (g : G) : FE := FE.of [true,true] false sh osh g
abbrev s0 : Sh := ⟨[q13, q13, q16], [q1]⟩
abbrev x0 : List (Ex × Sh) := [(.normal, ⟨[q13, q13, q16, q15], [q1]⟩)]
abbrev A0 := s0.X → Option (sumX x0)
def hs : List Hint := [⟨[0,0,1],0,[0,1,4],[(0,[0,1,4,13])]⟩]
def f0 (a b c d : Int) : Option Y98 :=
 bif decide (a < 0) then
 some (Sum.inl ((a,b,(),true,()),(c,d,()),()))
 else
 some (Sum.inl ((a,b,(),decide (b < 1),()),(c,d,()),()))
def u0 (x : Y125) := f0 x.1.1 x.1.2.1 x.2.1.1 x.2.1.2.1
def f (g0 : Y161 → Option Y164) (g1 : Y152 → Option Y163) (l0 : Y125 → Option Y98) (a b : Int) : Option Y142 :=
 (l0 ((a,b,(),()),(0,0,()),())).bind fun y0 =>
 y0.elim (fun a1 => bif a1.1.2.2.2.1 then
 some (((0,0,()),1,()),())
 else
 (g0 ((a1.1.1,a1.1.2.1,()),())).bind fun y3 =>
 bif !(decide (y3.1.1 = 0)) then
 bif !(decide (y3.1.1 = 0)) then
 (g1 (((IntKind.wrap .i64 (Int.tdiv a1.1.1 y3.1.1),IntKind.wrap .i64 (Int.tdiv a1.1.2.1 y3.1.1),()),()),())).bind fun y6 =>
 bif !y6.1.1 then
 some (((0,0,()),1,()),())
 else
 some (((IntKind.wrap .i64 (Int.tdiv a1.1.1 y3.1.1),IntKind.wrap .i64 (Int.tdiv a1.1.2.1 y3.1.1),()),0,()),())
 else none
 else none) Empty.elim
def u (g0 : Y161 → Option Y164) (g1 : Y152 → Option Y163) (l0 : Y125 → Option Y98) (x : Y161) := f g0 g1 l0 x.1.1 x.1.2.1
section
variable (g0 : ref01_common.G) (g1 : ref01_Valid.G) (l0 : A0)
def E : Env := ⟨T,cE [(74,[],ref01_common.fe g0),(54,[],ref01_Valid.fe g1)],lE [LE.of s0 x0 l0],30,0,Gt⟩
variable {g0 g1 l0}
theorem e0 (L : A0) (x : s0.X) : rndO (E g0 g1 l0) hs c s0 x0 0 false L x = u0 x := by
 show _ = (_ : Option _)
 kernel_rfl
theorem e (x : sh.X) : bodO (E g0 g1 l0) hs c Try.f61 sh osh x = u g0 g1 l0 x := by
 show _ = (_ : Option _)
 kernel_rfl
end
noncomputable def L0 : Y125 → Option Y98 := u0
noncomputable def F : Y161 → Option Y142 := u ref01_common.F ref01_Valid.F L0
noncomputable abbrev R : Env := E ref01_common.F ref01_Valid.F L0
theorem L0_eq (a b c d : Int) : L0 ((a,b,(),()),((c,d,()),())) = f0 a b c d := rfl
theorem F_eq (a b : Int) : F ((a,b,()),()) = f ref01_common.F ref01_Valid.F L0 a b := rfl
theorem ok {tabs} (ht : TabsOk tabs) : FOK Try.prog tabs 61 (fe F) :=
 fn_keep3 (E := R) (hs := hs) Try.func61 e pw tb (gt_ok ht) (by kernel_rfl) (by kernel_rfl) rfl ⟨ref01_common.ok ht,ref01_Valid.ok ht,trivial⟩ 1 (by kernel_rfl) ⟨cA e0 (by kernel_rfl) (by kernel_rfl),trivial⟩
end ref01_Make
/-! ref12_Shifted -/
namespace ref12_Shifted
noncomputable def c : Go.Code := Try.f42.body.getD .skip
abbrev sh : Sh := ⟨[q14, q14], []⟩
abbrev osh : Sh := ⟨[q10, q13], []⟩
abbrev G := sh.X → Option osh.X
abbrev fe (g : G) : FE := FE.of [true,true] false sh osh g
def f (g0 : Y136 → Option Y164) (g1 : Y145 → Option Y161) (g2 : Y161 → Option Y142) (a b : List Int) : Option Y142 :=
 (g0 ((a,b,0,()),())).bind fun y0 =>
 bif y0.1.1 != 0 then
 some (((0,0,()),y0.1.1,()),())
 else
 (g1 ((a,b,()),())).bind fun y2 =>
 (g2 ((IntKind.wrap .i64 ((IntKind.wrap .i64 ((a.length:Int) * y2.1.2.1)) - (IntKind.wrap .i64 (y2.1.1 * y2.1.1))),(a.length:Int),()),())).bind fun y3 =>
 some (((y3.1.1.1,y3.1.1.2.1,()),y3.1.2.1,()),())
def u (g0 : Y136 → Option Y164) (g1 : Y145 → Option Y161) (g2 : Y161 → Option Y142) (x : Y145) := f g0 g1 g2 x.1.1 x.1.2.1
section
variable (g0 : ref12_Two.G) (g1 : ref12_sums.G) (g2 : ref01_Make.G)
def E : Env := ⟨T,cE [(59,[],ref12_Two.fe g0),(60,[],ref12_sums.fe g1),(61,[],ref01_Make.fe g2)],lE [],35,0,Gt⟩
variable {g0 g1 g2}
theorem e (x : sh.X) : bodO (E g0 g1 g2) [] c Try.f42 sh osh x = u g0 g1 g2 x := by
 show _ = (_ : Option _)
 kernel_rfl
end
noncomputable def F : Y145 → Option Y142 := u ref12_Two.F ref12_sums.F ref01_Make.F
noncomputable abbrev R : Env := E ref12_Two.F ref12_sums.F ref01_Make.F
theorem F_eq (a b : List Int) : F ((a,b,()),()) = f ref12_Two.F ref12_sums.F ref01_Make.F a b := rfl
theorem ok {tabs} (ht : TabsOk tabs) : FOK Try.prog tabs 42 (fe F) :=
 fn_keep3 (E := R) (hs := []) Try.func42 e pw tb (gt_ok ht) (by kernel_rfl) (by kernel_rfl) rfl ⟨ref12_Two.ok ht,ref12_sums.ok ht,ref01_Make.ok ht,trivial⟩ 0 (by kernel_rfl) trivial
end ref12_Shifted
/-! ref13_product -/
namespace ref13_product
noncomputable def c : Go.Code := Try.f64.body.getD .skip
abbrev sh : Sh := ⟨[q14, q14], []⟩
abbrev osh : Sh := ⟨[q13], []⟩
abbrev G := sh.X → Option osh.X
abbrev fe (g : G) : FE := FE.of [true,true] false sh osh g
abbrev s0 : Sh := ⟨[q14, q14, q13, q13, q13, q13, q13], []⟩
abbrev x0 : List (Ex × Sh) := [(.exit 0, ⟨[q14, q13, q13, q13], []⟩)]
abbrev A0 := s0.X → Option (sumX x0)
def hs : List Hint := [⟨[0,1,0,1,1],0,[0,1,5,6,7,10,11],[(2,[0,5,6,7])]⟩]
def f0 (L : Y100 → Option Y123) (a b : List Int) (c d h i j : Int) : Option Y123 :=
 bif decide (j < i) then
 bif decide (0 ≤ j) then
 bif decide (j < (a.length:Int)) then
 bif decide (0 ≤ j) then
 bif decide (j < (b.length:Int)) then
 bif decide (0 ≤ j) then
 bif decide (j < (a.length:Int)) then
 bif decide (0 ≤ j) then
 bif decide (j < (b.length:Int)) then
 (L ((a,b,IntKind.wrap .i64 (c + (IntKind.wrap .i64 ((a.getD (j.toNat) 0) * (b.getD (j.toNat) 0)))),IntKind.wrap .i64 (d + (a.getD (j.toNat) 0)),IntKind.wrap .i64 (h + (b.getD (j.toNat) 0)),i,IntKind.wrap .i64 (j + 1),()),())).bind fun y9 =>
 some y9
 else none
 else none
 else none
 else none
 else none
 else none
 else none
 else none
 else
 some (Sum.inl ((a,c,d,h,()),()))
def u0 (L : Y100 → Option Y123) (x : Y100) := f0 L x.1.1 x.1.2.1 x.1.2.2.1 x.1.2.2.2.1 x.1.2.2.2.2.1 x.1.2.2.2.2.2.1 x.1.2.2.2.2.2.2.1
def f (l0 : Y100 → Option Y123) (a b : List Int) : Option Y164 :=
 (l0 ((a,b,0,0,0,(a.length:Int),0,()),())).bind fun y0 =>
 y0.elim (fun a1 => some ((IntKind.wrap .i64 ((IntKind.wrap .i64 ((a1.1.1.length:Int) * a1.1.2.1)) - (IntKind.wrap .i64 (a1.1.2.2.1 * a1.1.2.2.2.1))),()),())) Empty.elim
def u (l0 : Y100 → Option Y123) (x : Y145) := f l0 x.1.1 x.1.2.1
section
variable (l0 : A0)
def E : Env := ⟨T,cE [],lE [LE.of s0 x0 l0],46,0,Gt⟩
variable {l0}
theorem e0 (L : A0) (x : s0.X) : rndO (E l0) hs c s0 x0 0 true L x = u0 L x := by
 show _ = (_ : Option _)
 kernel_rfl
theorem e (x : sh.X) : bodO (E l0) hs c Try.f64 sh osh x = u l0 x := by
 show _ = (_ : Option _)
 kernel_rfl
end
noncomputable def L0 : Y100 → Option Y123 := loop u0
noncomputable def F : Y145 → Option Y164 := u L0
noncomputable abbrev R : Env := E L0
theorem L0_eq (a b : List Int) (c d h i j : Int) : L0 ((a,b,c,d,h,i,j,()),()) = f0 L0 a b c d h i j :=
 loopE (E := R) e0 ((a,b,c,d,h,i,j,()),())
theorem F_eq (a b : List Int) : F ((a,b,()),()) = f L0 a b := rfl
theorem ok {tabs} (ht : TabsOk tabs) : FOK Try.prog tabs 64 (fe F) :=
 fn_keep3 (E := R) (hs := hs) Try.func64 e pw tb (gt_ok ht) (by kernel_rfl) (by kernel_rfl) rfl trivial 1 (by kernel_rfl) ⟨lA e0 (by kernel_rfl) (by kernel_rfl),trivial⟩
end ref13_product
/-! ref13_Product -/
namespace ref13_Product
noncomputable def c : Go.Code := Try.f62.body.getD .skip
abbrev sh : Sh := ⟨[q14, q14], []⟩
abbrev osh : Sh := ⟨[q13, q13], []⟩
abbrev G := sh.X → Option osh.X
abbrev fe (g : G) : FE := FE.of [true,true] false sh osh g
def f (g0 : Y136 → Option Y164) (g1 : Y145 → Option Y164) (a b : List Int) : Option Y161 :=
 (g0 ((a,b,0,()),())).bind fun y0 =>
 bif y0.1.1 != 0 then
 some ((0,y0.1.1,()),())
 else
 (g1 ((a,b,()),())).bind fun y2 =>
 some ((y2.1.1,0,()),())
def u (g0 : Y136 → Option Y164) (g1 : Y145 → Option Y164) (x : Y145) := f g0 g1 x.1.1 x.1.2.1
section
variable (g0 : ref12_Two.G) (g1 : ref13_product.G)
def E : Env := ⟨T,cE [(59,[],ref12_Two.fe g0),(64,[],ref13_product.fe g1)],lE [],16,0,Gt⟩
variable {g0 g1}
theorem e (x : sh.X) : bodO (E g0 g1) [] c Try.f62 sh osh x = u g0 g1 x := by
 show _ = (_ : Option _)
 kernel_rfl
end
noncomputable def F : Y145 → Option Y161 := u ref12_Two.F ref13_product.F
noncomputable abbrev R : Env := E ref12_Two.F ref13_product.F
theorem F_eq (a b : List Int) : F ((a,b,()),()) = f ref12_Two.F ref13_product.F a b := rfl
theorem ok {tabs} (ht : TabsOk tabs) : FOK Try.prog tabs 62 (fe F) :=
 fn_keep3 (E := R) (hs := []) Try.func62 e pw tb (gt_ok ht) (by kernel_rfl) (by kernel_rfl) rfl ⟨ref12_Two.ok ht,ref13_product.ok ht,trivial⟩ 0 (by kernel_rfl) trivial
end ref13_Product
/-! ref13_Between -/
namespace ref13_Between
noncomputable def c : Go.Code := Try.f63.body.getD .skip
abbrev sh : Sh := ⟨[q13, q13, q13], []⟩
abbrev osh : Sh := ⟨[q10], []⟩
abbrev G := sh.X → Option osh.X
abbrev fe (g : G) : FE := FE.of [true,true,true] false sh osh g
abbrev s0 : Sh := ⟨[q13, q13, q13, q16, q17], [q1, q1]⟩
abbrev x0 : List (Ex × Sh) := [(.normal, ⟨[q13, q13, q13, q16, q17, q15], [q1, q1]⟩)]
abbrev A0 := s0.X → Option (sumX x0)
abbrev s1 : Sh := ⟨[q13, q13, q13, q16, q17], [q1, q1]⟩
abbrev x1 : List (Ex × Sh) := [(.normal, ⟨[q13, q13, q13, q16, q17, q15], [q1, q1]⟩)]
abbrev A1 := s1.X → Option (sumX x1)
abbrev s2 : Sh := ⟨[q13, q13, q13, q16, q17], [q1, q1]⟩
abbrev x2 : List (Ex × Sh) := [(.normal, ⟨[q13, q13, q13, q16, q17, q15], [q1, q1]⟩)]
abbrev A2 := s2.X → Option (sumX x2)
def hs : List Hint := [⟨[0,0,0,1,1],0,[0,1,2,6,7],[(0,[0,1,2,6,7,9])]⟩,⟨[0,1,1,0,0,1,1],1,[0,1,2,6,7],[(0,[0,1,2,6,7,17])]⟩,⟨[0,1,1,1,1,0,0,1,1],2,[0,1,2,6,7],[(0,[0,1,2,6,7,42])]⟩]
def f0 (a b c d h i j : Int) : Option Y58 :=
 bif b == 0 then
 some (Sum.inl ((a,b,c,(),(),c == 0,()),(d,h,()),(i,j,()),()))
 else
 some (Sum.inl ((a,b,c,(),(),false,()),(d,h,()),(i,j,()),()))
def u0 (x : Y75) := f0 x.1.1 x.1.2.1 x.1.2.2.1 x.2.1.1 x.2.1.2.1 x.2.2.1.1 x.2.2.1.2.1
def f1 (a b c d h i j : Int) : Option Y58 :=
 bif b != 0 then
 bif c != 0 then
 some (Sum.inl ((a,b,c,(),(),decide (a ≥ 0),()),(d,h,()),(i,j,()),()))
 else
 some (Sum.inl ((a,b,c,(),(),false,()),(d,h,()),(i,j,()),()))
 else
 some (Sum.inl ((a,b,c,(),(),false,()),(d,h,()),(i,j,()),()))
def u1 (x : Y75) := f1 x.1.1 x.1.2.1 x.1.2.2.1 x.2.1.1 x.2.1.2.1 x.2.2.1.1 x.2.2.1.2.1
def f2 (a b c d h i j : Int) : Option Y58 :=
 bif b != 0 then
 some (Sum.inl ((a,b,c,(),(),c != 0,()),(d,h,()),(i,j,()),()))
 else
 some (Sum.inl ((a,b,c,(),(),false,()),(d,h,()),(i,j,()),()))
def u2 (x : Y75) := f2 x.1.1 x.1.2.1 x.1.2.2.1 x.2.1.1 x.2.1.2.1 x.2.2.1.1 x.2.2.1.2.1
def f (g0 : Y161 → Option Y142) (l0 : Y75 → Option Y58) (l1 : Y75 → Option Y58) (l2 : Y75 → Option Y58) (a b c : Int) : Option Y152 :=
 (l0 ((a,b,c,(),(),()),(0,0,()),(1,1,()),())).bind fun y0 =>
 y0.elim (fun a1 => bif a1.1.2.2.2.2.2.1 then
 some (((0,a1.2.2.1.2.1,()),()),())
 else
 (l1 ((a1.1.1,a1.1.2.1,a1.1.2.2.1,(),(),()),(a1.2.1.1,a1.2.1.2.1,()),(a1.2.2.1.1,a1.2.2.1.2.1,()),())).bind fun y3 =>
 y3.elim (fun a4 => bif a4.1.2.2.2.2.2.1 then
 (g0 ((IntKind.wrap .i64 ((IntKind.wrap .i64 (a4.1.2.1 * a4.1.2.2.1)) - (IntKind.wrap .i64 (a4.1.1 * a4.1.1))),IntKind.wrap .i64 (a4.1.2.1 * a4.1.2.2.1),()),())).bind fun y6 =>
 some (((y6.1.1.1,y6.1.1.2.1,()),()),())
 else
 (l2 ((a4.1.1,a4.1.2.1,a4.1.2.2.1,(),(),()),(a4.2.1.1,a4.2.1.2.1,()),(a4.2.2.1.1,a4.2.2.1.2.1,()),())).bind fun y6 =>
 y6.elim (fun a7 => bif a7.1.2.2.2.2.2.1 then
 (g0 ((IntKind.wrap .i64 ((IntKind.wrap .i64 (a7.1.2.1 * a7.1.2.2.1)) + (IntKind.wrap .i64 (a7.1.1 * a7.1.1))),IntKind.wrap .i64 (a7.1.2.1 * a7.1.2.2.1),()),())).bind fun y9 =>
 some (((y9.1.1.1,y9.1.1.2.1,()),()),())
 else
 some (((a7.2.2.1.1,a7.2.2.1.2.1,()),()),())) Empty.elim) Empty.elim) Empty.elim
def u (g0 : Y161 → Option Y142) (l0 : Y75 → Option Y58) (l1 : Y75 → Option Y58) (l2 : Y75 → Option Y58) (x : Y156) := f g0 l0 l1 l2 x.1.1 x.1.2.1 x.1.2.2.1
section
variable (g0 : ref01_Make.G) (l0 : A0) (l1 : A1) (l2 : A2)
def E : Env := ⟨T,cE [(61,[],ref01_Make.fe g0)],lE [LE.of s0 x0 l0,LE.of s1 x1 l1,LE.of s2 x2 l2],64,0,Gt⟩
variable {g0 l0 l1 l2}
theorem e0 (L : A0) (x : s0.X) : rndO (E g0 l0 l1 l2) hs c s0 x0 0 false L x = u0 x := by
 show _ = (_ : Option _)
 kernel_rfl
theorem e1 (L : A1) (x : s1.X) : rndO (E g0 l0 l1 l2) hs c s1 x1 1 false L x = u1 x := by
 show _ = (_ : Option _)
 kernel_rfl
theorem e2 (L : A2) (x : s2.X) : rndO (E g0 l0 l1 l2) hs c s2 x2 2 false L x = u2 x := by
 show _ = (_ : Option _)
 kernel_rfl
theorem e (x : sh.X) : bodO (E g0 l0 l1 l2) hs c Try.f63 sh osh x = u g0 l0 l1 l2 x := by
 show _ = (_ : Option _)
 kernel_rfl
end
noncomputable def L0 : Y75 → Option Y58 := u0
noncomputable def L1 : Y75 → Option Y58 := u1
noncomputable def L2 : Y75 → Option Y58 := u2
noncomputable def F : Y156 → Option Y152 := u ref01_Make.F L0 L1 L2
noncomputable abbrev R : Env := E ref01_Make.F L0 L1 L2
theorem L0_eq (a b c d h i j : Int) : L0 ((a,b,c,(),(),()),((d,h,()),(i,j,()),())) = f0 a b c d h i j := rfl
theorem L1_eq (a b c d h i j : Int) : L1 ((a,b,c,(),(),()),((d,h,()),(i,j,()),())) = f1 a b c d h i j := rfl
theorem L2_eq (a b c d h i j : Int) : L2 ((a,b,c,(),(),()),((d,h,()),(i,j,()),())) = f2 a b c d h i j := rfl
theorem F_eq (a b c : Int) : F ((a,b,c,()),()) = f ref01_Make.F L0 L1 L2 a b c := rfl
theorem ok {tabs} (ht : TabsOk tabs) : FOK Try.prog tabs 63 (fe F) :=
 fn_keep3 (E := R) (hs := hs) Try.func63 e pw tb (gt_ok ht) (by kernel_rfl) (by kernel_rfl) rfl ⟨ref01_Make.ok ht,trivial⟩ 3 (by kernel_rfl) ⟨cA e0 (by kernel_rfl) (by kernel_rfl),cA e1 (by kernel_rfl) (by kernel_rfl),cA e2 (by kernel_rfl) (by kernel_rfl),trivial⟩
end ref13_Between
/-! ref13_Gap -/
namespace ref13_Gap
noncomputable def c : Go.Code := Try.f43.body.getD .skip
abbrev sh : Sh := ⟨[q14, q14], []⟩
abbrev osh : Sh := ⟨[q10, q13], []⟩
abbrev G := sh.X → Option osh.X
abbrev fe (g : G) : FE := FE.of [true,true] false sh osh g
def f (g0 : Y145 → Option Y161) (g1 : Y145 → Option Y164) (g2 : Y156 → Option Y152) (a b : List Int) : Option Y142 :=
 (g0 ((a,b,()),())).bind fun y0 =>
 bif y0.1.2.1 != 0 then
 some (((0,0,()),y0.1.2.1,()),())
 else
 (g1 ((a,a,()),())).bind fun y2 =>
 (g1 ((b,b,()),())).bind fun y3 =>
 (g2 ((y0.1.1,y2.1.1,y3.1.1,()),())).bind fun y4 =>
 some (((y4.1.1.1,y4.1.1.2.1,()),0,()),())
def u (g0 : Y145 → Option Y161) (g1 : Y145 → Option Y164) (g2 : Y156 → Option Y152) (x : Y145) := f g0 g1 g2 x.1.1 x.1.2.1
section
variable (g0 : ref13_Product.G) (g1 : ref13_product.G) (g2 : ref13_Between.G)
def E : Env := ⟨T,cE [(62,[],ref13_Product.fe g0),(64,[],ref13_product.fe g1),(63,[],ref13_Between.fe g2)],lE [],26,0,Gt⟩
variable {g0 g1 g2}
theorem e (x : sh.X) : bodO (E g0 g1 g2) [] c Try.f43 sh osh x = u g0 g1 g2 x := by
 show _ = (_ : Option _)
 kernel_rfl
end
noncomputable def F : Y145 → Option Y142 := u ref13_Product.F ref13_product.F ref13_Between.F
noncomputable abbrev R : Env := E ref13_Product.F ref13_product.F ref13_Between.F
theorem F_eq (a b : List Int) : F ((a,b,()),()) = f ref13_Product.F ref13_product.F ref13_Between.F a b := rfl
theorem ok {tabs} (ht : TabsOk tabs) : FOK Try.prog tabs 43 (fe F) :=
 fn_keep3 (E := R) (hs := []) Try.func43 e pw tb (gt_ok ht) (by kernel_rfl) (by kernel_rfl) rfl ⟨ref13_Product.ok ht,ref13_product.ok ht,ref13_Between.ok ht,trivial⟩ 0 (by kernel_rfl) trivial
end ref13_Gap
/-! ref12_Distance -/
namespace ref12_Distance
noncomputable def c : Go.Code := Try.f44.body.getD .skip
abbrev sh : Sh := ⟨[q14, q14], []⟩
abbrev osh : Sh := ⟨[q13, q13], []⟩
abbrev G := sh.X → Option osh.X
abbrev fe (g : G) : FE := FE.of [true,true] false sh osh g
def f (g0 : Y136 → Option Y164) (g1 : Y145 → Option Y161) (a b : List Int) : Option Y161 :=
 (g0 ((a,b,0,()),())).bind fun y0 =>
 bif y0.1.1 != 0 then
 some ((0,y0.1.1,()),())
 else
 (g1 ((a,b,()),())).bind fun y2 =>
 some ((y2.1.2.1,0,()),())
def u (g0 : Y136 → Option Y164) (g1 : Y145 → Option Y161) (x : Y145) := f g0 g1 x.1.1 x.1.2.1
section
variable (g0 : ref12_Two.G) (g1 : ref12_sums.G)
def E : Env := ⟨T,cE [(59,[],ref12_Two.fe g0),(60,[],ref12_sums.fe g1)],lE [],22,0,Gt⟩
variable {g0 g1}
theorem e (x : sh.X) : bodO (E g0 g1) [] c Try.f44 sh osh x = u g0 g1 x := by
 show _ = (_ : Option _)
 kernel_rfl
end
noncomputable def F : Y145 → Option Y161 := u ref12_Two.F ref12_sums.F
noncomputable abbrev R : Env := E ref12_Two.F ref12_sums.F
theorem F_eq (a b : List Int) : F ((a,b,()),()) = f ref12_Two.F ref12_sums.F a b := rfl
theorem ok {tabs} (ht : TabsOk tabs) : FOK Try.prog tabs 44 (fe F) :=
 fn_keep3 (E := R) (hs := []) Try.func44 e pw tb (gt_ok ht) (by kernel_rfl) (by kernel_rfl) rfl ⟨ref12_Two.ok ht,ref12_sums.ok ht,trivial⟩ 0 (by kernel_rfl) trivial
end ref12_Distance
end Go.Proofs.Ytefcciajemkicaa.V
