import Derived.Test.YtefcciajemkicaaVg4
import Derived.WalkKit
set_option linter.unusedVariables false
set_option maxRecDepth 100000
namespace Go.Proofs.Ytefcciajemkicaa.V
open Go (IntKind)
open Go.VI
/-! law37_ProfileNearest -/
namespace law37_ProfileNearest
noncomputable def c : Go.Code := Try.f4.body.getD .skip
abbrev sh : Sh := ⟨[q14], []⟩
abbrev osh : Sh := ⟨[q15], []⟩
abbrev G := sh.X → Option osh.X
abbrev fe (g : G) : FE := FE.of [true] false sh osh g
abbrev s0 : Sh := ⟨[q18, q17, q13, q13, q22, q13, q24, q13], [.row 3 (.int .i64), q0, q3, .row 4 .bool, .row 31 (.pair (.int .i64) (.pair (.int .i64) (.int .i64))), .row 31 (.pair (.int .i64) (.pair (.int .i64) (.int .i64))), .row 31 (.pair (.int .i64) (.pair (.int .i64) (.int .i64)))]⟩
abbrev x0 : List (Ex × Sh) := [(.normal, ⟨[q18, q17, q13, q13, q22, q24, q15], [.row 3 (.int .i64), q0, q3, .row 4 .bool, .row 31 (.pair (.int .i64) (.pair (.int .i64) (.int .i64))), .row 31 (.pair (.int .i64) (.pair (.int .i64) (.int .i64))), .row 31 (.pair (.int .i64) (.pair (.int .i64) (.int .i64)))]⟩)]
abbrev A0 := s0.X → Option (sumX x0)
abbrev s1 : Sh := ⟨[q18, q17, q13, q13, q22, q24, q13], [.row 3 (.int .i64), q0, q3, .row 4 .bool, .row 31 (.pair (.int .i64) (.pair (.int .i64) (.int .i64))), .row 31 (.pair (.int .i64) (.pair (.int .i64) (.int .i64))), .row 31 (.pair (.int .i64) (.pair (.int .i64) (.int .i64)))]⟩
abbrev x1 : List (Ex × Sh) := [(.exit 0, ⟨[], []⟩), (.ret, ⟨[q15], []⟩)]
abbrev A1 := s1.X → Option (sumX x1)
abbrev s2 : Sh := ⟨[q18, q17, q13, q13, q22, q24, q13, q15, q13], [.row 3 (.int .i64), q0, q3, .row 4 .bool, .row 31 (.pair (.int .i64) (.pair (.int .i64) (.int .i64))), .row 31 (.pair (.int .i64) (.pair (.int .i64) (.int .i64))), .row 31 (.pair (.int .i64) (.pair (.int .i64) (.int .i64)))]⟩
abbrev x2 : List (Ex × Sh) := [(.exit 2, ⟨[q18, q17, q13, q13, q22, q24, q13, q15], [.row 3 (.int .i64), q0, q3, .row 4 .bool, .row 31 (.pair (.int .i64) (.pair (.int .i64) (.int .i64))), .row 31 (.pair (.int .i64) (.pair (.int .i64) (.int .i64))), .row 31 (.pair (.int .i64) (.pair (.int .i64) (.int .i64)))]⟩), (.ret, ⟨[q15], []⟩)]
abbrev A2 := s2.X → Option (sumX x2)
abbrev s3 : Sh := ⟨[q18, q17, q13, q13, q22, q24, q13, q15, q13], [.row 3 (.int .i64), q0, q3, .row 4 .bool, .row 31 (.pair (.int .i64) (.pair (.int .i64) (.int .i64))), .row 31 (.pair (.int .i64) (.pair (.int .i64) (.int .i64))), .row 31 (.pair (.int .i64) (.pair (.int .i64) (.int .i64)))]⟩
abbrev x3 : List (Ex × Sh) := [(.normal, ⟨[q18, q17, q13, q13, q22, q24, q13, q15, q13, q15], [.row 3 (.int .i64), q0, q3, .row 4 .bool, .row 31 (.pair (.int .i64) (.pair (.int .i64) (.int .i64))), .row 31 (.pair (.int .i64) (.pair (.int .i64) (.int .i64))), .row 31 (.pair (.int .i64) (.pair (.int .i64) (.int .i64)))]⟩)]
abbrev A3 := s3.X → Option (sumX x3)
abbrev s4 : Sh := ⟨[q18, q17, q13, q13, q22, q24, q13, q15, q13, q13, .one (.is (.ptr 4 0 0))], [.row 3 (.int .i64), q0, q5, .row 4 .bool, q0, .row 31 (.pair (.int .i64) (.pair (.int .i64) (.int .i64))), .row 31 (.pair (.int .i64) (.pair (.int .i64) (.int .i64))), .row 31 (.pair (.int .i64) (.pair (.int .i64) (.int .i64)))]⟩
abbrev x4 : List (Ex × Sh) := [(.normal, ⟨[q18, q17, q13, q13, q22, q24, q13, q15, q13, q15], [.row 3 (.int .i64), q0, q3, .row 4 .bool, .row 31 (.pair (.int .i64) (.pair (.int .i64) (.int .i64))), .row 31 (.pair (.int .i64) (.pair (.int .i64) (.int .i64))), .row 31 (.pair (.int .i64) (.pair (.int .i64) (.int .i64)))]⟩)]
abbrev A4 := s4.X → Option (sumX x4)
def hs : List Hint := [⟨[0,0,1,1,1,1,1,1,1],0,[4,5,6,7,8,9,10,11],[(0,[4,5,6,7,8,10,83])]⟩,⟨[0,1,0,1,1,1,1,1,1,1,1],1,[4,5,6,7,8,10,12],[(2,[]),(1,[2])]⟩,⟨[0,1,0,1,0,0,1,0,0,1,0,1,1,1,1,1,1,1,1],2,[4,5,6,7,8,10,12,13,14],[(4,[4,5,6,7,8,10,12,13]),(1,[2])]⟩,⟨[0,0,0,0,1,0,0,1,0,1,0,0,1,0,0,1,0,1,1,1,1,1,1,1,1],3,[4,5,6,7,8,10,12,13,14],[(0,[4,5,6,7,8,10,12,13,14,121])]⟩,⟨[0,1,1,1,1,0,0,1,0,0,1,0,1,0,0,1,0,0,1,0,1,1,1,1,1,1,1,1],4,[4,5,6,7,8,10,12,13,14,16,17],[(0,[4,5,6,7,8,10,12,13,14,199])]⟩]
def f0 (g9 : Y36 → Option Y163) (a b c d : Int) (h : List Int) (i j k m n o p q : Int) (r : List Bool) (s t v : List Y165) : Option Y19 :=
 bif c != 0 then
 some (Sum.inl (((),(),a,b,(),(),true,()),h,(i,j,k,()),(m,n,o,p,q,(),(),(),()),r,s,t,v,()))
 else
 bif d != 0 then
 some (Sum.inl (((),(),a,b,(),(),true,()),h,(i,j,k,()),(m,n,o,p,q,(),(),(),()),r,s,t,v,()))
 else
 bif (s.length:Int) != (r.length:Int) then
 some (Sum.inl (((),(),a,b,(),(),true,()),h,(i,j,k,()),(m,n,o,p,q,(),(),(),()),r,s,t,v,()))
 else
 bif (t.length:Int) != (r.length:Int) then
 some (Sum.inl (((),(),a,b,(),(),true,()),h,(i,j,k,()),(m,n,o,p,q,(),(),(),()),r,s,t,v,()))
 else
 bif (v.length:Int) != (r.length:Int) then
 some (Sum.inl (((),(),a,b,(),(),true,()),h,(i,j,k,()),(m,n,o,p,q,(),(),(),()),r,s,t,v,()))
 else
 (g9 (((m,n,o,p,q,s,t,v,()),()),())).bind fun y5 =>
 some (Sum.inl (((),(),a,b,(),(),!y5.1.1,()),h,(i,j,k,()),(m,n,o,p,q,(),(),(),()),r,s,t,v,()))
def u0 (g9 : Y36 → Option Y163) (x : Y20) := f0 g9 x.1.2.2.1 x.1.2.2.2.1 x.1.2.2.2.2.2.1 x.1.2.2.2.2.2.2.2.1 x.2.1 x.2.2.1.1 x.2.2.1.2.1 x.2.2.1.2.2.1 x.2.2.2.1.1 x.2.2.2.1.2.1 x.2.2.2.1.2.2.1 x.2.2.2.1.2.2.2.1 x.2.2.2.1.2.2.2.2.1 x.2.2.2.2.1 x.2.2.2.2.2.1 x.2.2.2.2.2.2.1 x.2.2.2.2.2.2.2.1
def f3 (a b c : Int) (d : Bool) (h : Int) (i : List Int) (j k m n o p q r : Int) (s : List Bool) (t v w : List Y165) : Option Y16 :=
 bif decide (0 ≤ c) then
 bif decide (c < (s.length:Int)) then
 bif !(s.getD (c.toNat) false) then
 some (Sum.inl (((),(),a,b,(),(),c,d,h,true,()),i,(j,k,m,()),(n,o,p,q,r,(),(),(),()),s,t,v,w,()))
 else
 bif decide (0 ≤ h) then
 bif decide (h < (s.length:Int)) then
 bif !(s.getD (h.toNat) false) then
 some (Sum.inl (((),(),a,b,(),(),c,d,h,true,()),i,(j,k,m,()),(n,o,p,q,r,(),(),(),()),s,t,v,w,()))
 else
 bif decide (IntKind.wrap .i64 (h - c) < b) then
 some (Sum.inl (((),(),a,b,(),(),c,d,h,decide (IntKind.wrap .i64 (c - h) < b),()),i,(j,k,m,()),(n,o,p,q,r,(),(),(),()),s,t,v,w,()))
 else
 some (Sum.inl (((),(),a,b,(),(),c,d,h,false,()),i,(j,k,m,()),(n,o,p,q,r,(),(),(),()),s,t,v,w,()))
 else none
 else none
 else none
 else none
def u3 (x : Y18) := f3 x.1.2.2.1 x.1.2.2.2.1 x.1.2.2.2.2.2.2.1 x.1.2.2.2.2.2.2.2.1 x.1.2.2.2.2.2.2.2.2.1 x.2.1 x.2.2.1.1 x.2.2.1.2.1 x.2.2.1.2.2.1 x.2.2.2.1.1 x.2.2.2.1.2.1 x.2.2.2.1.2.2.1 x.2.2.2.1.2.2.2.1 x.2.2.2.1.2.2.2.2.1 x.2.2.2.2.1 x.2.2.2.2.2.1 x.2.2.2.2.2.2.1 x.2.2.2.2.2.2.2.1
def f4 (g11 : Y104 → Option Y163) (a b c : Int) (d : Bool) (h i : Int) (j : List Int) (k m n o p q r s : Int) (t : List Bool) (v w z : Int) (p0 p1 p2 : List Y165) : Option Y16 :=
 bif i != 0 then
 some (Sum.inl (((),(),a,b,(),(),c,d,h,true,()),j,(k,m,n,()),(o,p,q,r,s,(),(),(),()),t,p0,p1,p2,()))
 else
 bif decide (0 ≤ c) then
 bif decide (c < (p0.length:Int)) then
 (g11 (((v,w,z,()),((p0.getD (c.toNat) (0,0,0)).1,(p0.getD (c.toNat) (0,0,0)).2.1,(p0.getD (c.toNat) (0,0,0)).2.2,()),()),())).bind fun y3 =>
 bif y3.1.1 then
 some (Sum.inl (((),(),a,b,(),(),c,d,h,true,()),j,(k,m,n,()),(o,p,q,r,s,(),(),(),()),t,p0,p1,p2,()))
 else
 bif decide (h < c) then
 bif decide (0 ≤ c) then
 bif decide (c < (p1.length:Int)) then
 (g11 (((v,w,z,()),((p1.getD (c.toNat) (0,0,0)).1,(p1.getD (c.toNat) (0,0,0)).2.1,(p1.getD (c.toNat) (0,0,0)).2.2,()),()),())).bind fun y8 =>
 bif y8.1.1 then
 some (Sum.inl (((),(),a,b,(),(),c,d,h,true,()),j,(k,m,n,()),(o,p,q,r,s,(),(),(),()),t,p0,p1,p2,()))
 else
 bif decide (h > c) then
 bif decide (0 ≤ c) then
 bif decide (c < (p2.length:Int)) then
 (g11 (((v,w,z,()),((p2.getD (c.toNat) (0,0,0)).1,(p2.getD (c.toNat) (0,0,0)).2.1,(p2.getD (c.toNat) (0,0,0)).2.2,()),()),())).bind fun y13 =>
 bif y13.1.1 then
 some (Sum.inl (((),(),a,b,(),(),c,d,h,true,()),j,(k,m,n,()),(o,p,q,r,s,(),(),(),()),t,p0,p1,p2,()))
 else
 bif decide (0 ≤ c) then
 bif decide (c < (p0.length:Int)) then
 bif (p0.getD (c.toNat) (0,0,0)).1 == h then
 bif decide (0 ≤ c) then
 bif decide (c < (p0.length:Int)) then
 some (Sum.inl (((),(),a,b,(),(),c,d,h,!((p0.getD (c.toNat) (0,0,0)).1 == v && (((p0.getD (c.toNat) (0,0,0)).2.1 == w && ((p0.getD (c.toNat) (0,0,0)).2.2 == z && true)) && true)),()),j,(k,m,n,()),(o,p,q,r,s,(),(),(),()),t,p0,p1,p2,()))
 else none
 else none
 else
 some (Sum.inl (((),(),a,b,(),(),c,d,h,false,()),j,(k,m,n,()),(o,p,q,r,s,(),(),(),()),t,p0,p1,p2,()))
 else none
 else none
 else none
 else none
 else
 bif decide (0 ≤ c) then
 bif decide (c < (p0.length:Int)) then
 bif (p0.getD (c.toNat) (0,0,0)).1 == h then
 bif decide (0 ≤ c) then
 bif decide (c < (p0.length:Int)) then
 some (Sum.inl (((),(),a,b,(),(),c,d,h,!((p0.getD (c.toNat) (0,0,0)).1 == v && (((p0.getD (c.toNat) (0,0,0)).2.1 == w && ((p0.getD (c.toNat) (0,0,0)).2.2 == z && true)) && true)),()),j,(k,m,n,()),(o,p,q,r,s,(),(),(),()),t,p0,p1,p2,()))
 else none
 else none
 else
 some (Sum.inl (((),(),a,b,(),(),c,d,h,false,()),j,(k,m,n,()),(o,p,q,r,s,(),(),(),()),t,p0,p1,p2,()))
 else none
 else none
 else none
 else none
 else
 bif decide (h > c) then
 bif decide (0 ≤ c) then
 bif decide (c < (p2.length:Int)) then
 (g11 (((v,w,z,()),((p2.getD (c.toNat) (0,0,0)).1,(p2.getD (c.toNat) (0,0,0)).2.1,(p2.getD (c.toNat) (0,0,0)).2.2,()),()),())).bind fun y9 =>
 bif y9.1.1 then
 some (Sum.inl (((),(),a,b,(),(),c,d,h,true,()),j,(k,m,n,()),(o,p,q,r,s,(),(),(),()),t,p0,p1,p2,()))
 else
 bif decide (0 ≤ c) then
 bif decide (c < (p0.length:Int)) then
 bif (p0.getD (c.toNat) (0,0,0)).1 == h then
 bif decide (0 ≤ c) then
 bif decide (c < (p0.length:Int)) then
 some (Sum.inl (((),(),a,b,(),(),c,d,h,!((p0.getD (c.toNat) (0,0,0)).1 == v && (((p0.getD (c.toNat) (0,0,0)).2.1 == w && ((p0.getD (c.toNat) (0,0,0)).2.2 == z && true)) && true)),()),j,(k,m,n,()),(o,p,q,r,s,(),(),(),()),t,p0,p1,p2,()))
 else none
 else none
 else
 some (Sum.inl (((),(),a,b,(),(),c,d,h,false,()),j,(k,m,n,()),(o,p,q,r,s,(),(),(),()),t,p0,p1,p2,()))
 else none
 else none
 else none
 else none
 else
 bif decide (0 ≤ c) then
 bif decide (c < (p0.length:Int)) then
 bif (p0.getD (c.toNat) (0,0,0)).1 == h then
 bif decide (0 ≤ c) then
 bif decide (c < (p0.length:Int)) then
 some (Sum.inl (((),(),a,b,(),(),c,d,h,!((p0.getD (c.toNat) (0,0,0)).1 == v && (((p0.getD (c.toNat) (0,0,0)).2.1 == w && ((p0.getD (c.toNat) (0,0,0)).2.2 == z && true)) && true)),()),j,(k,m,n,()),(o,p,q,r,s,(),(),(),()),t,p0,p1,p2,()))
 else none
 else none
 else
 some (Sum.inl (((),(),a,b,(),(),c,d,h,false,()),j,(k,m,n,()),(o,p,q,r,s,(),(),(),()),t,p0,p1,p2,()))
 else none
 else none
 else none
 else none
def u4 (g11 : Y104 → Option Y163) (x : Y14) := f4 g11 x.1.2.2.1 x.1.2.2.2.1 x.1.2.2.2.2.2.2.1 x.1.2.2.2.2.2.2.2.1 x.1.2.2.2.2.2.2.2.2.1 x.1.2.2.2.2.2.2.2.2.2.1 x.2.1 x.2.2.1.1 x.2.2.1.2.1 x.2.2.1.2.2.1 x.2.2.2.1.1 x.2.2.2.1.2.1 x.2.2.2.1.2.2.1 x.2.2.2.1.2.2.2.1 x.2.2.2.1.2.2.2.2.1 x.2.2.2.2.1 x.2.2.2.2.2.1.1 x.2.2.2.2.2.1.2.1 x.2.2.2.2.2.1.2.2.1 x.2.2.2.2.2.2.1 x.2.2.2.2.2.2.2.1 x.2.2.2.2.2.2.2.2.1
def f2 (g10 : Y105 → Option Y142) (l3 : Y18 → Option Y16) (l4 : Y14 → Option Y16) (L : Y18 → Option Y15) (a b c : Int) (d : Bool) (h : Int) (i : List Int) (j k m n o p q r : Int) (s : List Bool) (t v w : List Y165) : Option Y15 :=
 bif decide (h < (s.length:Int)) then
 (l3 (((),(),a,b,(),(),c,d,h,()),i,(j,k,m,()),(n,o,p,q,r,(),(),(),()),s,t,v,w,())).bind fun y1 =>
 y1.elim (fun a2 => bif a2.1.2.2.2.2.2.2.2.2.2.1 then
 (L (((),(),a2.1.2.2.1,a2.1.2.2.2.1,(),(),a2.1.2.2.2.2.2.2.1,a2.1.2.2.2.2.2.2.2.1,IntKind.wrap .i64 (a2.1.2.2.2.2.2.2.2.2.1 + 1),()),a2.2.1,(a2.2.2.1.1,a2.2.2.1.2.1,a2.2.2.1.2.2.1,()),(a2.2.2.2.1.1,a2.2.2.2.1.2.1,a2.2.2.2.1.2.2.1,a2.2.2.2.1.2.2.2.1,a2.2.2.2.1.2.2.2.2.1,(),(),(),()),a2.2.2.2.2.1,a2.2.2.2.2.2.1,a2.2.2.2.2.2.2.1,a2.2.2.2.2.2.2.2.1,())).bind fun y4 =>
 some y4
 else
 bif decide (0 ≤ a2.1.2.2.2.2.2.2.1) then
 bif decide (a2.1.2.2.2.2.2.2.1 ≤ IntKind.wrap .i64 (a2.1.2.2.2.2.2.2.1 + a2.1.2.2.1)) then
 bif decide (IntKind.wrap .i64 (a2.1.2.2.2.2.2.2.1 + a2.1.2.2.1) ≤ (a2.2.1.length:Int)) then
 bif decide (0 ≤ a2.1.2.2.2.2.2.2.2.2.1) then
 bif decide (a2.1.2.2.2.2.2.2.2.2.1 ≤ IntKind.wrap .i64 (a2.1.2.2.2.2.2.2.2.2.1 + a2.1.2.2.1)) then
 bif decide (IntKind.wrap .i64 (a2.1.2.2.2.2.2.2.2.2.1 + a2.1.2.2.1) ≤ (a2.2.1.length:Int)) then
 (g10 (((a2.2.2.1.1,a2.2.2.1.2.1,a2.2.2.1.2.2.1,()),List.drop (a2.1.2.2.2.2.2.2.1.toNat) (List.take (Int.toNat (IntKind.wrap .i64 (a2.1.2.2.2.2.2.2.1 + a2.1.2.2.1))) a2.2.1),List.drop (a2.1.2.2.2.2.2.2.2.2.1.toNat) (List.take (Int.toNat (IntKind.wrap .i64 (a2.1.2.2.2.2.2.2.2.2.1 + a2.1.2.2.1))) a2.2.1),()),())).bind fun y10 =>
 (l4 (((),(),a2.1.2.2.1,a2.1.2.2.2.1,(),(),a2.1.2.2.2.2.2.2.1,true,a2.1.2.2.2.2.2.2.2.2.1,y10.1.2.1,(),()),a2.2.1,(a2.2.2.1.1,a2.2.2.1.2.1,a2.2.2.1.2.2.1,()),(a2.2.2.2.1.1,a2.2.2.2.1.2.1,a2.2.2.2.1.2.2.1,a2.2.2.2.1.2.2.2.1,a2.2.2.2.1.2.2.2.2.1,(),(),(),()),a2.2.2.2.2.1,(a2.1.2.2.2.2.2.2.2.2.1,y10.1.1.1,y10.1.1.2.1,()),a2.2.2.2.2.2.1,a2.2.2.2.2.2.2.1,a2.2.2.2.2.2.2.2.1,())).bind fun y11 =>
 y11.elim (fun a12 => bif a12.1.2.2.2.2.2.2.2.2.2.1 then
 some (Sum.inr (Sum.inl ((false,()),())))
 else
 (L (((),(),a12.1.2.2.1,a12.1.2.2.2.1,(),(),a12.1.2.2.2.2.2.2.1,a12.1.2.2.2.2.2.2.2.1,IntKind.wrap .i64 (a12.1.2.2.2.2.2.2.2.2.1 + 1),()),a12.2.1,(a12.2.2.1.1,a12.2.2.1.2.1,a12.2.2.1.2.2.1,()),(a12.2.2.2.1.1,a12.2.2.2.1.2.1,a12.2.2.2.1.2.2.1,a12.2.2.2.1.2.2.2.1,a12.2.2.2.1.2.2.2.2.1,(),(),(),()),a12.2.2.2.2.1,a12.2.2.2.2.2.1,a12.2.2.2.2.2.2.1,a12.2.2.2.2.2.2.2.1,())).bind fun y14 =>
 some y14) Empty.elim
 else none
 else none
 else none
 else none
 else none
 else none) Empty.elim
 else
 some (Sum.inl (((),(),a,b,(),(),c,d,()),i,(j,k,m,()),(n,o,p,q,r,(),(),(),()),s,t,v,w,()))
def u2 (g10 : Y105 → Option Y142) (l3 : Y18 → Option Y16) (l4 : Y14 → Option Y16) (L : Y18 → Option Y15) (x : Y18) := f2 g10 l3 l4 L x.1.2.2.1 x.1.2.2.2.1 x.1.2.2.2.2.2.2.1 x.1.2.2.2.2.2.2.2.1 x.1.2.2.2.2.2.2.2.2.1 x.2.1 x.2.2.1.1 x.2.2.1.2.1 x.2.2.1.2.2.1 x.2.2.2.1.1 x.2.2.2.1.2.1 x.2.2.2.1.2.2.1 x.2.2.2.1.2.2.2.1 x.2.2.2.1.2.2.2.2.1 x.2.2.2.2.1 x.2.2.2.2.2.1 x.2.2.2.2.2.2.1 x.2.2.2.2.2.2.2.1
def f1 (l2 : Y18 → Option Y15) (L : Y22 → Option Y130) (a b c : Int) (d : List Int) (h i j k m n o p : Int) (q : List Bool) (r s t : List Y165) : Option Y130 :=
 bif decide (c < (q.length:Int)) then
 (l2 (((),(),a,b,(),(),c,false,0,()),d,(h,i,j,()),(k,m,n,o,p,(),(),(),()),q,r,s,t,())).bind fun y1 =>
 y1.elim (fun a2 => bif decide (0 ≤ a2.1.2.2.2.2.2.2.1) then
 bif decide (a2.1.2.2.2.2.2.2.1 < (a2.2.2.2.2.2.1.length:Int)) then
 bif !(a2.1.2.2.2.2.2.2.2.1 == decide ((a2.2.2.2.2.2.1.getD (a2.1.2.2.2.2.2.2.1.toNat) (0,0,0)).1 ≥ 0)) then
 some (Sum.inr (Sum.inl ((false,()),())))
 else
 (L (((),(),a2.1.2.2.1,a2.1.2.2.2.1,(),(),IntKind.wrap .i64 (a2.1.2.2.2.2.2.2.1 + 1),()),a2.2.1,(a2.2.2.1.1,a2.2.2.1.2.1,a2.2.2.1.2.2.1,()),(a2.2.2.2.1.1,a2.2.2.2.1.2.1,a2.2.2.2.1.2.2.1,a2.2.2.2.1.2.2.2.1,a2.2.2.2.1.2.2.2.2.1,(),(),(),()),a2.2.2.2.2.1,a2.2.2.2.2.2.1,a2.2.2.2.2.2.2.1,a2.2.2.2.2.2.2.2.1,())).bind fun y6 =>
 some y6
 else none
 else none) (fun b2 => b2.elim (fun a3 => some (Sum.inr (Sum.inl ((a3.1.1,()),())))) Empty.elim)
 else
 some (Sum.inl ((),()))
def u1 (l2 : Y18 → Option Y15) (L : Y22 → Option Y130) (x : Y22) := f1 l2 L x.1.2.2.1 x.1.2.2.2.1 x.1.2.2.2.2.2.2.1 x.2.1 x.2.2.1.1 x.2.2.1.2.1 x.2.2.1.2.2.1 x.2.2.2.1.1 x.2.2.2.1.2.1 x.2.2.2.1.2.2.1 x.2.2.2.1.2.2.2.1 x.2.2.2.1.2.2.2.2.1 x.2.2.2.2.1 x.2.2.2.2.2.1 x.2.2.2.2.2.2.1 x.2.2.2.2.2.2.2.1
def f (g0 : Y159 → Option Y163) (g1 : Y166 → Option Y163) (g2 : Y159 → Option Y132) (g3 : Y122 → Option Y134) (g4 : Y122 → Option Y115) (g5 : Y122 → Option Y102) (g6 : Y132 → Option Y134) (g7 : Y107 → Option Y31) (g8 : Y155 → Option Y144) (l0 : Y20 → Option Y19) (l1 : Y22 → Option Y130) (a : List Int) : Option Y163 :=
 (g0 ((a,()),())).bind fun y0 =>
 bif !y0.1.1 then
 (g1 ((),())).bind fun y2 =>
 some ((y2.1.1,()),())
 else
 (g2 ((a,()),())).bind fun y2 =>
 (g3 (((),22,()),(y2.2.1.1,y2.2.1.2.1,()),())).bind fun y3 =>
 (g4 (((),y3.1.1,()),(y3.2.1.1,y3.2.1.2.1,()),())).bind fun y4 =>
 (g5 (((),0,()),(y4.2.1.1,y4.2.1.2.1,()),())).bind fun y5 =>
 (g6 (((),()),(y5.2.1.1,y5.2.1.2.1,()),())).bind fun y6 =>
 (g3 (((),5,()),(y6.2.1.1,y6.2.1.2.1,()),())).bind fun y7 =>
 (g7 ((y4.2.2.1,(y5.1.1.1,y5.1.1.2.1,y5.1.1.2.2.1,()),y6.1.1,IntKind.wrap .i64 (1 + y7.1.1),()),())).bind fun y8 =>
 (g8 ((y4.2.2.1,y6.1.1,()),())).bind fun y9 =>
 (l0 (((),(),y6.1.1,IntKind.wrap .i64 (1 + y7.1.1),(),y8.1.2.1,(),y9.1.2.1,()),y4.2.2.1,(y5.1.1.1,y5.1.1.2.1,y5.1.1.2.2.1,()),(y8.1.1.1,y8.1.1.2.1,y8.1.1.2.2.1,y8.1.1.2.2.2.1,y8.1.1.2.2.2.2.1,(),(),(),()),y9.2.1,y8.2.1,y8.2.2.1,y8.2.2.2.1,())).bind fun y10 =>
 y10.elim (fun a11 => bif a11.1.2.2.2.2.2.2.1 then
 some ((false,()),())
 else
 (l1 (((),(),a11.1.2.2.1,a11.1.2.2.2.1,(),(),0,()),a11.2.1,(a11.2.2.1.1,a11.2.2.1.2.1,a11.2.2.1.2.2.1,()),(a11.2.2.2.1.1,a11.2.2.2.1.2.1,a11.2.2.2.1.2.2.1,a11.2.2.2.1.2.2.2.1,a11.2.2.2.1.2.2.2.2.1,(),(),(),()),a11.2.2.2.2.1,a11.2.2.2.2.2.1,a11.2.2.2.2.2.2.1,a11.2.2.2.2.2.2.2.1,())).bind fun y13 =>
 y13.elim (fun a14 => (g1 ((),())).bind fun y15 =>
 some ((y15.1.1,()),())) (fun b14 => b14.elim (fun a15 => some ((a15.1.1,()),())) Empty.elim)) Empty.elim
def u (g0 : Y159 → Option Y163) (g1 : Y166 → Option Y163) (g2 : Y159 → Option Y132) (g3 : Y122 → Option Y134) (g4 : Y122 → Option Y115) (g5 : Y122 → Option Y102) (g6 : Y132 → Option Y134) (g7 : Y107 → Option Y31) (g8 : Y155 → Option Y144) (l0 : Y20 → Option Y19) (l1 : Y22 → Option Y130) (x : Y159) := f g0 g1 g2 g3 g4 g5 g6 g7 g8 l0 l1 x.1.1
section
variable (g0 : second_Few.G) (g1 : law37_awake.G) (g2 : second_New.G) (g3 : second_Deck_Next.G) (g4 : second_Deck_Values.G) (g5 : second_Deck_Measure.G) (g6 : second_Deck_Length.G) (g7 : profile_Of.G) (g8 : profile_Windows.G) (g9 : profile_Valid.G) (g10 : ref17_Distance.G) (g11 : profile_Nearer.G) (l0 : A0) (l1 : A1) (l2 : A2) (l3 : A3) (l4 : A4)
def E : Env := ⟨T,cE [(8,[],second_Few.fe g0),(9,[],law37_awake.fe g1),(10,[],second_New.fe g2),(18,[],second_Deck_Next.fe g3),(17,[],second_Deck_Values.fe g4),(19,[],second_Deck_Measure.fe g5),(20,[],second_Deck_Length.fe g6),(21,[],profile_Of.fe g7),(22,[],profile_Windows.fe g8),(13,[],profile_Valid.fe g9),(23,[],ref17_Distance.fe g10),(15,[],profile_Nearer.fe g11)],lE [LE.of s0 x0 l0,LE.of s1 x1 l1,LE.of s2 x2 l2,LE.of s3 x3 l3,LE.of s4 x4 l4],210,0,Gt⟩
variable {g0 g1 g2 g3 g4 g5 g6 g7 g8 g9 g10 g11 l0 l1 l2 l3 l4}
theorem e0 (L : A0) (x : s0.X) : rndO (E g0 g1 g2 g3 g4 g5 g6 g7 g8 g9 g10 g11 l0 l1 l2 l3 l4) hs c s0 x0 0 false L x = u0 g9 x := by
 show _ = (_ : Option _)
 kernel_rfl
theorem e3 (L : A3) (x : s3.X) : rndO (E g0 g1 g2 g3 g4 g5 g6 g7 g8 g9 g10 g11 l0 l1 l2 l3 l4) hs c s3 x3 3 false L x = u3 x := by
 show _ = (_ : Option _)
 kernel_rfl
theorem e4 (L : A4) (x : s4.X) : rndO (E g0 g1 g2 g3 g4 g5 g6 g7 g8 g9 g10 g11 l0 l1 l2 l3 l4) hs c s4 x4 4 false L x = u4 g11 x := by
 show _ = (_ : Option _)
 kernel_rfl
theorem e2 (L : A2) (x : s2.X) : rndO (E g0 g1 g2 g3 g4 g5 g6 g7 g8 g9 g10 g11 l0 l1 l2 l3 l4) hs c s2 x2 2 true L x = u2 g10 l3 l4 L x := by
 show _ = (_ : Option _)
 kernel_rfl
theorem e1 (L : A1) (x : s1.X) : rndO (E g0 g1 g2 g3 g4 g5 g6 g7 g8 g9 g10 g11 l0 l1 l2 l3 l4) hs c s1 x1 1 true L x = u1 l2 L x := by
 show _ = (_ : Option _)
 kernel_rfl
theorem e (x : sh.X) : bodO (E g0 g1 g2 g3 g4 g5 g6 g7 g8 g9 g10 g11 l0 l1 l2 l3 l4) hs c Try.f4 sh osh x = u g0 g1 g2 g3 g4 g5 g6 g7 g8 l0 l1 x := by
 show _ = (_ : Option _)
 kernel_rfl
end
noncomputable def L0 : Y20 → Option Y19 := u0 profile_Valid.F
noncomputable def L3 : Y18 → Option Y16 := u3
noncomputable def L4 : Y14 → Option Y16 := u4 profile_Nearer.F
noncomputable def L2 : Y18 → Option Y15 := loop (u2 ref17_Distance.F L3 L4)
noncomputable def L1 : Y22 → Option Y130 := loop (u1 L2)
noncomputable def F : Y159 → Option Y163 := u second_Few.F law37_awake.F second_New.F second_Deck_Next.F second_Deck_Values.F second_Deck_Measure.F second_Deck_Length.F profile_Of.F profile_Windows.F L0 L1
noncomputable abbrev R : Env := E second_Few.F law37_awake.F second_New.F second_Deck_Next.F second_Deck_Values.F second_Deck_Measure.F second_Deck_Length.F profile_Of.F profile_Windows.F profile_Valid.F ref17_Distance.F profile_Nearer.F L0 L1 L2 L3 L4
theorem L0_eq (a b c d : Int) (h : List Int) (i j k m n o p q : Int) (r : List Bool) (s t v : List Y165) : L0 (((),(),a,b,(),c,(),d,()),(h,(i,j,k,()),(m,n,o,p,q,(),(),(),()),r,s,t,v,())) = f0 profile_Valid.F a b c d h i j k m n o p q r s t v := rfl
theorem L1_eq (a b c : Int) (d : List Int) (h i j k m n o p : Int) (q : List Bool) (r s t : List Y165) : L1 (((),(),a,b,(),(),c,()),(d,(h,i,j,()),(k,m,n,o,p,(),(),(),()),q,r,s,t,())) = f1 L2 L1 a b c d h i j k m n o p q r s t :=
 loopE (E := R) e1 (((),(),a,b,(),(),c,()),(d,(h,i,j,()),(k,m,n,o,p,(),(),(),()),q,r,s,t,()))
theorem L2_eq (a b c : Int) (d : Bool) (h : Int) (i : List Int) (j k m n o p q r : Int) (s : List Bool) (t v w : List Y165) : L2 (((),(),a,b,(),(),c,d,h,()),(i,(j,k,m,()),(n,o,p,q,r,(),(),(),()),s,t,v,w,())) = f2 ref17_Distance.F L3 L4 L2 a b c d h i j k m n o p q r s t v w :=
 loopE (E := R) e2 (((),(),a,b,(),(),c,d,h,()),(i,(j,k,m,()),(n,o,p,q,r,(),(),(),()),s,t,v,w,()))
theorem L3_eq (a b c : Int) (d : Bool) (h : Int) (i : List Int) (j k m n o p q r : Int) (s : List Bool) (t v w : List Y165) : L3 (((),(),a,b,(),(),c,d,h,()),(i,(j,k,m,()),(n,o,p,q,r,(),(),(),()),s,t,v,w,())) = f3 a b c d h i j k m n o p q r s t v w := rfl
theorem L4_eq (a b c : Int) (d : Bool) (h i : Int) (j : List Int) (k m n o p q r s : Int) (t : List Bool) (v w z : Int) (p0 p1 p2 : List Y165) : L4 (((),(),a,b,(),(),c,d,h,i,(),()),(j,(k,m,n,()),(o,p,q,r,s,(),(),(),()),t,(v,w,z,()),p0,p1,p2,())) = f4 profile_Nearer.F a b c d h i j k m n o p q r s t v w z p0 p1 p2 := rfl
theorem F_eq (a : List Int) : F ((a,()),()) = f second_Few.F law37_awake.F second_New.F second_Deck_Next.F second_Deck_Values.F second_Deck_Measure.F second_Deck_Length.F profile_Of.F profile_Windows.F L0 L1 a := rfl
theorem ok {tabs} (ht : TabsOk tabs) : FOK Try.prog tabs 4 (fe F) :=
 fn_keep3 (E := R) (hs := hs) Try.func4 e pw tb (gt_ok ht) (by kernel_rfl) (by kernel_rfl) rfl ⟨second_Few.ok ht,law37_awake.ok ht,second_New.ok ht,second_Deck_Next.ok ht,second_Deck_Values.ok ht,second_Deck_Measure.ok ht,second_Deck_Length.ok ht,profile_Of.ok ht,profile_Windows.ok ht,profile_Valid.ok ht,ref17_Distance.ok ht,profile_Nearer.ok ht,trivial⟩ 5 (by kernel_rfl) ⟨cA e0 (by kernel_rfl) (by kernel_rfl),lA e1 (by kernel_rfl) (by kernel_rfl),lA e2 (by kernel_rfl) (by kernel_rfl),cA e3 (by kernel_rfl) (by kernel_rfl),cA e4 (by kernel_rfl) (by kernel_rfl),trivial⟩
end law37_ProfileNearest
/-! ref01_order -/
namespace ref01_order
noncomputable def c : Go.Code := Try.f70.body.getD .skip
abbrev sh : Sh := ⟨[q13, q13, q13, q13], []⟩
abbrev osh : Sh := ⟨[q13], []⟩
abbrev G := sh.X → Option osh.X
abbrev fe (g : G) : FE := FE.of [true,true,true,true] false sh osh g
abbrev s0 : Sh := ⟨[q13, q13, q13, q13], []⟩
abbrev x0 : List (Ex × Sh) := [(.normal, ⟨[q13, q13, q13, q13, q15], []⟩)]
abbrev A0 := s0.X → Option (sumX x0)
def hs : List Hint := [⟨[0,0,0,1,1,1,1],0,[0,1,2,3],[(0,[0,1,2,3,29])]⟩]
def f0 (a b c d : Int) : Option Y121 :=
 bif a == 0 then
 some (Sum.inl ((a,b,c,d,c == 0,()),()))
 else
 some (Sum.inl ((a,b,c,d,false,()),()))
def u0 (x : Y149) := f0 x.1.1 x.1.2.1 x.1.2.2.1 x.1.2.2.2.1
def f (g : Y149 → Option Y164) (l0 : Y149 → Option Y121) (a b c d : Int) : Option Y164 :=
 bif !(decide (b = 0)) then
 bif !(decide (d = 0)) then
 bif IntKind.wrap .i64 (Int.tdiv a b) != IntKind.wrap .i64 (Int.tdiv c d) then
 bif decide (IntKind.wrap .i64 (Int.tdiv a b) < IntKind.wrap .i64 (Int.tdiv c d)) then
 some ((-1,()),())
 else
 some ((1,()),())
 else
 bif !(decide (b = 0)) then
 bif !(decide (d = 0)) then
 (l0 ((Int.tmod a b,b,Int.tmod c d,d,()),())).bind fun y5 =>
 y5.elim (fun a6 => bif a6.1.2.2.2.2.1 then
 some ((0,()),())
 else
 bif a6.1.1 == 0 then
 some ((-1,()),())
 else
 bif a6.1.2.2.1 == 0 then
 some ((1,()),())
 else
 (g ((a6.1.2.2.2.1,a6.1.2.2.1,a6.1.2.1,a6.1.1,()),())).bind fun y10 =>
 some ((y10.1.1,()),())) Empty.elim
 else none
 else none
 else none
 else none
def u (g : Y149 → Option Y164) (l0 : Y149 → Option Y121) (x : Y149) := f g l0 x.1.1 x.1.2.1 x.1.2.2.1 x.1.2.2.2.1
section
variable (g : G) (l0 : A0)
def E : Env := ⟨T,cE [(70,[],fe g)],lE [LE.of s0 x0 l0],47,0,Gt⟩
variable {g l0}
theorem e0 (L : A0) (x : s0.X) : rndO (E g l0) hs c s0 x0 0 false L x = u0 x := by
 show _ = (_ : Option _)
 kernel_rfl
theorem e (x : sh.X) : bodO (E g l0) hs c Try.f70 sh osh x = u g l0 x := by
 show _ = (_ : Option _)
 kernel_rfl
end
noncomputable def L0 (g : Y149 → Option Y164) : Y149 → Option Y121 := u0
noncomputable def S (g : Y149 → Option Y164) : Y149 → Option Y164 := u g (L0 g)
noncomputable def F : Y149 → Option Y164 := recR S 200
theorem R_eq (k_ : Nat) (a b c d : Int) : recR S (k_ + 1) ((a,b,c,d,()),()) = (fun g => f g (L0 g) a b c d) (recR S k_) := rfl
noncomputable abbrev R (g : Y149 → Option Y164) : Env := E g (L0 g)
theorem L0_eq (g : Y149 → Option Y164) (a b c d : Int) : L0 g ((a,b,c,d,()),()) = f0 a b c d := rfl
theorem okS {tabs} (ht : TabsOk tabs) (g : Y149 → Option Y164) (hg : FOK Try.prog tabs 70 (fe g)) : FOK Try.prog tabs 70 (fe (S g)) :=
 fn_keep3 (E := (R g)) (hs := hs) Try.func70 e pw tb (gt_ok ht) (by kernel_rfl) (by kernel_rfl) rfl ⟨hg,trivial⟩ 1 (by kernel_rfl) ⟨cA e0 (by kernel_rfl) (by kernel_rfl),trivial⟩
theorem ok {tabs} (ht : TabsOk tabs) : FOK Try.prog tabs 70 (fe F) :=
 rec_ok (sh := sh) (osh := osh) (S := S) Try.func70 (c := c) (by kernel_rfl) (by kernel_rfl) (fun g hg => okS ht g hg) _
end ref01_order
/-! ref01_Cmp -/
namespace ref01_Cmp
noncomputable def c : Go.Code := Try.f47.body.getD .skip
abbrev sh : Sh := ⟨[q10, q10], []⟩
abbrev osh : Sh := ⟨[q13], []⟩
abbrev G := sh.X → Option osh.X
abbrev fe (g : G) : FE := FE.of [true,true] false sh osh g
abbrev s0 : Sh := ⟨[q16, q17], [q1, q1]⟩
abbrev x0 : List (Ex × Sh) := [(.normal, ⟨[q16, q17, q15], [q1, q1]⟩)]
abbrev A0 := s0.X → Option (sumX x0)
def hs : List Hint := [⟨[0,0,1],0,[2,3],[(0,[2,3,12])]⟩]
def f0 (g0 : Y152 → Option Y163) (a b c d : Int) : Option Y76 :=
 (g0 (((a,b,()),()),())).bind fun y0 =>
 bif !y0.1.1 then
 some (Sum.inl (((),(),true,()),(a,b,()),(c,d,()),()))
 else
 (g0 (((c,d,()),()),())).bind fun y2 =>
 some (Sum.inl (((),(),!y2.1.1,()),(a,b,()),(c,d,()),()))
def u0 (g0 : Y152 → Option Y163) (x : Y99) := f0 g0 x.2.1.1 x.2.1.2.1 x.2.2.1.1 x.2.2.1.2.1
def f (g1 : Y149 → Option Y164) (l0 : Y99 → Option Y76) (a b c d : Int) : Option Y164 :=
 (l0 (((),(),()),(a,b,()),(c,d,()),())).bind fun y0 =>
 y0.elim (fun a1 => bif a1.1.2.2.1 then
 some ((0,()),())
 else
 (g1 ((a1.2.1.1,a1.2.1.2.1,a1.2.2.1.1,a1.2.2.1.2.1,()),())).bind fun y3 =>
 some ((y3.1.1,()),())) Empty.elim
def u (g1 : Y149 → Option Y164) (l0 : Y99 → Option Y76) (x : Y120) := f g1 l0 x.1.1.1 x.1.1.2.1 x.1.2.1.1 x.1.2.1.2.1
section
variable (g0 : ref01_Valid.G) (g1 : ref01_order.G) (l0 : A0)
def E : Env := ⟨T,cE [(54,[],ref01_Valid.fe g0),(70,[],ref01_order.fe g1)],lE [LE.of s0 x0 l0],22,0,Gt⟩
variable {g0 g1 l0}
theorem e0 (L : A0) (x : s0.X) : rndO (E g0 g1 l0) hs c s0 x0 0 false L x = u0 g0 x := by
 show _ = (_ : Option _)
 kernel_rfl
theorem e (x : sh.X) : bodO (E g0 g1 l0) hs c Try.f47 sh osh x = u g1 l0 x := by
 show _ = (_ : Option _)
 kernel_rfl
end
noncomputable def L0 : Y99 → Option Y76 := u0 ref01_Valid.F
noncomputable def F : Y120 → Option Y164 := u ref01_order.F L0
noncomputable abbrev R : Env := E ref01_Valid.F ref01_order.F L0
theorem L0_eq (a b c d : Int) : L0 (((),(),()),((a,b,()),(c,d,()),())) = f0 ref01_Valid.F a b c d := rfl
theorem F_eq (a b c d : Int) : F (((a,b,()),(c,d,()),()),()) = f ref01_order.F L0 a b c d := rfl
theorem ok {tabs} (ht : TabsOk tabs) : FOK Try.prog tabs 47 (fe F) :=
 fn_keep3 (E := R) (hs := hs) Try.func47 e pw tb (gt_ok ht) (by kernel_rfl) (by kernel_rfl) rfl ⟨ref01_Valid.ok ht,ref01_order.ok ht,trivial⟩ 1 (by kernel_rfl) ⟨cA e0 (by kernel_rfl) (by kernel_rfl),trivial⟩
end ref01_Cmp
/-! ref01_Less -/
namespace ref01_Less
noncomputable def c : Go.Code := Try.f24.body.getD .skip
abbrev sh : Sh := ⟨[q10, q10], []⟩
abbrev osh : Sh := ⟨[q15], []⟩
abbrev G := sh.X → Option osh.X
abbrev fe (g : G) : FE := FE.of [true,true] false sh osh g
def f (g0 : Y120 → Option Y164) (a b c d : Int) : Option Y163 :=
 (g0 (((a,b,()),(c,d,()),()),())).bind fun y0 =>
 some ((decide (y0.1.1 < 0),()),())
def u (g0 : Y120 → Option Y164) (x : Y120) := f g0 x.1.1.1 x.1.1.2.1 x.1.2.1.1 x.1.2.1.2.1
section
variable (g0 : ref01_Cmp.G)
def E : Env := ⟨T,cE [(47,[],ref01_Cmp.fe g0)],lE [],9,0,Gt⟩
variable {g0}
theorem e (x : sh.X) : bodO (E g0) [] c Try.f24 sh osh x = u g0 x := by
 show _ = (_ : Option _)
 kernel_rfl
end
noncomputable def F : Y120 → Option Y163 := u ref01_Cmp.F
noncomputable abbrev R : Env := E ref01_Cmp.F
theorem F_eq (a b c d : Int) : F (((a,b,()),(c,d,()),()),()) = f ref01_Cmp.F a b c d := rfl
theorem ok {tabs} (ht : TabsOk tabs) : FOK Try.prog tabs 24 (fe F) :=
 fn_keep3 (E := R) (hs := []) Try.func24 e pw tb (gt_ok ht) (by kernel_rfl) (by kernel_rfl) rfl ⟨ref01_Cmp.ok ht,trivial⟩ 0 (by kernel_rfl) trivial
end ref01_Less
/-! law37_ProfileMutual -/
namespace law37_ProfileMutual
noncomputable def c : Go.Code := Try.f5.body.getD .skip
abbrev sh : Sh := ⟨[q14, q25], []⟩
abbrev osh : Sh := ⟨[q15], []⟩
abbrev G := sh.X → Option osh.X
abbrev fe (g : G) : FE := FE.of [true,true] false sh osh g
abbrev s0 : Sh := ⟨[q16, q13, q17, q13], [q4, q5, .row 31 (.pair (.int .i64) (.pair (.int .i64) (.int .i64))), .row 31 (.pair (.int .i64) (.pair (.int .i64) (.int .i64))), .row 31 (.pair (.int .i64) (.pair (.int .i64) (.int .i64))), .row 31 (.pair (.int .i64) (.pair (.int .i64) (.int .i64))), .row 31 (.pair (.int .i64) (.pair (.int .i64) (.int .i64))), .row 31 (.pair (.int .i64) (.pair (.int .i64) (.int .i64)))]⟩
abbrev x0 : List (Ex × Sh) := [(.normal, ⟨[q16, q17, q15], [q4, q5, .row 31 (.pair (.int .i64) (.pair (.int .i64) (.int .i64))), .row 31 (.pair (.int .i64) (.pair (.int .i64) (.int .i64))), .row 31 (.pair (.int .i64) (.pair (.int .i64) (.int .i64))), .row 31 (.pair (.int .i64) (.pair (.int .i64) (.int .i64))), .row 31 (.pair (.int .i64) (.pair (.int .i64) (.int .i64))), .row 31 (.pair (.int .i64) (.pair (.int .i64) (.int .i64)))]⟩)]
abbrev A0 := s0.X → Option (sumX x0)
abbrev s1 : Sh := ⟨[q16, q17, q13, q13], [q4, q5, .row 31 (.pair (.int .i64) (.pair (.int .i64) (.int .i64))), .row 31 (.pair (.int .i64) (.pair (.int .i64) (.int .i64))), .row 31 (.pair (.int .i64) (.pair (.int .i64) (.int .i64))), .row 31 (.pair (.int .i64) (.pair (.int .i64) (.int .i64))), .row 31 (.pair (.int .i64) (.pair (.int .i64) (.int .i64))), .row 31 (.pair (.int .i64) (.pair (.int .i64) (.int .i64)))]⟩
abbrev x1 : List (Ex × Sh) := [(.exit 0, ⟨[q16, q13], [q8, .row 31 (.pair (.int .i64) (.pair (.int .i64) (.int .i64))), .row 31 (.pair (.int .i64) (.pair (.int .i64) (.int .i64))), .row 31 (.pair (.int .i64) (.pair (.int .i64) (.int .i64)))]⟩), (.ret, ⟨[q15], []⟩)]
abbrev A1 := s1.X → Option (sumX x1)
abbrev s2 : Sh := ⟨[q16, q17, q13, q13], [q4, q5, .row 31 (.pair (.int .i64) (.pair (.int .i64) (.int .i64))), .row 31 (.pair (.int .i64) (.pair (.int .i64) (.int .i64))), .row 31 (.pair (.int .i64) (.pair (.int .i64) (.int .i64))), .row 31 (.pair (.int .i64) (.pair (.int .i64) (.int .i64))), .row 31 (.pair (.int .i64) (.pair (.int .i64) (.int .i64))), .row 31 (.pair (.int .i64) (.pair (.int .i64) (.int .i64)))]⟩
abbrev x2 : List (Ex × Sh) := [(.normal, ⟨[q16, q17, q13, q13, q15], [q4, q5, .row 31 (.pair (.int .i64) (.pair (.int .i64) (.int .i64))), .row 31 (.pair (.int .i64) (.pair (.int .i64) (.int .i64))), .row 31 (.pair (.int .i64) (.pair (.int .i64) (.int .i64))), .row 31 (.pair (.int .i64) (.pair (.int .i64) (.int .i64))), .row 31 (.pair (.int .i64) (.pair (.int .i64) (.int .i64))), .row 31 (.pair (.int .i64) (.pair (.int .i64) (.int .i64)))]⟩)]
abbrev A2 := s2.X → Option (sumX x2)
abbrev s3 : Sh := ⟨[q16, q17, q13, q13], [q4, q5, .row 31 (.pair (.int .i64) (.pair (.int .i64) (.int .i64))), .row 31 (.pair (.int .i64) (.pair (.int .i64) (.int .i64))), .row 31 (.pair (.int .i64) (.pair (.int .i64) (.int .i64))), .row 31 (.pair (.int .i64) (.pair (.int .i64) (.int .i64))), .row 31 (.pair (.int .i64) (.pair (.int .i64) (.int .i64))), .row 31 (.pair (.int .i64) (.pair (.int .i64) (.int .i64)))]⟩
abbrev x3 : List (Ex × Sh) := [(.normal, ⟨[q16, q17, q13, q13, q15], [q4, q5, .row 31 (.pair (.int .i64) (.pair (.int .i64) (.int .i64))), .row 31 (.pair (.int .i64) (.pair (.int .i64) (.int .i64))), .row 31 (.pair (.int .i64) (.pair (.int .i64) (.int .i64))), .row 31 (.pair (.int .i64) (.pair (.int .i64) (.int .i64))), .row 31 (.pair (.int .i64) (.pair (.int .i64) (.int .i64))), .row 31 (.pair (.int .i64) (.pair (.int .i64) (.int .i64)))]⟩)]
abbrev A3 := s3.X → Option (sumX x3)
abbrev s4 : Sh := ⟨[q16, q13, q13], [q8, .row 31 (.pair (.int .i64) (.pair (.int .i64) (.int .i64))), .row 31 (.pair (.int .i64) (.pair (.int .i64) (.int .i64))), .row 31 (.pair (.int .i64) (.pair (.int .i64) (.int .i64)))]⟩
abbrev x4 : List (Ex × Sh) := [(.normal, ⟨[q15], []⟩)]
abbrev A4 := s4.X → Option (sumX x4)
def hs : List Hint := [⟨[0,0,1,1,1,1,1,1,1],0,[10,11,12,13],[(0,[10,12,68])]⟩,⟨[0,1,0,1,1,1,1,1,1,1,1,1],1,[10,12,14,15],[(2,[10,14]),(1,[4])]⟩,⟨[0,0,0,0,1,0,0,1,0,1,1,1,1,1,1,1,1,1],2,[10,12,14,15],[(0,[10,12,14,15,106])]⟩,⟨[0,1,0,0,1,0,0,1,0,1,1,1,1,1,1,1,1,1],3,[10,12,14,15],[(0,[10,12,14,15,132])]⟩,⟨[0,1,1,1,1,1,1,1,1,1,1,1,1],4,[10,14,16],[(0,[4])]⟩]
def f0 (a b c d h i j k m n o p : Int) (q r s t v w : List Y165) : Option Y8 :=
 bif a != 0 then
 some (Sum.inl (((),(),true,()),(c,d,h,i,j,(),(),(),()),(k,m,n,o,p,(),(),(),()),q,r,s,t,v,w,()))
 else
 bif b != 0 then
 some (Sum.inl (((),(),true,()),(c,d,h,i,j,(),(),(),()),(k,m,n,o,p,(),(),(),()),q,r,s,t,v,w,()))
 else
 some (Sum.inl (((),(),(q.length:Int) != (t.length:Int),()),(c,d,h,i,j,(),(),(),()),(k,m,n,o,p,(),(),(),()),q,r,s,t,v,w,()))
def u0 (x : Y10) := f0 x.1.2.1 x.1.2.2.2.1 x.2.1.1 x.2.1.2.1 x.2.1.2.2.1 x.2.1.2.2.2.1 x.2.1.2.2.2.2.1 x.2.2.1.1 x.2.2.1.2.1 x.2.2.1.2.2.1 x.2.2.1.2.2.2.1 x.2.2.1.2.2.2.2.1 x.2.2.2.1 x.2.2.2.2.1 x.2.2.2.2.2.1 x.2.2.2.2.2.2.1 x.2.2.2.2.2.2.2.1 x.2.2.2.2.2.2.2.2.1
def f2 (g8 : Y120 → Option Y163) (a b c d h i j k m n o p : Int) (q r s t v w : List Y165) : Option Y4 :=
 bif decide (0 ≤ b) then
 bif decide (b < (t.length:Int)) then
 bif decide ((t.getD (b.toNat) (0,0,0)).1 ≥ 0) then
 bif decide (0 ≤ b) then
 bif decide (b < (q.length:Int)) then
 bif decide ((q.getD (b.toNat) (0,0,0)).1 < 0) then
 some (Sum.inl (((),(),a,b,true,()),(c,d,h,i,j,(),(),(),()),(k,m,n,o,p,(),(),(),()),q,r,s,t,v,w,()))
 else
 bif decide (0 ≤ b) then
 bif decide (b < (t.length:Int)) then
 bif decide (0 ≤ b) then
 bif decide (b < (q.length:Int)) then
 (g8 ((((t.getD (b.toNat) (0,0,0)).2.1,(t.getD (b.toNat) (0,0,0)).2.2,()),((q.getD (b.toNat) (0,0,0)).2.1,(q.getD (b.toNat) (0,0,0)).2.2,()),()),())).bind fun y10 =>
 some (Sum.inl (((),(),a,b,y10.1.1,()),(c,d,h,i,j,(),(),(),()),(k,m,n,o,p,(),(),(),()),q,r,s,t,v,w,()))
 else none
 else none
 else none
 else none
 else none
 else none
 else
 some (Sum.inl (((),(),a,b,false,()),(c,d,h,i,j,(),(),(),()),(k,m,n,o,p,(),(),(),()),q,r,s,t,v,w,()))
 else none
 else none
def u2 (g8 : Y120 → Option Y163) (x : Y11) := f2 g8 x.1.2.2.1 x.1.2.2.2.1 x.2.1.1 x.2.1.2.1 x.2.1.2.2.1 x.2.1.2.2.2.1 x.2.1.2.2.2.2.1 x.2.2.1.1 x.2.2.1.2.1 x.2.2.1.2.2.1 x.2.2.1.2.2.2.1 x.2.2.1.2.2.2.2.1 x.2.2.2.1 x.2.2.2.2.1 x.2.2.2.2.2.1 x.2.2.2.2.2.2.1 x.2.2.2.2.2.2.2.1 x.2.2.2.2.2.2.2.2.1
def f3 (g8 : Y120 → Option Y163) (a b c d h i j k m n o p : Int) (q r s t v w : List Y165) : Option Y4 :=
 bif decide (0 ≤ b) then
 bif decide (b < (q.length:Int)) then
 bif decide ((q.getD (b.toNat) (0,0,0)).1 ≥ 0) then
 bif decide (a < 0) then
 some (Sum.inl (((),(),a,b,true,()),(c,d,h,i,j,(),(),(),()),(k,m,n,o,p,(),(),(),()),q,r,s,t,v,w,()))
 else
 bif decide (0 ≤ b) then
 bif decide (b < (q.length:Int)) then
 bif decide (0 ≤ a) then
 bif decide (a < (q.length:Int)) then
 (g8 ((((q.getD (b.toNat) (0,0,0)).2.1,(q.getD (b.toNat) (0,0,0)).2.2,()),((q.getD (a.toNat) (0,0,0)).2.1,(q.getD (a.toNat) (0,0,0)).2.2,()),()),())).bind fun y8 =>
 some (Sum.inl (((),(),a,b,y8.1.1,()),(c,d,h,i,j,(),(),(),()),(k,m,n,o,p,(),(),(),()),q,r,s,t,v,w,()))
 else none
 else none
 else none
 else none
 else
 some (Sum.inl (((),(),a,b,false,()),(c,d,h,i,j,(),(),(),()),(k,m,n,o,p,(),(),(),()),q,r,s,t,v,w,()))
 else none
 else none
def u3 (g8 : Y120 → Option Y163) (x : Y11) := f3 g8 x.1.2.2.1 x.1.2.2.2.1 x.2.1.1 x.2.1.2.1 x.2.1.2.2.1 x.2.1.2.2.2.1 x.2.1.2.2.2.2.1 x.2.2.1.1 x.2.2.1.2.1 x.2.2.1.2.2.1 x.2.2.1.2.2.2.1 x.2.2.1.2.2.2.2.1 x.2.2.2.1 x.2.2.2.2.1 x.2.2.2.2.2.1 x.2.2.2.2.2.2.1 x.2.2.2.2.2.2.2.1 x.2.2.2.2.2.2.2.2.1
def f1 (l2 : Y11 → Option Y4) (l3 : Y11 → Option Y4) (L : Y11 → Option Y25) (a b c d h i j k m n o p : Int) (q r s t v w : List Y165) : Option Y25 :=
 bif decide (b < (q.length:Int)) then
 (l2 (((),(),a,b,()),(c,d,h,i,j,(),(),(),()),(k,m,n,o,p,(),(),(),()),q,r,s,t,v,w,())).bind fun y1 =>
 y1.elim (fun a2 => bif a2.1.2.2.2.2.1 then
 some (Sum.inr (Sum.inl ((false,()),())))
 else
 (l3 (((),(),a2.1.2.2.1,a2.1.2.2.2.1,()),(a2.2.1.1,a2.2.1.2.1,a2.2.1.2.2.1,a2.2.1.2.2.2.1,a2.2.1.2.2.2.2.1,(),(),(),()),(a2.2.2.1.1,a2.2.2.1.2.1,a2.2.2.1.2.2.1,a2.2.2.1.2.2.2.1,a2.2.2.1.2.2.2.2.1,(),(),(),()),a2.2.2.2.1,a2.2.2.2.2.1,a2.2.2.2.2.2.1,a2.2.2.2.2.2.2.1,a2.2.2.2.2.2.2.2.1,a2.2.2.2.2.2.2.2.2.1,())).bind fun y4 =>
 y4.elim (fun a5 => bif a5.1.2.2.2.2.1 then
 (L (((),(),a5.1.2.2.2.1,IntKind.wrap .i64 (a5.1.2.2.2.1 + 1),()),(a5.2.1.1,a5.2.1.2.1,a5.2.1.2.2.1,a5.2.1.2.2.2.1,a5.2.1.2.2.2.2.1,(),(),(),()),(a5.2.2.1.1,a5.2.2.1.2.1,a5.2.2.1.2.2.1,a5.2.2.1.2.2.2.1,a5.2.2.1.2.2.2.2.1,(),(),(),()),a5.2.2.2.1,a5.2.2.2.2.1,a5.2.2.2.2.2.1,a5.2.2.2.2.2.2.1,a5.2.2.2.2.2.2.2.1,a5.2.2.2.2.2.2.2.2.1,())).bind fun y7 =>
 some y7
 else
 (L (((),(),a5.1.2.2.1,IntKind.wrap .i64 (a5.1.2.2.2.1 + 1),()),(a5.2.1.1,a5.2.1.2.1,a5.2.1.2.2.1,a5.2.1.2.2.2.1,a5.2.1.2.2.2.2.1,(),(),(),()),(a5.2.2.1.1,a5.2.2.1.2.1,a5.2.2.1.2.2.1,a5.2.2.1.2.2.2.1,a5.2.2.1.2.2.2.2.1,(),(),(),()),a5.2.2.2.1,a5.2.2.2.2.1,a5.2.2.2.2.2.1,a5.2.2.2.2.2.2.1,a5.2.2.2.2.2.2.2.1,a5.2.2.2.2.2.2.2.2.1,())).bind fun y7 =>
 some y7) Empty.elim) Empty.elim
 else
 some (Sum.inl (((),a,()),(c,d,h,i,j,(),(),(),()),q,r,s,()))
def u1 (l2 : Y11 → Option Y4) (l3 : Y11 → Option Y4) (L : Y11 → Option Y25) (x : Y11) := f1 l2 l3 L x.1.2.2.1 x.1.2.2.2.1 x.2.1.1 x.2.1.2.1 x.2.1.2.2.1 x.2.1.2.2.2.1 x.2.1.2.2.2.2.1 x.2.2.1.1 x.2.2.1.2.1 x.2.2.1.2.2.1 x.2.2.1.2.2.2.1 x.2.2.1.2.2.2.2.1 x.2.2.2.1 x.2.2.2.2.1 x.2.2.2.2.2.1 x.2.2.2.2.2.2.1 x.2.2.2.2.2.2.2.1 x.2.2.2.2.2.2.2.2.1
def f4 (g1 : Y166 → Option Y163) (a b c d h i j : Int) (k m n : List Y165) : Option Y157 :=
 bif decide (b > a) then
 bif decide (b < (k.length:Int)) then
 bif decide (0 ≤ b) then
 bif decide (b < (k.length:Int)) then
 bif decide (0 ≤ a) then
 bif decide (a < (k.length:Int)) then
 bif (k.getD (b.toNat) (0,0,0)).2.1 == (k.getD (a.toNat) (0,0,0)).2.1 && ((k.getD (b.toNat) (0,0,0)).2.2 == (k.getD (a.toNat) (0,0,0)).2.2 && true) then
 bif decide (0 ≤ b) then
 bif decide (b < (k.length:Int)) then
 bif decide ((k.getD (b.toNat) (0,0,0)).1 ≤ a) then
 (g1 ((),())).bind fun y10 =>
 some (Sum.inl ((y10.1.1,()),()))
 else
 some (Sum.inl ((false,()),()))
 else none
 else none
 else
 some (Sum.inl ((false,()),()))
 else none
 else none
 else none
 else none
 else
 some (Sum.inl ((false,()),()))
 else
 some (Sum.inl ((false,()),()))
def u4 (g1 : Y166 → Option Y163) (x : Y28) := f4 g1 x.1.2.1 x.1.2.2.1 x.2.1.1 x.2.1.2.1 x.2.1.2.2.1 x.2.1.2.2.2.1 x.2.1.2.2.2.2.1 x.2.2.1 x.2.2.2.1 x.2.2.2.2.1
def f (g0 : Y159 → Option Y163) (g1 : Y166 → Option Y163) (g2 : Y159 → Option Y132) (g3 : Y122 → Option Y134) (g4 : Y122 → Option Y115) (g5 : Y122 → Option Y102) (g6 : Y132 → Option Y134) (g7 : Y107 → Option Y31) (l0 : Y10 → Option Y8) (l1 : Y11 → Option Y25) (l4 : Y28 → Option Y157) (a : List Int) (b : Int) : Option Y163 :=
 (g0 ((a,()),())).bind fun y0 =>
 bif !y0.1.1 then
 (g1 ((),())).bind fun y2 =>
 some ((y2.1.1,()),())
 else
 (g2 ((a,()),())).bind fun y2 =>
 (g3 (((),26,()),(y2.2.1.1,y2.2.1.2.1,()),())).bind fun y3 =>
 (g4 (((),y3.1.1,()),(y3.2.1.1,y3.2.1.2.1,()),())).bind fun y4 =>
 (g5 (((),0,()),(y4.2.1.1,y4.2.1.2.1,()),())).bind fun y5 =>
 (g6 (((),()),(y5.2.1.1,y5.2.1.2.1,()),())).bind fun y6 =>
 (g3 (((),4,()),(y6.2.1.1,y6.2.1.2.1,()),())).bind fun y7 =>
 (g7 ((y4.2.2.1,(y5.1.1.1,y5.1.1.2.1,y5.1.1.2.2.1,()),y6.1.1,IntKind.wrap .i64 (1 + y7.1.1),()),())).bind fun y8 =>
 (g7 ((y4.2.2.1,(y5.1.1.1,y5.1.1.2.1,y5.1.1.2.2.1,()),y6.1.1,IntKind.wrap .i64 ((IntKind.wrap .i64 (1 + y7.1.1)) + (Int.tmod (IntKind.wrap .i64 b) 5)),()),())).bind fun y9 =>
 (l0 (((),y8.1.2.1,(),y9.1.2.1,()),(y8.1.1.1,y8.1.1.2.1,y8.1.1.2.2.1,y8.1.1.2.2.2.1,y8.1.1.2.2.2.2.1,(),(),(),()),(y9.1.1.1,y9.1.1.2.1,y9.1.1.2.2.1,y9.1.1.2.2.2.1,y9.1.1.2.2.2.2.1,(),(),(),()),y8.2.1,y8.2.2.1,y8.2.2.2.1,y9.2.1,y9.2.2.1,y9.2.2.2.1,())).bind fun y10 =>
 y10.elim (fun a11 => bif a11.1.2.2.1 then
 some ((false,()),())
 else
 (l1 (((),(),-1,0,()),(a11.2.1.1,a11.2.1.2.1,a11.2.1.2.2.1,a11.2.1.2.2.2.1,a11.2.1.2.2.2.2.1,(),(),(),()),(a11.2.2.1.1,a11.2.2.1.2.1,a11.2.2.1.2.2.1,a11.2.2.1.2.2.2.1,a11.2.2.1.2.2.2.2.1,(),(),(),()),a11.2.2.2.1,a11.2.2.2.2.1,a11.2.2.2.2.2.1,a11.2.2.2.2.2.2.1,a11.2.2.2.2.2.2.2.1,a11.2.2.2.2.2.2.2.2.1,())).bind fun y13 =>
 y13.elim (fun a14 => bif decide (a14.1.2.1 < 0) then
 (g1 ((),())).bind fun y16 =>
 some ((y16.1.1,()),())
 else
 bif decide (0 ≤ a14.1.2.1) then
 bif decide (a14.1.2.1 < (a14.2.2.1.length:Int)) then
 (l4 (((),a14.1.2.1,(a14.2.2.1.getD (a14.1.2.1.toNat) (0,0,0)).1,()),(a14.2.1.1,a14.2.1.2.1,a14.2.1.2.2.1,a14.2.1.2.2.2.1,a14.2.1.2.2.2.2.1,(),(),(),()),a14.2.2.1,a14.2.2.2.1,a14.2.2.2.2.1,())).bind fun y18 =>
 y18.elim (fun a19 => some ((a19.1.1,()),())) Empty.elim
 else none
 else none) (fun b14 => b14.elim (fun a15 => some ((a15.1.1,()),())) Empty.elim)) Empty.elim
def u (g0 : Y159 → Option Y163) (g1 : Y166 → Option Y163) (g2 : Y159 → Option Y132) (g3 : Y122 → Option Y134) (g4 : Y122 → Option Y115) (g5 : Y122 → Option Y102) (g6 : Y132 → Option Y134) (g7 : Y107 → Option Y31) (l0 : Y10 → Option Y8) (l1 : Y11 → Option Y25) (l4 : Y28 → Option Y157) (x : Y155) := f g0 g1 g2 g3 g4 g5 g6 g7 l0 l1 l4 x.1.1 x.1.2.1
section
variable (g0 : second_Few.G) (g1 : law37_awake.G) (g2 : second_New.G) (g3 : second_Deck_Next.G) (g4 : second_Deck_Values.G) (g5 : second_Deck_Measure.G) (g6 : second_Deck_Length.G) (g7 : profile_Of.G) (g8 : ref01_Less.G) (l0 : A0) (l1 : A1) (l2 : A2) (l3 : A3) (l4 : A4)
def E : Env := ⟨T,cE [(8,[],second_Few.fe g0),(9,[],law37_awake.fe g1),(10,[],second_New.fe g2),(18,[],second_Deck_Next.fe g3),(17,[],second_Deck_Values.fe g4),(19,[],second_Deck_Measure.fe g5),(20,[],second_Deck_Length.fe g6),(21,[],profile_Of.fe g7),(24,[],ref01_Less.fe g8)],lE [LE.of s0 x0 l0,LE.of s1 x1 l1,LE.of s2 x2 l2,LE.of s3 x3 l3,LE.of s4 x4 l4],181,0,Gt⟩
variable {g0 g1 g2 g3 g4 g5 g6 g7 g8 l0 l1 l2 l3 l4}
theorem e0 (L : A0) (x : s0.X) : rndO (E g0 g1 g2 g3 g4 g5 g6 g7 g8 l0 l1 l2 l3 l4) hs c s0 x0 0 false L x = u0 x := by
 show _ = (_ : Option _)
 kernel_rfl
theorem e2 (L : A2) (x : s2.X) : rndO (E g0 g1 g2 g3 g4 g5 g6 g7 g8 l0 l1 l2 l3 l4) hs c s2 x2 2 false L x = u2 g8 x := by
 show _ = (_ : Option _)
 kernel_rfl
theorem e3 (L : A3) (x : s3.X) : rndO (E g0 g1 g2 g3 g4 g5 g6 g7 g8 l0 l1 l2 l3 l4) hs c s3 x3 3 false L x = u3 g8 x := by
 show _ = (_ : Option _)
 kernel_rfl
theorem e1 (L : A1) (x : s1.X) : rndO (E g0 g1 g2 g3 g4 g5 g6 g7 g8 l0 l1 l2 l3 l4) hs c s1 x1 1 true L x = u1 l2 l3 L x := by
 show _ = (_ : Option _)
 kernel_rfl
theorem e4 (L : A4) (x : s4.X) : rndO (E g0 g1 g2 g3 g4 g5 g6 g7 g8 l0 l1 l2 l3 l4) hs c s4 x4 4 false L x = u4 g1 x := by
 show _ = (_ : Option _)
 kernel_rfl
theorem e (x : sh.X) : bodO (E g0 g1 g2 g3 g4 g5 g6 g7 g8 l0 l1 l2 l3 l4) hs c Try.f5 sh osh x = u g0 g1 g2 g3 g4 g5 g6 g7 l0 l1 l4 x := by
 show _ = (_ : Option _)
 kernel_rfl
end
noncomputable def L0 : Y10 → Option Y8 := u0
noncomputable def L2 : Y11 → Option Y4 := u2 ref01_Less.F
noncomputable def L3 : Y11 → Option Y4 := u3 ref01_Less.F
noncomputable def L1 : Y11 → Option Y25 := loop (u1 L2 L3)
noncomputable def L4 : Y28 → Option Y157 := u4 law37_awake.F
noncomputable def F : Y155 → Option Y163 := u second_Few.F law37_awake.F second_New.F second_Deck_Next.F second_Deck_Values.F second_Deck_Measure.F second_Deck_Length.F profile_Of.F L0 L1 L4
noncomputable abbrev R : Env := E second_Few.F law37_awake.F second_New.F second_Deck_Next.F second_Deck_Values.F second_Deck_Measure.F second_Deck_Length.F profile_Of.F ref01_Less.F L0 L1 L2 L3 L4
theorem L0_eq (a b c d h i j k m n o p : Int) (q r s t v w : List Y165) : L0 (((),a,(),b,()),((c,d,h,i,j,(),(),(),()),(k,m,n,o,p,(),(),(),()),q,r,s,t,v,w,())) = f0 a b c d h i j k m n o p q r s t v w := rfl
theorem L1_eq (a b c d h i j k m n o p : Int) (q r s t v w : List Y165) : L1 (((),(),a,b,()),((c,d,h,i,j,(),(),(),()),(k,m,n,o,p,(),(),(),()),q,r,s,t,v,w,())) = f1 L2 L3 L1 a b c d h i j k m n o p q r s t v w :=
 loopE (E := R) e1 (((),(),a,b,()),((c,d,h,i,j,(),(),(),()),(k,m,n,o,p,(),(),(),()),q,r,s,t,v,w,()))
theorem L2_eq (a b c d h i j k m n o p : Int) (q r s t v w : List Y165) : L2 (((),(),a,b,()),((c,d,h,i,j,(),(),(),()),(k,m,n,o,p,(),(),(),()),q,r,s,t,v,w,())) = f2 ref01_Less.F a b c d h i j k m n o p q r s t v w := rfl
theorem L3_eq (a b c d h i j k m n o p : Int) (q r s t v w : List Y165) : L3 (((),(),a,b,()),((c,d,h,i,j,(),(),(),()),(k,m,n,o,p,(),(),(),()),q,r,s,t,v,w,())) = f3 ref01_Less.F a b c d h i j k m n o p q r s t v w := rfl
theorem L4_eq (a b c d h i j : Int) (k m n : List Y165) : L4 (((),a,b,()),((c,d,h,i,j,(),(),(),()),k,m,n,())) = f4 law37_awake.F a b c d h i j k m n := rfl
theorem F_eq (a : List Int) (b : Int) : F ((a,b,()),()) = f second_Few.F law37_awake.F second_New.F second_Deck_Next.F second_Deck_Values.F second_Deck_Measure.F second_Deck_Length.F profile_Of.F L0 L1 L4 a b := rfl
theorem ok {tabs} (ht : TabsOk tabs) : FOK Try.prog tabs 5 (fe F) :=
 fn_keep3 (E := R) (hs := hs) Try.func5 e pw tb (gt_ok ht) (by kernel_rfl) (by kernel_rfl) rfl ⟨second_Few.ok ht,law37_awake.ok ht,second_New.ok ht,second_Deck_Next.ok ht,second_Deck_Values.ok ht,second_Deck_Measure.ok ht,second_Deck_Length.ok ht,profile_Of.ok ht,ref01_Less.ok ht,trivial⟩ 5 (by kernel_rfl) ⟨cA e0 (by kernel_rfl) (by kernel_rfl),lA e1 (by kernel_rfl) (by kernel_rfl),cA e2 (by kernel_rfl) (by kernel_rfl),cA e3 (by kernel_rfl) (by kernel_rfl),cA e4 (by kernel_rfl) (by kernel_rfl),trivial⟩
end law37_ProfileMutual
/-! ref37_SameNeighbours -/
namespace ref37_SameNeighbours
noncomputable def c : Go.Code := Try.f48.body.getD .skip
abbrev sh : Sh := ⟨[q27, q27], []⟩
abbrev osh : Sh := ⟨[q15], []⟩
abbrev G := sh.X → Option osh.X
abbrev fe (g : G) : FE := FE.of [true,true] false sh osh g
abbrev s0 : Sh := ⟨[q27, q27, q13], []⟩
abbrev x0 : List (Ex × Sh) := [(.exit 0, ⟨[], []⟩), (.ret, ⟨[q15], []⟩)]
abbrev A0 := s0.X → Option (sumX x0)
def hs : List Hint := [⟨[0,1,0,1,1],0,[0,1,5],[(2,[]),(1,[4])]⟩]
def f0 (L : Y88 → Option Y130) (a b : List Y165) (c : Int) : Option Y130 :=
 bif decide (c < (a.length:Int)) then
 bif decide (0 ≤ c) then
 bif decide (c < (a.length:Int)) then
 bif decide (0 ≤ c) then
 bif decide (c < (b.length:Int)) then
 bif !((a.getD (c.toNat) (0,0,0)).1 == (b.getD (c.toNat) (0,0,0)).1 && (((a.getD (c.toNat) (0,0,0)).2.1 == (b.getD (c.toNat) (0,0,0)).2.1 && ((a.getD (c.toNat) (0,0,0)).2.2 == (b.getD (c.toNat) (0,0,0)).2.2 && true)) && true)) then
 some (Sum.inr (Sum.inl ((false,()),())))
 else
 (L ((a,b,IntKind.wrap .i64 (c + 1),()),())).bind fun y6 =>
 some y6
 else none
 else none
 else none
 else none
 else
 some (Sum.inl ((),()))
def u0 (L : Y88 → Option Y130) (x : Y88) := f0 L x.1.1 x.1.2.1 x.1.2.2.1
def f (l0 : Y88 → Option Y130) (a b : List Y165) : Option Y163 :=
 bif (a.length:Int) != (b.length:Int) then
 some ((false,()),())
 else
 (l0 ((a,b,0,()),())).bind fun y1 =>
 y1.elim (fun a2 => some ((true,()),())) (fun b2 => b2.elim (fun a3 => some ((a3.1.1,()),())) Empty.elim)
def u (l0 : Y88 → Option Y130) (x : Y95) := f l0 x.1.1 x.1.2.1
section
variable (l0 : A0)
def E : Env := ⟨T,cE [],lE [LE.of s0 x0 l0],26,0,Gt⟩
variable {l0}
theorem e0 (L : A0) (x : s0.X) : rndO (E l0) hs c s0 x0 0 true L x = u0 L x := by
 show _ = (_ : Option _)
 kernel_rfl
theorem e (x : sh.X) : bodO (E l0) hs c Try.f48 sh osh x = u l0 x := by
 show _ = (_ : Option _)
 kernel_rfl
end
noncomputable def L0 : Y88 → Option Y130 := loop u0
noncomputable def F : Y95 → Option Y163 := u L0
noncomputable abbrev R : Env := E L0
theorem L0_eq (a b : List Y165) (c : Int) : L0 ((a,b,c,()),()) = f0 L0 a b c :=
 loopE (E := R) e0 ((a,b,c,()),())
theorem F_eq (a b : List Y165) : F ((a,b,()),()) = f L0 a b := rfl
theorem ok {tabs} (ht : TabsOk tabs) : FOK Try.prog tabs 48 (fe F) :=
 fn_keep3 (E := R) (hs := hs) Try.func48 e pw tb (gt_ok ht) (by kernel_rfl) (by kernel_rfl) rfl trivial 1 (by kernel_rfl) ⟨lA e0 (by kernel_rfl) (by kernel_rfl),trivial⟩
end ref37_SameNeighbours
/-! ref37_Same -/
namespace ref37_Same
noncomputable def c : Go.Code := Try.f25.body.getD .skip
abbrev sh : Sh := ⟨[q12, q12], []⟩
abbrev osh : Sh := ⟨[q15], []⟩
abbrev G := sh.X → Option osh.X
abbrev fe (g : G) : FE := FE.of [true,true] false sh osh g
abbrev s0 : Sh := ⟨[q16, q17], [q7, q7]⟩
abbrev x0 : List (Ex × Sh) := [(.normal, ⟨[q15], []⟩)]
abbrev A0 := s0.X → Option (sumX x0)
def hs : List Hint := [⟨[0,1],0,[2,3],[(0,[4])]⟩]
def f0 (g0 : Y95 → Option Y163) (a b c d h : Int) (i j k : List Y165) (m n o p q : Int) (r s t : List Y165) : Option Y157 :=
 bif a == m && (b == n && (c == o && true)) then
 bif d == p then
 bif h == q then
 (g0 ((i,r,()),())).bind fun y3 =>
 bif y3.1.1 then
 (g0 ((j,s,()),())).bind fun y5 =>
 bif y5.1.1 then
 (g0 ((k,t,()),())).bind fun y7 =>
 some (Sum.inl ((y7.1.1,()),()))
 else
 some (Sum.inl ((false,()),()))
 else
 some (Sum.inl ((false,()),()))
 else
 some (Sum.inl ((false,()),()))
 else
 some (Sum.inl ((false,()),()))
 else
 some (Sum.inl ((false,()),()))
def u0 (g0 : Y95 → Option Y163) (x : Y17) := f0 g0 x.2.1.1 x.2.1.2.1 x.2.1.2.2.1 x.2.1.2.2.2.1 x.2.1.2.2.2.2.1 x.2.1.2.2.2.2.2.1 x.2.1.2.2.2.2.2.2.1 x.2.1.2.2.2.2.2.2.2.1 x.2.2.1.1 x.2.2.1.2.1 x.2.2.1.2.2.1 x.2.2.1.2.2.2.1 x.2.2.1.2.2.2.2.1 x.2.2.1.2.2.2.2.2.1 x.2.2.1.2.2.2.2.2.2.1 x.2.2.1.2.2.2.2.2.2.2.1
def f (l0 : Y17 → Option Y157) (a b c d h : Int) (i j k : List Y165) (m n o p q : Int) (r s t : List Y165) : Option Y163 :=
 (l0 (((),(),()),(a,b,c,d,h,i,j,k,()),(m,n,o,p,q,r,s,t,()),())).bind fun y0 =>
 y0.elim (fun a1 => some ((a1.1.1,()),())) Empty.elim
def u (l0 : Y17 → Option Y157) (x : Y21) := f l0 x.1.1.1 x.1.1.2.1 x.1.1.2.2.1 x.1.1.2.2.2.1 x.1.1.2.2.2.2.1 x.1.1.2.2.2.2.2.1 x.1.1.2.2.2.2.2.2.1 x.1.1.2.2.2.2.2.2.2.1 x.1.2.1.1 x.1.2.1.2.1 x.1.2.1.2.2.1 x.1.2.1.2.2.2.1 x.1.2.1.2.2.2.2.1 x.1.2.1.2.2.2.2.2.1 x.1.2.1.2.2.2.2.2.2.1 x.1.2.1.2.2.2.2.2.2.2.1
section
variable (g0 : ref37_SameNeighbours.G) (l0 : A0)
def E : Env := ⟨T,cE [(48,[],ref37_SameNeighbours.fe g0)],lE [LE.of s0 x0 l0],45,0,Gt⟩
variable {g0 l0}
theorem e0 (L : A0) (x : s0.X) : rndO (E g0 l0) hs c s0 x0 0 false L x = u0 g0 x := by
 show _ = (_ : Option _)
 kernel_rfl
theorem e (x : sh.X) : bodO (E g0 l0) hs c Try.f25 sh osh x = u l0 x := by
 show _ = (_ : Option _)
 kernel_rfl
end
noncomputable def L0 : Y17 → Option Y157 := u0 ref37_SameNeighbours.F
noncomputable def F : Y21 → Option Y163 := u L0
noncomputable abbrev R : Env := E ref37_SameNeighbours.F L0
theorem L0_eq (a b c d h : Int) (i j k : List Y165) (m n o p q : Int) (r s t : List Y165) : L0 (((),(),()),((a,b,c,d,h,i,j,k,()),(m,n,o,p,q,r,s,t,()),())) = f0 ref37_SameNeighbours.F a b c d h i j k m n o p q r s t := rfl
theorem F_eq (a b c d h : Int) (i j k : List Y165) (m n o p q : Int) (r s t : List Y165) : F (((a,b,c,d,h,i,j,k,()),(m,n,o,p,q,r,s,t,()),()),()) = f L0 a b c d h i j k m n o p q r s t := rfl
theorem ok {tabs} (ht : TabsOk tabs) : FOK Try.prog tabs 25 (fe F) :=
 fn_keep3 (E := R) (hs := hs) Try.func25 e pw tb (gt_ok ht) (by kernel_rfl) (by kernel_rfl) rfl ⟨ref37_SameNeighbours.ok ht,trivial⟩ 1 (by kernel_rfl) ⟨cA e0 (by kernel_rfl) (by kernel_rfl),trivial⟩
end ref37_Same
end Go.Proofs.Ytefcciajemkicaa.V
