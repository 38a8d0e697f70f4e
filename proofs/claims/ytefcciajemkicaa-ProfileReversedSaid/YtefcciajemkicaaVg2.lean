import Derived.Test.YtefcciajemkicaaVg1
import Derived.WalkKit
set_option linter.unusedVariables false
set_option maxRecDepth 100000
namespace Go.Proofs.Ytefcciajemkicaa.V
open Go (IntKind)
open Go.VI
/-! edit_last -/
namespace edit_last
noncomputable def c : Go.Code := Try.f104.body.getD .skip
abbrev sh : Sh := ⟨[q13, q14, q14, q13, q13, q13], []⟩
abbrev osh : Sh := ⟨[q13, q13, q13, q15], []⟩
abbrev G := sh.X → Option osh.X
abbrev fe (g : G) : FE := FE.of [true,true,true,true,true,true] false sh osh g
abbrev s0 : Sh := ⟨[q13, q14, q14, q13, q13, q13], []⟩
abbrev x0 : List (Ex × Sh) := [(.normal, ⟨[q13, q14, q14, q13, q13, q13, q15], []⟩)]
abbrev A0 := s0.X → Option (sumX x0)
abbrev s1 : Sh := ⟨[q13, q14, q14, q13, q13, q13], []⟩
abbrev x1 : List (Ex × Sh) := [(.normal, ⟨[q13, q14, q14, q13, q13, q13, q15], []⟩)]
abbrev A1 := s1.X → Option (sumX x1)
abbrev s2 : Sh := ⟨[q13, q14, q13, q13, q13], []⟩
abbrev x2 : List (Ex × Sh) := [(.normal, ⟨[q14, q13, q13, q13, q15], []⟩)]
abbrev A2 := s2.X → Option (sumX x2)
def hs : List Hint := [⟨[0,0,0,1],0,[0,1,2,3,4,5],[(0,[0,1,2,3,4,5,16])]⟩,⟨[0,1,1,0,0,1],1,[0,1,2,3,4,5],[(0,[0,1,2,3,4,5,42])]⟩,⟨[0,1,1,1,1,0,0,1],2,[0,2,3,4,5],[(0,[2,3,4,5,59])]⟩]
def f0 (a : Int) (b c : List Int) (d h i : Int) : Option Y83 :=
 bif a == 1 then
 bif decide (h > 0) then
 some (Sum.inl ((a,b,c,d,h,i,decide (i > 0),()),()))
 else
 some (Sum.inl ((a,b,c,d,h,i,false,()),()))
 else
 some (Sum.inl ((a,b,c,d,h,i,false,()),()))
def u0 (x : Y110) := f0 x.1.1 x.1.2.1 x.1.2.2.1 x.1.2.2.2.1 x.1.2.2.2.2.1 x.1.2.2.2.2.2.1
def f1 (a : Int) (b c : List Int) (d h i : Int) : Option Y83 :=
 bif a == 2 then
 some (Sum.inl ((a,b,c,d,h,i,decide (h > 0),()),()))
 else
 some (Sum.inl ((a,b,c,d,h,i,false,()),()))
def u1 (x : Y110) := f1 x.1.1 x.1.2.1 x.1.2.2.1 x.1.2.2.2.1 x.1.2.2.2.2.1 x.1.2.2.2.2.2.1
def f2 (a : Int) (b : List Int) (c d h : Int) : Option Y114 :=
 bif a == 3 then
 some (Sum.inl ((b,c,d,h,decide (h > 0),()),()))
 else
 some (Sum.inl ((b,c,d,h,false,()),()))
def u2 (x : Y129) := f2 x.1.1 x.1.2.1 x.1.2.2.1 x.1.2.2.2.1 x.1.2.2.2.2.1
def f (g0 : Y161 → Option Y164) (l0 : Y110 → Option Y83) (l1 : Y110 → Option Y83) (l2 : Y129 → Option Y114) (a : Int) (b c : List Int) (d h i : Int) : Option Y147 :=
 (l0 ((a,b,c,d,h,i,()),())).bind fun y0 =>
 y0.elim (fun a1 => bif a1.1.2.2.2.2.2.2.1 then
 bif decide (0 ≤ IntKind.wrap .i64 (a1.1.2.2.2.2.1 - 1)) then
 bif decide (IntKind.wrap .i64 (a1.1.2.2.2.2.1 - 1) < (a1.1.2.1.length:Int)) then
 bif decide (0 ≤ IntKind.wrap .i64 (a1.1.2.2.2.2.2.1 - 1)) then
 bif decide (IntKind.wrap .i64 (a1.1.2.2.2.2.2.1 - 1) < (a1.1.2.2.1.length:Int)) then
 (g0 ((a1.1.2.1.getD (Int.toNat (IntKind.wrap .i64 (a1.1.2.2.2.2.1 - 1))) 0,a1.1.2.2.1.getD (Int.toNat (IntKind.wrap .i64 (a1.1.2.2.2.2.2.1 - 1))) 0,()),())).bind fun y7 =>
 some ((y7.1.1,IntKind.wrap .i64 (a1.1.2.2.2.2.1 - 1),IntKind.wrap .i64 (a1.1.2.2.2.2.2.1 - 1),true,()),())
 else none
 else none
 else none
 else none
 else
 (l1 ((a1.1.1,a1.1.2.1,a1.1.2.2.1,a1.1.2.2.2.1,a1.1.2.2.2.2.1,a1.1.2.2.2.2.2.1,()),())).bind fun y3 =>
 y3.elim (fun a4 => bif a4.1.2.2.2.2.2.2.1 then
 bif decide (0 ≤ IntKind.wrap .i64 (a4.1.2.2.2.2.1 - 1)) then
 bif decide (IntKind.wrap .i64 (a4.1.2.2.2.2.1 - 1) < (a4.1.2.1.length:Int)) then
 (g0 ((a4.1.2.1.getD (Int.toNat (IntKind.wrap .i64 (a4.1.2.2.2.2.1 - 1))) 0,a4.1.2.2.2.1,()),())).bind fun y8 =>
 some ((y8.1.1,IntKind.wrap .i64 (a4.1.2.2.2.2.1 - 1),a4.1.2.2.2.2.2.1,true,()),())
 else none
 else none
 else
 (l2 ((a4.1.1,a4.1.2.2.1,a4.1.2.2.2.1,a4.1.2.2.2.2.1,a4.1.2.2.2.2.2.1,()),())).bind fun y6 =>
 y6.elim (fun a7 => bif a7.1.2.2.2.2.1 then
 bif decide (0 ≤ IntKind.wrap .i64 (a7.1.2.2.2.1 - 1)) then
 bif decide (IntKind.wrap .i64 (a7.1.2.2.2.1 - 1) < (a7.1.1.length:Int)) then
 (g0 ((a7.1.1.getD (Int.toNat (IntKind.wrap .i64 (a7.1.2.2.2.1 - 1))) 0,a7.1.2.1,()),())).bind fun y11 =>
 some ((y11.1.1,a7.1.2.2.1,IntKind.wrap .i64 (a7.1.2.2.2.1 - 1),true,()),())
 else none
 else none
 else
 some ((0,0,0,false,()),())) Empty.elim) Empty.elim) Empty.elim
def u (g0 : Y161 → Option Y164) (l0 : Y110 → Option Y83) (l1 : Y110 → Option Y83) (l2 : Y129 → Option Y114) (x : Y110) := f g0 l0 l1 l2 x.1.1 x.1.2.1 x.1.2.2.1 x.1.2.2.2.1 x.1.2.2.2.2.1 x.1.2.2.2.2.2.1
section
variable (g0 : edit_apart.G) (l0 : A0) (l1 : A1) (l2 : A2)
def E : Env := ⟨T,cE [(107,[],edit_apart.fe g0)],lE [LE.of s0 x0 l0,LE.of s1 x1 l1,LE.of s2 x2 l2],76,0,Gt⟩
variable {g0 l0 l1 l2}
theorem e0 (L : A0) (x : s0.X) : rndO (E g0 l0 l1 l2) hs c s0 x0 0 false L x = u0 x := by
 show _ = (_ : Option _)
 kernel_rfl
theorem e1 (L : A1) (x : s1.X) : rndO (E g0 l0 l1 l2) hs c s1 x1 1 false L x = u1 x := by
 show _ = (_ : Option _)
 kernel_rfl
theorem e2 (L : A2) (x : s2.X) : rndO (E g0 l0 l1 l2) hs c s2 x2 2 false L x = u2 x := by
 show _ = (_ : Option _)
 kernel_rfl
theorem e (x : sh.X) : bodO (E g0 l0 l1 l2) hs c Try.f104 sh osh x = u g0 l0 l1 l2 x := by
 show _ = (_ : Option _)
 kernel_rfl
end
noncomputable def L0 : Y110 → Option Y83 := u0
noncomputable def L1 : Y110 → Option Y83 := u1
noncomputable def L2 : Y129 → Option Y114 := u2
noncomputable def F : Y110 → Option Y147 := u edit_apart.F L0 L1 L2
noncomputable abbrev R : Env := E edit_apart.F L0 L1 L2
theorem L0_eq (a : Int) (b c : List Int) (d h i : Int) : L0 ((a,b,c,d,h,i,()),()) = f0 a b c d h i := rfl
theorem L1_eq (a : Int) (b c : List Int) (d h i : Int) : L1 ((a,b,c,d,h,i,()),()) = f1 a b c d h i := rfl
theorem L2_eq (a : Int) (b : List Int) (c d h : Int) : L2 ((a,b,c,d,h,()),()) = f2 a b c d h := rfl
theorem F_eq (a : Int) (b c : List Int) (d h i : Int) : F ((a,b,c,d,h,i,()),()) = f edit_apart.F L0 L1 L2 a b c d h i := rfl
theorem ok {tabs} (ht : TabsOk tabs) : FOK Try.prog tabs 104 (fe F) :=
 fn_keep3 (E := R) (hs := hs) Try.func104 e pw tb (gt_ok ht) (by kernel_rfl) (by kernel_rfl) rfl ⟨edit_apart.ok ht,trivial⟩ 3 (by kernel_rfl) ⟨cA e0 (by kernel_rfl) (by kernel_rfl),cA e1 (by kernel_rfl) (by kernel_rfl),cA e2 (by kernel_rfl) (by kernel_rfl),trivial⟩
end edit_last
/-! edit_table -/
namespace edit_table
noncomputable def c : Go.Code := Try.f97.body.getD .skip
abbrev sh : Sh := ⟨[q14, q14, q13], []⟩
abbrev osh : Sh := ⟨[.one (.arr)], []⟩
abbrev G := sh.X → Option osh.X
abbrev fe (g : G) : FE := FE.of [true,true,true] false sh osh g
abbrev s0 : Sh := ⟨[q14, q14, q13, q16, q17, q13], [.row 108 (.int .i64), .row 108 (.int .i64)]⟩
abbrev x0 : List (Ex × Sh) := [(.exit 0, ⟨[q16, q17], [.row 108 (.int .i64), .row 108 (.int .i64)]⟩)]
abbrev A0 := s0.X → Option (sumX x0)
abbrev s1 : Sh := ⟨[q14, q14, q13, q16, q17, q13, q13], [.row 108 (.int .i64), .row 108 (.int .i64)]⟩
abbrev x1 : List (Ex × Sh) := [(.exit 2, ⟨[q14, q14, q13, q16, q17, q13], [.row 108 (.int .i64), .row 108 (.int .i64)]⟩)]
abbrev A1 := s1.X → Option (sumX x1)
abbrev s2 : Sh := ⟨[q14, q14, q13, q16, q17, q13, q13, q15, q13], [.row 108 (.int .i64), .row 108 (.int .i64)]⟩
abbrev x2 : List (Ex × Sh) := [(.exit 4, ⟨[q14, q14, q13, q16, q17, q13, q13], [.row 108 (.int .i64), .row 108 (.int .i64)]⟩)]
abbrev A2 := s2.X → Option (sumX x2)
abbrev s3 : Sh := ⟨[q14, q14, q13, q16, q17, q13, q13, q15, q13, q13, q13, q13, q15], [.row 108 (.int .i64), .row 108 (.int .i64)]⟩
abbrev x3 : List (Ex × Sh) := [(.normal, ⟨[q14, q14, q13, q16, q17, q13, q13, q15, q13, q13, q13, q13, q15], [.row 108 (.int .i64), .row 108 (.int .i64)]⟩)]
abbrev A3 := s3.X → Option (sumX x3)
def hs : List Hint := [⟨[0,1,0,1,1],0,[0,1,2,6,7,8],[(2,[6,7])]⟩,⟨[0,1,0,0,1,0,0,1,0,1,1],1,[0,1,2,6,7,8,9],[(4,[0,1,2,6,7,8])]⟩,⟨[0,1,1,0,0,1,0,0,1,0,0,1,0,0,1,0,1,1],2,[0,1,2,6,7,8,9,10,11],[(6,[0,1,2,6,7,8,9])]⟩,⟨[0,1,0,0,1,0,0,1,1,0,0,1,0,0,1,0,0,1,0,0,1,0,1,1],3,[0,1,2,6,7,8,9,10,11,12,13,14,15],[(0,[0,1,2,6,7,8,9,10,11,12,13,14,62])]⟩]
def f3 (a b : List Int) (c d h : Int) (i : Bool) (j k m n : Int) (o : Bool) (p q : List Int) : Option Y34 :=
 bif o then
 bif i then
 some (Sum.inl ((a,b,c,(),(),d,h,i,j,k,m,n,true,()),p,q,()))
 else
 bif decide (0 ≤ m) then
 bif decide (m < (((33:Nat):Nat):Int)) then
 bif decide ((((0:Nat) + ((m.toNat) * (33:Nat)):Nat):Int) < (q.length:Int)) then
 bif decide (0 ≤ n) then
 bif decide (n < (((33:Nat):Nat):Int)) then
 bif decide (((((0:Nat) + ((m.toNat) * (33:Nat))) + ((n.toNat) * (1:Nat)):Nat):Int) < (q.length:Int)) then
 bif decide (0 ≤ d) then
 bif decide (d < (((33:Nat):Nat):Int)) then
 bif decide ((((0:Nat) + ((d.toNat) * (33:Nat)):Nat):Int) < (q.length:Int)) then
 bif decide (0 ≤ h) then
 bif decide (h < (((33:Nat):Nat):Int)) then
 bif decide (((((0:Nat) + ((d.toNat) * (33:Nat))) + ((h.toNat) * (1:Nat)):Nat):Int) < (q.length:Int)) then
 some (Sum.inl ((a,b,c,(),(),d,h,i,j,k,m,n,decide (IntKind.wrap .i64 ((q.getD (((0:Nat) + ((m.toNat) * (33:Nat))) + ((n.toNat) * (1:Nat))) 0) + k) < q.getD (((0:Nat) + ((d.toNat) * (33:Nat))) + ((h.toNat) * (1:Nat))) 0),()),p,q,()))
 else none
 else none
 else none
 else none
 else none
 else none
 else none
 else none
 else none
 else none
 else none
 else none
 else
 some (Sum.inl ((a,b,c,(),(),d,h,i,j,k,m,n,false,()),p,q,()))
def u3 (x : Y37) := f3 x.1.1 x.1.2.1 x.1.2.2.1 x.1.2.2.2.2.2.1 x.1.2.2.2.2.2.2.1 x.1.2.2.2.2.2.2.2.1 x.1.2.2.2.2.2.2.2.2.1 x.1.2.2.2.2.2.2.2.2.2.1 x.1.2.2.2.2.2.2.2.2.2.2.1 x.1.2.2.2.2.2.2.2.2.2.2.2.1 x.1.2.2.2.2.2.2.2.2.2.2.2.2.1 x.2.1 x.2.2.1
def f2 (g0 : Y110 → Option Y147) (l3 : Y37 → Option Y34) (L : Y50 → Option Y55) (a b : List Int) (c d h : Int) (i : Bool) (j : Int) (k m : List Int) : Option Y55 :=
 bif decide (j ≤ 3) then
 (g0 ((j,a,b,c,d,h,()),())).bind fun y1 =>
 (l3 ((a,b,c,(),(),d,h,i,j,y1.1.1,y1.1.2.1,y1.1.2.2.1,y1.1.2.2.2.1,()),k,m,())).bind fun y2 =>
 y2.elim (fun a3 => bif a3.1.2.2.2.2.2.2.2.2.2.2.2.2.1 then
 bif decide (0 ≤ a3.1.2.2.2.2.2.2.2.2.2.2.1) then
 bif decide (a3.1.2.2.2.2.2.2.2.2.2.2.1 < (((33:Nat):Nat):Int)) then
 bif decide ((((0:Nat) + ((a3.1.2.2.2.2.2.2.2.2.2.2.1.toNat) * (33:Nat)):Nat):Int) < (a3.2.2.1.length:Int)) then
 bif decide (0 ≤ a3.1.2.2.2.2.2.2.2.2.2.2.2.1) then
 bif decide (a3.1.2.2.2.2.2.2.2.2.2.2.2.1 < (((33:Nat):Nat):Int)) then
 bif decide (((((0:Nat) + ((a3.1.2.2.2.2.2.2.2.2.2.2.1.toNat) * (33:Nat))) + ((a3.1.2.2.2.2.2.2.2.2.2.2.2.1.toNat) * (1:Nat)):Nat):Int) < (a3.2.2.1.length:Int)) then
 bif decide (0 ≤ a3.1.2.2.2.2.2.1) then
 bif decide (a3.1.2.2.2.2.2.1 < (((33:Nat):Nat):Int)) then
 bif decide ((((0:Nat) + ((a3.1.2.2.2.2.2.1.toNat) * (33:Nat)):Nat):Int) < (a3.2.2.1.length:Int)) then
 bif decide (0 ≤ a3.1.2.2.2.2.2.2.1) then
 bif decide (a3.1.2.2.2.2.2.2.1 < (((33:Nat):Nat):Int)) then
 bif decide (((((0:Nat) + ((a3.1.2.2.2.2.2.1.toNat) * (33:Nat))) + ((a3.1.2.2.2.2.2.2.1.toNat) * (1:Nat)):Nat):Int) < (a3.2.2.1.length:Int)) then
 (L ((a3.1.1,a3.1.2.1,a3.1.2.2.1,(),(),a3.1.2.2.2.2.2.1,a3.1.2.2.2.2.2.2.1,false,IntKind.wrap .i64 (a3.1.2.2.2.2.2.2.2.2.1 + 1),()),a3.2.1,a3.2.2.1.set (((0:Nat) + ((a3.1.2.2.2.2.2.1.toNat) * (33:Nat))) + ((a3.1.2.2.2.2.2.2.1.toNat) * (1:Nat))) (IntKind.wrap .i64 ((a3.2.2.1.getD (((0:Nat) + ((a3.1.2.2.2.2.2.2.2.2.2.2.1.toNat) * (33:Nat))) + ((a3.1.2.2.2.2.2.2.2.2.2.2.2.1.toNat) * (1:Nat))) 0) + a3.1.2.2.2.2.2.2.2.2.2.1)),())).bind fun y17 =>
 some y17
 else none
 else none
 else none
 else none
 else none
 else none
 else none
 else none
 else none
 else none
 else none
 else none
 else
 (L ((a3.1.1,a3.1.2.1,a3.1.2.2.1,(),(),a3.1.2.2.2.2.2.1,a3.1.2.2.2.2.2.2.1,a3.1.2.2.2.2.2.2.2.1,IntKind.wrap .i64 (a3.1.2.2.2.2.2.2.2.2.1 + 1),()),a3.2.1,a3.2.2.1,())).bind fun y5 =>
 some y5) Empty.elim
 else
 some (Sum.inl ((a,b,c,(),(),d,h,()),k,m,()))
def u2 (g0 : Y110 → Option Y147) (l3 : Y37 → Option Y34) (L : Y50 → Option Y55) (x : Y50) := f2 g0 l3 L x.1.1 x.1.2.1 x.1.2.2.1 x.1.2.2.2.2.2.1 x.1.2.2.2.2.2.2.1 x.1.2.2.2.2.2.2.2.1 x.1.2.2.2.2.2.2.2.2.1 x.2.1 x.2.2.1
def f1 (l2 : Y50 → Option Y55) (L : Y64 → Option Y62) (a b : List Int) (c d h : Int) (i j : List Int) : Option Y62 :=
 bif decide (h ≤ (b.length:Int)) then
 (l2 ((a,b,c,(),(),d,h,true,1,()),i,j,())).bind fun y1 =>
 y1.elim (fun a2 => (L ((a2.1.1,a2.1.2.1,a2.1.2.2.1,(),(),a2.1.2.2.2.2.2.1,IntKind.wrap .i64 (a2.1.2.2.2.2.2.2.1 + 1),()),a2.2.1,a2.2.2.1,())).bind fun y3 =>
 some y3) Empty.elim
 else
 some (Sum.inl ((a,b,c,(),(),d,()),i,j,()))
def u1 (l2 : Y50 → Option Y55) (L : Y64 → Option Y62) (x : Y64) := f1 l2 L x.1.1 x.1.2.1 x.1.2.2.1 x.1.2.2.2.2.2.1 x.1.2.2.2.2.2.2.1 x.2.1 x.2.2.1
def f0 (l1 : Y64 → Option Y62) (L : Y71 → Option Y111) (a b : List Int) (c d : Int) (h i : List Int) : Option Y111 :=
 bif decide (d ≤ (a.length:Int)) then
 (l1 ((a,b,c,(),(),d,0,()),h,i,())).bind fun y1 =>
 y1.elim (fun a2 => (L ((a2.1.1,a2.1.2.1,a2.1.2.2.1,(),(),IntKind.wrap .i64 (a2.1.2.2.2.2.2.1 + 1),()),a2.2.1,a2.2.2.1,())).bind fun y3 =>
 some y3) Empty.elim
 else
 some (Sum.inl (((),(),()),h,i,()))
def u0 (l1 : Y64 → Option Y62) (L : Y71 → Option Y111) (x : Y71) := f0 l1 L x.1.1 x.1.2.1 x.1.2.2.1 x.1.2.2.2.2.2.1 x.2.1 x.2.2.1
def f (l0 : Y71 → Option Y111) (a b : List Int) (c : Int) : Option Y159 :=
 (l0 ((a,b,c,(),(),0,()),List.replicate (1089:Nat) (0:Int),List.replicate (1089:Nat) (0:Int),())).bind fun y0 =>
 y0.elim (fun a1 => bif decide ((a1.2.2.1.length:Int) = (((1089:Nat):Nat):Int)) then
 bif decide ((a1.2.1.length:Int) = (((1089:Nat):Nat):Int)) then
 bif decide ((a1.2.2.1.length:Int) = (((1089:Nat):Nat):Int)) then
 bif decide ((a1.2.2.1.length:Int) = (((1089:Nat):Nat):Int)) then
 some ((a1.2.2.1,()),())
 else none
 else none
 else none
 else none) Empty.elim
def u (l0 : Y71 → Option Y111) (x : Y136) := f l0 x.1.1 x.1.2.1 x.1.2.2.1
section
variable (g0 : edit_last.G) (l0 : A0) (l1 : A1) (l2 : A2) (l3 : A3)
def E : Env := ⟨T,cE [(104,[],edit_last.fe g0)],lE [LE.of s0 x0 l0,LE.of s1 x1 l1,LE.of s2 x2 l2,LE.of s3 x3 l3],75,0,Gt⟩
variable {g0 l0 l1 l2 l3}
theorem e3 (L : A3) (x : s3.X) : rndO (E g0 l0 l1 l2 l3) hs c s3 x3 3 false L x = u3 x := by
 show _ = (_ : Option _)
 kernel_rfl
theorem e2 (L : A2) (x : s2.X) : rndO (E g0 l0 l1 l2 l3) hs c s2 x2 2 true L x = u2 g0 l3 L x := by
 show _ = (_ : Option _)
 kernel_rfl
theorem e1 (L : A1) (x : s1.X) : rndO (E g0 l0 l1 l2 l3) hs c s1 x1 1 true L x = u1 l2 L x := by
 show _ = (_ : Option _)
 kernel_rfl
theorem e0 (L : A0) (x : s0.X) : rndO (E g0 l0 l1 l2 l3) hs c s0 x0 0 true L x = u0 l1 L x := by
 show _ = (_ : Option _)
 kernel_rfl
theorem e (x : sh.X) : bodO (E g0 l0 l1 l2 l3) hs c Try.f97 sh osh x = u l0 x := by
 show _ = (_ : Option _)
 kernel_rfl
end
noncomputable def L3 : Y37 → Option Y34 := u3
noncomputable def L2 : Y50 → Option Y55 := loop (u2 edit_last.F L3)
noncomputable def L1 : Y64 → Option Y62 := loop (u1 L2)
noncomputable def L0 : Y71 → Option Y111 := loop (u0 L1)
noncomputable def F : Y136 → Option Y159 := u L0
noncomputable abbrev R : Env := E edit_last.F L0 L1 L2 L3
theorem L0_eq (a b : List Int) (c d : Int) (h i : List Int) : L0 ((a,b,c,(),(),d,()),(h,i,())) = f0 L1 L0 a b c d h i :=
 loopE (E := R) e0 ((a,b,c,(),(),d,()),(h,i,()))
theorem L1_eq (a b : List Int) (c d h : Int) (i j : List Int) : L1 ((a,b,c,(),(),d,h,()),(i,j,())) = f1 L2 L1 a b c d h i j :=
 loopE (E := R) e1 ((a,b,c,(),(),d,h,()),(i,j,()))
theorem L2_eq (a b : List Int) (c d h : Int) (i : Bool) (j : Int) (k m : List Int) : L2 ((a,b,c,(),(),d,h,i,j,()),(k,m,())) = f2 edit_last.F L3 L2 a b c d h i j k m :=
 loopE (E := R) e2 ((a,b,c,(),(),d,h,i,j,()),(k,m,()))
theorem L3_eq (a b : List Int) (c d h : Int) (i : Bool) (j k m n : Int) (o : Bool) (p q : List Int) : L3 ((a,b,c,(),(),d,h,i,j,k,m,n,o,()),(p,q,())) = f3 a b c d h i j k m n o p q := rfl
theorem F_eq (a b : List Int) (c : Int) : F ((a,b,c,()),()) = f L0 a b c := rfl
theorem ok {tabs} (ht : TabsOk tabs) : FOK Try.prog tabs 97 (fe F) :=
 fn_keep3 (E := R) (hs := hs) Try.func97 e pw tb (gt_ok ht) (by kernel_rfl) (by kernel_rfl) rfl ⟨edit_last.ok ht,trivial⟩ 4 (by kernel_rfl) ⟨lA e0 (by kernel_rfl) (by kernel_rfl),lA e1 (by kernel_rfl) (by kernel_rfl),lA e2 (by kernel_rfl) (by kernel_rfl),cA e3 (by kernel_rfl) (by kernel_rfl),trivial⟩
end edit_table
/-! edit_Distance -/
namespace edit_Distance
noncomputable def c : Go.Code := Try.f84.body.getD .skip
abbrev sh : Sh := ⟨[q14, q14, q13], []⟩
abbrev osh : Sh := ⟨[q13, q13], []⟩
abbrev G := sh.X → Option osh.X
abbrev fe (g : G) : FE := FE.of [true,true,true] false sh osh g
def f (g0 : Y136 → Option Y164) (g1 : Y136 → Option Y159) (a b : List Int) (c : Int) : Option Y161 :=
 (g0 ((a,b,c,()),())).bind fun y0 =>
 bif y0.1.1 != 0 then
 some ((0,y0.1.1,()),())
 else
 (g1 ((a,b,c,()),())).bind fun y2 =>
 bif decide ((a.length:Int) < (((33:Nat):Nat):Int)) then
 bif decide (((((Int.toNat (a.length:Int)) * (33:Nat)) + (33:Nat):Nat):Int) ≤ (y2.1.1.length:Int)) then
 bif decide ((b.length:Int) < (((33:Nat):Nat):Int)) then
 bif decide ((b.length:Int) < (List.length (List.take (33:Nat) (List.drop ((Int.toNat (a.length:Int)) * (33:Nat)) y2.1.1)):Int)) then
 some ((List.getD (List.take (33:Nat) (List.drop ((Int.toNat (a.length:Int)) * (33:Nat)) y2.1.1)) (Int.toNat (b.length:Int)) 0,0,()),())
 else none
 else none
 else none
 else none
def u (g0 : Y136 → Option Y164) (g1 : Y136 → Option Y159) (x : Y136) := f g0 g1 x.1.1 x.1.2.1 x.1.2.2.1
section
variable (g0 : edit_check.G) (g1 : edit_table.G)
def E : Env := ⟨T,cE [(96,[],edit_check.fe g0),(97,[],edit_table.fe g1)],lE [],26,0,Gt⟩
variable {g0 g1}
theorem e (x : sh.X) : bodO (E g0 g1) [] c Try.f84 sh osh x = u g0 g1 x := by
 show _ = (_ : Option _)
 kernel_rfl
end
noncomputable def F : Y136 → Option Y161 := u edit_check.F edit_table.F
noncomputable abbrev R : Env := E edit_check.F edit_table.F
theorem F_eq (a b : List Int) (c : Int) : F ((a,b,c,()),()) = f edit_check.F edit_table.F a b c := rfl
theorem ok {tabs} (ht : TabsOk tabs) : FOK Try.prog tabs 84 (fe F) :=
 fn_keep3 (E := R) (hs := []) Try.func84 e pw tb (gt_ok ht) (by kernel_rfl) (by kernel_rfl) rfl ⟨edit_check.ok ht,edit_table.ok ht,trivial⟩ 0 (by kernel_rfl) trivial
end edit_Distance
/-! measure_distances_3 -/
namespace measure_distances_3
noncomputable def c : Go.Code := Try.f83.body.getD .skip
abbrev sh : Sh := ⟨[q14, q14, q16], [q0]⟩
abbrev osh : Sh := ⟨[q10, q13], [q0]⟩
abbrev G := sh.X → Option osh.X
abbrev fe (g : G) : FE := FE.of [true,true] false sh osh g
def f (g0 : Y136 → Option Y161) (g1 : Y161 → Option Y142) (a b : List Int) (c d h : Int) : Option Y103 :=
 (g0 ((a,b,h,()),())).bind fun y0 =>
 (g1 ((y0.1.1,y0.1.2.1,()),())).bind fun y1 =>
 some (((y1.1.1.1,y1.1.1.2.1,()),y1.1.2.1,()),(c,d,h,()),())
def u (g0 : Y136 → Option Y161) (g1 : Y161 → Option Y142) (x : Y92) := f g0 g1 x.1.1 x.1.2.1 x.2.1.1 x.2.1.2.1 x.2.1.2.2.1
section
variable (g0 : edit_Distance.G) (g1 : measure_whole.G)
def E : Env := ⟨T,cE [(84,[],edit_Distance.fe g0),(77,[],measure_whole.fe g1)],lE [],17,1,Gt⟩
variable {g0 g1}
theorem e (x : sh.X) : bodO (E g0 g1) [] c Try.f83 sh osh x = u g0 g1 x := by
 show _ = (_ : Option _)
 kernel_rfl
end
noncomputable def F : Y92 → Option Y103 := u edit_Distance.F measure_whole.F
noncomputable abbrev R : Env := E edit_Distance.F measure_whole.F
theorem F_eq (a b : List Int) (c d h : Int) : F ((a,b,(),()),((c,d,h,()),())) = f edit_Distance.F measure_whole.F a b c d h := rfl
theorem ok {tabs} (ht : TabsOk tabs) : FOK Try.prog tabs 83 (fe F) :=
 fn_keep3 (E := R) (hs := []) Try.func83 e pw tb (gt_ok ht) (by kernel_rfl) (by kernel_rfl) rfl ⟨edit_Distance.ok ht,measure_whole.ok ht,trivial⟩ 0 (by kernel_rfl) trivial
end measure_distances_3
/-! measure_Distance -/
namespace measure_Distance
noncomputable def c : Go.Code := Try.f37.body.getD .skip
abbrev sh : Sh := ⟨[q11, q14, q14], []⟩
abbrev osh : Sh := ⟨[q10, q13], []⟩
abbrev G := sh.X → Option osh.X
abbrev fe (g : G) : FE := FE.of [true,true,true] false sh osh g
def f (g0 : Y141 → Option Y164) (g1 : Y141 → Option Y133) (g2 : Y145 → Option Y142) (g3 : Y145 → Option Y142) (g4 : Y145 → Option Y142) (g5 : Y92 → Option Y103) (g6 : Y92 → Option Y103) (a b c : Int) (d h : List Int) : Option Y142 :=
 (g0 (((a,b,c,()),()),())).bind fun y0 =>
 bif y0.1.1 != 0 then
 some (((0,0,()),y0.1.1,()),())
 else
 (g1 (((a,b,c,()),()),())).bind fun y2 =>
 bif a == 1 then
 (g2 ((d,h,()),())).bind fun y4 =>
 some (((y4.1.1.1,y4.1.1.2.1,()),y4.1.2.1,()),())
 else
 bif a == 2 then
 (g3 ((d,h,()),())).bind fun y5 =>
 some (((y5.1.1.1,y5.1.1.2.1,()),y5.1.2.1,()),())
 else
 bif a == 3 then
 (g4 ((d,h,()),())).bind fun y6 =>
 some (((y6.1.1.1,y6.1.1.2.1,()),y6.1.2.1,()),())
 else
 bif a == 4 then
 (g5 ((d,h,(),()),(y2.2.1.1,y2.2.1.2.1,y2.2.1.2.2.1,()),())).bind fun y7 =>
 some (((y7.1.1.1,y7.1.1.2.1,()),y7.1.2.1,()),())
 else
 bif a == 5 then
 (g6 ((d,h,(),()),(y2.2.1.1,y2.2.1.2.1,y2.2.1.2.2.1,()),())).bind fun y8 =>
 some (((y8.1.1.1,y8.1.1.2.1,()),y8.1.2.1,()),())
 else none
def u (g0 : Y141 → Option Y164) (g1 : Y141 → Option Y133) (g2 : Y145 → Option Y142) (g3 : Y145 → Option Y142) (g4 : Y145 → Option Y142) (g5 : Y92 → Option Y103) (g6 : Y92 → Option Y103) (x : Y105) := f g0 g1 g2 g3 g4 g5 g6 x.1.1.1 x.1.1.2.1 x.1.1.2.2.1 x.1.2.1 x.1.2.2.1
section
variable (g0 : measure_Check.G) (g1 : measure_distances.G) (g2 : measure_distances_1.G) (g3 : euclid_Shifted.G) (g4 : normal_Gap.G) (g5 : measure_distances_2.G) (g6 : measure_distances_3.G)
def E : Env := ⟨T,cE [(27,[],measure_Check.fe g0),(56,[],measure_distances.fe g1),(76,[],measure_distances_1.fe g2),(79,[],euclid_Shifted.fe g3),(80,[],normal_Gap.fe g4),(81,[],measure_distances_2.fe g5),(83,[],measure_distances_3.fe g6)],lE [],25,0,Gt⟩
variable {g0 g1 g2 g3 g4 g5 g6}
theorem e (x : sh.X) : bodO (E g0 g1 g2 g3 g4 g5 g6) [] c Try.f37 sh osh x = u g0 g1 g2 g3 g4 g5 g6 x := by
 show _ = (_ : Option _)
 kernel_rfl
end
noncomputable def F : Y105 → Option Y142 := u measure_Check.F measure_distances.F measure_distances_1.F euclid_Shifted.F normal_Gap.F measure_distances_2.F measure_distances_3.F
noncomputable abbrev R : Env := E measure_Check.F measure_distances.F measure_distances_1.F euclid_Shifted.F normal_Gap.F measure_distances_2.F measure_distances_3.F
theorem F_eq (a b c : Int) (d h : List Int) : F (((a,b,c,()),d,h,()),()) = f measure_Check.F measure_distances.F measure_distances_1.F euclid_Shifted.F normal_Gap.F measure_distances_2.F measure_distances_3.F a b c d h := rfl
theorem ok {tabs} (ht : TabsOk tabs) : FOK Try.prog tabs 37 (fe F) :=
 fn_keep3 (E := R) (hs := []) Try.func37 e pw tb (gt_ok ht) (by kernel_rfl) (by kernel_rfl) rfl ⟨measure_Check.ok ht,measure_distances.ok ht,measure_distances_1.ok ht,euclid_Shifted.ok ht,normal_Gap.ok ht,measure_distances_2.ok ht,measure_distances_3.ok ht,trivial⟩ 0 (by kernel_rfl) trivial
end measure_Distance
/-! ratio_Valid -/
namespace ratio_Valid
noncomputable def c : Go.Code := Try.f52.body.getD .skip
abbrev sh : Sh := ⟨[q10], []⟩
abbrev osh : Sh := ⟨[q15], []⟩
abbrev G := sh.X → Option osh.X
abbrev fe (g : G) : FE := FE.of [true] false sh osh g
def f (g0 : Y152 → Option Y163) (g1 : Y161 → Option Y164) (a b : Int) : Option Y163 :=
 (g0 (((a,b,()),()),())).bind fun y0 =>
 bif y0.1.1 then
 (g1 ((a,b,()),())).bind fun y2 =>
 some ((y2.1.1 == 1,()),())
 else
 some ((false,()),())
def u (g0 : Y152 → Option Y163) (g1 : Y161 → Option Y164) (x : Y152) := f g0 g1 x.1.1.1 x.1.1.2.1
section
variable (g0 : ratio_within.G) (g1 : ratio_divisor.G)
def E : Env := ⟨T,cE [(72,[],ratio_within.fe g0),(73,[],ratio_divisor.fe g1)],lE [],13,0,Gt⟩
variable {g0 g1}
theorem e (x : sh.X) : bodO (E g0 g1) [] c Try.f52 sh osh x = u g0 g1 x := by
 show _ = (_ : Option _)
 kernel_rfl
end
noncomputable def F : Y152 → Option Y163 := u ratio_within.F ratio_divisor.F
noncomputable abbrev R : Env := E ratio_within.F ratio_divisor.F
theorem F_eq (a b : Int) : F (((a,b,()),()),()) = f ratio_within.F ratio_divisor.F a b := rfl
theorem ok {tabs} (ht : TabsOk tabs) : FOK Try.prog tabs 52 (fe F) :=
 fn_keep3 (E := R) (hs := []) Try.func52 e pw tb (gt_ok ht) (by kernel_rfl) (by kernel_rfl) rfl ⟨ratio_within.ok ht,ratio_divisor.ok ht,trivial⟩ 0 (by kernel_rfl) trivial
end ratio_Valid
/-! bits_Mul64 -/
namespace bits_Mul64
noncomputable def c : Go.Code := Try.f75.body.getD .skip
abbrev sh : Sh := ⟨[q20, q20], []⟩
abbrev osh : Sh := ⟨[q20, q20], []⟩
abbrev G := sh.X → Option osh.X
abbrev fe (g : G) : FE := FE.of [true,true] false sh osh g
def f (a b : Int) : Option Y161 :=
 some ((IntKind.wrap .u64 ((IntKind.wrap .u64 ((IntKind.wrap .u64 ((Int.fdiv a (2 ^ (Min.min (Int.toNat 32) (64:Nat)))) * (Int.fdiv b (2 ^ (Min.min (Int.toNat 32) (64:Nat)))))) + (Int.fdiv (IntKind.wrap .u64 ((IntKind.wrap .u64 ((Int.fdiv a (2 ^ (Min.min (Int.toNat 32) (64:Nat)))) * (IntKind.wrap .u64 (BitVec.toNat (HAnd.hAnd (BitVec.ofInt (64:Nat) b) (BitVec.ofInt (64:Nat) 4294967295)):Int)))) + (Int.fdiv (IntKind.wrap .u64 ((IntKind.wrap .u64 (BitVec.toNat (HAnd.hAnd (BitVec.ofInt (64:Nat) a) (BitVec.ofInt (64:Nat) 4294967295)):Int)) * (IntKind.wrap .u64 (BitVec.toNat (HAnd.hAnd (BitVec.ofInt (64:Nat) b) (BitVec.ofInt (64:Nat) 4294967295)):Int)))) (2 ^ (Min.min (Int.toNat 32) (64:Nat)))))) (2 ^ (Min.min (Int.toNat 32) (64:Nat)))))) + (Int.fdiv (IntKind.wrap .u64 ((IntKind.wrap .u64 (BitVec.toNat (HAnd.hAnd (BitVec.ofInt (64:Nat) (IntKind.wrap .u64 ((IntKind.wrap .u64 ((Int.fdiv a (2 ^ (Min.min (Int.toNat 32) (64:Nat)))) * (IntKind.wrap .u64 (BitVec.toNat (HAnd.hAnd (BitVec.ofInt (64:Nat) b) (BitVec.ofInt (64:Nat) 4294967295)):Int)))) + (Int.fdiv (IntKind.wrap .u64 ((IntKind.wrap .u64 (BitVec.toNat (HAnd.hAnd (BitVec.ofInt (64:Nat) a) (BitVec.ofInt (64:Nat) 4294967295)):Int)) * (IntKind.wrap .u64 (BitVec.toNat (HAnd.hAnd (BitVec.ofInt (64:Nat) b) (BitVec.ofInt (64:Nat) 4294967295)):Int)))) (2 ^ (Min.min (Int.toNat 32) (64:Nat))))))) (BitVec.ofInt (64:Nat) 4294967295)):Int)) + (IntKind.wrap .u64 ((IntKind.wrap .u64 (BitVec.toNat (HAnd.hAnd (BitVec.ofInt (64:Nat) a) (BitVec.ofInt (64:Nat) 4294967295)):Int)) * (Int.fdiv b (2 ^ (Min.min (Int.toNat 32) (64:Nat)))))))) (2 ^ (Min.min (Int.toNat 32) (64:Nat))))),IntKind.wrap .u64 (a * b),()),())
def u (x : Y161) := f x.1.1 x.1.2.1
section
def E : Env := ⟨T,cE [],lE [],51,0,Gt⟩
theorem e (x : sh.X) : bodO (E) [] c Try.f75 sh osh x = u x := by
 show _ = (_ : Option _)
 kernel_rfl
end
noncomputable def F : Y161 → Option Y161 := u
noncomputable abbrev R : Env := E
theorem F_eq (a b : Int) : F ((a,b,()),()) = f a b := rfl
theorem ok {tabs} (ht : TabsOk tabs) : FOK Try.prog tabs 75 (fe F) :=
 fn_keep3 (E := R) (hs := []) Try.func75 e pw tb (gt_ok ht) (by kernel_rfl) (by kernel_rfl) rfl trivial 0 (by kernel_rfl) trivial
end bits_Mul64
/-! ratio_Cmp -/
namespace ratio_Cmp
noncomputable def c : Go.Code := Try.f55.body.getD .skip
abbrev sh : Sh := ⟨[q10, q10], []⟩
abbrev osh : Sh := ⟨[q13], []⟩
abbrev G := sh.X → Option osh.X
abbrev fe (g : G) : FE := FE.of [true,true] false sh osh g
abbrev s0 : Sh := ⟨[q16, q17], [q1, q1]⟩
abbrev x0 : List (Ex × Sh) := [(.normal, ⟨[q16, q17, q15], [q1, q1]⟩)]
abbrev A0 := s0.X → Option (sumX x0)
abbrev s1 : Sh := ⟨[q20, q20, q20, q20], []⟩
abbrev x1 : List (Ex × Sh) := [(.normal, ⟨[q20, q20, q20, q20, q15], []⟩)]
abbrev A1 := s1.X → Option (sumX x1)
def hs : List Hint := [⟨[0,0,1],0,[2,3],[(0,[2,3,16])]⟩,⟨[0,0,0,1,1,1,1],1,[5,6,7,8],[(0,[5,6,7,8,37])]⟩]
def f0 (g0 : Y152 → Option Y163) (a b c d : Int) : Option Y76 :=
 (g0 (((a,b,()),()),())).bind fun y0 =>
 bif !y0.1.1 then
 some (Sum.inl (((),(),true,()),(a,b,()),(c,d,()),()))
 else
 (g0 (((c,d,()),()),())).bind fun y2 =>
 some (Sum.inl (((),(),!y2.1.1,()),(a,b,()),(c,d,()),()))
def u0 (g0 : Y152 → Option Y163) (x : Y99) := f0 g0 x.2.1.1 x.2.1.2.1 x.2.2.1.1 x.2.2.1.2.1
def f1 (a b c d : Int) : Option Y121 :=
 bif decide (a < c) then
 some (Sum.inl ((a,b,c,d,true,()),()))
 else
 bif a == c then
 some (Sum.inl ((a,b,c,d,decide (b < d),()),()))
 else
 some (Sum.inl ((a,b,c,d,false,()),()))
def u1 (x : Y149) := f1 x.1.1 x.1.2.1 x.1.2.2.1 x.1.2.2.2.1
def f (g1 : Y161 → Option Y161) (l0 : Y99 → Option Y76) (l1 : Y149 → Option Y121) (a b c d : Int) : Option Y164 :=
 (l0 (((),(),()),(a,b,()),(c,d,()),())).bind fun y0 =>
 y0.elim (fun a1 => bif a1.1.2.2.1 then
 some ((0,()),())
 else
 (g1 ((IntKind.wrap .u64 a1.2.1.1,IntKind.wrap .u64 a1.2.2.1.2.1,()),())).bind fun y3 =>
 (g1 ((IntKind.wrap .u64 a1.2.2.1.1,IntKind.wrap .u64 a1.2.1.2.1,()),())).bind fun y4 =>
 (l1 ((y3.1.1,y3.1.2.1,y4.1.1,y4.1.2.1,()),())).bind fun y5 =>
 y5.elim (fun a6 => bif a6.1.2.2.2.2.1 then
 some ((-1,()),())
 else
 bif a6.1.1 == a6.1.2.2.1 then
 bif a6.1.2.1 == a6.1.2.2.2.1 then
 some ((0,()),())
 else
 some ((1,()),())
 else
 some ((1,()),())) Empty.elim) Empty.elim
def u (g1 : Y161 → Option Y161) (l0 : Y99 → Option Y76) (l1 : Y149 → Option Y121) (x : Y120) := f g1 l0 l1 x.1.1.1 x.1.1.2.1 x.1.2.1.1 x.1.2.1.2.1
section
variable (g0 : ratio_Valid.G) (g1 : bits_Mul64.G) (l0 : A0) (l1 : A1)
def E : Env := ⟨T,cE [(52,[],ratio_Valid.fe g0),(75,[],bits_Mul64.fe g1)],lE [LE.of s0 x0 l0,LE.of s1 x1 l1],60,0,Gt⟩
variable {g0 g1 l0 l1}
theorem e0 (L : A0) (x : s0.X) : rndO (E g0 g1 l0 l1) hs c s0 x0 0 false L x = u0 g0 x := by
 show _ = (_ : Option _)
 kernel_rfl
theorem e1 (L : A1) (x : s1.X) : rndO (E g0 g1 l0 l1) hs c s1 x1 1 false L x = u1 x := by
 show _ = (_ : Option _)
 kernel_rfl
theorem e (x : sh.X) : bodO (E g0 g1 l0 l1) hs c Try.f55 sh osh x = u g1 l0 l1 x := by
 show _ = (_ : Option _)
 kernel_rfl
end
noncomputable def L0 : Y99 → Option Y76 := u0 ratio_Valid.F
noncomputable def L1 : Y149 → Option Y121 := u1
noncomputable def F : Y120 → Option Y164 := u bits_Mul64.F L0 L1
noncomputable abbrev R : Env := E ratio_Valid.F bits_Mul64.F L0 L1
theorem L0_eq (a b c d : Int) : L0 (((),(),()),((a,b,()),(c,d,()),())) = f0 ratio_Valid.F a b c d := rfl
theorem L1_eq (a b c d : Int) : L1 ((a,b,c,d,()),()) = f1 a b c d := rfl
theorem F_eq (a b c d : Int) : F (((a,b,()),(c,d,()),()),()) = f bits_Mul64.F L0 L1 a b c d := rfl
theorem ok {tabs} (ht : TabsOk tabs) : FOK Try.prog tabs 55 (fe F) :=
 fn_keep3 (E := R) (hs := hs) Try.func55 e pw tb (gt_ok ht) (by kernel_rfl) (by kernel_rfl) rfl ⟨ratio_Valid.ok ht,bits_Mul64.ok ht,trivial⟩ 2 (by kernel_rfl) ⟨cA e0 (by kernel_rfl) (by kernel_rfl),cA e1 (by kernel_rfl) (by kernel_rfl),trivial⟩
end ratio_Cmp
/-! ratio_Less -/
namespace ratio_Less
noncomputable def c : Go.Code := Try.f34.body.getD .skip
abbrev sh : Sh := ⟨[q10, q10], []⟩
abbrev osh : Sh := ⟨[q15], []⟩
abbrev G := sh.X → Option osh.X
abbrev fe (g : G) : FE := FE.of [true,true] false sh osh g
def f (g0 : Y120 → Option Y164) (a b c d : Int) : Option Y163 :=
 (g0 (((a,b,()),(c,d,()),()),())).bind fun y0 =>
 some ((decide (y0.1.1 < 0),()),())
def u (g0 : Y120 → Option Y164) (x : Y120) := f g0 x.1.1.1 x.1.1.2.1 x.1.2.1.1 x.1.2.1.2.1
section
variable (g0 : ratio_Cmp.G)
def E : Env := ⟨T,cE [(55,[],ratio_Cmp.fe g0)],lE [],9,0,Gt⟩
variable {g0}
theorem e (x : sh.X) : bodO (E g0) [] c Try.f34 sh osh x = u g0 x := by
 show _ = (_ : Option _)
 kernel_rfl
end
noncomputable def F : Y120 → Option Y163 := u ratio_Cmp.F
noncomputable abbrev R : Env := E ratio_Cmp.F
theorem F_eq (a b c d : Int) : F (((a,b,()),(c,d,()),()),()) = f ratio_Cmp.F a b c d := rfl
theorem ok {tabs} (ht : TabsOk tabs) : FOK Try.prog tabs 34 (fe F) :=
 fn_keep3 (E := R) (hs := []) Try.func34 e pw tb (gt_ok ht) (by kernel_rfl) (by kernel_rfl) rfl ⟨ratio_Cmp.ok ht,trivial⟩ 0 (by kernel_rfl) trivial
end ratio_Less
/-! profile_Nearer -/
namespace profile_Nearer
noncomputable def c : Go.Code := Try.f15.body.getD .skip
abbrev sh : Sh := ⟨[q11, q11], []⟩
abbrev osh : Sh := ⟨[q15], []⟩
abbrev G := sh.X → Option osh.X
abbrev fe (g : G) : FE := FE.of [true,true] false sh osh g
abbrev s0 : Sh := ⟨[q16, q17], [q0, q0]⟩
abbrev x0 : List (Ex × Sh) := [(.normal, ⟨[q16, q17, q15], [q0, q0]⟩)]
abbrev A0 := s0.X → Option (sumX x0)
def hs : List Hint := [⟨[0,0,1],0,[2,3],[(0,[2,3,12])]⟩]
def f0 (a b c d h i : Int) : Option Y63 :=
 bif a == d && ((b == h && (c == i && true)) && true) then
 some (Sum.inl (((),(),true,()),(a,b,c,()),(d,h,i,()),()))
 else
 some (Sum.inl (((),(),decide (a < 0),()),(a,b,c,()),(d,h,i,()),()))
def u0 (x : Y82) := f0 x.2.1.1 x.2.1.2.1 x.2.1.2.2.1 x.2.2.1.1 x.2.2.1.2.1 x.2.2.1.2.2.1
def f (g0 : Y120 → Option Y163) (l0 : Y82 → Option Y63) (a b c d h i : Int) : Option Y163 :=
 (l0 (((),(),()),(a,b,c,()),(d,h,i,()),())).bind fun y0 =>
 y0.elim (fun a1 => bif a1.1.2.2.1 then
 some ((false,()),())
 else
 bif decide (a1.2.2.1.1 < 0) then
 some ((true,()),())
 else
 (g0 (((a1.2.1.2.1,a1.2.1.2.2.1,()),(a1.2.2.1.2.1,a1.2.2.1.2.2.1,()),()),())).bind fun y4 =>
 bif y4.1.1 then
 some ((true,()),())
 else
 (g0 (((a1.2.2.1.2.1,a1.2.2.1.2.2.1,()),(a1.2.1.2.1,a1.2.1.2.2.1,()),()),())).bind fun y6 =>
 bif !y6.1.1 then
 some ((decide (a1.2.1.1 < a1.2.2.1.1),()),())
 else
 some ((false,()),())) Empty.elim
def u (g0 : Y120 → Option Y163) (l0 : Y82 → Option Y63) (x : Y104) := f g0 l0 x.1.1.1 x.1.1.2.1 x.1.1.2.2.1 x.1.2.1.1 x.1.2.1.2.1 x.1.2.1.2.2.1
section
variable (g0 : ratio_Less.G) (l0 : A0)
def E : Env := ⟨T,cE [(34,[],ratio_Less.fe g0)],lE [LE.of s0 x0 l0],36,0,Gt⟩
variable {g0 l0}
theorem e0 (L : A0) (x : s0.X) : rndO (E g0 l0) hs c s0 x0 0 false L x = u0 x := by
 show _ = (_ : Option _)
 kernel_rfl
theorem e (x : sh.X) : bodO (E g0 l0) hs c Try.f15 sh osh x = u g0 l0 x := by
 show _ = (_ : Option _)
 kernel_rfl
end
noncomputable def L0 : Y82 → Option Y63 := u0
noncomputable def F : Y104 → Option Y163 := u ratio_Less.F L0
noncomputable abbrev R : Env := E ratio_Less.F L0
theorem L0_eq (a b c d h i : Int) : L0 (((),(),()),((a,b,c,()),(d,h,i,()),())) = f0 a b c d h i := rfl
theorem F_eq (a b c d h i : Int) : F (((a,b,c,()),(d,h,i,()),()),()) = f ratio_Less.F L0 a b c d h i := rfl
theorem ok {tabs} (ht : TabsOk tabs) : FOK Try.prog tabs 15 (fe F) :=
 fn_keep3 (E := R) (hs := hs) Try.func15 e pw tb (gt_ok ht) (by kernel_rfl) (by kernel_rfl) rfl ⟨ratio_Less.ok ht,trivial⟩ 1 (by kernel_rfl) ⟨cA e0 (by kernel_rfl) (by kernel_rfl),trivial⟩
end profile_Nearer
/-! profile_Best -/
namespace profile_Best
noncomputable def c : Go.Code := Try.f30.body.getD .skip
abbrev sh : Sh := ⟨[q16, q11], [q0]⟩
abbrev osh : Sh := ⟨[], [q0]⟩
abbrev G := sh.X → Option osh.X
abbrev fe (g : G) : FE := FE.of [true,true] false sh osh g
def f (g0 : Y104 → Option Y163) (a b c d h i : Int) : Option Y143 :=
 (g0 (((a,b,c,()),(d,h,i,()),()),())).bind fun y0 =>
 bif y0.1.1 then
 some ((),(a,b,c,()),())
 else
 some ((),(d,h,i,()),())
def u (g0 : Y104 → Option Y163) (x : Y90) := f g0 x.1.2.1.1 x.1.2.1.2.1 x.1.2.1.2.2.1 x.2.1.1 x.2.1.2.1 x.2.1.2.2.1
section
variable (g0 : profile_Nearer.G)
def E : Env := ⟨T,cE [(15,[],profile_Nearer.fe g0)],lE [],12,1,Gt⟩
variable {g0}
theorem e (x : sh.X) : bodO (E g0) [] c Try.f30 sh osh x = u g0 x := by
 show _ = (_ : Option _)
 kernel_rfl
end
noncomputable def F : Y90 → Option Y143 := u profile_Nearer.F
noncomputable abbrev R : Env := E profile_Nearer.F
theorem F_eq (a b c d h i : Int) : F (((),(a,b,c,()),()),((d,h,i,()),())) = f profile_Nearer.F a b c d h i := rfl
theorem ok {tabs} (ht : TabsOk tabs) : FOK Try.prog tabs 30 (fe F) :=
 fn_keep3 (E := R) (hs := []) Try.func30 e pw tb (gt_ok ht) (by kernel_rfl) (by kernel_rfl) rfl ⟨profile_Nearer.ok ht,trivial⟩ 0 (by kernel_rfl) trivial
end profile_Best
/-! profile_Of -/
namespace profile_Of
noncomputable def c : Go.Code := Try.f21.body.getD .skip
abbrev sh : Sh := ⟨[q14, q11, q13, q13], []⟩
abbrev osh : Sh := ⟨[.agg [.pv (.int .i64), .pv (.int .i64), .pv (.int .i64), .pv (.int .i64), .pv (.int .i64), .is (.own 0), .is (.own 1), .is (.own 2)], q13], [.row 31 (.pair (.int .i64) (.pair (.int .i64) (.int .i64))), .row 31 (.pair (.int .i64) (.pair (.int .i64) (.int .i64))), .row 31 (.pair (.int .i64) (.pair (.int .i64) (.int .i64)))]⟩
abbrev G := sh.X → Option osh.X
abbrev fe (g : G) : FE := FE.of [true,true,true,true] false sh osh g
abbrev s0 : Sh := ⟨[q14, q13, q13, q16, q17, q19, q26, q13, q13], [q0, q6, .row 4 .bool, q3, .row 31 (.pair (.int .i64) (.pair (.int .i64) (.int .i64))), .row 31 (.pair (.int .i64) (.pair (.int .i64) (.int .i64))), .row 31 (.pair (.int .i64) (.pair (.int .i64) (.int .i64)))]⟩
abbrev x0 : List (Ex × Sh) := [(.exit 0, ⟨[q14, q13, q13, q16, q17, q19, q26], [q0, q6, .row 4 .bool, q3, .row 31 (.pair (.int .i64) (.pair (.int .i64) (.int .i64))), .row 31 (.pair (.int .i64) (.pair (.int .i64) (.int .i64))), .row 31 (.pair (.int .i64) (.pair (.int .i64) (.int .i64)))]⟩)]
abbrev A0 := s0.X → Option (sumX x0)
abbrev s1 : Sh := ⟨[q14, q13, q13, q16, q17, q19, q26, q13, q13], [q0, q6, .row 4 .bool, q3, .row 31 (.pair (.int .i64) (.pair (.int .i64) (.int .i64))), .row 31 (.pair (.int .i64) (.pair (.int .i64) (.int .i64))), .row 31 (.pair (.int .i64) (.pair (.int .i64) (.int .i64)))]⟩
abbrev x1 : List (Ex × Sh) := [(.exit 2, ⟨[q16, q23, q22], [q6, .row 4 .bool, q9, .row 31 (.pair (.int .i64) (.pair (.int .i64) (.int .i64))), .row 31 (.pair (.int .i64) (.pair (.int .i64) (.int .i64))), .row 31 (.pair (.int .i64) (.pair (.int .i64) (.int .i64)))]⟩), (.ret, ⟨[q16, q13], [q6]⟩)]
abbrev A1 := s1.X → Option (sumX x1)
abbrev s2 : Sh := ⟨[q14, q13, q13, q16, q17, q19, q26, q13, q13, q13, q13], [q0, q6, .row 4 .bool, q3, .row 31 (.pair (.int .i64) (.pair (.int .i64) (.int .i64))), .row 31 (.pair (.int .i64) (.pair (.int .i64) (.int .i64))), .row 31 (.pair (.int .i64) (.pair (.int .i64) (.int .i64)))]⟩
abbrev x2 : List (Ex × Sh) := [(.exit 4, ⟨[q14, q13, q13, q16, q17, q19, q26, q13, q13], [q0, q6, .row 4 .bool, q3, .row 31 (.pair (.int .i64) (.pair (.int .i64) (.int .i64))), .row 31 (.pair (.int .i64) (.pair (.int .i64) (.int .i64))), .row 31 (.pair (.int .i64) (.pair (.int .i64) (.int .i64)))]⟩), (.ret, ⟨[q16, q13], [q6]⟩)]
abbrev A2 := s2.X → Option (sumX x2)
abbrev s3 : Sh := ⟨[q14, q13, q13, q16, q17, q19, q26, q13, q13, q13, q13], [q0, q6, .row 4 .bool, q3, .row 31 (.pair (.int .i64) (.pair (.int .i64) (.int .i64))), .row 31 (.pair (.int .i64) (.pair (.int .i64) (.int .i64))), .row 31 (.pair (.int .i64) (.pair (.int .i64) (.int .i64)))]⟩
abbrev x3 : List (Ex × Sh) := [(.normal, ⟨[q14, q13, q13, q16, q17, q19, q26, q13, q13, q13, q13, q15], [q0, q6, .row 4 .bool, q3, .row 31 (.pair (.int .i64) (.pair (.int .i64) (.int .i64))), .row 31 (.pair (.int .i64) (.pair (.int .i64) (.int .i64))), .row 31 (.pair (.int .i64) (.pair (.int .i64) (.int .i64)))]⟩)]
abbrev A3 := s3.X → Option (sumX x3)
abbrev s4 : Sh := ⟨[q16, q17, q13, q13], [q6, q4, .row 31 (.pair (.int .i64) (.pair (.int .i64) (.int .i64))), .row 31 (.pair (.int .i64) (.pair (.int .i64) (.int .i64))), .row 31 (.pair (.int .i64) (.pair (.int .i64) (.int .i64)))]⟩
abbrev x4 : List (Ex × Sh) := [(.exit 6, ⟨[q16, q17], [q6, q4, .row 31 (.pair (.int .i64) (.pair (.int .i64) (.int .i64))), .row 31 (.pair (.int .i64) (.pair (.int .i64) (.int .i64))), .row 31 (.pair (.int .i64) (.pair (.int .i64) (.int .i64)))]⟩)]
abbrev A4 := s4.X → Option (sumX x4)
def hs : List Hint := [⟨[0,1,0,1,1,1,1,1,1],0,[0,2,3,5,8,11,13,44,45],[(2,[0,2,3,5,8,11,13])]⟩,⟨[0,1,0,1,1,1,1,1,1,1],1,[0,2,3,5,8,11,13,67,68],[(4,[8,11,13]),(1,[8,9])]⟩,⟨[0,1,1,0,0,1,1,0,0,1,0,1,1,1,1,1,1,1],2,[0,2,3,5,8,11,13,14,15,67,68],[(6,[0,2,3,5,8,11,13,67,68]),(1,[8,9])]⟩,⟨[0,0,0,0,1,1,0,0,1,1,0,0,1,0,1,1,1,1,1,1,1],3,[0,2,3,5,8,11,13,14,15,67,68],[(0,[0,2,3,5,8,11,13,14,15,67,68,81])]⟩,⟨[0,1,0,1,1,1,1,1,1,1,1],4,[8,13,128,129],[(8,[8,13])]⟩]
def f0 (g3 : Y166 → Option Y141) (L : Y12 → Option Y13) (a : List Int) (b c d h i j k m n o p q : Int) (r : List Bool) (s t v w z : Int) (p0 p1 p2 : List Y165) : Option Y13 :=
 bif decide (h < d) then
 (g3 ((),())).bind fun y1 =>
 bif decide ((((p0.length) + (List.length [(y1.1.1.1,y1.1.1.2.1,y1.1.1.2.2.1)])) * (24:Nat)) ≤ (140737488355328:Nat)) then
 (g3 ((),())).bind fun y3 =>
 bif decide ((((p1.length) + (List.length [(y3.1.1.1,y3.1.1.2.1,y3.1.1.2.2.1)])) * (24:Nat)) ≤ (140737488355328:Nat)) then
 (g3 ((),())).bind fun y5 =>
 bif decide ((((p2.length) + (List.length [(y5.1.1.1,y5.1.1.2.1,y5.1.1.2.2.1)])) * (24:Nat)) ≤ (140737488355328:Nat)) then
 (L ((a,b,c,(),(),(),(),d,IntKind.wrap .i64 (h + 1),()),(i,j,k,()),(m,n,o,p,q,(),(),(),()),r,(s,t,v,w,z,(),(),(),()),p0 ++ [(y1.1.1.1,y1.1.1.2.1,y1.1.1.2.2.1)],p1 ++ [(y3.1.1.1,y3.1.1.2.1,y3.1.1.2.2.1)],p2 ++ [(y5.1.1.1,y5.1.1.2.1,y5.1.1.2.2.1)],())).bind fun y7 =>
 some y7
 else none
 else none
 else none
 else
 some (Sum.inl ((a,b,c,(),(),(),(),()),(i,j,k,()),(m,n,o,p,q,(),(),(),()),r,(s,t,v,w,z,(),(),(),()),p0,p1,p2,()))
def u0 (g3 : Y166 → Option Y141) (L : Y12 → Option Y13) (x : Y12) := f0 g3 L x.1.1 x.1.2.1 x.1.2.2.1 x.1.2.2.2.2.2.2.2.1 x.1.2.2.2.2.2.2.2.2.1 x.2.1.1 x.2.1.2.1 x.2.1.2.2.1 x.2.2.1.1 x.2.2.1.2.1 x.2.2.1.2.2.1 x.2.2.1.2.2.2.1 x.2.2.1.2.2.2.2.1 x.2.2.2.1 x.2.2.2.2.1.1 x.2.2.2.2.1.2.1 x.2.2.2.2.1.2.2.1 x.2.2.2.2.1.2.2.2.1 x.2.2.2.2.1.2.2.2.2.1 x.2.2.2.2.2.1 x.2.2.2.2.2.2.1 x.2.2.2.2.2.2.2.1
def f3 (a : List Int) (b c d h i j k m n o p q r s : Int) (t : List Bool) (v w z p0 p1 : Int) (p2 p3 p4 : List Y165) : Option Y3 :=
 bif decide (0 ≤ d) then
 bif decide (d < (t.length:Int)) then
 bif t.getD (d.toNat) false then
 some (Sum.inl ((a,b,c,(),(),(),(),d,h,i,j,decide (h ≤ IntKind.wrap .i64 (d - c)),()),(k,m,n,()),(o,p,q,r,s,(),(),(),()),t,(v,w,z,p0,p1,(),(),(),()),p2,p3,p4,()))
 else
 some (Sum.inl ((a,b,c,(),(),(),(),d,h,i,j,false,()),(k,m,n,()),(o,p,q,r,s,(),(),(),()),t,(v,w,z,p0,p1,(),(),(),()),p2,p3,p4,()))
 else none
 else none
def u3 (x : Y9) := f3 x.1.1 x.1.2.1 x.1.2.2.1 x.1.2.2.2.2.2.2.2.1 x.1.2.2.2.2.2.2.2.2.1 x.1.2.2.2.2.2.2.2.2.2.1 x.1.2.2.2.2.2.2.2.2.2.2.1 x.2.1.1 x.2.1.2.1 x.2.1.2.2.1 x.2.2.1.1 x.2.2.1.2.1 x.2.2.1.2.2.1 x.2.2.1.2.2.2.1 x.2.2.1.2.2.2.2.1 x.2.2.2.1 x.2.2.2.2.1.1 x.2.2.2.2.1.2.1 x.2.2.2.2.1.2.2.1 x.2.2.2.2.1.2.2.2.1 x.2.2.2.2.1.2.2.2.2.1 x.2.2.2.2.2.1 x.2.2.2.2.2.2.1 x.2.2.2.2.2.2.2.1
def f2 (g4 : Y105 → Option Y142) (g5 : Y90 → Option Y143) (l3 : Y9 → Option Y3) (L : Y9 → Option Y0) (a : List Int) (b c d h i j k m n o p q r s : Int) (t : List Bool) (v w z p0 p1 : Int) (p2 p3 p4 : List Y165) : Option Y0 :=
 (l3 ((a,b,c,(),(),(),(),d,h,i,j,()),(k,m,n,()),(o,p,q,r,s,(),(),(),()),t,(v,w,z,p0,p1,(),(),(),()),p2,p3,p4,())).bind fun y0 =>
 y0.elim (fun a1 => bif a1.1.2.2.2.2.2.2.2.2.2.2.2.1 then
 bif decide (0 ≤ a1.1.2.2.2.2.2.2.2.2.1) then
 bif decide (a1.1.2.2.2.2.2.2.2.2.1 < (a1.2.2.2.1.length:Int)) then
 bif !(a1.2.2.2.1.getD (a1.1.2.2.2.2.2.2.2.2.1.toNat) false) then
 (L ((a1.1.1,a1.1.2.1,a1.1.2.2.1,(),(),(),(),a1.1.2.2.2.2.2.2.2.1,IntKind.wrap .i64 (a1.1.2.2.2.2.2.2.2.2.1 + 1),a1.1.2.2.2.2.2.2.2.2.2.1,a1.1.2.2.2.2.2.2.2.2.2.2.1,()),(a1.2.1.1,a1.2.1.2.1,a1.2.1.2.2.1,()),(a1.2.2.1.1,a1.2.2.1.2.1,a1.2.2.1.2.2.1,a1.2.2.1.2.2.2.1,a1.2.2.1.2.2.2.2.1,(),(),(),()),a1.2.2.2.1,(a1.2.2.2.2.1.1,a1.2.2.2.2.1.2.1,a1.2.2.2.2.1.2.2.1,a1.2.2.2.2.1.2.2.2.1,a1.2.2.2.2.1.2.2.2.2.1,(),(),(),()),a1.2.2.2.2.2.1,a1.2.2.2.2.2.2.1,a1.2.2.2.2.2.2.2.1,())).bind fun y6 =>
 some y6
 else
 bif decide (0 ≤ a1.1.2.2.2.2.2.2.2.2.1) then
 bif decide (a1.1.2.2.2.2.2.2.2.2.1 ≤ IntKind.wrap .i64 (a1.1.2.2.2.2.2.2.2.2.1 + a1.1.2.1)) then
 bif decide (IntKind.wrap .i64 (a1.1.2.2.2.2.2.2.2.2.1 + a1.1.2.1) ≤ (a1.1.1.length:Int)) then
 bif decide (0 ≤ a1.1.2.2.2.2.2.2.2.1) then
 bif decide (a1.1.2.2.2.2.2.2.2.1 ≤ IntKind.wrap .i64 (a1.1.2.2.2.2.2.2.2.1 + a1.1.2.1)) then
 bif decide (IntKind.wrap .i64 (a1.1.2.2.2.2.2.2.2.1 + a1.1.2.1) ≤ (a1.1.1.length:Int)) then
 (g4 (((a1.2.1.1,a1.2.1.2.1,a1.2.1.2.2.1,()),List.drop (a1.1.2.2.2.2.2.2.2.2.1.toNat) (List.take (Int.toNat (IntKind.wrap .i64 (a1.1.2.2.2.2.2.2.2.2.1 + a1.1.2.1))) a1.1.1),List.drop (a1.1.2.2.2.2.2.2.2.1.toNat) (List.take (Int.toNat (IntKind.wrap .i64 (a1.1.2.2.2.2.2.2.2.1 + a1.1.2.1))) a1.1.1),()),())).bind fun y12 =>
 bif y12.1.2.1 != 0 then
 some (Sum.inr (Sum.inl (((),y12.1.2.1,()),(0,0,0,0,0,(),(),(),()),())))
 else
 bif decide (0 ≤ a1.1.2.2.2.2.2.2.2.1) then
 bif decide (a1.1.2.2.2.2.2.2.2.1 < (a1.2.2.2.2.2.2.1.length:Int)) then
 (g5 (((),(a1.1.2.2.2.2.2.2.2.2.1,y12.1.1.1,y12.1.1.2.1,()),()),((a1.2.2.2.2.2.2.1.getD (a1.1.2.2.2.2.2.2.2.1.toNat) (0,0,0)).1,(a1.2.2.2.2.2.2.1.getD (a1.1.2.2.2.2.2.2.2.1.toNat) (0,0,0)).2.1,(a1.2.2.2.2.2.2.1.getD (a1.1.2.2.2.2.2.2.2.1.toNat) (0,0,0)).2.2,()),())).bind fun y16 =>
 bif decide (0 ≤ a1.1.2.2.2.2.2.2.2.2.1) then
 bif decide (a1.1.2.2.2.2.2.2.2.2.1 < (a1.2.2.2.2.2.2.2.1.length:Int)) then
 (g5 (((),(a1.1.2.2.2.2.2.2.2.1,y12.1.1.1,y12.1.1.2.1,()),()),((a1.2.2.2.2.2.2.2.1.getD (a1.1.2.2.2.2.2.2.2.2.1.toNat) (0,0,0)).1,(a1.2.2.2.2.2.2.2.1.getD (a1.1.2.2.2.2.2.2.2.2.1.toNat) (0,0,0)).2.1,(a1.2.2.2.2.2.2.2.1.getD (a1.1.2.2.2.2.2.2.2.2.1.toNat) (0,0,0)).2.2,()),())).bind fun y19 =>
 (L ((a1.1.1,a1.1.2.1,a1.1.2.2.1,(),(),(),(),a1.1.2.2.2.2.2.2.2.1,IntKind.wrap .i64 (a1.1.2.2.2.2.2.2.2.2.1 + 1),a1.1.2.2.2.2.2.2.2.2.2.1,a1.1.2.2.2.2.2.2.2.2.2.2.1,()),(a1.2.1.1,a1.2.1.2.1,a1.2.1.2.2.1,()),(a1.2.2.1.1,a1.2.2.1.2.1,a1.2.2.1.2.2.1,a1.2.2.1.2.2.2.1,a1.2.2.1.2.2.2.2.1,(),(),(),()),a1.2.2.2.1,(a1.2.2.2.2.1.1,a1.2.2.2.2.1.2.1,a1.2.2.2.2.1.2.2.1,a1.2.2.2.2.1.2.2.2.1,a1.2.2.2.2.1.2.2.2.2.1,(),(),(),()),a1.2.2.2.2.2.1,a1.2.2.2.2.2.2.1.set (a1.1.2.2.2.2.2.2.2.1.toNat) (y16.2.1.1,y16.2.1.2.1,y16.2.1.2.2.1),a1.2.2.2.2.2.2.2.1.set (a1.1.2.2.2.2.2.2.2.2.1.toNat) (y19.2.1.1,y19.2.1.2.1,y19.2.1.2.2.1),())).bind fun y20 =>
 some y20
 else none
 else none
 else none
 else none
 else none
 else none
 else none
 else none
 else none
 else none
 else none
 else none
 else
 some (Sum.inl ((a1.1.1,a1.1.2.1,a1.1.2.2.1,(),(),(),(),a1.1.2.2.2.2.2.2.2.2.2.1,a1.1.2.2.2.2.2.2.2.2.2.2.1,()),(a1.2.1.1,a1.2.1.2.1,a1.2.1.2.2.1,()),(a1.2.2.1.1,a1.2.2.1.2.1,a1.2.2.1.2.2.1,a1.2.2.1.2.2.2.1,a1.2.2.1.2.2.2.2.1,(),(),(),()),a1.2.2.2.1,(a1.2.2.2.2.1.1,a1.2.2.2.2.1.2.1,a1.2.2.2.2.1.2.2.1,a1.2.2.2.2.1.2.2.2.1,a1.2.2.2.2.1.2.2.2.2.1,(),(),(),()),a1.2.2.2.2.2.1,a1.2.2.2.2.2.2.1,a1.2.2.2.2.2.2.2.1,()))) Empty.elim
def u2 (g4 : Y105 → Option Y142) (g5 : Y90 → Option Y143) (l3 : Y9 → Option Y3) (L : Y9 → Option Y0) (x : Y9) := f2 g4 g5 l3 L x.1.1 x.1.2.1 x.1.2.2.1 x.1.2.2.2.2.2.2.2.1 x.1.2.2.2.2.2.2.2.2.1 x.1.2.2.2.2.2.2.2.2.2.1 x.1.2.2.2.2.2.2.2.2.2.2.1 x.2.1.1 x.2.1.2.1 x.2.1.2.2.1 x.2.2.1.1 x.2.2.1.2.1 x.2.2.1.2.2.1 x.2.2.1.2.2.2.1 x.2.2.1.2.2.2.2.1 x.2.2.2.1 x.2.2.2.2.1.1 x.2.2.2.2.1.2.1 x.2.2.2.2.1.2.2.1 x.2.2.2.2.1.2.2.2.1 x.2.2.2.2.1.2.2.2.2.1 x.2.2.2.2.2.1 x.2.2.2.2.2.2.1 x.2.2.2.2.2.2.2.1
def f1 (l2 : Y9 → Option Y0) (L : Y12 → Option Y2) (a : List Int) (b c d h i j k m n o p q : Int) (r : List Bool) (s t v w z : Int) (p0 p1 p2 : List Y165) : Option Y2 :=
 bif decide (h < d) then
 (l2 ((a,b,c,(),(),(),(),h,0,d,h,()),(i,j,k,()),(m,n,o,p,q,(),(),(),()),r,(s,t,v,w,z,(),(),(),()),p0,p1,p2,())).bind fun y1 =>
 y1.elim (fun a2 => (L ((a2.1.1,a2.1.2.1,a2.1.2.2.1,(),(),(),(),a2.1.2.2.2.2.2.2.2.1,IntKind.wrap .i64 (a2.1.2.2.2.2.2.2.2.2.1 + 1),()),(a2.2.1.1,a2.2.1.2.1,a2.2.1.2.2.1,()),(a2.2.2.1.1,a2.2.2.1.2.1,a2.2.2.1.2.2.1,a2.2.2.1.2.2.2.1,a2.2.2.1.2.2.2.2.1,(),(),(),()),a2.2.2.2.1,(a2.2.2.2.2.1.1,a2.2.2.2.2.1.2.1,a2.2.2.2.2.1.2.2.1,a2.2.2.2.2.1.2.2.2.1,a2.2.2.2.2.1.2.2.2.2.1,(),(),(),()),a2.2.2.2.2.2.1,a2.2.2.2.2.2.2.1,a2.2.2.2.2.2.2.2.1,())).bind fun y3 =>
 some y3) (fun b2 => b2.elim (fun a3 => some (Sum.inr (Sum.inl (((),a3.1.2.1,()),(a3.2.1.1,a3.2.1.2.1,a3.2.1.2.2.1,a3.2.1.2.2.2.1,a3.2.1.2.2.2.2.1,(),(),(),()),())))) Empty.elim)
 else
 some (Sum.inl (((),(),(),()),(m,n,o,p,q,(),(),(),()),r,(s,t,v,w,z,(),(),(),()),p0,p1,p2,()))
def u1 (l2 : Y9 → Option Y0) (L : Y12 → Option Y2) (x : Y12) := f1 l2 L x.1.1 x.1.2.1 x.1.2.2.1 x.1.2.2.2.2.2.2.2.1 x.1.2.2.2.2.2.2.2.2.1 x.2.1.1 x.2.1.2.1 x.2.1.2.2.1 x.2.2.1.1 x.2.2.1.2.1 x.2.2.1.2.2.1 x.2.2.1.2.2.2.1 x.2.2.1.2.2.2.2.1 x.2.2.2.1 x.2.2.2.2.1.1 x.2.2.2.2.1.2.1 x.2.2.2.2.1.2.2.1 x.2.2.2.2.1.2.2.2.1 x.2.2.2.2.1.2.2.2.2.1 x.2.2.2.2.2.1 x.2.2.2.2.2.2.1 x.2.2.2.2.2.2.2.1
def f4 (g5 : Y90 → Option Y143) (L : Y23 → Option Y24) (a b c d h i j k m n o p : Int) (q r s : List Y165) : Option Y24 :=
 bif decide (b < a) then
 bif decide (0 ≤ b) then
 bif decide (b < (r.length:Int)) then
 bif decide (0 ≤ b) then
 bif decide (b < (q.length:Int)) then
 bif decide (0 ≤ b) then
 bif decide (b < (List.length (q.set (b.toNat) ((r.getD (b.toNat) (0,0,0)).1,(r.getD (b.toNat) (0,0,0)).2.1,(r.getD (b.toNat) (0,0,0)).2.2)):Int)) then
 bif decide (0 ≤ b) then
 bif decide (b < (s.length:Int)) then
 (g5 (((),((s.getD (b.toNat) (0,0,0)).1,(s.getD (b.toNat) (0,0,0)).2.1,(s.getD (b.toNat) (0,0,0)).2.2,()),()),((List.getD (q.set (b.toNat) ((r.getD (b.toNat) (0,0,0)).1,(r.getD (b.toNat) (0,0,0)).2.1,(r.getD (b.toNat) (0,0,0)).2.2)) (b.toNat) (0,0,0)).1,(List.getD (q.set (b.toNat) ((r.getD (b.toNat) (0,0,0)).1,(r.getD (b.toNat) (0,0,0)).2.1,(r.getD (b.toNat) (0,0,0)).2.2)) (b.toNat) (0,0,0)).2.1,(List.getD (q.set (b.toNat) ((r.getD (b.toNat) (0,0,0)).1,(r.getD (b.toNat) (0,0,0)).2.1,(r.getD (b.toNat) (0,0,0)).2.2)) (b.toNat) (0,0,0)).2.2,()),())).bind fun y9 =>
 (L (((),(),a,IntKind.wrap .i64 (b + 1),()),(c,d,h,i,j,(),(),(),()),(k,m,n,o,p,(),(),(),()),List.set (q.set (b.toNat) ((r.getD (b.toNat) (0,0,0)).1,(r.getD (b.toNat) (0,0,0)).2.1,(r.getD (b.toNat) (0,0,0)).2.2)) (b.toNat) (y9.2.1.1,y9.2.1.2.1,y9.2.1.2.2.1),r,s,())).bind fun y10 =>
 some y10
 else none
 else none
 else none
 else none
 else none
 else none
 else none
 else none
 else
 some (Sum.inl (((),(),()),(c,d,h,i,j,(),(),(),()),(k,m,n,o,p,(),(),(),()),q,r,s,()))
def u4 (g5 : Y90 → Option Y143) (L : Y23 → Option Y24) (x : Y23) := f4 g5 L x.1.2.2.1 x.1.2.2.2.1 x.2.1.1 x.2.1.2.1 x.2.1.2.2.1 x.2.1.2.2.2.1 x.2.1.2.2.2.2.1 x.2.2.1.1 x.2.2.1.2.1 x.2.2.1.2.2.1 x.2.2.1.2.2.2.1 x.2.2.1.2.2.2.2.1 x.2.2.2.1 x.2.2.2.2.1 x.2.2.2.2.2.1
def f (g0 : Y141 → Option Y164) (g1 : Y155 → Option Y144) (g2 : Y164 → Option Y163) (l0 : Y12 → Option Y13) (l1 : Y12 → Option Y2) (l4 : Y23 → Option Y24) (a : List Int) (b c d h i : Int) : Option Y31 :=
 (g0 (((b,c,d,()),()),())).bind fun y0 =>
 bif y0.1.1 != 0 then
 some (((0,0,0,0,0,(),(),(),()),y0.1.1,()),([]:List Y165),([]:List Y165),([]:List Y165),())
 else
 (g1 ((a,h,()),())).bind fun y2 =>
 bif y2.1.2.1 != 0 then
 some (((0,0,0,0,0,(),(),(),()),y2.1.2.1,()),([]:List Y165),([]:List Y165),([]:List Y165),())
 else
 (g2 ((i,()),())).bind fun y4 =>
 bif !y4.1.1 then
 some (((0,0,0,0,0,(),(),(),()),29,()),([]:List Y165),([]:List Y165),([]:List Y165),())
 else
 (l0 ((a,h,i,(),(),(),(),(y2.2.1.length:Int),0,()),(b,c,d,()),(0,0,0,0,0,(),(),(),()),y2.2.1,(b,c,d,h,i,(),(),(),()),([]:List Y165),([]:List Y165),([]:List Y165),())).bind fun y6 =>
 y6.elim (fun a7 => (l1 ((a7.1.1,a7.1.2.1,a7.1.2.2.1,(),(),(),(),(a7.2.2.2.1.length:Int),0,()),(a7.2.1.1,a7.2.1.2.1,a7.2.1.2.2.1,()),(a7.2.2.1.1,a7.2.2.1.2.1,a7.2.2.1.2.2.1,a7.2.2.1.2.2.2.1,a7.2.2.1.2.2.2.2.1,(),(),(),()),a7.2.2.2.1,(a7.2.2.2.2.1.1,a7.2.2.2.2.1.2.1,a7.2.2.2.2.1.2.2.1,a7.2.2.2.2.1.2.2.2.1,a7.2.2.2.2.1.2.2.2.2.1,(),(),(),()),a7.2.2.2.2.2.1,a7.2.2.2.2.2.2.1,a7.2.2.2.2.2.2.2.1,())).bind fun y8 =>
 y8.elim (fun a9 => (l4 (((),(),(a9.2.2.1.length:Int),0,()),(a9.2.1.1,a9.2.1.2.1,a9.2.1.2.2.1,a9.2.1.2.2.2.1,a9.2.1.2.2.2.2.1,(),(),(),()),(a9.2.2.2.1.1,a9.2.2.2.1.2.1,a9.2.2.2.1.2.2.1,a9.2.2.2.1.2.2.2.1,a9.2.2.2.1.2.2.2.2.1,(),(),(),()),a9.2.2.2.2.1,a9.2.2.2.2.2.1,a9.2.2.2.2.2.2.1,())).bind fun y10 =>
 y10.elim (fun a11 => some (((a11.2.2.1.1,a11.2.2.1.2.1,a11.2.2.1.2.2.1,a11.2.2.1.2.2.2.1,a11.2.2.1.2.2.2.2.1,(),(),(),()),0,()),a11.2.2.2.1,a11.2.2.2.2.1,a11.2.2.2.2.2.1,())) Empty.elim) (fun b9 => b9.elim (fun a10 => some (((a10.2.1.1,a10.2.1.2.1,a10.2.1.2.2.1,a10.2.1.2.2.2.1,a10.2.1.2.2.2.2.1,(),(),(),()),a10.1.2.1,()),([]:List Y165),([]:List Y165),([]:List Y165),())) Empty.elim)) Empty.elim
def u (g0 : Y141 → Option Y164) (g1 : Y155 → Option Y144) (g2 : Y164 → Option Y163) (l0 : Y12 → Option Y13) (l1 : Y12 → Option Y2) (l4 : Y23 → Option Y24) (x : Y107) := f g0 g1 g2 l0 l1 l4 x.1.1 x.1.2.1.1 x.1.2.1.2.1 x.1.2.1.2.2.1 x.1.2.2.1 x.1.2.2.2.1
section
variable (g0 : measure_Check.G) (g1 : profile_Windows.G) (g2 : profile_Zone.G) (g3 : profile_None.G) (g4 : measure_Distance.G) (g5 : profile_Best.G) (l0 : A0) (l1 : A1) (l2 : A2) (l3 : A3) (l4 : A4)
def E : Env := ⟨T,cE [(27,[],measure_Check.fe g0),(22,[],profile_Windows.fe g1),(29,[],profile_Zone.fe g2),(36,[],profile_None.fe g3),(37,[],measure_Distance.fe g4),(30,[],profile_Best.fe g5)],lE [LE.of s0 x0 l0,LE.of s1 x1 l1,LE.of s2 x2 l2,LE.of s3 x3 l3,LE.of s4 x4 l4],153,0,Gt⟩
variable {g0 g1 g2 g3 g4 g5 l0 l1 l2 l3 l4}
theorem e0 (L : A0) (x : s0.X) : rndO (E g0 g1 g2 g3 g4 g5 l0 l1 l2 l3 l4) hs c s0 x0 0 true L x = u0 g3 L x := by
 show _ = (_ : Option _)
 kernel_rfl
theorem e3 (L : A3) (x : s3.X) : rndO (E g0 g1 g2 g3 g4 g5 l0 l1 l2 l3 l4) hs c s3 x3 3 false L x = u3 x := by
 show _ = (_ : Option _)
 kernel_rfl
theorem e2 (L : A2) (x : s2.X) : rndO (E g0 g1 g2 g3 g4 g5 l0 l1 l2 l3 l4) hs c s2 x2 2 true L x = u2 g4 g5 l3 L x := by
 show _ = (_ : Option _)
 kernel_rfl
theorem e1 (L : A1) (x : s1.X) : rndO (E g0 g1 g2 g3 g4 g5 l0 l1 l2 l3 l4) hs c s1 x1 1 true L x = u1 l2 L x := by
 show _ = (_ : Option _)
 kernel_rfl
theorem e4 (L : A4) (x : s4.X) : rndO (E g0 g1 g2 g3 g4 g5 l0 l1 l2 l3 l4) hs c s4 x4 4 true L x = u4 g5 L x := by
 show _ = (_ : Option _)
 kernel_rfl
theorem e (x : sh.X) : bodO (E g0 g1 g2 g3 g4 g5 l0 l1 l2 l3 l4) hs c Try.f21 sh osh x = u g0 g1 g2 l0 l1 l4 x := by
 show _ = (_ : Option _)
 kernel_rfl
end
noncomputable def L0 : Y12 → Option Y13 := loop (u0 profile_None.F)
noncomputable def L3 : Y9 → Option Y3 := u3
noncomputable def L2 : Y9 → Option Y0 := loop (u2 measure_Distance.F profile_Best.F L3)
noncomputable def L1 : Y12 → Option Y2 := loop (u1 L2)
noncomputable def L4 : Y23 → Option Y24 := loop (u4 profile_Best.F)
noncomputable def F : Y107 → Option Y31 := u measure_Check.F profile_Windows.F profile_Zone.F L0 L1 L4
noncomputable abbrev R : Env := E measure_Check.F profile_Windows.F profile_Zone.F profile_None.F measure_Distance.F profile_Best.F L0 L1 L2 L3 L4
theorem L0_eq (a : List Int) (b c d h i j k m n o p q : Int) (r : List Bool) (s t v w z : Int) (p0 p1 p2 : List Y165) : L0 ((a,b,c,(),(),(),(),d,h,()),((i,j,k,()),(m,n,o,p,q,(),(),(),()),r,(s,t,v,w,z,(),(),(),()),p0,p1,p2,())) = f0 profile_None.F L0 a b c d h i j k m n o p q r s t v w z p0 p1 p2 :=
 loopE (E := R) e0 ((a,b,c,(),(),(),(),d,h,()),((i,j,k,()),(m,n,o,p,q,(),(),(),()),r,(s,t,v,w,z,(),(),(),()),p0,p1,p2,()))
theorem L1_eq (a : List Int) (b c d h i j k m n o p q : Int) (r : List Bool) (s t v w z : Int) (p0 p1 p2 : List Y165) : L1 ((a,b,c,(),(),(),(),d,h,()),((i,j,k,()),(m,n,o,p,q,(),(),(),()),r,(s,t,v,w,z,(),(),(),()),p0,p1,p2,())) = f1 L2 L1 a b c d h i j k m n o p q r s t v w z p0 p1 p2 :=
 loopE (E := R) e1 ((a,b,c,(),(),(),(),d,h,()),((i,j,k,()),(m,n,o,p,q,(),(),(),()),r,(s,t,v,w,z,(),(),(),()),p0,p1,p2,()))
theorem L2_eq (a : List Int) (b c d h i j k m n o p q r s : Int) (t : List Bool) (v w z p0 p1 : Int) (p2 p3 p4 : List Y165) : L2 ((a,b,c,(),(),(),(),d,h,i,j,()),((k,m,n,()),(o,p,q,r,s,(),(),(),()),t,(v,w,z,p0,p1,(),(),(),()),p2,p3,p4,())) = f2 measure_Distance.F profile_Best.F L3 L2 a b c d h i j k m n o p q r s t v w z p0 p1 p2 p3 p4 :=
 loopE (E := R) e2 ((a,b,c,(),(),(),(),d,h,i,j,()),((k,m,n,()),(o,p,q,r,s,(),(),(),()),t,(v,w,z,p0,p1,(),(),(),()),p2,p3,p4,()))
theorem L3_eq (a : List Int) (b c d h i j k m n o p q r s : Int) (t : List Bool) (v w z p0 p1 : Int) (p2 p3 p4 : List Y165) : L3 ((a,b,c,(),(),(),(),d,h,i,j,()),((k,m,n,()),(o,p,q,r,s,(),(),(),()),t,(v,w,z,p0,p1,(),(),(),()),p2,p3,p4,())) = f3 a b c d h i j k m n o p q r s t v w z p0 p1 p2 p3 p4 := rfl
theorem L4_eq (a b c d h i j k m n o p : Int) (q r s : List Y165) : L4 (((),(),a,b,()),((c,d,h,i,j,(),(),(),()),(k,m,n,o,p,(),(),(),()),q,r,s,())) = f4 profile_Best.F L4 a b c d h i j k m n o p q r s :=
 loopE (E := R) e4 (((),(),a,b,()),((c,d,h,i,j,(),(),(),()),(k,m,n,o,p,(),(),(),()),q,r,s,()))
theorem F_eq (a : List Int) (b c d h i : Int) : F ((a,(b,c,d,()),h,i,()),()) = f measure_Check.F profile_Windows.F profile_Zone.F L0 L1 L4 a b c d h i := rfl
theorem ok {tabs} (ht : TabsOk tabs) : FOK Try.prog tabs 21 (fe F) :=
 fn_keep3 (E := R) (hs := hs) Try.func21 e pw tb (gt_ok ht) (by kernel_rfl) (by kernel_rfl) rfl ⟨measure_Check.ok ht,profile_Windows.ok ht,profile_Zone.ok ht,profile_None.ok ht,measure_Distance.ok ht,profile_Best.ok ht,trivial⟩ 5 (by kernel_rfl) ⟨lA e0 (by kernel_rfl) (by kernel_rfl),lA e1 (by kernel_rfl) (by kernel_rfl),lA e2 (by kernel_rfl) (by kernel_rfl),cA e3 (by kernel_rfl) (by kernel_rfl),lA e4 (by kernel_rfl) (by kernel_rfl),trivial⟩
end profile_Of
/-! profile_neighbour -/
namespace profile_neighbour
noncomputable def c : Go.Code := Try.f31.body.getD .skip
abbrev sh : Sh := ⟨[q11, q13, q13, q13, q15], []⟩
abbrev osh : Sh := ⟨[q15], []⟩
abbrev G := sh.X → Option osh.X
abbrev fe (g : G) : FE := FE.of [true,true,true,true,true] false sh osh g
abbrev s0 : Sh := ⟨[q13, q13, q13, q15, q16], [q0]⟩
abbrev x0 : List (Ex × Sh) := [(.normal, ⟨[q13, q13, q15, q16, q15], [q0]⟩)]
abbrev A0 := s0.X → Option (sumX x0)
def hs : List Hint := [⟨[0,0,1,1],0,[1,2,3,4,5],[(0,[1,3,4,5,31])]⟩]
def f0 (g1 : Y152 → Option Y163) (a b c : Int) (d : Bool) (h i j : Int) : Option Y79 :=
 bif decide (h < 0) then
 some (Sum.inl ((a,c,d,(),true,()),(h,i,j,()),()))
 else
 bif decide (h ≥ b) then
 some (Sum.inl ((a,c,d,(),true,()),(h,i,j,()),()))
 else
 (g1 (((i,j,()),()),())).bind fun y2 =>
 some (Sum.inl ((a,c,d,(),!y2.1.1,()),(h,i,j,()),()))
def u0 (g1 : Y152 → Option Y163) (x : Y93) := f0 g1 x.1.1 x.1.2.1 x.1.2.2.1 x.1.2.2.2.1 x.2.1.1 x.2.1.2.1 x.2.1.2.2.1
def f (g0 : Y166 → Option Y141) (l0 : Y93 → Option Y79) (a b c d h i : Int) (j : Bool) : Option Y163 :=
 bif a == -1 then
 (g0 ((),())).bind fun y1 =>
 some ((a == y1.1.1.1 && ((b == y1.1.1.2.1 && (c == y1.1.1.2.2.1 && true)) && true),()),())
 else
 (l0 ((d,h,i,j,(),()),(a,b,c,()),())).bind fun y1 =>
 y1.elim (fun a2 => bif a2.1.2.2.2.2.1 then
 some ((false,()),())
 else
 bif a2.1.2.2.1 then
 some ((decide (a2.2.1.1 ≥ IntKind.wrap .i64 (a2.1.1 + a2.1.2.1)),()),())
 else
 some ((decide (a2.2.1.1 ≤ IntKind.wrap .i64 (a2.1.1 - a2.1.2.1)),()),())) Empty.elim
def u (g0 : Y166 → Option Y141) (l0 : Y93 → Option Y79) (x : Y106) := f g0 l0 x.1.1.1 x.1.1.2.1 x.1.1.2.2.1 x.1.2.1 x.1.2.2.1 x.1.2.2.2.1 x.1.2.2.2.2.1
section
variable (g0 : profile_None.G) (g1 : ratio_Valid.G) (l0 : A0)
def E : Env := ⟨T,cE [(36,[],profile_None.fe g0),(52,[],ratio_Valid.fe g1)],lE [LE.of s0 x0 l0],45,0,Gt⟩
variable {g0 g1 l0}
theorem e0 (L : A0) (x : s0.X) : rndO (E g0 g1 l0) hs c s0 x0 0 false L x = u0 g1 x := by
 show _ = (_ : Option _)
 kernel_rfl
theorem e (x : sh.X) : bodO (E g0 g1 l0) hs c Try.f31 sh osh x = u g0 l0 x := by
 show _ = (_ : Option _)
 kernel_rfl
end
noncomputable def L0 : Y93 → Option Y79 := u0 ratio_Valid.F
noncomputable def F : Y106 → Option Y163 := u profile_None.F L0
noncomputable abbrev R : Env := E profile_None.F ratio_Valid.F L0
theorem L0_eq (a b c : Int) (d : Bool) (h i j : Int) : L0 ((a,b,c,d,(),()),((h,i,j,()),())) = f0 ratio_Valid.F a b c d h i j := rfl
theorem F_eq (a b c d h i : Int) (j : Bool) : F (((a,b,c,()),d,h,i,j,()),()) = f profile_None.F L0 a b c d h i j := rfl
theorem ok {tabs} (ht : TabsOk tabs) : FOK Try.prog tabs 31 (fe F) :=
 fn_keep3 (E := R) (hs := hs) Try.func31 e pw tb (gt_ok ht) (by kernel_rfl) (by kernel_rfl) rfl ⟨profile_None.ok ht,ratio_Valid.ok ht,trivial⟩ 1 (by kernel_rfl) ⟨cA e0 (by kernel_rfl) (by kernel_rfl),trivial⟩
end profile_neighbour
end Go.Proofs.Ytefcciajemkicaa.V
