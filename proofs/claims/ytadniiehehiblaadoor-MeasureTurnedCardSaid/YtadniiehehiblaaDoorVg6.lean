import Derived.Test.YtadniiehehiblaaDoorVg5
import Derived.Test.YtadniiehehiblaaDoorShelf
import Derived.WalkKit
set_option linter.unusedVariables false
set_option maxRecDepth 100000
namespace Go.Proofs.YtadniiehehiblaaDoor.V
open Go.VI
/-! keep_Src_Ratio -/
def keep_Src_Ratio.f0 (L : ((Unit × Int × Int × Int × Int × Unit) × (((List Int) × Int × Unit) × (Int × Int × Unit) × Unit)) → Option (((Unit × Int × Int × Int × Unit) × (((List Int) × Int × Unit) × (Int × Int × Unit) × Unit)) ⊕ Empty)) (n_3 : Int) (d_4 : Int) (a_5 : Int) (b_6 : Int) (o0_0 : (List Int)) (o0_1 : Int) (o1_0 : Int) (o1_1 : Int) : Option (((Unit × Int × Int × Int × Unit) × (((List Int) × Int × Unit) × (Int × Int × Unit) × Unit)) ⊕ Empty) :=
  (bif (decide (b_6 > (0:Int))) then
   (bif (!(decide (b_6 = (0:Int)))) then
    (Option.bind (L (((), (n_3, (d_4, (b_6, ((Int.tmod a_5 b_6), ()))))), ((o0_0, (o0_1, ())), ((o1_0, (o1_1, ())), ())))) (fun y2 =>
    (some y2)))
   else
    none)
  else
   (some (Sum.inl (((), (n_3, (d_4, (a_5, ())))), ((o0_0, (o0_1, ())), ((o1_0, (o1_1, ())), ()))))))
theorem keep_Src_Ratio.eq0 (g_keep_Src_Pick : keep_Src_Pick.sh.X → Option keep_Src_Pick.osh.X) (g_keep_Src_N : keep_Src_N.sh.X → Option keep_Src_N.osh.X) (l0 : keep_Src_Ratio.s0.X → Option (sumX keep_Src_Ratio.x0)) (L : ((Unit × Int × Int × Int × Int × Unit) × (((List Int) × Int × Unit) × (Int × Int × Unit) × Unit)) → Option (((Unit × Int × Int × Int × Unit) × (((List Int) × Int × Unit) × (Int × Int × Unit) × Unit)) ⊕ Empty)) (x : ((Unit × Int × Int × Int × Int × Unit) × (((List Int) × Int × Unit) × (Int × Int × Unit) × Unit))) : (roundK (keep_Src_Ratio.E g_keep_Src_Pick g_keep_Src_N l0) keep_Src_Ratio.s0 [2, 3, 4, 5, 6] [(2, [2, 3, 4, 5])] true (((mk keep_Src_Ratio.hs keep_Src_Ratio.c []).atoms.getD 0 .bad).body) keep_Src_Ratio.x0 L x).run _ some = keep_Src_Ratio.f0 L x.1.2.1 x.1.2.2.1 x.1.2.2.2.1 x.1.2.2.2.2.1 x.2.1.1 x.2.1.2.1 x.2.2.1.1 x.2.2.1.2.1 := by
  show _ = (_ : Option _)
  kernel_rfl
noncomputable def keep_Src_Ratio.L0 : ((Unit × Int × Int × Int × Int × Unit) × (((List Int) × Int × Unit) × (Int × Int × Unit) × Unit)) → Option (((Unit × Int × Int × Int × Unit) × (((List Int) × Int × Unit) × (Int × Int × Unit) × Unit)) ⊕ Empty) := loop fun L x => keep_Src_Ratio.f0 L x.1.2.1 x.1.2.2.1 x.1.2.2.2.1 x.1.2.2.2.2.1 x.2.1.1 x.2.1.2.1 x.2.2.1.1 x.2.2.1.2.1
def keep_Src_Ratio.f (g_keep_Src_Pick : ((Unit × (List Int) × Unit) × (((List Int) × Int × Unit) × Unit)) → Option ((Int × Unit) × (((List Int) × Int × Unit) × Unit))) (g_keep_Src_N : ((Unit × Int × Unit) × (((List Int) × Int × Unit) × Unit)) → Option ((Int × Unit) × (((List Int) × Int × Unit) × Unit))) (l0 : ((Unit × Int × Int × Int × Int × Unit) × (((List Int) × Int × Unit) × (Int × Int × Unit) × Unit)) → Option (((Unit × Int × Int × Int × Unit) × (((List Int) × Int × Unit) × (Int × Int × Unit) × Unit)) ⊕ Empty)) (o0_0 : (List Int)) (o0_1 : Int) : Option (((Int × Int × Unit) × Unit) × (((List Int) × Int × Unit) × Unit)) :=
  (Option.bind (g_keep_Src_Pick (((), ([(0:Int), (1:Int), (3:Int), (7:Int), (50:Int), (1000:Int), (1099511627776:Int), (2305843009213693952:Int), (2305843009213693951:Int)], ())), ((o0_0, (o0_1, ())), ()))) (fun y0 =>
  (Option.bind (g_keep_Src_N (((), ((5:Int), ())), ((y0.2.1.1, (y0.2.1.2.1, ())), ()))) (fun y1 =>
  (Option.bind (g_keep_Src_Pick (((), ([(1:Int), (1:Int), (2:Int), (3:Int), (8:Int), (60:Int), (1099511627776:Int), (1152921504606846976:Int), (1152921504606846975:Int)], ())), ((y1.2.1.1, (y1.2.1.2.1, ())), ()))) (fun y2 =>
  (Option.bind (l0 (((), ((Go.VI.mn (Go.IntKind.wrap Go.IntKind.i64 (y0.1.1 + y1.1.1)) (2305843009213693952:Int)), (y2.1.1, ((Go.VI.mn (Go.IntKind.wrap Go.IntKind.i64 (y0.1.1 + y1.1.1)) (2305843009213693952:Int)), (y2.1.1, ()))))), ((y2.2.1.1, (y2.2.1.2.1, ())), (((0:Int), ((0:Int), ())), ())))) (fun y3 =>
  (Sum.elim (fun a4 =>
   (bif (!(decide (a4.1.2.2.2.1 = (0:Int)))) then
    (bif (!(decide (a4.1.2.2.2.1 = (0:Int)))) then
     (some ((((Go.IntKind.wrap Go.IntKind.i64 (Int.tdiv a4.1.2.1 a4.1.2.2.2.1)), ((Go.IntKind.wrap Go.IntKind.i64 (Int.tdiv a4.1.2.2.1 a4.1.2.2.2.1)), ())), ()), ((a4.2.1.1, (a4.2.1.2.1, ())), ())))
    else
     none)
   else
    none)) (fun b4 =>
   (Empty.elim b4)) y3)))))))))
theorem keep_Src_Ratio.eq (g_keep_Src_Pick : keep_Src_Pick.sh.X → Option keep_Src_Pick.osh.X) (g_keep_Src_N : keep_Src_N.sh.X → Option keep_Src_N.osh.X) (l0 : keep_Src_Ratio.s0.X → Option (sumX keep_Src_Ratio.x0)) (x : ((Unit × Unit) × (((List Int) × Int × Unit) × Unit))) : (bodyO (keep_Src_Ratio.E g_keep_Src_Pick g_keep_Src_N l0) (mk keep_Src_Ratio.hs keep_Src_Ratio.c []) Go.Proofs.Tryd.f19.results.toList keep_Src_Ratio.sh keep_Src_Ratio.osh x).run _ some = keep_Src_Ratio.f g_keep_Src_Pick g_keep_Src_N l0 x.2.1.1 x.2.1.2.1 := by
  show _ = (_ : Option _)
  kernel_rfl
noncomputable def keep_Src_Ratio (o0_0 : (List Int)) (o0_1 : Int) : Option (((Int × Int × Unit) × Unit) × (((List Int) × Int × Unit) × Unit)) := keep_Src_Ratio.f keep_Src_Pick.F keep_Src_N.F keep_Src_Ratio.L0 o0_0 o0_1
noncomputable def keep_Src_Ratio.F (x : ((Unit × Unit) × (((List Int) × Int × Unit) × Unit))) : Option (((Int × Int × Unit) × Unit) × (((List Int) × Int × Unit) × Unit)) := keep_Src_Ratio x.2.1.1 x.2.1.2.1
theorem keep_Src_Ratio.L0_eq (n_3 : Int) (d_4 : Int) (a_5 : Int) (b_6 : Int) (o0_0 : (List Int)) (o0_1 : Int) (o1_0 : Int) (o1_1 : Int) : keep_Src_Ratio.L0 (((), n_3, d_4, a_5, b_6, ()), ((o0_0, o0_1, ()), (o1_0, o1_1, ()), ())) = keep_Src_Ratio.f0 keep_Src_Ratio.L0 n_3 d_4 a_5 b_6 o0_0 o0_1 o1_0 o1_1 :=
  loop_eq (E := (keep_Src_Ratio.E keep_Src_Pick.F keep_Src_N.F keep_Src_Ratio.L0)) (sh := keep_Src_Ratio.s0) (es := keep_Src_Ratio.x0) (lp := true) (H := fun L x => keep_Src_Ratio.eq0 keep_Src_Pick.F keep_Src_N.F keep_Src_Ratio.L0 L x) (((), n_3, d_4, a_5, b_6, ()), ((o0_0, o0_1, ()), (o1_0, o1_1, ()), ()))
theorem keep_Src_Ratio.F_eq (o0_0 : (List Int)) (o0_1 : Int) : keep_Src_Ratio.F (((), ()), ((o0_0, o0_1, ()), ())) = keep_Src_Ratio.f keep_Src_Pick.F keep_Src_N.F keep_Src_Ratio.L0 o0_0 o0_1 := rfl
theorem keep_Src_Ratio.ok {tabs : List (Nat × Go.Obj)} (ht : TabsOk tabs) : FOK Go.Proofs.Tryd.prog tabs 19 (FE.of [true] true keep_Src_Ratio.sh keep_Src_Ratio.osh keep_Src_Ratio.F) := by
  refine fn_keeps (E := (keep_Src_Ratio.E keep_Src_Pick.F keep_Src_N.F keep_Src_Ratio.L0)) (c := keep_Src_Ratio.c) (fn := Go.Proofs.Tryd.f19) (hs := keep_Src_Ratio.hs) (by kernel_rfl) Go.Proofs.Tryd.func19 ⟨by kernel_rfl, by kernel_rfl, tb, by kernel_rfl, by kernel_rfl, by kernel_rfl, by kernel_rfl, by kernel_rfl⟩ ⟨fun g ks fe h => ?_, gt_ok ht⟩ ?_ (fun x => keep_Src_Ratio.eq keep_Src_Pick.F keep_Src_N.F keep_Src_Ratio.L0 x)
  · rcases c_cons h with ⟨rfl, rfl⟩ | h
    · exact keep_Src_Pick.ok ht
    rcases c_cons h with ⟨rfl, rfl⟩ | h
    · exact keep_Src_N.ok ht
    cases h
  · refine known_at 1 (by kernel_rfl) fun i hi => ?_
    match i, hi with
    | 0, _ => exact atom_at (id := 0) (live := [2, 3, 4, 5, 6]) (outs := [(2, [2, 3, 4, 5])]) (loop := true) (by kernel_rfl) (loop_ok (E := (keep_Src_Ratio.E keep_Src_Pick.F keep_Src_N.F keep_Src_Ratio.L0)) (sh := keep_Src_Ratio.s0) (es := keep_Src_Ratio.x0) rfl (fun L x => keep_Src_Ratio.eq0 keep_Src_Pick.F keep_Src_N.F keep_Src_Ratio.L0 L x))
    | n + 1, h => exact absurd h (by omega)

/-! ratio_Valid -/
def ratio_Valid.f (g_ratio_within : (((Int × Int × Unit) × Unit) × (Unit)) → Option ((Bool × Unit) × (Unit))) (g_ratio_divisor : ((Int × Int × Unit) × (Unit)) → Option ((Int × Unit) × (Unit))) (a_Num : Int) (a_Den : Int) : Option ((Bool × Unit) × (Unit)) :=
  (Option.bind (g_ratio_within (((a_Num, (a_Den, ())), ()), ())) (fun y0 =>
  (bif y0.1.1 then
   (Option.bind (g_ratio_divisor ((a_Num, (a_Den, ())), ())) (fun y2 =>
   (some (((y2.1.1 == (1:Int)), ()), ()))))
  else
   (some ((Bool.false, ()), ())))))
theorem ratio_Valid.eq (g_ratio_within : ratio_within.sh.X → Option ratio_within.osh.X) (g_ratio_divisor : ratio_divisor.sh.X → Option ratio_divisor.osh.X) (x : (((Int × Int × Unit) × Unit) × (Unit))) : (bodyO (ratio_Valid.E g_ratio_within g_ratio_divisor) (mk ratio_Valid.hs ratio_Valid.c []) Go.Proofs.Tryd.f34.results.toList ratio_Valid.sh ratio_Valid.osh x).run _ some = ratio_Valid.f g_ratio_within g_ratio_divisor x.1.1.1 x.1.1.2.1 := by
  show _ = (_ : Option _)
  kernel_rfl
noncomputable def ratio_Valid (a_Num : Int) (a_Den : Int) : Option ((Bool × Unit) × (Unit)) := ratio_Valid.f ratio_within.F ratio_divisor.F a_Num a_Den
noncomputable def ratio_Valid.F (x : (((Int × Int × Unit) × Unit) × (Unit))) : Option ((Bool × Unit) × (Unit)) := ratio_Valid x.1.1.1 x.1.1.2.1
theorem ratio_Valid.F_eq (a_Num : Int) (a_Den : Int) : ratio_Valid.F (((a_Num, a_Den, ()), ()), ()) = ratio_Valid.f ratio_within.F ratio_divisor.F a_Num a_Den := rfl
theorem ratio_Valid.ok {tabs : List (Nat × Go.Obj)} (ht : TabsOk tabs) : FOK Go.Proofs.Tryd.prog tabs 34 (FE.of [true] false ratio_Valid.sh ratio_Valid.osh ratio_Valid.F) := by
  refine fn_keeps (E := (ratio_Valid.E ratio_within.F ratio_divisor.F)) (c := ratio_Valid.c) (fn := Go.Proofs.Tryd.f34) (hs := ratio_Valid.hs) (by kernel_rfl) Go.Proofs.Tryd.func34 ⟨by kernel_rfl, by kernel_rfl, tb, by kernel_rfl, by kernel_rfl, by kernel_rfl, by kernel_rfl, by kernel_rfl⟩ ⟨fun g ks fe h => ?_, gt_ok ht⟩ ?_ (fun x => ratio_Valid.eq ratio_within.F ratio_divisor.F x)
  · rcases c_cons h with ⟨rfl, rfl⟩ | h
    · exact ratio_within.ok ht
    rcases c_cons h with ⟨rfl, rfl⟩ | h
    · exact ratio_divisor.ok ht
    cases h
  · exact known_at 0 (by kernel_rfl) fun i hi => absurd hi (Nat.not_lt_zero i)

/-! bits_Mul64 -/
def bits_Mul64.f (x_ : Int) (y : Int) : Option ((Int × Int × Unit) × (Unit)) :=
  (some (((Go.IntKind.wrap Go.IntKind.u64 ((Go.IntKind.wrap Go.IntKind.u64 ((Go.IntKind.wrap Go.IntKind.u64 ((Int.fdiv x_ ((2:Int) ^ (Min.min (Int.toNat (32:Int)) (64:Nat)))) * (Int.fdiv y ((2:Int) ^ (Min.min (Int.toNat (32:Int)) (64:Nat)))))) + (Int.fdiv (Go.IntKind.wrap Go.IntKind.u64 ((Go.IntKind.wrap Go.IntKind.u64 ((Int.fdiv x_ ((2:Int) ^ (Min.min (Int.toNat (32:Int)) (64:Nat)))) * (Go.IntKind.wrap Go.IntKind.u64 (((BitVec.toNat (HAnd.hAnd (BitVec.ofInt (64:Nat) y) (BitVec.ofInt (64:Nat) (4294967295:Int)))) : Nat) : Int)))) + (Int.fdiv (Go.IntKind.wrap Go.IntKind.u64 ((Go.IntKind.wrap Go.IntKind.u64 (((BitVec.toNat (HAnd.hAnd (BitVec.ofInt (64:Nat) x_) (BitVec.ofInt (64:Nat) (4294967295:Int)))) : Nat) : Int)) * (Go.IntKind.wrap Go.IntKind.u64 (((BitVec.toNat (HAnd.hAnd (BitVec.ofInt (64:Nat) y) (BitVec.ofInt (64:Nat) (4294967295:Int)))) : Nat) : Int)))) ((2:Int) ^ (Min.min (Int.toNat (32:Int)) (64:Nat)))))) ((2:Int) ^ (Min.min (Int.toNat (32:Int)) (64:Nat)))))) + (Int.fdiv (Go.IntKind.wrap Go.IntKind.u64 ((Go.IntKind.wrap Go.IntKind.u64 (((BitVec.toNat (HAnd.hAnd (BitVec.ofInt (64:Nat) (Go.IntKind.wrap Go.IntKind.u64 ((Go.IntKind.wrap Go.IntKind.u64 ((Int.fdiv x_ ((2:Int) ^ (Min.min (Int.toNat (32:Int)) (64:Nat)))) * (Go.IntKind.wrap Go.IntKind.u64 (((BitVec.toNat (HAnd.hAnd (BitVec.ofInt (64:Nat) y) (BitVec.ofInt (64:Nat) (4294967295:Int)))) : Nat) : Int)))) + (Int.fdiv (Go.IntKind.wrap Go.IntKind.u64 ((Go.IntKind.wrap Go.IntKind.u64 (((BitVec.toNat (HAnd.hAnd (BitVec.ofInt (64:Nat) x_) (BitVec.ofInt (64:Nat) (4294967295:Int)))) : Nat) : Int)) * (Go.IntKind.wrap Go.IntKind.u64 (((BitVec.toNat (HAnd.hAnd (BitVec.ofInt (64:Nat) y) (BitVec.ofInt (64:Nat) (4294967295:Int)))) : Nat) : Int)))) ((2:Int) ^ (Min.min (Int.toNat (32:Int)) (64:Nat))))))) (BitVec.ofInt (64:Nat) (4294967295:Int)))) : Nat) : Int)) + (Go.IntKind.wrap Go.IntKind.u64 ((Go.IntKind.wrap Go.IntKind.u64 (((BitVec.toNat (HAnd.hAnd (BitVec.ofInt (64:Nat) x_) (BitVec.ofInt (64:Nat) (4294967295:Int)))) : Nat) : Int)) * (Int.fdiv y ((2:Int) ^ (Min.min (Int.toNat (32:Int)) (64:Nat)))))))) ((2:Int) ^ (Min.min (Int.toNat (32:Int)) (64:Nat)))))), ((Go.IntKind.wrap Go.IntKind.u64 (x_ * y)), ())), ()))
theorem bits_Mul64.eq (x : ((Int × Int × Unit) × (Unit))) : (bodyO (bits_Mul64.E) (mk bits_Mul64.hs bits_Mul64.c []) Go.Proofs.Tryd.f71.results.toList bits_Mul64.sh bits_Mul64.osh x).run _ some = bits_Mul64.f x.1.1 x.1.2.1 := by
  show _ = (_ : Option _)
  kernel_rfl
noncomputable def bits_Mul64 (x_ : Int) (y : Int) : Option ((Int × Int × Unit) × (Unit)) := bits_Mul64.f x_ y
noncomputable def bits_Mul64.F (x : ((Int × Int × Unit) × (Unit))) : Option ((Int × Int × Unit) × (Unit)) := bits_Mul64 x.1.1 x.1.2.1
theorem bits_Mul64.F_eq (x_ : Int) (y : Int) : bits_Mul64.F ((x_, y, ()), ()) = bits_Mul64.f x_ y := rfl
theorem bits_Mul64.ok {tabs : List (Nat × Go.Obj)} (ht : TabsOk tabs) : FOK Go.Proofs.Tryd.prog tabs 71 (FE.of [true, true] false bits_Mul64.sh bits_Mul64.osh bits_Mul64.F) := by
  refine fn_keeps (E := (bits_Mul64.E)) (c := bits_Mul64.c) (fn := Go.Proofs.Tryd.f71) (hs := bits_Mul64.hs) (by kernel_rfl) Go.Proofs.Tryd.func71 ⟨by kernel_rfl, by kernel_rfl, tb, by kernel_rfl, by kernel_rfl, by kernel_rfl, by kernel_rfl, by kernel_rfl⟩ ⟨fun g ks fe h => ?_, gt_ok ht⟩ ?_ (fun x => bits_Mul64.eq x)
  · cases h
  · exact known_at 0 (by kernel_rfl) fun i hi => absurd hi (Nat.not_lt_zero i)

/-! ratio_Cmp -/
def ratio_Cmp.f0 (g_ratio_Valid : (((Int × Int × Unit) × Unit) × (Unit)) → Option ((Bool × Unit) × (Unit))) (o0_0 : Int) (o0_1 : Int) (o1_0 : Int) (o1_1 : Int) : Option (((Unit × Unit × Bool × Unit) × ((Int × Int × Unit) × (Int × Int × Unit) × Unit)) ⊕ Empty) :=
  (Option.bind (g_ratio_Valid (((o0_0, (o0_1, ())), ()), ())) (fun y0 =>
  (bif (!y0.1.1) then
   (some (Sum.inl (((), ((), (Bool.true, ()))), ((o0_0, (o0_1, ())), ((o1_0, (o1_1, ())), ())))))
  else
   (Option.bind (g_ratio_Valid (((o1_0, (o1_1, ())), ()), ())) (fun y2 =>
   (some (Sum.inl (((), ((), ((!y2.1.1), ()))), ((o0_0, (o0_1, ())), ((o1_0, (o1_1, ())), ()))))))))))
theorem ratio_Cmp.eq0 (g_ratio_Valid : ratio_Valid.sh.X → Option ratio_Valid.osh.X) (g_bits_Mul64 : bits_Mul64.sh.X → Option bits_Mul64.osh.X) (l0 : ratio_Cmp.s0.X → Option (sumX ratio_Cmp.x0)) (l1 : ratio_Cmp.s1.X → Option (sumX ratio_Cmp.x1)) (L : ((Unit × Unit × Unit) × ((Int × Int × Unit) × (Int × Int × Unit) × Unit)) → Option (((Unit × Unit × Bool × Unit) × ((Int × Int × Unit) × (Int × Int × Unit) × Unit)) ⊕ Empty)) (x : ((Unit × Unit × Unit) × ((Int × Int × Unit) × (Int × Int × Unit) × Unit))) : (roundK (ratio_Cmp.E g_ratio_Valid g_bits_Mul64 l0 l1) ratio_Cmp.s0 [2, 3] [(0, [2, 3, 16])] false (((mk ratio_Cmp.hs ratio_Cmp.c []).atoms.getD 0 .bad).body) ratio_Cmp.x0 L x).run _ some = ratio_Cmp.f0 g_ratio_Valid x.2.1.1 x.2.1.2.1 x.2.2.1.1 x.2.2.1.2.1 := by
  show _ = (_ : Option _)
  kernel_rfl
noncomputable def ratio_Cmp.L0 : ((Unit × Unit × Unit) × ((Int × Int × Unit) × (Int × Int × Unit) × Unit)) → Option (((Unit × Unit × Bool × Unit) × ((Int × Int × Unit) × (Int × Int × Unit) × Unit)) ⊕ Empty) := fun x => ratio_Cmp.f0 ratio_Valid.F x.2.1.1 x.2.1.2.1 x.2.2.1.1 x.2.2.1.2.1
def ratio_Cmp.f1 (high_5 : Int) (low_6 : Int) (other_7 : Int) (rest_8 : Int) : Option (((Int × Int × Int × Int × Bool × Unit) × (Unit)) ⊕ Empty) :=
  (bif (decide (high_5 < other_7)) then
   (some (Sum.inl ((high_5, (low_6, (other_7, (rest_8, (Bool.true, ()))))), ())))
  else
   (bif (high_5 == other_7) then
    (some (Sum.inl ((high_5, (low_6, (other_7, (rest_8, ((decide (low_6 < rest_8)), ()))))), ())))
   else
    (some (Sum.inl ((high_5, (low_6, (other_7, (rest_8, (Bool.false, ()))))), ())))))
theorem ratio_Cmp.eq1 (g_ratio_Valid : ratio_Valid.sh.X → Option ratio_Valid.osh.X) (g_bits_Mul64 : bits_Mul64.sh.X → Option bits_Mul64.osh.X) (l0 : ratio_Cmp.s0.X → Option (sumX ratio_Cmp.x0)) (l1 : ratio_Cmp.s1.X → Option (sumX ratio_Cmp.x1)) (L : ((Int × Int × Int × Int × Unit) × (Unit)) → Option (((Int × Int × Int × Int × Bool × Unit) × (Unit)) ⊕ Empty)) (x : ((Int × Int × Int × Int × Unit) × (Unit))) : (roundK (ratio_Cmp.E g_ratio_Valid g_bits_Mul64 l0 l1) ratio_Cmp.s1 [5, 6, 7, 8] [(0, [5, 6, 7, 8, 37])] false (((mk ratio_Cmp.hs ratio_Cmp.c []).atoms.getD 1 .bad).body) ratio_Cmp.x1 L x).run _ some = ratio_Cmp.f1 x.1.1 x.1.2.1 x.1.2.2.1 x.1.2.2.2.1 := by
  show _ = (_ : Option _)
  kernel_rfl
noncomputable def ratio_Cmp.L1 : ((Int × Int × Int × Int × Unit) × (Unit)) → Option (((Int × Int × Int × Int × Bool × Unit) × (Unit)) ⊕ Empty) := fun x => ratio_Cmp.f1 x.1.1 x.1.2.1 x.1.2.2.1 x.1.2.2.2.1
def ratio_Cmp.f (g_bits_Mul64 : ((Int × Int × Unit) × (Unit)) → Option ((Int × Int × Unit) × (Unit))) (l0 : ((Unit × Unit × Unit) × ((Int × Int × Unit) × (Int × Int × Unit) × Unit)) → Option (((Unit × Unit × Bool × Unit) × ((Int × Int × Unit) × (Int × Int × Unit) × Unit)) ⊕ Empty)) (l1 : ((Int × Int × Int × Int × Unit) × (Unit)) → Option (((Int × Int × Int × Int × Bool × Unit) × (Unit)) ⊕ Empty)) (a_Num : Int) (a_Den : Int) (b_Num : Int) (b_Den : Int) : Option ((Int × Unit) × (Unit)) :=
  (Option.bind (l0 (((), ((), ())), ((a_Num, (a_Den, ())), ((b_Num, (b_Den, ())), ())))) (fun y0 =>
  (Sum.elim (fun a1 =>
   (bif a1.1.2.2.1 then
    (some (((0:Int), ()), ()))
   else
    (Option.bind (g_bits_Mul64 (((Go.IntKind.wrap Go.IntKind.u64 a1.2.1.1), ((Go.IntKind.wrap Go.IntKind.u64 a1.2.2.1.2.1), ())), ())) (fun y3 =>
    (Option.bind (g_bits_Mul64 (((Go.IntKind.wrap Go.IntKind.u64 a1.2.2.1.1), ((Go.IntKind.wrap Go.IntKind.u64 a1.2.1.2.1), ())), ())) (fun y4 =>
    (Option.bind (l1 ((y3.1.1, (y3.1.2.1, (y4.1.1, (y4.1.2.1, ())))), ())) (fun y5 =>
    (Sum.elim (fun a6 =>
     (bif a6.1.2.2.2.2.1 then
      (some (((-(1:Int)), ()), ()))
     else
      (bif (a6.1.1 == a6.1.2.2.1) then
       (bif (a6.1.2.1 == a6.1.2.2.2.1) then
        (some (((0:Int), ()), ()))
       else
        (some (((1:Int), ()), ())))
      else
       (some (((1:Int), ()), ()))))) (fun b6 =>
     (Empty.elim b6)) y5))))))))) (fun b1 =>
   (Empty.elim b1)) y0)))
theorem ratio_Cmp.eq (g_ratio_Valid : ratio_Valid.sh.X → Option ratio_Valid.osh.X) (g_bits_Mul64 : bits_Mul64.sh.X → Option bits_Mul64.osh.X) (l0 : ratio_Cmp.s0.X → Option (sumX ratio_Cmp.x0)) (l1 : ratio_Cmp.s1.X → Option (sumX ratio_Cmp.x1)) (x : (((Int × Int × Unit) × (Int × Int × Unit) × Unit) × (Unit))) : (bodyO (ratio_Cmp.E g_ratio_Valid g_bits_Mul64 l0 l1) (mk ratio_Cmp.hs ratio_Cmp.c []) Go.Proofs.Tryd.f55.results.toList ratio_Cmp.sh ratio_Cmp.osh x).run _ some = ratio_Cmp.f g_bits_Mul64 l0 l1 x.1.1.1 x.1.1.2.1 x.1.2.1.1 x.1.2.1.2.1 := by
  show _ = (_ : Option _)
  kernel_rfl
noncomputable def ratio_Cmp (a_Num : Int) (a_Den : Int) (b_Num : Int) (b_Den : Int) : Option ((Int × Unit) × (Unit)) := ratio_Cmp.f bits_Mul64.F ratio_Cmp.L0 ratio_Cmp.L1 a_Num a_Den b_Num b_Den
noncomputable def ratio_Cmp.F (x : (((Int × Int × Unit) × (Int × Int × Unit) × Unit) × (Unit))) : Option ((Int × Unit) × (Unit)) := ratio_Cmp x.1.1.1 x.1.1.2.1 x.1.2.1.1 x.1.2.1.2.1
theorem ratio_Cmp.L0_eq (o0_0 : Int) (o0_1 : Int) (o1_0 : Int) (o1_1 : Int) : ratio_Cmp.L0 (((), (), ()), ((o0_0, o0_1, ()), (o1_0, o1_1, ()), ())) = ratio_Cmp.f0 ratio_Valid.F o0_0 o0_1 o1_0 o1_1 := rfl
theorem ratio_Cmp.L1_eq (high_5 : Int) (low_6 : Int) (other_7 : Int) (rest_8 : Int) : ratio_Cmp.L1 ((high_5, low_6, other_7, rest_8, ()), ()) = ratio_Cmp.f1 high_5 low_6 other_7 rest_8 := rfl
theorem ratio_Cmp.F_eq (a_Num : Int) (a_Den : Int) (b_Num : Int) (b_Den : Int) : ratio_Cmp.F (((a_Num, a_Den, ()), (b_Num, b_Den, ()), ()), ()) = ratio_Cmp.f bits_Mul64.F ratio_Cmp.L0 ratio_Cmp.L1 a_Num a_Den b_Num b_Den := rfl
theorem ratio_Cmp.ok {tabs : List (Nat × Go.Obj)} (ht : TabsOk tabs) : FOK Go.Proofs.Tryd.prog tabs 55 (FE.of [true, true] false ratio_Cmp.sh ratio_Cmp.osh ratio_Cmp.F) := by
  refine fn_keeps (E := (ratio_Cmp.E ratio_Valid.F bits_Mul64.F ratio_Cmp.L0 ratio_Cmp.L1)) (c := ratio_Cmp.c) (fn := Go.Proofs.Tryd.f55) (hs := ratio_Cmp.hs) (by kernel_rfl) Go.Proofs.Tryd.func55 ⟨by kernel_rfl, by kernel_rfl, tb, by kernel_rfl, by kernel_rfl, by kernel_rfl, by kernel_rfl, by kernel_rfl⟩ ⟨fun g ks fe h => ?_, gt_ok ht⟩ ?_ (fun x => ratio_Cmp.eq ratio_Valid.F bits_Mul64.F ratio_Cmp.L0 ratio_Cmp.L1 x)
  · rcases c_cons h with ⟨rfl, rfl⟩ | h
    · exact ratio_Valid.ok ht
    rcases c_cons h with ⟨rfl, rfl⟩ | h
    · exact bits_Mul64.ok ht
    cases h
  · refine known_at 2 (by kernel_rfl) fun i hi => ?_
    match i, hi with
    | 0, _ => exact atom_at (id := 0) (live := [2, 3]) (outs := [(0, [2, 3, 16])]) (loop := false) (by kernel_rfl) (cut_ok (E := (ratio_Cmp.E ratio_Valid.F bits_Mul64.F ratio_Cmp.L0 ratio_Cmp.L1)) (sh := ratio_Cmp.s0) (es := ratio_Cmp.x0) rfl (fun L x => ratio_Cmp.eq0 ratio_Valid.F bits_Mul64.F ratio_Cmp.L0 ratio_Cmp.L1 L x))
    | 1, _ => exact atom_at (id := 1) (live := [5, 6, 7, 8]) (outs := [(0, [5, 6, 7, 8, 37])]) (loop := false) (by kernel_rfl) (cut_ok (E := (ratio_Cmp.E ratio_Valid.F bits_Mul64.F ratio_Cmp.L0 ratio_Cmp.L1)) (sh := ratio_Cmp.s1) (es := ratio_Cmp.x1) rfl (fun L x => ratio_Cmp.eq1 ratio_Valid.F bits_Mul64.F ratio_Cmp.L0 ratio_Cmp.L1 L x))
    | n + 2, h => exact absurd h (by omega)

/-! ratio_Less -/
def ratio_Less.f (g_ratio_Cmp : (((Int × Int × Unit) × (Int × Int × Unit) × Unit) × (Unit)) → Option ((Int × Unit) × (Unit))) (a_Num : Int) (a_Den : Int) (b_Num : Int) (b_Den : Int) : Option ((Bool × Unit) × (Unit)) :=
  (Option.bind (g_ratio_Cmp (((a_Num, (a_Den, ())), ((b_Num, (b_Den, ())), ())), ())) (fun y0 =>
  (some (((decide (y0.1.1 < (0:Int))), ()), ()))))
theorem ratio_Less.eq (g_ratio_Cmp : ratio_Cmp.sh.X → Option ratio_Cmp.osh.X) (x : (((Int × Int × Unit) × (Int × Int × Unit) × Unit) × (Unit))) : (bodyO (ratio_Less.E g_ratio_Cmp) (mk ratio_Less.hs ratio_Less.c []) Go.Proofs.Tryd.f35.results.toList ratio_Less.sh ratio_Less.osh x).run _ some = ratio_Less.f g_ratio_Cmp x.1.1.1 x.1.1.2.1 x.1.2.1.1 x.1.2.1.2.1 := by
  show _ = (_ : Option _)
  kernel_rfl
noncomputable def ratio_Less (a_Num : Int) (a_Den : Int) (b_Num : Int) (b_Den : Int) : Option ((Bool × Unit) × (Unit)) := ratio_Less.f ratio_Cmp.F a_Num a_Den b_Num b_Den
noncomputable def ratio_Less.F (x : (((Int × Int × Unit) × (Int × Int × Unit) × Unit) × (Unit))) : Option ((Bool × Unit) × (Unit)) := ratio_Less x.1.1.1 x.1.1.2.1 x.1.2.1.1 x.1.2.1.2.1
theorem ratio_Less.F_eq (a_Num : Int) (a_Den : Int) (b_Num : Int) (b_Den : Int) : ratio_Less.F (((a_Num, a_Den, ()), (b_Num, b_Den, ()), ()), ()) = ratio_Less.f ratio_Cmp.F a_Num a_Den b_Num b_Den := rfl
theorem ratio_Less.ok {tabs : List (Nat × Go.Obj)} (ht : TabsOk tabs) : FOK Go.Proofs.Tryd.prog tabs 35 (FE.of [true, true] false ratio_Less.sh ratio_Less.osh ratio_Less.F) := by
  refine fn_keeps (E := (ratio_Less.E ratio_Cmp.F)) (c := ratio_Less.c) (fn := Go.Proofs.Tryd.f35) (hs := ratio_Less.hs) (by kernel_rfl) Go.Proofs.Tryd.func35 ⟨by kernel_rfl, by kernel_rfl, tb, by kernel_rfl, by kernel_rfl, by kernel_rfl, by kernel_rfl, by kernel_rfl⟩ ⟨fun g ks fe h => ?_, gt_ok ht⟩ ?_ (fun x => ratio_Less.eq ratio_Cmp.F x)
  · rcases c_cons h with ⟨rfl, rfl⟩ | h
    · exact ratio_Cmp.ok ht
    cases h
  · exact known_at 0 (by kernel_rfl) fun i hi => absurd hi (Nat.not_lt_zero i)

/-! measure_Within -/
def measure_Within.f0 (g_ratio_Valid : (((Int × Int × Unit) × Unit) × (Unit)) → Option ((Bool × Unit) × (Unit))) (g_ratio_Less : (((Int × Int × Unit) × (Int × Int × Unit) × Unit) × (Unit)) → Option ((Bool × Unit) × (Unit))) (e_11 : Int) (o0_0 : Int) (o0_1 : Int) (o1_0 : Int) (o1_1 : Int) (o2_0 : Int) (o2_1 : Int) : Option (((Unit × Unit × Bool × Unit) × ((Int × Int × Unit) × (Int × Int × Unit) × Unit)) ⊕ Empty) :=
  (bif (e_11 != (0:Int)) then
   (some (Sum.inl (((), ((), (Bool.true, ()))), ((o1_0, (o1_1, ())), ((o2_0, (o2_1, ())), ())))))
  else
   (Option.bind (g_ratio_Valid (((o0_0, (o0_1, ())), ()), ())) (fun y1 =>
   (bif (!y1.1.1) then
    (some (Sum.inl (((), ((), (Bool.true, ()))), ((o1_0, (o1_1, ())), ((o2_0, (o2_1, ())), ())))))
   else
    (Option.bind (g_ratio_Less (((o0_0, (o0_1, ())), ((o2_0, (o2_1, ())), ())), ())) (fun y3 =>
    (some (Sum.inl (((), ((), (y3.1.1, ()))), ((o1_0, (o1_1, ())), ((o2_0, (o2_1, ())), ())))))))))))
theorem measure_Within.eq0 (g_measure_Distance : measure_Distance.sh.X → Option measure_Distance.osh.X) (g_ratio_Valid : ratio_Valid.sh.X → Option ratio_Valid.osh.X) (g_ratio_Less : ratio_Less.sh.X → Option ratio_Less.osh.X) (l0 : measure_Within.s0.X → Option (sumX measure_Within.x0)) (L : ((Unit × Unit × Unit × Int × Unit) × ((Int × Int × Unit) × (Int × Int × Unit) × (Int × Int × Unit) × Unit)) → Option (((Unit × Unit × Bool × Unit) × ((Int × Int × Unit) × (Int × Int × Unit) × Unit)) ⊕ Empty)) (x : ((Unit × Unit × Unit × Int × Unit) × ((Int × Int × Unit) × (Int × Int × Unit) × (Int × Int × Unit) × Unit))) : (roundK (measure_Within.E g_measure_Distance g_ratio_Valid g_ratio_Less l0) measure_Within.s0 [7, 8, 10, 11] [(0, [8, 10, 30])] false (((mk measure_Within.hs measure_Within.c []).atoms.getD 0 .bad).body) measure_Within.x0 L x).run _ some = measure_Within.f0 g_ratio_Valid g_ratio_Less x.1.2.2.2.1 x.2.1.1 x.2.1.2.1 x.2.2.1.1 x.2.2.1.2.1 x.2.2.2.1.1 x.2.2.2.1.2.1 := by
  show _ = (_ : Option _)
  kernel_rfl
noncomputable def measure_Within.L0 : ((Unit × Unit × Unit × Int × Unit) × ((Int × Int × Unit) × (Int × Int × Unit) × (Int × Int × Unit) × Unit)) → Option (((Unit × Unit × Bool × Unit) × ((Int × Int × Unit) × (Int × Int × Unit) × Unit)) ⊕ Empty) := fun x => measure_Within.f0 ratio_Valid.F ratio_Less.F x.1.2.2.2.1 x.2.1.1 x.2.1.2.1 x.2.2.1.1 x.2.2.1.2.1 x.2.2.2.1.1 x.2.2.2.1.2.1
def measure_Within.f (g_measure_Distance : (((Int × Int × Int × Unit) × (List Int) × (List Int) × Unit) × (Unit)) → Option (((Int × Int × Unit) × Int × Unit) × (Unit))) (l0 : ((Unit × Unit × Unit × Int × Unit) × ((Int × Int × Unit) × (Int × Int × Unit) × (Int × Int × Unit) × Unit)) → Option (((Unit × Unit × Bool × Unit) × ((Int × Int × Unit) × (Int × Int × Unit) × Unit)) ⊕ Empty)) (m_Kind : Int) (m_Band : Int) (m_Gap : Int) (x_ : (List Int)) (y : (List Int)) (limit_Num : Int) (limit_Den : Int) : Option (((Int × Int × Unit) × Bool × Unit) × (Unit)) :=
  (Option.bind (g_measure_Distance (((m_Kind, (m_Band, (m_Gap, ()))), (x_, (y, ()))), ())) (fun y0 =>
  (Option.bind (l0 (((), ((), ((), (y0.1.2.1, ())))), ((limit_Num, (limit_Den, ())), (((0:Int), ((0:Int), ())), ((y0.1.1.1, (y0.1.1.2.1, ())), ()))))) (fun y1 =>
  (Sum.elim (fun a2 =>
   (bif a2.1.2.2.1 then
    (some ((((0:Int), ((1:Int), ())), (Bool.false, ())), ()))
   else
    (some (((a2.2.2.1.1, (a2.2.2.1.2.1, ())), (Bool.true, ())), ())))) (fun b2 =>
   (Empty.elim b2)) y1)))))
theorem measure_Within.eq (g_measure_Distance : measure_Distance.sh.X → Option measure_Distance.osh.X) (g_ratio_Valid : ratio_Valid.sh.X → Option ratio_Valid.osh.X) (g_ratio_Less : ratio_Less.sh.X → Option ratio_Less.osh.X) (l0 : measure_Within.s0.X → Option (sumX measure_Within.x0)) (x : (((Int × Int × Int × Unit) × (List Int) × (List Int) × (Int × Int × Unit) × Unit) × (Unit))) : (bodyO (measure_Within.E g_measure_Distance g_ratio_Valid g_ratio_Less l0) (mk measure_Within.hs measure_Within.c []) Go.Proofs.Tryd.f20.results.toList measure_Within.sh measure_Within.osh x).run _ some = measure_Within.f g_measure_Distance l0 x.1.1.1 x.1.1.2.1 x.1.1.2.2.1 x.1.2.1 x.1.2.2.1 x.1.2.2.2.1.1 x.1.2.2.2.1.2.1 := by
  show _ = (_ : Option _)
  kernel_rfl
noncomputable def measure_Within (m_Kind : Int) (m_Band : Int) (m_Gap : Int) (x_ : (List Int)) (y : (List Int)) (limit_Num : Int) (limit_Den : Int) : Option (((Int × Int × Unit) × Bool × Unit) × (Unit)) := measure_Within.f measure_Distance.F measure_Within.L0 m_Kind m_Band m_Gap x_ y limit_Num limit_Den
noncomputable def measure_Within.F (x : (((Int × Int × Int × Unit) × (List Int) × (List Int) × (Int × Int × Unit) × Unit) × (Unit))) : Option (((Int × Int × Unit) × Bool × Unit) × (Unit)) := measure_Within x.1.1.1 x.1.1.2.1 x.1.1.2.2.1 x.1.2.1 x.1.2.2.1 x.1.2.2.2.1.1 x.1.2.2.2.1.2.1
theorem measure_Within.L0_eq (e_11 : Int) (o0_0 : Int) (o0_1 : Int) (o1_0 : Int) (o1_1 : Int) (o2_0 : Int) (o2_1 : Int) : measure_Within.L0 (((), (), (), e_11, ()), ((o0_0, o0_1, ()), (o1_0, o1_1, ()), (o2_0, o2_1, ()), ())) = measure_Within.f0 ratio_Valid.F ratio_Less.F e_11 o0_0 o0_1 o1_0 o1_1 o2_0 o2_1 := rfl
theorem measure_Within.F_eq (m_Kind : Int) (m_Band : Int) (m_Gap : Int) (x_ : (List Int)) (y : (List Int)) (limit_Num : Int) (limit_Den : Int) : measure_Within.F (((m_Kind, m_Band, m_Gap, ()), x_, y, (limit_Num, limit_Den, ()), ()), ()) = measure_Within.f measure_Distance.F measure_Within.L0 m_Kind m_Band m_Gap x_ y limit_Num limit_Den := rfl
theorem measure_Within.ok {tabs : List (Nat × Go.Obj)} (ht : TabsOk tabs) : FOK Go.Proofs.Tryd.prog tabs 20 (FE.of [true, true, true, true] false measure_Within.sh measure_Within.osh measure_Within.F) := by
  refine fn_keeps (E := (measure_Within.E measure_Distance.F ratio_Valid.F ratio_Less.F measure_Within.L0)) (c := measure_Within.c) (fn := Go.Proofs.Tryd.f20) (hs := measure_Within.hs) (by kernel_rfl) Go.Proofs.Tryd.func20 ⟨by kernel_rfl, by kernel_rfl, tb, by kernel_rfl, by kernel_rfl, by kernel_rfl, by kernel_rfl, by kernel_rfl⟩ ⟨fun g ks fe h => ?_, gt_ok ht⟩ ?_ (fun x => measure_Within.eq measure_Distance.F ratio_Valid.F ratio_Less.F measure_Within.L0 x)
  · rcases c_cons h with ⟨rfl, rfl⟩ | h
    · exact measure_Distance.ok ht
    rcases c_cons h with ⟨rfl, rfl⟩ | h
    · exact ratio_Valid.ok ht
    rcases c_cons h with ⟨rfl, rfl⟩ | h
    · exact ratio_Less.ok ht
    cases h
  · refine known_at 1 (by kernel_rfl) fun i hi => ?_
    match i, hi with
    | 0, _ => exact atom_at (id := 0) (live := [7, 8, 10, 11]) (outs := [(0, [8, 10, 30])]) (loop := false) (by kernel_rfl) (cut_ok (E := (measure_Within.E measure_Distance.F ratio_Valid.F ratio_Less.F measure_Within.L0)) (sh := measure_Within.s0) (es := measure_Within.x0) rfl (fun L x => measure_Within.eq0 measure_Distance.F ratio_Valid.F ratio_Less.F measure_Within.L0 L x))
    | n + 1, h => exact absurd h (by omega)

/-! ref01_order -/
def ref01_order.f0 (a_0 : Int) (b_1 : Int) (c_2 : Int) (d_3 : Int) : Option (((Int × Int × Int × Int × Bool × Unit) × (Unit)) ⊕ Empty) :=
  (bif (a_0 == (0:Int)) then
   (some (Sum.inl ((a_0, (b_1, (c_2, (d_3, ((c_2 == (0:Int)), ()))))), ())))
  else
   (some (Sum.inl ((a_0, (b_1, (c_2, (d_3, (Bool.false, ()))))), ()))))
theorem ref01_order.eq0 (g_ref01_order : ref01_order.sh.X → Option ref01_order.osh.X) (l0 : ref01_order.s0.X → Option (sumX ref01_order.x0)) (L : ((Int × Int × Int × Int × Unit) × (Unit)) → Option (((Int × Int × Int × Int × Bool × Unit) × (Unit)) ⊕ Empty)) (x : ((Int × Int × Int × Int × Unit) × (Unit))) : (roundK (ref01_order.E g_ref01_order l0) ref01_order.s0 [0, 1, 2, 3] [(0, [0, 1, 2, 3, 29])] false (((mk ref01_order.hs ref01_order.c []).atoms.getD 0 .bad).body) ref01_order.x0 L x).run _ some = ref01_order.f0 x.1.1 x.1.2.1 x.1.2.2.1 x.1.2.2.2.1 := by
  show _ = (_ : Option _)
  kernel_rfl
noncomputable def ref01_order.L0 (g : ((Int × Int × Int × Int × Unit) × (Unit)) → Option ((Int × Unit) × (Unit))) : ((Int × Int × Int × Int × Unit) × (Unit)) → Option (((Int × Int × Int × Int × Bool × Unit) × (Unit)) ⊕ Empty) := fun x => ref01_order.f0 x.1.1 x.1.2.1 x.1.2.2.1 x.1.2.2.2.1
def ref01_order.f (g_ref01_order : ((Int × Int × Int × Int × Unit) × (Unit)) → Option ((Int × Unit) × (Unit))) (l0 : ((Int × Int × Int × Int × Unit) × (Unit)) → Option (((Int × Int × Int × Int × Bool × Unit) × (Unit)) ⊕ Empty)) (a : Int) (b : Int) (c : Int) (d : Int) : Option ((Int × Unit) × (Unit)) :=
  (bif (!(decide (b = (0:Int)))) then
   (bif (!(decide (d = (0:Int)))) then
    (bif ((Go.IntKind.wrap Go.IntKind.i64 (Int.tdiv a b)) != (Go.IntKind.wrap Go.IntKind.i64 (Int.tdiv c d))) then
     (bif (decide ((Go.IntKind.wrap Go.IntKind.i64 (Int.tdiv a b)) < (Go.IntKind.wrap Go.IntKind.i64 (Int.tdiv c d)))) then
      (some (((-(1:Int)), ()), ()))
     else
      (some (((1:Int), ()), ())))
    else
     (bif (!(decide (b = (0:Int)))) then
      (bif (!(decide (d = (0:Int)))) then
       (Option.bind (l0 (((Int.tmod a b), (b, ((Int.tmod c d), (d, ())))), ())) (fun y5 =>
       (Sum.elim (fun a6 =>
        (bif a6.1.2.2.2.2.1 then
         (some (((0:Int), ()), ()))
        else
         (bif (a6.1.1 == (0:Int)) then
          (some (((-(1:Int)), ()), ()))
         else
          (bif (a6.1.2.2.1 == (0:Int)) then
           (some (((1:Int), ()), ()))
          else
           (Option.bind (g_ref01_order ((a6.1.2.2.2.1, (a6.1.2.2.1, (a6.1.2.1, (a6.1.1, ())))), ())) (fun y10 =>
           (some ((y10.1.1, ()), ())))))))) (fun b6 =>
        (Empty.elim b6)) y5)))
      else
       none)
     else
      none))
   else
    none)
  else
   none)
theorem ref01_order.eq (g_ref01_order : ref01_order.sh.X → Option ref01_order.osh.X) (l0 : ref01_order.s0.X → Option (sumX ref01_order.x0)) (x : ((Int × Int × Int × Int × Unit) × (Unit))) : (bodyO (ref01_order.E g_ref01_order l0) (mk ref01_order.hs ref01_order.c []) Go.Proofs.Tryd.f36.results.toList ref01_order.sh ref01_order.osh x).run _ some = ref01_order.f g_ref01_order l0 x.1.1 x.1.2.1 x.1.2.2.1 x.1.2.2.2.1 := by
  show _ = (_ : Option _)
  kernel_rfl
noncomputable def ref01_order.S (g : ((Int × Int × Int × Int × Unit) × (Unit)) → Option ((Int × Unit) × (Unit))) (x : ((Int × Int × Int × Int × Unit) × (Unit))) : Option ((Int × Unit) × (Unit)) := ref01_order.f g (ref01_order.L0 g) x.1.1 x.1.2.1 x.1.2.2.1 x.1.2.2.2.1
noncomputable def ref01_order.F : ((Int × Int × Int × Int × Unit) × (Unit)) → Option ((Int × Unit) × (Unit)) := recR ref01_order.S 200
theorem ref01_order.R_eq (n : Nat) (a : Int) (b : Int) (c : Int) (d : Int) : recR ref01_order.S (n + 1) ((a, b, c, d, ()), ()) = (fun g => ref01_order.f g (ref01_order.L0 g) a b c d) (recR ref01_order.S n) := rfl
noncomputable def ref01_order (a : Int) (b : Int) (c : Int) (d : Int) : Option ((Int × Unit) × (Unit)) := ref01_order.F ((a, b, c, d, ()), ())
theorem ref01_order.L0_eq (g : ((Int × Int × Int × Int × Unit) × (Unit)) → Option ((Int × Unit) × (Unit))) (a_0 : Int) (b_1 : Int) (c_2 : Int) (d_3 : Int) : ref01_order.L0 g ((a_0, b_1, c_2, d_3, ()), ()) = ref01_order.f0 a_0 b_1 c_2 d_3 := rfl
theorem ref01_order.okS {tabs : List (Nat × Go.Obj)} (ht : TabsOk tabs) (g : ((Int × Int × Int × Int × Unit) × (Unit)) → Option ((Int × Unit) × (Unit))) (hg : FOK Go.Proofs.Tryd.prog tabs 36 (FE.of [true, true, true, true] false ref01_order.sh ref01_order.osh g)) : FOK Go.Proofs.Tryd.prog tabs 36 (FE.of [true, true, true, true] false ref01_order.sh ref01_order.osh (ref01_order.S g)) := by
  refine fn_keeps (E := (ref01_order.E g (ref01_order.L0 g))) (c := ref01_order.c) (fn := Go.Proofs.Tryd.f36) (hs := ref01_order.hs) (by kernel_rfl) Go.Proofs.Tryd.func36 ⟨by kernel_rfl, by kernel_rfl, tb, by kernel_rfl, by kernel_rfl, by kernel_rfl, by kernel_rfl, by kernel_rfl⟩ ⟨fun g ks fe h => ?_, gt_ok ht⟩ ?_ (fun x => ref01_order.eq g (ref01_order.L0 g) x)
  · rcases c_cons h with ⟨rfl, rfl⟩ | h
    · exact hg
    cases h
  · refine known_at 1 (by kernel_rfl) fun i hi => ?_
    match i, hi with
    | 0, _ => exact atom_at (id := 0) (live := [0, 1, 2, 3]) (outs := [(0, [0, 1, 2, 3, 29])]) (loop := false) (by kernel_rfl) (cut_ok (E := (ref01_order.E g (ref01_order.L0 g))) (sh := ref01_order.s0) (es := ref01_order.x0) rfl (fun L x => ref01_order.eq0 g (ref01_order.L0 g) L x))
    | n + 1, h => exact absurd h (by omega)
theorem ref01_order.ok {tabs : List (Nat × Go.Obj)} (ht : TabsOk tabs) : FOK Go.Proofs.Tryd.prog tabs 36 (FE.of [true, true, true, true] false ref01_order.sh ref01_order.osh ref01_order.F) :=
  rec_ok (lend := [true, true, true, true]) (ret := false) (sh := ref01_order.sh) (osh := ref01_order.osh) (S := ref01_order.S) Go.Proofs.Tryd.func36 (c := ref01_order.c) (by kernel_rfl) (by kernel_rfl) (fun g hg => ref01_order.okS ht g hg) _

/-! ref01_Cmp -/
def ref01_Cmp.f0 (g_ref01_Valid : (((Int × Int × Unit) × Unit) × (Unit)) → Option ((Bool × Unit) × (Unit))) (o0_0 : Int) (o0_1 : Int) (o1_0 : Int) (o1_1 : Int) : Option (((Unit × Unit × Bool × Unit) × ((Int × Int × Unit) × (Int × Int × Unit) × Unit)) ⊕ Empty) :=
  (Option.bind (g_ref01_Valid (((o0_0, (o0_1, ())), ()), ())) (fun y0 =>
  (bif (!y0.1.1) then
   (some (Sum.inl (((), ((), (Bool.true, ()))), ((o0_0, (o0_1, ())), ((o1_0, (o1_1, ())), ())))))
  else
   (Option.bind (g_ref01_Valid (((o1_0, (o1_1, ())), ()), ())) (fun y2 =>
   (some (Sum.inl (((), ((), ((!y2.1.1), ()))), ((o0_0, (o0_1, ())), ((o1_0, (o1_1, ())), ()))))))))))
theorem ref01_Cmp.eq0 (g_ref01_Valid : ref01_Valid.sh.X → Option ref01_Valid.osh.X) (g_ref01_order : ref01_order.sh.X → Option ref01_order.osh.X) (l0 : ref01_Cmp.s0.X → Option (sumX ref01_Cmp.x0)) (L : ((Unit × Unit × Unit) × ((Int × Int × Unit) × (Int × Int × Unit) × Unit)) → Option (((Unit × Unit × Bool × Unit) × ((Int × Int × Unit) × (Int × Int × Unit) × Unit)) ⊕ Empty)) (x : ((Unit × Unit × Unit) × ((Int × Int × Unit) × (Int × Int × Unit) × Unit))) : (roundK (ref01_Cmp.E g_ref01_Valid g_ref01_order l0) ref01_Cmp.s0 [2, 3] [(0, [2, 3, 12])] false (((mk ref01_Cmp.hs ref01_Cmp.c []).atoms.getD 0 .bad).body) ref01_Cmp.x0 L x).run _ some = ref01_Cmp.f0 g_ref01_Valid x.2.1.1 x.2.1.2.1 x.2.2.1.1 x.2.2.1.2.1 := by
  show _ = (_ : Option _)
  kernel_rfl
noncomputable def ref01_Cmp.L0 : ((Unit × Unit × Unit) × ((Int × Int × Unit) × (Int × Int × Unit) × Unit)) → Option (((Unit × Unit × Bool × Unit) × ((Int × Int × Unit) × (Int × Int × Unit) × Unit)) ⊕ Empty) := fun x => ref01_Cmp.f0 ref01_Valid.F x.2.1.1 x.2.1.2.1 x.2.2.1.1 x.2.2.1.2.1
def ref01_Cmp.f (g_ref01_order : ((Int × Int × Int × Int × Unit) × (Unit)) → Option ((Int × Unit) × (Unit))) (l0 : ((Unit × Unit × Unit) × ((Int × Int × Unit) × (Int × Int × Unit) × Unit)) → Option (((Unit × Unit × Bool × Unit) × ((Int × Int × Unit) × (Int × Int × Unit) × Unit)) ⊕ Empty)) (a_Num : Int) (a_Den : Int) (b_Num : Int) (b_Den : Int) : Option ((Int × Unit) × (Unit)) :=
  (Option.bind (l0 (((), ((), ())), ((a_Num, (a_Den, ())), ((b_Num, (b_Den, ())), ())))) (fun y0 =>
  (Sum.elim (fun a1 =>
   (bif a1.1.2.2.1 then
    (some (((0:Int), ()), ()))
   else
    (Option.bind (g_ref01_order ((a1.2.1.1, (a1.2.1.2.1, (a1.2.2.1.1, (a1.2.2.1.2.1, ())))), ())) (fun y3 =>
    (some ((y3.1.1, ()), ())))))) (fun b1 =>
   (Empty.elim b1)) y0)))
theorem ref01_Cmp.eq (g_ref01_Valid : ref01_Valid.sh.X → Option ref01_Valid.osh.X) (g_ref01_order : ref01_order.sh.X → Option ref01_order.osh.X) (l0 : ref01_Cmp.s0.X → Option (sumX ref01_Cmp.x0)) (x : (((Int × Int × Unit) × (Int × Int × Unit) × Unit) × (Unit))) : (bodyO (ref01_Cmp.E g_ref01_Valid g_ref01_order l0) (mk ref01_Cmp.hs ref01_Cmp.c []) Go.Proofs.Tryd.f21.results.toList ref01_Cmp.sh ref01_Cmp.osh x).run _ some = ref01_Cmp.f g_ref01_order l0 x.1.1.1 x.1.1.2.1 x.1.2.1.1 x.1.2.1.2.1 := by
  show _ = (_ : Option _)
  kernel_rfl
noncomputable def ref01_Cmp (a_Num : Int) (a_Den : Int) (b_Num : Int) (b_Den : Int) : Option ((Int × Unit) × (Unit)) := ref01_Cmp.f ref01_order.F ref01_Cmp.L0 a_Num a_Den b_Num b_Den
noncomputable def ref01_Cmp.F (x : (((Int × Int × Unit) × (Int × Int × Unit) × Unit) × (Unit))) : Option ((Int × Unit) × (Unit)) := ref01_Cmp x.1.1.1 x.1.1.2.1 x.1.2.1.1 x.1.2.1.2.1
theorem ref01_Cmp.L0_eq (o0_0 : Int) (o0_1 : Int) (o1_0 : Int) (o1_1 : Int) : ref01_Cmp.L0 (((), (), ()), ((o0_0, o0_1, ()), (o1_0, o1_1, ()), ())) = ref01_Cmp.f0 ref01_Valid.F o0_0 o0_1 o1_0 o1_1 := rfl
theorem ref01_Cmp.F_eq (a_Num : Int) (a_Den : Int) (b_Num : Int) (b_Den : Int) : ref01_Cmp.F (((a_Num, a_Den, ()), (b_Num, b_Den, ()), ()), ()) = ref01_Cmp.f ref01_order.F ref01_Cmp.L0 a_Num a_Den b_Num b_Den := rfl
theorem ref01_Cmp.ok {tabs : List (Nat × Go.Obj)} (ht : TabsOk tabs) : FOK Go.Proofs.Tryd.prog tabs 21 (FE.of [true, true] false ref01_Cmp.sh ref01_Cmp.osh ref01_Cmp.F) := by
  refine fn_keeps (E := (ref01_Cmp.E ref01_Valid.F ref01_order.F ref01_Cmp.L0)) (c := ref01_Cmp.c) (fn := Go.Proofs.Tryd.f21) (hs := ref01_Cmp.hs) (by kernel_rfl) Go.Proofs.Tryd.func21 ⟨by kernel_rfl, by kernel_rfl, tb, by kernel_rfl, by kernel_rfl, by kernel_rfl, by kernel_rfl, by kernel_rfl⟩ ⟨fun g ks fe h => ?_, gt_ok ht⟩ ?_ (fun x => ref01_Cmp.eq ref01_Valid.F ref01_order.F ref01_Cmp.L0 x)
  · rcases c_cons h with ⟨rfl, rfl⟩ | h
    · exact ref01_Valid.ok ht
    rcases c_cons h with ⟨rfl, rfl⟩ | h
    · exact ref01_order.ok ht
    cases h
  · refine known_at 1 (by kernel_rfl) fun i hi => ?_
    match i, hi with
    | 0, _ => exact atom_at (id := 0) (live := [2, 3]) (outs := [(0, [2, 3, 12])]) (loop := false) (by kernel_rfl) (cut_ok (E := (ref01_Cmp.E ref01_Valid.F ref01_order.F ref01_Cmp.L0)) (sh := ref01_Cmp.s0) (es := ref01_Cmp.x0) rfl (fun L x => ref01_Cmp.eq0 ref01_Valid.F ref01_order.F ref01_Cmp.L0 L x))
    | n + 1, h => exact absurd h (by omega)

/-! law17_MeasureWithin -/
def law17_MeasureWithin.f0 (g_ref01_Cmp : (((Int × Int × Unit) × (Int × Int × Unit) × Unit) × (Unit)) → Option ((Int × Unit) × (Unit))) (g_law17_awake : ((Unit) × (Unit)) → Option ((Bool × Unit) × (Unit))) (e_9 : Int) (ok_11 : Bool) (is_13 : Bool) (o0_0 : Int) (o0_1 : Int) (o1_0 : Int) (o1_1 : Int) (o2_0 : Int) (o2_1 : Int) (o3_0 : Int) (o3_1 : Int) (o4_0 : Int) (o4_1 : Int) : Option (((Bool × Unit) × (Unit)) ⊕ Empty) :=
  (bif (e_9 == (0:Int)) then
   (Option.bind (g_ref01_Cmp (((o1_0, (o1_1, ())), ((o0_0, (o0_1, ())), ())), ())) (fun y1 =>
   (bif (ok_11 == (decide (y1.1.1 ≤ (0:Int)))) then
    (bif ok_11 then
     (bif ((o2_0 == o1_0) && ((o2_1 == o1_1) && Bool.true)) then
      (bif is_13 then
       (bif ((o3_0 == o1_0) && ((o3_1 == o1_1) && Bool.true)) then
        (Option.bind (g_law17_awake ((), ())) (fun y7 =>
        (some (Sum.inl ((y7.1.1, ()), ())))))
       else
        (some (Sum.inl ((Bool.false, ()), ()))))
      else
       (some (Sum.inl ((Bool.false, ()), ()))))
     else
      (bif (!ok_11) then
       (bif ((o2_0 == o4_0) && ((o2_1 == o4_1) && Bool.true)) then
        (bif is_13 then
         (bif ((o3_0 == o1_0) && ((o3_1 == o1_1) && Bool.true)) then
          (Option.bind (g_law17_awake ((), ())) (fun y9 =>
          (some (Sum.inl ((y9.1.1, ()), ())))))
         else
          (some (Sum.inl ((Bool.false, ()), ()))))
        else
         (some (Sum.inl ((Bool.false, ()), ()))))
       else
        (some (Sum.inl ((Bool.false, ()), ()))))
      else
       (some (Sum.inl ((Bool.false, ()), ())))))
    else
     (bif (!ok_11) then
      (bif ((o2_0 == o4_0) && ((o2_1 == o4_1) && Bool.true)) then
       (bif is_13 then
        (bif ((o3_0 == o1_0) && ((o3_1 == o1_1) && Bool.true)) then
         (Option.bind (g_law17_awake ((), ())) (fun y8 =>
         (some (Sum.inl ((y8.1.1, ()), ())))))
        else
         (some (Sum.inl ((Bool.false, ()), ()))))
       else
        (some (Sum.inl ((Bool.false, ()), ()))))
      else
       (some (Sum.inl ((Bool.false, ()), ()))))
     else
      (some (Sum.inl ((Bool.false, ()), ())))))
   else
    (some (Sum.inl ((Bool.false, ()), ()))))))
  else
   (some (Sum.inl ((Bool.false, ()), ()))))
theorem law17_MeasureWithin.eq0 (g_keep_New : keep_New.sh.X → Option keep_New.osh.X) (g_keep_Src_Measure : keep_Src_Measure.sh.X → Option keep_Src_Measure.osh.X) (g_keep_Src_Suited : keep_Src_Suited.sh.X → Option keep_Src_Suited.osh.X) (g_keep_Src_Ratio : keep_Src_Ratio.sh.X → Option keep_Src_Ratio.osh.X) (g_measure_Distance : measure_Distance.sh.X → Option measure_Distance.osh.X) (g_measure_Within : measure_Within.sh.X → Option measure_Within.osh.X) (g_ref01_Cmp : ref01_Cmp.sh.X → Option ref01_Cmp.osh.X) (g_law17_awake : law17_awake.sh.X → Option law17_awake.osh.X) (l0 : law17_MeasureWithin.s0.X → Option (sumX law17_MeasureWithin.x0)) (L : ((Unit × Unit × Int × Unit × Bool × Unit × Bool × Unit × Unit) × ((Int × Int × Unit) × (Int × Int × Unit) × (Int × Int × Unit) × (Int × Int × Unit) × (Int × Int × Unit) × Unit)) → Option (((Bool × Unit) × (Unit)) ⊕ Empty)) (x : ((Unit × Unit × Int × Unit × Bool × Unit × Bool × Unit × Unit) × ((Int × Int × Unit) × (Int × Int × Unit) × (Int × Int × Unit) × (Int × Int × Unit) × (Int × Int × Unit) × Unit))) : (roundK (law17_MeasureWithin.E g_keep_New g_keep_Src_Measure g_keep_Src_Suited g_keep_Src_Ratio g_measure_Distance g_measure_Within g_ref01_Cmp g_law17_awake l0) law17_MeasureWithin.s0 [7, 8, 9, 10, 11, 12, 13, 14] [(0, [2])] false (((mk law17_MeasureWithin.hs law17_MeasureWithin.c []).atoms.getD 0 .bad).body) law17_MeasureWithin.x0 L x).run _ some = law17_MeasureWithin.f0 g_ref01_Cmp g_law17_awake x.1.2.2.1 x.1.2.2.2.2.1 x.1.2.2.2.2.2.2.1 x.2.1.1 x.2.1.2.1 x.2.2.1.1 x.2.2.1.2.1 x.2.2.2.1.1 x.2.2.2.1.2.1 x.2.2.2.2.1.1 x.2.2.2.2.1.2.1 x.2.2.2.2.2.1.1 x.2.2.2.2.2.1.2.1 := by
  show _ = (_ : Option _)
  kernel_rfl
noncomputable def law17_MeasureWithin.L0 : ((Unit × Unit × Int × Unit × Bool × Unit × Bool × Unit × Unit) × ((Int × Int × Unit) × (Int × Int × Unit) × (Int × Int × Unit) × (Int × Int × Unit) × (Int × Int × Unit) × Unit)) → Option (((Bool × Unit) × (Unit)) ⊕ Empty) := fun x => law17_MeasureWithin.f0 ref01_Cmp.F law17_awake.F x.1.2.2.1 x.1.2.2.2.2.1 x.1.2.2.2.2.2.2.1 x.2.1.1 x.2.1.2.1 x.2.2.1.1 x.2.2.1.2.1 x.2.2.2.1.1 x.2.2.2.1.2.1 x.2.2.2.2.1.1 x.2.2.2.2.1.2.1 x.2.2.2.2.2.1.1 x.2.2.2.2.2.1.2.1
def law17_MeasureWithin.f (g_keep_New : (((List Int) × Unit) × (Unit)) → Option ((Unit × Unit) × (((List Int) × Int × Unit) × Unit))) (g_keep_Src_Measure : ((Unit × Unit) × (((List Int) × Int × Unit) × Unit)) → Option (((Int × Int × Int × Unit) × Unit) × (((List Int) × Int × Unit) × Unit))) (g_keep_Src_Suited : ((Unit × (Int × Int × Int × Unit) × Unit) × (((List Int) × Int × Unit) × Unit)) → Option (((List Int) × (List Int) × Unit) × (((List Int) × Int × Unit) × Unit))) (g_keep_Src_Ratio : ((Unit × Unit) × (((List Int) × Int × Unit) × Unit)) → Option (((Int × Int × Unit) × Unit) × (((List Int) × Int × Unit) × Unit))) (g_measure_Distance : (((Int × Int × Int × Unit) × (List Int) × (List Int) × Unit) × (Unit)) → Option (((Int × Int × Unit) × Int × Unit) × (Unit))) (g_measure_Within : (((Int × Int × Int × Unit) × (List Int) × (List Int) × (Int × Int × Unit) × Unit) × (Unit)) → Option (((Int × Int × Unit) × Bool × Unit) × (Unit))) (l0 : ((Unit × Unit × Int × Unit × Bool × Unit × Bool × Unit × Unit) × ((Int × Int × Unit) × (Int × Int × Unit) × (Int × Int × Unit) × (Int × Int × Unit) × (Int × Int × Unit) × Unit)) → Option (((Bool × Unit) × (Unit)) ⊕ Empty)) (l : (List Int)) : Option ((Bool × Unit) × (Unit)) :=
  (Option.bind (g_keep_New ((l, ()), ())) (fun y0 =>
  (Option.bind (g_keep_Src_Measure (((), ()), ((y0.2.1.1, (y0.2.1.2.1, ())), ()))) (fun y1 =>
  (Option.bind (g_keep_Src_Suited (((), ((y1.1.1.1, (y1.1.1.2.1, (y1.1.1.2.2.1, ()))), ())), ((y1.2.1.1, (y1.2.1.2.1, ())), ()))) (fun y2 =>
  (Option.bind (g_keep_Src_Ratio (((), ()), ((y2.2.1.1, (y2.2.1.2.1, ())), ()))) (fun y3 =>
  (Option.bind (g_measure_Distance (((y1.1.1.1, (y1.1.1.2.1, (y1.1.1.2.2.1, ()))), (y2.1.1, (y2.1.2.1, ()))), ())) (fun y4 =>
  (Option.bind (g_measure_Within (((y1.1.1.1, (y1.1.1.2.1, (y1.1.1.2.2.1, ()))), (y2.1.1, (y2.1.2.1, ((y3.1.1.1, (y3.1.1.2.1, ())), ())))), ())) (fun y5 =>
  (Option.bind (g_measure_Within (((y1.1.1.1, (y1.1.1.2.1, (y1.1.1.2.2.1, ()))), (y2.1.1, (y2.1.2.1, ((y4.1.1.1, (y4.1.1.2.1, ())), ())))), ())) (fun y6 =>
  (Option.bind (l0 (((), ((), (y4.1.2.1, ((), (y5.1.2.1, ((), (y6.1.2.1, ((), ())))))))), ((y3.1.1.1, (y3.1.1.2.1, ())), ((y4.1.1.1, (y4.1.1.2.1, ())), ((y5.1.1.1, (y5.1.1.2.1, ())), ((y6.1.1.1, (y6.1.1.2.1, ())), (((0:Int), ((1:Int), ())), ()))))))) (fun y7 =>
  (Sum.elim (fun a8 =>
   (some ((a8.1.1, ()), ()))) (fun b8 =>
   (Empty.elim b8)) y7)))))))))))))))))
theorem law17_MeasureWithin.eq (g_keep_New : keep_New.sh.X → Option keep_New.osh.X) (g_keep_Src_Measure : keep_Src_Measure.sh.X → Option keep_Src_Measure.osh.X) (g_keep_Src_Suited : keep_Src_Suited.sh.X → Option keep_Src_Suited.osh.X) (g_keep_Src_Ratio : keep_Src_Ratio.sh.X → Option keep_Src_Ratio.osh.X) (g_measure_Distance : measure_Distance.sh.X → Option measure_Distance.osh.X) (g_measure_Within : measure_Within.sh.X → Option measure_Within.osh.X) (g_ref01_Cmp : ref01_Cmp.sh.X → Option ref01_Cmp.osh.X) (g_law17_awake : law17_awake.sh.X → Option law17_awake.osh.X) (l0 : law17_MeasureWithin.s0.X → Option (sumX law17_MeasureWithin.x0)) (x : (((List Int) × Unit) × (Unit))) : (bodyO (law17_MeasureWithin.E g_keep_New g_keep_Src_Measure g_keep_Src_Suited g_keep_Src_Ratio g_measure_Distance g_measure_Within g_ref01_Cmp g_law17_awake l0) (mk law17_MeasureWithin.hs law17_MeasureWithin.c []) Go.Proofs.Tryd.f7.results.toList law17_MeasureWithin.sh law17_MeasureWithin.osh x).run _ some = law17_MeasureWithin.f g_keep_New g_keep_Src_Measure g_keep_Src_Suited g_keep_Src_Ratio g_measure_Distance g_measure_Within l0 x.1.1 := by
  show _ = (_ : Option _)
  kernel_rfl
noncomputable def law17_MeasureWithin (l : (List Int)) : Option ((Bool × Unit) × (Unit)) := law17_MeasureWithin.f keep_New.F keep_Src_Measure.F keep_Src_Suited.F keep_Src_Ratio.F measure_Distance.F measure_Within.F law17_MeasureWithin.L0 l
noncomputable def law17_MeasureWithin.F (x : (((List Int) × Unit) × (Unit))) : Option ((Bool × Unit) × (Unit)) := law17_MeasureWithin x.1.1
theorem law17_MeasureWithin.L0_eq (e_9 : Int) (ok_11 : Bool) (is_13 : Bool) (o0_0 : Int) (o0_1 : Int) (o1_0 : Int) (o1_1 : Int) (o2_0 : Int) (o2_1 : Int) (o3_0 : Int) (o3_1 : Int) (o4_0 : Int) (o4_1 : Int) : law17_MeasureWithin.L0 (((), (), e_9, (), ok_11, (), is_13, (), ()), ((o0_0, o0_1, ()), (o1_0, o1_1, ()), (o2_0, o2_1, ()), (o3_0, o3_1, ()), (o4_0, o4_1, ()), ())) = law17_MeasureWithin.f0 ref01_Cmp.F law17_awake.F e_9 ok_11 is_13 o0_0 o0_1 o1_0 o1_1 o2_0 o2_1 o3_0 o3_1 o4_0 o4_1 := rfl
theorem law17_MeasureWithin.F_eq (l : (List Int)) : law17_MeasureWithin.F ((l, ()), ()) = law17_MeasureWithin.f keep_New.F keep_Src_Measure.F keep_Src_Suited.F keep_Src_Ratio.F measure_Distance.F measure_Within.F law17_MeasureWithin.L0 l := rfl
theorem law17_MeasureWithin.ok {tabs : List (Nat × Go.Obj)} (ht : TabsOk tabs) : FOK Go.Proofs.Tryd.prog tabs 7 (FE.of [true] false law17_MeasureWithin.sh law17_MeasureWithin.osh law17_MeasureWithin.F) := by
  refine fn_keeps (E := (law17_MeasureWithin.E keep_New.F keep_Src_Measure.F keep_Src_Suited.F keep_Src_Ratio.F measure_Distance.F measure_Within.F ref01_Cmp.F law17_awake.F law17_MeasureWithin.L0)) (c := law17_MeasureWithin.c) (fn := Go.Proofs.Tryd.f7) (hs := law17_MeasureWithin.hs) (by kernel_rfl) Go.Proofs.Tryd.func7 ⟨by kernel_rfl, by kernel_rfl, tb, by kernel_rfl, by kernel_rfl, by kernel_rfl, by kernel_rfl, by kernel_rfl⟩ ⟨fun g ks fe h => ?_, gt_ok ht⟩ ?_ (fun x => law17_MeasureWithin.eq keep_New.F keep_Src_Measure.F keep_Src_Suited.F keep_Src_Ratio.F measure_Distance.F measure_Within.F ref01_Cmp.F law17_awake.F law17_MeasureWithin.L0 x)
  · rcases c_cons h with ⟨rfl, rfl⟩ | h
    · exact keep_New.ok ht
    rcases c_cons h with ⟨rfl, rfl⟩ | h
    · exact keep_Src_Measure.ok ht
    rcases c_cons h with ⟨rfl, rfl⟩ | h
    · exact keep_Src_Suited.ok ht
    rcases c_cons h with ⟨rfl, rfl⟩ | h
    · exact keep_Src_Ratio.ok ht
    rcases c_cons h with ⟨rfl, rfl⟩ | h
    · exact measure_Distance.ok ht
    rcases c_cons h with ⟨rfl, rfl⟩ | h
    · exact measure_Within.ok ht
    rcases c_cons h with ⟨rfl, rfl⟩ | h
    · exact ref01_Cmp.ok ht
    rcases c_cons h with ⟨rfl, rfl⟩ | h
    · exact law17_awake.ok ht
    cases h
  · refine known_at 1 (by kernel_rfl) fun i hi => ?_
    match i, hi with
    | 0, _ => exact atom_at (id := 0) (live := [7, 8, 9, 10, 11, 12, 13, 14]) (outs := [(0, [2])]) (loop := false) (by kernel_rfl) (cut_ok (E := (law17_MeasureWithin.E keep_New.F keep_Src_Measure.F keep_Src_Suited.F keep_Src_Ratio.F measure_Distance.F measure_Within.F ref01_Cmp.F law17_awake.F law17_MeasureWithin.L0)) (sh := law17_MeasureWithin.s0) (es := law17_MeasureWithin.x0) rfl (fun L x => law17_MeasureWithin.eq0 keep_New.F keep_Src_Measure.F keep_Src_Suited.F keep_Src_Ratio.F measure_Distance.F measure_Within.F ref01_Cmp.F law17_awake.F law17_MeasureWithin.L0 L x))
    | n + 1, h => exact absurd h (by omega)
end Go.Proofs.YtadniiehehiblaaDoor.V
