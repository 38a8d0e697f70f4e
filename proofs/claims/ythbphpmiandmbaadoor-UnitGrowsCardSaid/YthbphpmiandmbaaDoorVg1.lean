import Derived.Test.YthbphpmiandmbaaDoorVg0
import Derived.Test.YthbphpmiandmbaaDoorShelf
set_option linter.unusedVariables false
set_option maxRecDepth 100000
namespace Go.Proofs.YthbphpmiandmbaaDoor.V
open Go.VI
/-! unit_Parse -/
def unit_Parse.f0 (g_unit_digits : ((ByteArray × Unit) × (Unit)) → Option ((Bool × Unit) × (Unit))) (minus_5 : Bool) (whole_6 : ByteArray) (part_7 : ByteArray) (point_8 : Bool) (o0_0 : Int) (o0_1 : Int) : Option (((Unit × Bool × ByteArray × ByteArray × Bool × Unit) × ((Int × Int × Unit) × Unit)) ⊕ Empty) :=
  (Option.bind (g_unit_digits ((whole_6, ()), ())) (fun y0 =>
  (bif (!y0.1.1) then
   (some (Sum.inl (((), (minus_5, (whole_6, (part_7, (Bool.true, ()))))), ((o0_0, (o0_1, ())), ()))))
  else
   (bif (decide ((((ByteArray.size whole_6) : Nat) : Int) > (1:Int))) then
    (bif (decide ((0:Int) < (((ByteArray.size whole_6) : Nat) : Int))) then
     (bif ((((UInt8.toNat (Array.getD (ByteArray.data whole_6) (Int.toNat (0:Int)) (0:UInt8))) : Nat) : Int) == (48:Int)) then
      (some (Sum.inl (((), (minus_5, (whole_6, (part_7, (Bool.true, ()))))), ((o0_0, (o0_1, ())), ()))))
     else
      (bif point_8 then
       (Option.bind (g_unit_digits ((part_7, ()), ())) (fun y6 =>
       (bif (!y6.1.1) then
        (some (Sum.inl (((), (minus_5, (whole_6, (part_7, (Bool.true, ()))))), ((o0_0, (o0_1, ())), ()))))
       else
        (some (Sum.inl (((), (minus_5, (whole_6, (part_7, ((decide ((((ByteArray.size part_7) : Nat) : Int) > (6:Int))), ()))))), ((o0_0, (o0_1, ())), ())))))))
      else
       (some (Sum.inl (((), (minus_5, (whole_6, (part_7, (Bool.false, ()))))), ((o0_0, (o0_1, ())), ()))))))
    else
     none)
   else
    (bif point_8 then
     (Option.bind (g_unit_digits ((part_7, ()), ())) (fun y4 =>
     (bif (!y4.1.1) then
      (some (Sum.inl (((), (minus_5, (whole_6, (part_7, (Bool.true, ()))))), ((o0_0, (o0_1, ())), ()))))
     else
      (some (Sum.inl (((), (minus_5, (whole_6, (part_7, ((decide ((((ByteArray.size part_7) : Nat) : Int) > (6:Int))), ()))))), ((o0_0, (o0_1, ())), ())))))))
    else
     (some (Sum.inl (((), (minus_5, (whole_6, (part_7, (Bool.false, ()))))), ((o0_0, (o0_1, ())), ())))))))))
theorem unit_Parse.eq0 (g_strings_CutPrefix : strings_CutPrefix.sh.X → Option strings_CutPrefix.osh.X) (g_strings_Cut : strings_Cut.sh.X → Option strings_Cut.osh.X) (g_unit_digits : unit_digits.sh.X → Option unit_digits.osh.X) (g_strings_TrimLeft : strings_TrimLeft.sh.X → Option strings_TrimLeft.osh.X) (l0 : unit_Parse.s0.X → Option (sumX unit_Parse.x0)) (l1 : unit_Parse.s1.X → Option (sumX unit_Parse.x1)) (l2 : unit_Parse.s2.X → Option (sumX unit_Parse.x2)) (L : ((Unit × Bool × ByteArray × ByteArray × Bool × Unit) × ((Int × Int × Unit) × Unit)) → Option (((Unit × Bool × ByteArray × ByteArray × Bool × Unit) × ((Int × Int × Unit) × Unit)) ⊕ Empty)) (x : ((Unit × Bool × ByteArray × ByteArray × Bool × Unit) × ((Int × Int × Unit) × Unit))) : (roundK (unit_Parse.E g_strings_CutPrefix g_strings_Cut g_unit_digits g_strings_TrimLeft l0 l1 l2) unit_Parse.s0 [2, 5, 6, 7, 8] [(0, [2, 5, 6, 7, 48])] false (((mk unit_Parse.hs unit_Parse.c []).atoms.getD 0 .bad).body) unit_Parse.x0 L x).run _ some = unit_Parse.f0 g_unit_digits x.1.2.1 x.1.2.2.1 x.1.2.2.2.1 x.1.2.2.2.2.1 x.2.1.1 x.2.1.2.1 := by
  show _ = (_ : Option _)
  kernel_rfl
noncomputable def unit_Parse.L0 : ((Unit × Bool × ByteArray × ByteArray × Bool × Unit) × ((Int × Int × Unit) × Unit)) → Option (((Unit × Bool × ByteArray × ByteArray × Bool × Unit) × ((Int × Int × Unit) × Unit)) ⊕ Empty) := fun x => unit_Parse.f0 unit_digits.F x.1.2.1 x.1.2.2.1 x.1.2.2.2.1 x.1.2.2.2.2.1 x.2.1.1 x.2.1.2.1
def unit_Parse.f1 (minus_5 : Bool) (part_7 : ByteArray) (all_9 : ByteArray) (o0_0 : Int) (o0_1 : Int) : Option (((Unit × Bool × ByteArray × ByteArray × Bool × Unit) × ((Int × Int × Unit) × Unit)) ⊕ Empty) :=
  (bif minus_5 then
   (some (Sum.inl (((), (minus_5, (part_7, (all_9, (((ByteArray.toList all_9) == (ByteArray.toList (ByteArray.mk #[]))), ()))))), ((o0_0, (o0_1, ())), ()))))
  else
   (some (Sum.inl (((), (minus_5, (part_7, (all_9, (Bool.false, ()))))), ((o0_0, (o0_1, ())), ())))))
theorem unit_Parse.eq1 (g_strings_CutPrefix : strings_CutPrefix.sh.X → Option strings_CutPrefix.osh.X) (g_strings_Cut : strings_Cut.sh.X → Option strings_Cut.osh.X) (g_unit_digits : unit_digits.sh.X → Option unit_digits.osh.X) (g_strings_TrimLeft : strings_TrimLeft.sh.X → Option strings_TrimLeft.osh.X) (l0 : unit_Parse.s0.X → Option (sumX unit_Parse.x0)) (l1 : unit_Parse.s1.X → Option (sumX unit_Parse.x1)) (l2 : unit_Parse.s2.X → Option (sumX unit_Parse.x2)) (L : ((Unit × Bool × ByteArray × ByteArray × Unit) × ((Int × Int × Unit) × Unit)) → Option (((Unit × Bool × ByteArray × ByteArray × Bool × Unit) × ((Int × Int × Unit) × Unit)) ⊕ Empty)) (x : ((Unit × Bool × ByteArray × ByteArray × Unit) × ((Int × Int × Unit) × Unit))) : (roundK (unit_Parse.E g_strings_CutPrefix g_strings_Cut g_unit_digits g_strings_TrimLeft l0 l1 l2) unit_Parse.s1 [2, 5, 7, 9] [(0, [2, 5, 7, 9, 58])] false (((mk unit_Parse.hs unit_Parse.c []).atoms.getD 1 .bad).body) unit_Parse.x1 L x).run _ some = unit_Parse.f1 x.1.2.1 x.1.2.2.1 x.1.2.2.2.1 x.2.1.1 x.2.1.2.1 := by
  show _ = (_ : Option _)
  kernel_rfl
noncomputable def unit_Parse.L1 : ((Unit × Bool × ByteArray × ByteArray × Unit) × ((Int × Int × Unit) × Unit)) → Option (((Unit × Bool × ByteArray × ByteArray × Bool × Unit) × ((Int × Int × Unit) × Unit)) ⊕ Empty) := fun x => unit_Parse.f1 x.1.2.1 x.1.2.2.1 x.1.2.2.2.1 x.2.1.1 x.2.1.2.1
def unit_Parse.f2 (L : ((Unit × Bool × ByteArray × ByteArray × Int × Int × Int × Unit) × ((Int × Int × Unit) × Unit)) → Option (((Unit × Bool × ByteArray × Int × Unit) × ((Int × Int × Unit) × Unit)) ⊕ ((Unit × Int × Unit) × ((Int × Int × Unit) × Unit)) ⊕ Empty)) (minus_5 : Bool) (part_7 : ByteArray) (all_9 : ByteArray) (n_10 : Int) (v61 : Int) (v62 : Int) (o0_0 : Int) (o0_1 : Int) : Option (((Unit × Bool × ByteArray × Int × Unit) × ((Int × Int × Unit) × Unit)) ⊕ ((Unit × Int × Unit) × ((Int × Int × Unit) × Unit)) ⊕ Empty) :=
  (bif (decide (v62 < v61)) then
   (bif (decide ((0:Int) ≤ v62)) then
    (bif (decide (v62 < (((ByteArray.size all_9) : Nat) : Int))) then
     (bif (decide ((Go.IntKind.wrap Go.IntKind.i64 ((Go.IntKind.wrap Go.IntKind.i64 ((10:Int) * n_10)) + (Go.IntKind.wrap Go.IntKind.i64 (Go.IntKind.wrap Go.IntKind.u8 ((((UInt8.toNat (Array.getD (ByteArray.data all_9) (Int.toNat v62) (0:UInt8))) : Nat) : Int) - (48:Int)))))) > (1000000000:Int))) then
      (some (Sum.inr (Sum.inl (((), ((1:Int), ())), (((0:Int), ((0:Int), ())), ())))))
     else
      (Option.bind (L (((), (minus_5, (part_7, (all_9, ((Go.IntKind.wrap Go.IntKind.i64 ((Go.IntKind.wrap Go.IntKind.i64 ((10:Int) * n_10)) + (Go.IntKind.wrap Go.IntKind.i64 (Go.IntKind.wrap Go.IntKind.u8 ((((UInt8.toNat (Array.getD (ByteArray.data all_9) (Int.toNat v62) (0:UInt8))) : Nat) : Int) - (48:Int)))))), (v61, ((Go.IntKind.wrap Go.IntKind.i64 (v62 + (1:Int))), ()))))))), ((o0_0, (o0_1, ())), ()))) (fun y4 =>
      (some y4))))
    else
     none)
   else
    none)
  else
   (some (Sum.inl (((), (minus_5, (part_7, (n_10, ())))), ((o0_0, (o0_1, ())), ())))))
theorem unit_Parse.eq2 (g_strings_CutPrefix : strings_CutPrefix.sh.X → Option strings_CutPrefix.osh.X) (g_strings_Cut : strings_Cut.sh.X → Option strings_Cut.osh.X) (g_unit_digits : unit_digits.sh.X → Option unit_digits.osh.X) (g_strings_TrimLeft : strings_TrimLeft.sh.X → Option strings_TrimLeft.osh.X) (l0 : unit_Parse.s0.X → Option (sumX unit_Parse.x0)) (l1 : unit_Parse.s1.X → Option (sumX unit_Parse.x1)) (l2 : unit_Parse.s2.X → Option (sumX unit_Parse.x2)) (L : ((Unit × Bool × ByteArray × ByteArray × Int × Int × Int × Unit) × ((Int × Int × Unit) × Unit)) → Option (((Unit × Bool × ByteArray × Int × Unit) × ((Int × Int × Unit) × Unit)) ⊕ ((Unit × Int × Unit) × ((Int × Int × Unit) × Unit)) ⊕ Empty)) (x : ((Unit × Bool × ByteArray × ByteArray × Int × Int × Int × Unit) × ((Int × Int × Unit) × Unit))) : (roundK (unit_Parse.E g_strings_CutPrefix g_strings_Cut g_unit_digits g_strings_TrimLeft l0 l1 l2) unit_Parse.s2 [2, 5, 7, 9, 10, 61, 62] [(2, [2, 5, 7, 10]), (1, [2, 3])] true (((mk unit_Parse.hs unit_Parse.c []).atoms.getD 2 .bad).body) unit_Parse.x2 L x).run _ some = unit_Parse.f2 L x.1.2.1 x.1.2.2.1 x.1.2.2.2.1 x.1.2.2.2.2.1 x.1.2.2.2.2.2.1 x.1.2.2.2.2.2.2.1 x.2.1.1 x.2.1.2.1 := by
  show _ = (_ : Option _)
  kernel_rfl
noncomputable def unit_Parse.L2 : ((Unit × Bool × ByteArray × ByteArray × Int × Int × Int × Unit) × ((Int × Int × Unit) × Unit)) → Option (((Unit × Bool × ByteArray × Int × Unit) × ((Int × Int × Unit) × Unit)) ⊕ ((Unit × Int × Unit) × ((Int × Int × Unit) × Unit)) ⊕ Empty) := loop fun L x => unit_Parse.f2 L x.1.2.1 x.1.2.2.1 x.1.2.2.2.1 x.1.2.2.2.2.1 x.1.2.2.2.2.2.1 x.1.2.2.2.2.2.2.1 x.2.1.1 x.2.1.2.1
def unit_Parse.f (g_strings_CutPrefix : ((ByteArray × ByteArray × Unit) × (Unit)) → Option ((ByteArray × Bool × Unit) × (Unit))) (g_strings_Cut : ((ByteArray × ByteArray × Unit) × (Unit)) → Option ((ByteArray × ByteArray × Bool × Unit) × (Unit))) (g_strings_TrimLeft : ((ByteArray × ByteArray × Unit) × (Unit)) → Option ((ByteArray × Unit) × (Unit))) (l0 : ((Unit × Bool × ByteArray × ByteArray × Bool × Unit) × ((Int × Int × Unit) × Unit)) → Option (((Unit × Bool × ByteArray × ByteArray × Bool × Unit) × ((Int × Int × Unit) × Unit)) ⊕ Empty)) (l1 : ((Unit × Bool × ByteArray × ByteArray × Unit) × ((Int × Int × Unit) × Unit)) → Option (((Unit × Bool × ByteArray × ByteArray × Bool × Unit) × ((Int × Int × Unit) × Unit)) ⊕ Empty)) (l2 : ((Unit × Bool × ByteArray × ByteArray × Int × Int × Int × Unit) × ((Int × Int × Unit) × Unit)) → Option (((Unit × Bool × ByteArray × Int × Unit) × ((Int × Int × Unit) × Unit)) ⊕ ((Unit × Int × Unit) × ((Int × Int × Unit) × Unit)) ⊕ Empty)) (s : ByteArray) : Option (((Int × Int × Unit) × Int × Unit) × (Unit)) :=
  (Option.bind (g_strings_CutPrefix ((s, ((ByteArray.mk #[(45:UInt8)]), ())), ())) (fun y0 =>
  (Option.bind (g_strings_Cut ((y0.1.1, ((ByteArray.mk #[(46:UInt8)]), ())), ())) (fun y1 =>
  (Option.bind (l0 (((), (y0.1.2.1, (y1.1.1, (y1.1.2.1, (y1.1.2.2.1, ()))))), (((0:Int), ((0:Int), ())), ()))) (fun y2 =>
  (Sum.elim (fun a3 =>
   (bif a3.1.2.2.2.2.1 then
    (some ((((0:Int), ((0:Int), ())), ((3:Int), ())), ()))
   else
    (bif (decide (((ByteArray.size a3.1.2.2.1) + (ByteArray.size a3.1.2.2.2.1)) ≤ (9223372036854775807:Nat))) then
     (Option.bind (g_strings_TrimLeft (((a3.1.2.2.1 ++ a3.1.2.2.2.1), ((ByteArray.mk #[(48:UInt8)]), ())), ())) (fun y6 =>
     (Option.bind (l1 (((), (a3.1.2.1, (a3.1.2.2.2.1, (y6.1.1, ())))), ((a3.2.1.1, (a3.2.1.2.1, ())), ()))) (fun y7 =>
     (Sum.elim (fun a8 =>
      (bif a8.1.2.2.2.2.1 then
       (some ((((0:Int), ((0:Int), ())), ((3:Int), ())), ()))
      else
       (Option.bind (l2 (((), (a8.1.2.1, (a8.1.2.2.1, (a8.1.2.2.2.1, ((0:Int), ((((ByteArray.size a8.1.2.2.2.1) : Nat) : Int), ((0:Int), ()))))))), ((a8.2.1.1, (a8.2.1.2.1, ())), ()))) (fun y10 =>
       (Sum.elim (fun a11 =>
        (bif a11.1.2.1 then
         (some ((((Go.IntKind.wrap Go.IntKind.i64 ((0:Int) - a11.1.2.2.2.1)), ((((ByteArray.size a11.1.2.2.1) : Nat) : Int), ())), ((0:Int), ())), ()))
        else
         (some (((a11.1.2.2.2.1, ((((ByteArray.size a11.1.2.2.1) : Nat) : Int), ())), ((0:Int), ())), ())))) (fun b11 =>
        (Sum.elim (fun a12 =>
         (some (((a12.2.1.1, (a12.2.1.2.1, ())), (a12.1.2.1, ())), ()))) (fun b12 =>
         (Empty.elim b12)) b11)) y10))))) (fun b8 =>
      (Empty.elim b8)) y7)))))
    else
     none))) (fun b3 =>
   (Empty.elim b3)) y2)))))))
theorem unit_Parse.eq (g_strings_CutPrefix : strings_CutPrefix.sh.X → Option strings_CutPrefix.osh.X) (g_strings_Cut : strings_Cut.sh.X → Option strings_Cut.osh.X) (g_unit_digits : unit_digits.sh.X → Option unit_digits.osh.X) (g_strings_TrimLeft : strings_TrimLeft.sh.X → Option strings_TrimLeft.osh.X) (l0 : unit_Parse.s0.X → Option (sumX unit_Parse.x0)) (l1 : unit_Parse.s1.X → Option (sumX unit_Parse.x1)) (l2 : unit_Parse.s2.X → Option (sumX unit_Parse.x2)) (x : ((ByteArray × Unit) × (Unit))) : (bodyO (unit_Parse.E g_strings_CutPrefix g_strings_Cut g_unit_digits g_strings_TrimLeft l0 l1 l2) (mk unit_Parse.hs unit_Parse.c []) Go.Proofs.Tryd.f13.results.toList unit_Parse.sh unit_Parse.osh x).run _ some = unit_Parse.f g_strings_CutPrefix g_strings_Cut g_strings_TrimLeft l0 l1 l2 x.1.1 := by
  show _ = (_ : Option _)
  kernel_rfl
noncomputable def unit_Parse (s : ByteArray) : Option (((Int × Int × Unit) × Int × Unit) × (Unit)) := unit_Parse.f strings_CutPrefix.F strings_Cut.F strings_TrimLeft.F unit_Parse.L0 unit_Parse.L1 unit_Parse.L2 s
noncomputable def unit_Parse.F (x : ((ByteArray × Unit) × (Unit))) : Option (((Int × Int × Unit) × Int × Unit) × (Unit)) := unit_Parse x.1.1
theorem unit_Parse.L0_eq (minus_5 : Bool) (whole_6 : ByteArray) (part_7 : ByteArray) (point_8 : Bool) (o0_0 : Int) (o0_1 : Int) : unit_Parse.L0 (((), minus_5, whole_6, part_7, point_8, ()), ((o0_0, o0_1, ()), ())) = unit_Parse.f0 unit_digits.F minus_5 whole_6 part_7 point_8 o0_0 o0_1 := rfl
theorem unit_Parse.L1_eq (minus_5 : Bool) (part_7 : ByteArray) (all_9 : ByteArray) (o0_0 : Int) (o0_1 : Int) : unit_Parse.L1 (((), minus_5, part_7, all_9, ()), ((o0_0, o0_1, ()), ())) = unit_Parse.f1 minus_5 part_7 all_9 o0_0 o0_1 := rfl
theorem unit_Parse.L2_eq (minus_5 : Bool) (part_7 : ByteArray) (all_9 : ByteArray) (n_10 : Int) (v61 : Int) (v62 : Int) (o0_0 : Int) (o0_1 : Int) : unit_Parse.L2 (((), minus_5, part_7, all_9, n_10, v61, v62, ()), ((o0_0, o0_1, ()), ())) = unit_Parse.f2 unit_Parse.L2 minus_5 part_7 all_9 n_10 v61 v62 o0_0 o0_1 :=
  loop_eq (E := (unit_Parse.E strings_CutPrefix.F strings_Cut.F unit_digits.F strings_TrimLeft.F unit_Parse.L0 unit_Parse.L1 unit_Parse.L2)) (sh := unit_Parse.s2) (es := unit_Parse.x2) (lp := true) (H := fun L x => unit_Parse.eq2 strings_CutPrefix.F strings_Cut.F unit_digits.F strings_TrimLeft.F unit_Parse.L0 unit_Parse.L1 unit_Parse.L2 L x) (((), minus_5, part_7, all_9, n_10, v61, v62, ()), ((o0_0, o0_1, ()), ()))
theorem unit_Parse.F_eq (s : ByteArray) : unit_Parse.F ((s, ()), ()) = unit_Parse.f strings_CutPrefix.F strings_Cut.F strings_TrimLeft.F unit_Parse.L0 unit_Parse.L1 unit_Parse.L2 s := rfl
theorem unit_Parse.ok {tabs : List (Nat × Go.Obj)} (ht : TabsOk tabs) : FOK Go.Proofs.Tryd.prog tabs 13 (FE.of [true] false unit_Parse.sh unit_Parse.osh unit_Parse.F) := by
  refine fn_keeps (E := (unit_Parse.E strings_CutPrefix.F strings_Cut.F unit_digits.F strings_TrimLeft.F unit_Parse.L0 unit_Parse.L1 unit_Parse.L2)) (c := unit_Parse.c) (fn := Go.Proofs.Tryd.f13) (hs := unit_Parse.hs) (by kernel_rfl) Go.Proofs.Tryd.func13 ⟨by kernel_rfl, by kernel_rfl, tb, by kernel_rfl, by kernel_rfl, by kernel_rfl, by kernel_rfl, by kernel_rfl⟩ ⟨fun g ks fe h => ?_, gt_ok ht⟩ ?_ (fun x => unit_Parse.eq strings_CutPrefix.F strings_Cut.F unit_digits.F strings_TrimLeft.F unit_Parse.L0 unit_Parse.L1 unit_Parse.L2 x)
  · rcases c_cons h with ⟨rfl, rfl⟩ | h
    · exact strings_CutPrefix.ok ht
    rcases c_cons h with ⟨rfl, rfl⟩ | h
    · exact strings_Cut.ok ht
    rcases c_cons h with ⟨rfl, rfl⟩ | h
    · exact unit_digits.ok ht
    rcases c_cons h with ⟨rfl, rfl⟩ | h
    · exact strings_TrimLeft.ok ht
    cases h
  · refine known_at 3 (by kernel_rfl) fun i hi => ?_
    match i, hi with
    | 0, _ => exact atom_at (id := 0) (live := [2, 5, 6, 7, 8]) (outs := [(0, [2, 5, 6, 7, 48])]) (loop := false) (by kernel_rfl) (cut_ok (E := (unit_Parse.E strings_CutPrefix.F strings_Cut.F unit_digits.F strings_TrimLeft.F unit_Parse.L0 unit_Parse.L1 unit_Parse.L2)) (sh := unit_Parse.s0) (es := unit_Parse.x0) rfl (fun L x => unit_Parse.eq0 strings_CutPrefix.F strings_Cut.F unit_digits.F strings_TrimLeft.F unit_Parse.L0 unit_Parse.L1 unit_Parse.L2 L x))
    | 1, _ => exact atom_at (id := 1) (live := [2, 5, 7, 9]) (outs := [(0, [2, 5, 7, 9, 58])]) (loop := false) (by kernel_rfl) (cut_ok (E := (unit_Parse.E strings_CutPrefix.F strings_Cut.F unit_digits.F strings_TrimLeft.F unit_Parse.L0 unit_Parse.L1 unit_Parse.L2)) (sh := unit_Parse.s1) (es := unit_Parse.x1) rfl (fun L x => unit_Parse.eq1 strings_CutPrefix.F strings_Cut.F unit_digits.F strings_TrimLeft.F unit_Parse.L0 unit_Parse.L1 unit_Parse.L2 L x))
    | 2, _ => exact atom_at (id := 2) (live := [2, 5, 7, 9, 10, 61, 62]) (outs := [(2, [2, 5, 7, 10]), (1, [2, 3])]) (loop := true) (by kernel_rfl) (loop_ok (E := (unit_Parse.E strings_CutPrefix.F strings_Cut.F unit_digits.F strings_TrimLeft.F unit_Parse.L0 unit_Parse.L1 unit_Parse.L2)) (sh := unit_Parse.s2) (es := unit_Parse.x2) rfl (fun L x => unit_Parse.eq2 strings_CutPrefix.F strings_Cut.F unit_digits.F strings_TrimLeft.F unit_Parse.L0 unit_Parse.L1 unit_Parse.L2 L x))
    | n + 3, h => exact absurd h (by omega)

/-! law04_raw -/
def law04_raw.f : Option (((ByteArray × Int × Int × Int × Unit) × Unit) × (Unit)) :=
  (some ((((ByteArray.mk #[(114:UInt8), (97:UInt8), (119:UInt8)]), ((1:Int), ((0:Int), ((1:Int), ())))), ()), ()))
theorem law04_raw.eq (x : ((Unit) × (Unit))) : (bodyO (law04_raw.E) (mk law04_raw.hs law04_raw.c []) Go.Proofs.Tryd.f11.results.toList law04_raw.sh law04_raw.osh x).run _ some = law04_raw.f := by
  show _ = (_ : Option _)
  kernel_rfl
noncomputable def law04_raw : Option (((ByteArray × Int × Int × Int × Unit) × Unit) × (Unit)) := law04_raw.f
noncomputable def law04_raw.F (x : ((Unit) × (Unit))) : Option (((ByteArray × Int × Int × Int × Unit) × Unit) × (Unit)) := law04_raw
theorem law04_raw.F_eq : law04_raw.F ((), ()) = law04_raw.f := rfl
theorem law04_raw.ok {tabs : List (Nat × Go.Obj)} (ht : TabsOk tabs) : FOK Go.Proofs.Tryd.prog tabs 11 (FE.of [] false law04_raw.sh law04_raw.osh law04_raw.F) := by
  refine fn_keeps (E := (law04_raw.E)) (c := law04_raw.c) (fn := Go.Proofs.Tryd.f11) (hs := law04_raw.hs) (by kernel_rfl) Go.Proofs.Tryd.func11 ⟨by kernel_rfl, by kernel_rfl, tb, by kernel_rfl, by kernel_rfl, by kernel_rfl, by kernel_rfl, by kernel_rfl⟩ ⟨fun g ks fe h => ?_, gt_ok ht⟩ ?_ (fun x => law04_raw.eq x)
  · cases h
  · exact known_at 0 (by kernel_rfl) fun i hi => absurd hi (Nat.not_lt_zero i)

/-! law04_awake -/
def law04_awake.f0 (e_2 : Int) (n_3 : Int) (f_4 : Int) (k_5 : Int) (g_6 : Int) (o0_0 : Int) (o0_1 : Int) : Option (((Bool × Unit) × (Unit)) ⊕ Empty) :=
  (bif (e_2 == (0:Int)) then
   (bif ((o0_0 == (-(1250:Int))) && ((o0_1 == (2:Int)) && Bool.true)) then
    (bif (f_4 == (0:Int)) then
     (bif (n_3 == (-(2:Int))) then
      (bif (g_6 == (0:Int)) then
       (some (Sum.inl (((k_5 == (98:Int)), ()), ())))
      else
       (some (Sum.inl ((Bool.false, ()), ()))))
     else
      (some (Sum.inl ((Bool.false, ()), ()))))
    else
     (some (Sum.inl ((Bool.false, ()), ()))))
   else
    (some (Sum.inl ((Bool.false, ()), ()))))
  else
   (some (Sum.inl ((Bool.false, ()), ()))))
theorem law04_awake.eq0 (g_unit_Parse : unit_Parse.sh.X → Option unit_Parse.osh.X) (g_law04_raw : law04_raw.sh.X → Option law04_raw.osh.X) (g_unit_Convert : unit_Convert.sh.X → Option unit_Convert.osh.X) (l0 : law04_awake.s0.X → Option (sumX law04_awake.x0)) (L : ((Unit × Int × Int × Int × Int × Int × Unit) × ((Int × Int × Unit) × Unit)) → Option (((Bool × Unit) × (Unit)) ⊕ Empty)) (x : ((Unit × Int × Int × Int × Int × Int × Unit) × ((Int × Int × Unit) × Unit))) : (roundK (law04_awake.E g_unit_Parse g_law04_raw g_unit_Convert l0) law04_awake.s0 [1, 2, 3, 4, 5, 6] [(0, [0])] false (((mk law04_awake.hs law04_awake.c []).atoms.getD 0 .bad).body) law04_awake.x0 L x).run _ some = law04_awake.f0 x.1.2.1 x.1.2.2.1 x.1.2.2.2.1 x.1.2.2.2.2.1 x.1.2.2.2.2.2.1 x.2.1.1 x.2.1.2.1 := by
  show _ = (_ : Option _)
  kernel_rfl
noncomputable def law04_awake.L0 : ((Unit × Int × Int × Int × Int × Int × Unit) × ((Int × Int × Unit) × Unit)) → Option (((Bool × Unit) × (Unit)) ⊕ Empty) := fun x => law04_awake.f0 x.1.2.1 x.1.2.2.1 x.1.2.2.2.1 x.1.2.2.2.2.1 x.1.2.2.2.2.2.1 x.2.1.1 x.2.1.2.1
def law04_awake.f (g_unit_Parse : ((ByteArray × Unit) × (Unit)) → Option (((Int × Int × Unit) × Int × Unit) × (Unit))) (g_law04_raw : ((Unit) × (Unit)) → Option (((ByteArray × Int × Int × Int × Unit) × Unit) × (Unit))) (g_unit_Convert : (((Int × Int × Unit) × (ByteArray × Int × Int × Int × Unit) × Unit) × (Unit)) → Option ((Int × Int × Unit) × (Unit))) (l0 : ((Unit × Int × Int × Int × Int × Int × Unit) × ((Int × Int × Unit) × Unit)) → Option (((Bool × Unit) × (Unit)) ⊕ Empty)) : Option ((Bool × Unit) × (Unit)) :=
  (Option.bind (g_unit_Parse (((ByteArray.mk #[(45:UInt8), (49:UInt8), (50:UInt8), (46:UInt8), (53:UInt8), (48:UInt8)]), ()), ())) (fun y0 =>
  (Option.bind (g_law04_raw ((), ())) (fun y1 =>
  (Option.bind (g_unit_Convert ((((-(25:Int)), ((1:Int), ())), ((y1.1.1.1, (y1.1.1.2.1, (y1.1.1.2.2.1, (y1.1.1.2.2.2.1, ())))), ())), ())) (fun y2 =>
  (Option.bind (g_unit_Convert ((((366:Int), ((1:Int), ())), (((ByteArray.mk #[(102:UInt8)]), ((9:Int), ((160:Int), ((5:Int), ())))), ())), ())) (fun y3 =>
  (Option.bind (l0 (((), (y0.1.2.1, (y2.1.1, (y2.1.2.1, (y3.1.1, (y3.1.2.1, ())))))), ((y0.1.1.1, (y0.1.1.2.1, ())), ()))) (fun y4 =>
  (Sum.elim (fun a5 =>
   (some ((a5.1.1, ()), ()))) (fun b5 =>
   (Empty.elim b5)) y4)))))))))))
theorem law04_awake.eq (g_unit_Parse : unit_Parse.sh.X → Option unit_Parse.osh.X) (g_law04_raw : law04_raw.sh.X → Option law04_raw.osh.X) (g_unit_Convert : unit_Convert.sh.X → Option unit_Convert.osh.X) (l0 : law04_awake.s0.X → Option (sumX law04_awake.x0)) (x : ((Unit) × (Unit))) : (bodyO (law04_awake.E g_unit_Parse g_law04_raw g_unit_Convert l0) (mk law04_awake.hs law04_awake.c []) Go.Proofs.Tryd.f9.results.toList law04_awake.sh law04_awake.osh x).run _ some = law04_awake.f g_unit_Parse g_law04_raw g_unit_Convert l0 := by
  show _ = (_ : Option _)
  kernel_rfl
noncomputable def law04_awake : Option ((Bool × Unit) × (Unit)) := law04_awake.f unit_Parse.F law04_raw.F unit_Convert.F law04_awake.L0
noncomputable def law04_awake.F (x : ((Unit) × (Unit))) : Option ((Bool × Unit) × (Unit)) := law04_awake
theorem law04_awake.L0_eq (e_2 : Int) (n_3 : Int) (f_4 : Int) (k_5 : Int) (g_6 : Int) (o0_0 : Int) (o0_1 : Int) : law04_awake.L0 (((), e_2, n_3, f_4, k_5, g_6, ()), ((o0_0, o0_1, ()), ())) = law04_awake.f0 e_2 n_3 f_4 k_5 g_6 o0_0 o0_1 := rfl
theorem law04_awake.F_eq : law04_awake.F ((), ()) = law04_awake.f unit_Parse.F law04_raw.F unit_Convert.F law04_awake.L0 := rfl
theorem law04_awake.ok {tabs : List (Nat × Go.Obj)} (ht : TabsOk tabs) : FOK Go.Proofs.Tryd.prog tabs 9 (FE.of [] false law04_awake.sh law04_awake.osh law04_awake.F) := by
  refine fn_keeps (E := (law04_awake.E unit_Parse.F law04_raw.F unit_Convert.F law04_awake.L0)) (c := law04_awake.c) (fn := Go.Proofs.Tryd.f9) (hs := law04_awake.hs) (by kernel_rfl) Go.Proofs.Tryd.func9 ⟨by kernel_rfl, by kernel_rfl, tb, by kernel_rfl, by kernel_rfl, by kernel_rfl, by kernel_rfl, by kernel_rfl⟩ ⟨fun g ks fe h => ?_, gt_ok ht⟩ ?_ (fun x => law04_awake.eq unit_Parse.F law04_raw.F unit_Convert.F law04_awake.L0 x)
  · rcases c_cons h with ⟨rfl, rfl⟩ | h
    · exact unit_Parse.ok ht
    rcases c_cons h with ⟨rfl, rfl⟩ | h
    · exact law04_raw.ok ht
    rcases c_cons h with ⟨rfl, rfl⟩ | h
    · exact unit_Convert.ok ht
    cases h
  · refine known_at 1 (by kernel_rfl) fun i hi => ?_
    match i, hi with
    | 0, _ => exact atom_at (id := 0) (live := [1, 2, 3, 4, 5, 6]) (outs := [(0, [0])]) (loop := false) (by kernel_rfl) (cut_ok (E := (law04_awake.E unit_Parse.F law04_raw.F unit_Convert.F law04_awake.L0)) (sh := law04_awake.s0) (es := law04_awake.x0) rfl (fun L x => law04_awake.eq0 unit_Parse.F law04_raw.F unit_Convert.F law04_awake.L0 L x))
    | n + 1, h => exact absurd h (by omega)

/-! law04_UnitRounds -/
def law04_UnitRounds.f0 (g_law04_awake : ((Unit) × (Unit)) → Option ((Bool × Unit) × (Unit))) (e_12 : Int) (exact_13 : Int) (part_14 : Int) : Option (((Bool × Unit) × (Unit)) ⊕ Empty) :=
  (bif (e_12 == (12:Int)) then
   (bif (decide ((Go.IntKind.wrap Go.IntKind.i64 ((2:Int) * exact_13)) ≥ (Go.IntKind.wrap Go.IntKind.i64 ((2001:Int) * part_14)))) then
    (Option.bind (g_law04_awake ((), ())) (fun y2 =>
    (some (Sum.inl ((y2.1.1, ()), ())))))
   else
    (bif (decide ((Go.IntKind.wrap Go.IntKind.i64 ((2:Int) * exact_13)) < (Go.IntKind.wrap Go.IntKind.i64 ((-(2001:Int)) * part_14)))) then
     (Option.bind (g_law04_awake ((), ())) (fun y3 =>
     (some (Sum.inl ((y3.1.1, ()), ())))))
    else
     (some (Sum.inl ((Bool.false, ()), ())))))
  else
   (some (Sum.inl ((Bool.false, ()), ()))))
theorem law04_UnitRounds.eq0 (g_unit_Convert : unit_Convert.sh.X → Option unit_Convert.osh.X) (g_law04_awake : law04_awake.sh.X → Option law04_awake.osh.X) (l0 : law04_UnitRounds.s0.X → Option (sumX law04_UnitRounds.x0)) (L : ((Int × Int × Int × Unit) × (Unit)) → Option (((Bool × Unit) × (Unit)) ⊕ Empty)) (x : ((Int × Int × Int × Unit) × (Unit))) : (roundK (law04_UnitRounds.E g_unit_Convert g_law04_awake l0) law04_UnitRounds.s0 [12, 13, 14] [(0, [8])] false (((mk law04_UnitRounds.hs law04_UnitRounds.c []).atoms.getD 0 .bad).body) law04_UnitRounds.x0 L x).run _ some = law04_UnitRounds.f0 g_law04_awake x.1.1 x.1.2.1 x.1.2.2.1 := by
  show _ = (_ : Option _)
  kernel_rfl
noncomputable def law04_UnitRounds.L0 : ((Int × Int × Int × Unit) × (Unit)) → Option (((Bool × Unit) × (Unit)) ⊕ Empty) := fun x => law04_UnitRounds.f0 law04_awake.F x.1.1 x.1.2.1 x.1.2.2.1
def law04_UnitRounds.f (g_unit_Convert : (((Int × Int × Unit) × (ByteArray × Int × Int × Int × Unit) × Unit) × (Unit)) → Option ((Int × Int × Unit) × (Unit))) (g_law04_awake : ((Unit) × (Unit)) → Option ((Bool × Unit) × (Unit))) (l0 : ((Int × Int × Int × Unit) × (Unit)) → Option (((Bool × Unit) × (Unit)) ⊕ Empty)) (digits : Int) (mul : Int) (div : Int) (add : Int) : Option ((Bool × Unit) × (Unit)) :=
  (Option.bind (g_unit_Convert ((((Int.tmod (Go.IntKind.wrap Go.IntKind.i64 digits) (1000000:Int)), ((2:Int), ())), (((ByteArray.mk #[(117:UInt8)]), ((Go.IntKind.wrap Go.IntKind.i64 ((1:Int) + (Go.IntKind.wrap Go.IntKind.i64 mul))), ((Go.IntKind.wrap Go.IntKind.i64 add), ((Go.IntKind.wrap Go.IntKind.i64 ((1:Int) + (Go.IntKind.wrap Go.IntKind.i64 div))), ())))), ())), ())) (fun y0 =>
  (bif (y0.1.2.1 != (0:Int)) then
   (Option.bind (l0 ((y0.1.2.1, ((Go.IntKind.wrap Go.IntKind.i64 ((Go.IntKind.wrap Go.IntKind.i64 ((Int.tmod (Go.IntKind.wrap Go.IntKind.i64 digits) (1000000:Int)) * (Go.IntKind.wrap Go.IntKind.i64 ((1:Int) + (Go.IntKind.wrap Go.IntKind.i64 mul))))) + (Go.IntKind.wrap Go.IntKind.i64 ((Go.IntKind.wrap Go.IntKind.i64 add) * (100:Int))))), ((Go.IntKind.wrap Go.IntKind.i64 ((Go.IntKind.wrap Go.IntKind.i64 ((1:Int) + (Go.IntKind.wrap Go.IntKind.i64 div))) * (100:Int))), ()))), ())) (fun y2 =>
   (Sum.elim (fun a3 =>
    (some ((a3.1.1, ()), ()))) (fun b3 =>
    (Empty.elim b3)) y2)))
  else
   (bif (decide ((Go.IntKind.wrap Go.IntKind.i64 ((2:Int) * (Go.IntKind.wrap Go.IntKind.i64 ((Go.IntKind.wrap Go.IntKind.i64 ((Go.IntKind.wrap Go.IntKind.i64 ((Int.tmod (Go.IntKind.wrap Go.IntKind.i64 digits) (1000000:Int)) * (Go.IntKind.wrap Go.IntKind.i64 ((1:Int) + (Go.IntKind.wrap Go.IntKind.i64 mul))))) + (Go.IntKind.wrap Go.IntKind.i64 ((Go.IntKind.wrap Go.IntKind.i64 add) * (100:Int))))) - (Go.IntKind.wrap Go.IntKind.i64 (y0.1.1 * (Go.IntKind.wrap Go.IntKind.i64 ((Go.IntKind.wrap Go.IntKind.i64 ((1:Int) + (Go.IntKind.wrap Go.IntKind.i64 div))) * (100:Int))))))))) < (Go.IntKind.wrap Go.IntKind.i64 ((Go.IntKind.wrap Go.IntKind.i64 ((1:Int) + (Go.IntKind.wrap Go.IntKind.i64 div))) * (100:Int))))) then
    (bif (decide ((Go.IntKind.wrap Go.IntKind.i64 ((2:Int) * (Go.IntKind.wrap Go.IntKind.i64 ((Go.IntKind.wrap Go.IntKind.i64 ((Go.IntKind.wrap Go.IntKind.i64 ((Int.tmod (Go.IntKind.wrap Go.IntKind.i64 digits) (1000000:Int)) * (Go.IntKind.wrap Go.IntKind.i64 ((1:Int) + (Go.IntKind.wrap Go.IntKind.i64 mul))))) + (Go.IntKind.wrap Go.IntKind.i64 ((Go.IntKind.wrap Go.IntKind.i64 add) * (100:Int))))) - (Go.IntKind.wrap Go.IntKind.i64 (y0.1.1 * (Go.IntKind.wrap Go.IntKind.i64 ((Go.IntKind.wrap Go.IntKind.i64 ((1:Int) + (Go.IntKind.wrap Go.IntKind.i64 div))) * (100:Int))))))))) ≥ (Go.IntKind.wrap Go.IntKind.i64 ((0:Int) - (Go.IntKind.wrap Go.IntKind.i64 ((Go.IntKind.wrap Go.IntKind.i64 ((1:Int) + (Go.IntKind.wrap Go.IntKind.i64 div))) * (100:Int))))))) then
     (Option.bind (g_law04_awake ((), ())) (fun y4 =>
     (some ((y4.1.1, ()), ()))))
    else
     (some ((Bool.false, ()), ())))
   else
    (some ((Bool.false, ()), ()))))))
theorem law04_UnitRounds.eq (g_unit_Convert : unit_Convert.sh.X → Option unit_Convert.osh.X) (g_law04_awake : law04_awake.sh.X → Option law04_awake.osh.X) (l0 : law04_UnitRounds.s0.X → Option (sumX law04_UnitRounds.x0)) (x : ((Int × Int × Int × Int × Unit) × (Unit))) : (bodyO (law04_UnitRounds.E g_unit_Convert g_law04_awake l0) (mk law04_UnitRounds.hs law04_UnitRounds.c []) Go.Proofs.Tryd.f3.results.toList law04_UnitRounds.sh law04_UnitRounds.osh x).run _ some = law04_UnitRounds.f g_unit_Convert g_law04_awake l0 x.1.1 x.1.2.1 x.1.2.2.1 x.1.2.2.2.1 := by
  show _ = (_ : Option _)
  kernel_rfl
noncomputable def law04_UnitRounds (digits : Int) (mul : Int) (div : Int) (add : Int) : Option ((Bool × Unit) × (Unit)) := law04_UnitRounds.f unit_Convert.F law04_awake.F law04_UnitRounds.L0 digits mul div add
noncomputable def law04_UnitRounds.F (x : ((Int × Int × Int × Int × Unit) × (Unit))) : Option ((Bool × Unit) × (Unit)) := law04_UnitRounds x.1.1 x.1.2.1 x.1.2.2.1 x.1.2.2.2.1
theorem law04_UnitRounds.L0_eq (e_12 : Int) (exact_13 : Int) (part_14 : Int) : law04_UnitRounds.L0 ((e_12, exact_13, part_14, ()), ()) = law04_UnitRounds.f0 law04_awake.F e_12 exact_13 part_14 := rfl
theorem law04_UnitRounds.F_eq (digits : Int) (mul : Int) (div : Int) (add : Int) : law04_UnitRounds.F ((digits, mul, div, add, ()), ()) = law04_UnitRounds.f unit_Convert.F law04_awake.F law04_UnitRounds.L0 digits mul div add := rfl
theorem law04_UnitRounds.ok {tabs : List (Nat × Go.Obj)} (ht : TabsOk tabs) : FOK Go.Proofs.Tryd.prog tabs 3 (FE.of [true, true, true, true] false law04_UnitRounds.sh law04_UnitRounds.osh law04_UnitRounds.F) := by
  refine fn_keeps (E := (law04_UnitRounds.E unit_Convert.F law04_awake.F law04_UnitRounds.L0)) (c := law04_UnitRounds.c) (fn := Go.Proofs.Tryd.f3) (hs := law04_UnitRounds.hs) (by kernel_rfl) Go.Proofs.Tryd.func3 ⟨by kernel_rfl, by kernel_rfl, tb, by kernel_rfl, by kernel_rfl, by kernel_rfl, by kernel_rfl, by kernel_rfl⟩ ⟨fun g ks fe h => ?_, gt_ok ht⟩ ?_ (fun x => law04_UnitRounds.eq unit_Convert.F law04_awake.F law04_UnitRounds.L0 x)
  · rcases c_cons h with ⟨rfl, rfl⟩ | h
    · exact unit_Convert.ok ht
    rcases c_cons h with ⟨rfl, rfl⟩ | h
    · exact law04_awake.ok ht
    cases h
  · refine known_at 1 (by kernel_rfl) fun i hi => ?_
    match i, hi with
    | 0, _ => exact atom_at (id := 0) (live := [12, 13, 14]) (outs := [(0, [8])]) (loop := false) (by kernel_rfl) (cut_ok (E := (law04_UnitRounds.E unit_Convert.F law04_awake.F law04_UnitRounds.L0)) (sh := law04_UnitRounds.s0) (es := law04_UnitRounds.x0) rfl (fun L x => law04_UnitRounds.eq0 unit_Convert.F law04_awake.F law04_UnitRounds.L0 L x))
    | n + 1, h => exact absurd h (by omega)

/-! keep_New -/
def keep_New.f (l : (List Int)) : Option ((Unit × Unit) × (((List Int) × Int × Unit) × Unit)) :=
  (bif (decide ((0:Int) ≤ (Go.VI.mn (((List.length l) : Nat) : Int) (2000:Int)))) then
   (bif (decide ((Go.VI.mn (((List.length l) : Nat) : Int) (2000:Int)) ≤ (((List.length l) : Nat) : Int))) then
    (some (((), ()), (((List.drop (Int.toNat (0:Int)) (List.take (Int.toNat (Go.VI.mn (((List.length l) : Nat) : Int) (2000:Int))) l)), ((0:Int), ())), ())))
   else
    none)
  else
   none)
theorem keep_New.eq (x : (((List Int) × Unit) × (Unit))) : (bodyO (keep_New.E) (mk keep_New.hs keep_New.c []) Go.Proofs.Tryd.f21.results.toList keep_New.sh keep_New.osh x).run _ some = keep_New.f x.1.1 := by
  show _ = (_ : Option _)
  kernel_rfl
noncomputable def keep_New (l : (List Int)) : Option ((Unit × Unit) × (((List Int) × Int × Unit) × Unit)) := keep_New.f l
noncomputable def keep_New.F (x : (((List Int) × Unit) × (Unit))) : Option ((Unit × Unit) × (((List Int) × Int × Unit) × Unit)) := keep_New x.1.1
theorem keep_New.F_eq (l : (List Int)) : keep_New.F ((l, ()), ()) = keep_New.f l := rfl
theorem keep_New.ok {tabs : List (Nat × Go.Obj)} (ht : TabsOk tabs) : FOK Go.Proofs.Tryd.prog tabs 21 (FE.of [true] true keep_New.sh keep_New.osh keep_New.F) := by
  refine fn_keeps (E := (keep_New.E)) (c := keep_New.c) (fn := Go.Proofs.Tryd.f21) (hs := keep_New.hs) (by kernel_rfl) Go.Proofs.Tryd.func21 ⟨by kernel_rfl, by kernel_rfl, tb, by kernel_rfl, by kernel_rfl, by kernel_rfl, by kernel_rfl, by kernel_rfl⟩ ⟨fun g ks fe h => ?_, gt_ok ht⟩ ?_ (fun x => keep_New.eq x)
  · cases h
  · exact known_at 0 (by kernel_rfl) fun i hi => absurd hi (Nat.not_lt_zero i)

/-! keep_Src_Raw -/
def keep_Src_Raw.f (o0_0 : (List Int)) (o0_1 : Int) : Option ((Int × Unit) × (((List Int) × Int × Unit) × Unit)) :=
  (bif (decide (o0_1 ≥ (((List.length o0_0) : Nat) : Int))) then
   (some (((0:Int), ()), ((o0_0, (o0_1, ())), ())))
  else
   (bif (decide ((0:Int) ≤ (Go.IntKind.wrap Go.IntKind.i64 ((Go.IntKind.wrap Go.IntKind.i64 (o0_1 + (1:Int))) - (1:Int))))) then
    (bif (decide ((Go.IntKind.wrap Go.IntKind.i64 ((Go.IntKind.wrap Go.IntKind.i64 (o0_1 + (1:Int))) - (1:Int))) < (((List.length o0_0) : Nat) : Int))) then
     (some (((List.getD o0_0 (Int.toNat (Go.IntKind.wrap Go.IntKind.i64 ((Go.IntKind.wrap Go.IntKind.i64 (o0_1 + (1:Int))) - (1:Int)))) (0:Int)), ()), ((o0_0, ((Go.IntKind.wrap Go.IntKind.i64 (o0_1 + (1:Int))), ())), ())))
    else
     none)
   else
    none))
theorem keep_Src_Raw.eq (x : ((Unit × Unit) × (((List Int) × Int × Unit) × Unit))) : (bodyO (keep_Src_Raw.E) (mk keep_Src_Raw.hs keep_Src_Raw.c []) Go.Proofs.Tryd.f38.results.toList keep_Src_Raw.sh keep_Src_Raw.osh x).run _ some = keep_Src_Raw.f x.2.1.1 x.2.1.2.1 := by
  show _ = (_ : Option _)
  kernel_rfl
noncomputable def keep_Src_Raw (o0_0 : (List Int)) (o0_1 : Int) : Option ((Int × Unit) × (((List Int) × Int × Unit) × Unit)) := keep_Src_Raw.f o0_0 o0_1
noncomputable def keep_Src_Raw.F (x : ((Unit × Unit) × (((List Int) × Int × Unit) × Unit))) : Option ((Int × Unit) × (((List Int) × Int × Unit) × Unit)) := keep_Src_Raw x.2.1.1 x.2.1.2.1
theorem keep_Src_Raw.F_eq (o0_0 : (List Int)) (o0_1 : Int) : keep_Src_Raw.F (((), ()), ((o0_0, o0_1, ()), ())) = keep_Src_Raw.f o0_0 o0_1 := rfl
theorem keep_Src_Raw.ok {tabs : List (Nat × Go.Obj)} (ht : TabsOk tabs) : FOK Go.Proofs.Tryd.prog tabs 38 (FE.of [true] true keep_Src_Raw.sh keep_Src_Raw.osh keep_Src_Raw.F) := by
  refine fn_keeps (E := (keep_Src_Raw.E)) (c := keep_Src_Raw.c) (fn := Go.Proofs.Tryd.f38) (hs := keep_Src_Raw.hs) (by kernel_rfl) Go.Proofs.Tryd.func38 ⟨by kernel_rfl, by kernel_rfl, tb, by kernel_rfl, by kernel_rfl, by kernel_rfl, by kernel_rfl, by kernel_rfl⟩ ⟨fun g ks fe h => ?_, gt_ok ht⟩ ?_ (fun x => keep_Src_Raw.eq x)
  · cases h
  · exact known_at 0 (by kernel_rfl) fun i hi => absurd hi (Nat.not_lt_zero i)

/-! keep_Mod -/
def keep_Mod.f (x_ : Int) (n : Int) : Option ((Int × Unit) × (Unit)) :=
  (bif (decide (n < (1:Int))) then
   (some (((0:Int), ()), ()))
  else
   (bif (!(decide (n = (0:Int)))) then
    (bif (decide ((Int.tmod x_ n) < (0:Int))) then
     (some (((Go.IntKind.wrap Go.IntKind.i64 ((Int.tmod x_ n) + n)), ()), ()))
    else
     (some (((Int.tmod x_ n), ()), ())))
   else
    none))
theorem keep_Mod.eq (x : ((Int × Int × Unit) × (Unit))) : (bodyO (keep_Mod.E) (mk keep_Mod.hs keep_Mod.c []) Go.Proofs.Tryd.f37.results.toList keep_Mod.sh keep_Mod.osh x).run _ some = keep_Mod.f x.1.1 x.1.2.1 := by
  show _ = (_ : Option _)
  kernel_rfl
noncomputable def keep_Mod (x_ : Int) (n : Int) : Option ((Int × Unit) × (Unit)) := keep_Mod.f x_ n
noncomputable def keep_Mod.F (x : ((Int × Int × Unit) × (Unit))) : Option ((Int × Unit) × (Unit)) := keep_Mod x.1.1 x.1.2.1
theorem keep_Mod.F_eq (x_ : Int) (n : Int) : keep_Mod.F ((x_, n, ()), ()) = keep_Mod.f x_ n := rfl
theorem keep_Mod.ok {tabs : List (Nat × Go.Obj)} (ht : TabsOk tabs) : FOK Go.Proofs.Tryd.prog tabs 37 (FE.of [true, true] false keep_Mod.sh keep_Mod.osh keep_Mod.F) := by
  refine fn_keeps (E := (keep_Mod.E)) (c := keep_Mod.c) (fn := Go.Proofs.Tryd.f37) (hs := keep_Mod.hs) (by kernel_rfl) Go.Proofs.Tryd.func37 ⟨by kernel_rfl, by kernel_rfl, tb, by kernel_rfl, by kernel_rfl, by kernel_rfl, by kernel_rfl, by kernel_rfl⟩ ⟨fun g ks fe h => ?_, gt_ok ht⟩ ?_ (fun x => keep_Mod.eq x)
  · cases h
  · exact known_at 0 (by kernel_rfl) fun i hi => absurd hi (Nat.not_lt_zero i)

/-! keep_Src_N -/
def keep_Src_N.f (g_keep_Src_Raw : ((Unit × Unit) × (((List Int) × Int × Unit) × Unit)) → Option ((Int × Unit) × (((List Int) × Int × Unit) × Unit))) (g_keep_Mod : ((Int × Int × Unit) × (Unit)) → Option ((Int × Unit) × (Unit))) (n : Int) (o0_0 : (List Int)) (o0_1 : Int) : Option ((Int × Unit) × (((List Int) × Int × Unit) × Unit)) :=
  (Option.bind (g_keep_Src_Raw (((), ()), ((o0_0, (o0_1, ())), ()))) (fun y0 =>
  (Option.bind (g_keep_Mod ((y0.1.1, (n, ())), ())) (fun y1 =>
  (some ((y1.1.1, ()), ((y0.2.1.1, (y0.2.1.2.1, ())), ())))))))
theorem keep_Src_N.eq (g_keep_Src_Raw : keep_Src_Raw.sh.X → Option keep_Src_Raw.osh.X) (g_keep_Mod : keep_Mod.sh.X → Option keep_Mod.osh.X) (x : ((Unit × Int × Unit) × (((List Int) × Int × Unit) × Unit))) : (bodyO (keep_Src_N.E g_keep_Src_Raw g_keep_Mod) (mk keep_Src_N.hs keep_Src_N.c []) Go.Proofs.Tryd.f24.results.toList keep_Src_N.sh keep_Src_N.osh x).run _ some = keep_Src_N.f g_keep_Src_Raw g_keep_Mod x.1.2.1 x.2.1.1 x.2.1.2.1 := by
  show _ = (_ : Option _)
  kernel_rfl
noncomputable def keep_Src_N (n : Int) (o0_0 : (List Int)) (o0_1 : Int) : Option ((Int × Unit) × (((List Int) × Int × Unit) × Unit)) := keep_Src_N.f keep_Src_Raw.F keep_Mod.F n o0_0 o0_1
noncomputable def keep_Src_N.F (x : ((Unit × Int × Unit) × (((List Int) × Int × Unit) × Unit))) : Option ((Int × Unit) × (((List Int) × Int × Unit) × Unit)) := keep_Src_N x.1.2.1 x.2.1.1 x.2.1.2.1
theorem keep_Src_N.F_eq (n : Int) (o0_0 : (List Int)) (o0_1 : Int) : keep_Src_N.F (((), n, ()), ((o0_0, o0_1, ()), ())) = keep_Src_N.f keep_Src_Raw.F keep_Mod.F n o0_0 o0_1 := rfl
theorem keep_Src_N.ok {tabs : List (Nat × Go.Obj)} (ht : TabsOk tabs) : FOK Go.Proofs.Tryd.prog tabs 24 (FE.of [true, true] true keep_Src_N.sh keep_Src_N.osh keep_Src_N.F) := by
  refine fn_keeps (E := (keep_Src_N.E keep_Src_Raw.F keep_Mod.F)) (c := keep_Src_N.c) (fn := Go.Proofs.Tryd.f24) (hs := keep_Src_N.hs) (by kernel_rfl) Go.Proofs.Tryd.func24 ⟨by kernel_rfl, by kernel_rfl, tb, by kernel_rfl, by kernel_rfl, by kernel_rfl, by kernel_rfl, by kernel_rfl⟩ ⟨fun g ks fe h => ?_, gt_ok ht⟩ ?_ (fun x => keep_Src_N.eq keep_Src_Raw.F keep_Mod.F x)
  · rcases c_cons h with ⟨rfl, rfl⟩ | h
    · exact keep_Src_Raw.ok ht
    rcases c_cons h with ⟨rfl, rfl⟩ | h
    · exact keep_Mod.ok ht
    cases h
  · exact known_at 0 (by kernel_rfl) fun i hi => absurd hi (Nat.not_lt_zero i)

/-! keep_Src_Pick -/
def keep_Src_Pick.f (g_keep_Src_N : ((Unit × Int × Unit) × (((List Int) × Int × Unit) × Unit)) → Option ((Int × Unit) × (((List Int) × Int × Unit) × Unit))) (l : (List Int)) (o0_0 : (List Int)) (o0_1 : Int) : Option ((Int × Unit) × (((List Int) × Int × Unit) × Unit)) :=
  (Option.bind (g_keep_Src_N (((), ((((List.length l) : Nat) : Int), ())), ((o0_0, (o0_1, ())), ()))) (fun y0 =>
  (bif (decide ((0:Int) ≤ y0.1.1)) then
   (bif (decide (y0.1.1 < (((List.length l) : Nat) : Int))) then
    (some (((List.getD l (Int.toNat y0.1.1) (0:Int)), ()), ((y0.2.1.1, (y0.2.1.2.1, ())), ())))
   else
    none)
  else
   none)))
theorem keep_Src_Pick.eq (g_keep_Src_N : keep_Src_N.sh.X → Option keep_Src_N.osh.X) (x : ((Unit × (List Int) × Unit) × (((List Int) × Int × Unit) × Unit))) : (bodyO (keep_Src_Pick.E g_keep_Src_N) (mk keep_Src_Pick.hs keep_Src_Pick.c []) Go.Proofs.Tryd.f23.results.toList keep_Src_Pick.sh keep_Src_Pick.osh x).run _ some = keep_Src_Pick.f g_keep_Src_N x.1.2.1 x.2.1.1 x.2.1.2.1 := by
  show _ = (_ : Option _)
  kernel_rfl
noncomputable def keep_Src_Pick (l : (List Int)) (o0_0 : (List Int)) (o0_1 : Int) : Option ((Int × Unit) × (((List Int) × Int × Unit) × Unit)) := keep_Src_Pick.f keep_Src_N.F l o0_0 o0_1
noncomputable def keep_Src_Pick.F (x : ((Unit × (List Int) × Unit) × (((List Int) × Int × Unit) × Unit))) : Option ((Int × Unit) × (((List Int) × Int × Unit) × Unit)) := keep_Src_Pick x.1.2.1 x.2.1.1 x.2.1.2.1
theorem keep_Src_Pick.F_eq (l : (List Int)) (o0_0 : (List Int)) (o0_1 : Int) : keep_Src_Pick.F (((), l, ()), ((o0_0, o0_1, ()), ())) = keep_Src_Pick.f keep_Src_N.F l o0_0 o0_1 := rfl
theorem keep_Src_Pick.ok {tabs : List (Nat × Go.Obj)} (ht : TabsOk tabs) : FOK Go.Proofs.Tryd.prog tabs 23 (FE.of [true, true] true keep_Src_Pick.sh keep_Src_Pick.osh keep_Src_Pick.F) := by
  refine fn_keeps (E := (keep_Src_Pick.E keep_Src_N.F)) (c := keep_Src_Pick.c) (fn := Go.Proofs.Tryd.f23) (hs := keep_Src_Pick.hs) (by kernel_rfl) Go.Proofs.Tryd.func23 ⟨by kernel_rfl, by kernel_rfl, tb, by kernel_rfl, by kernel_rfl, by kernel_rfl, by kernel_rfl, by kernel_rfl⟩ ⟨fun g ks fe h => ?_, gt_ok ht⟩ ?_ (fun x => keep_Src_Pick.eq keep_Src_N.F x)
  · rcases c_cons h with ⟨rfl, rfl⟩ | h
    · exact keep_Src_N.ok ht
    cases h
  · exact known_at 0 (by kernel_rfl) fun i hi => absurd hi (Nat.not_lt_zero i)

/-! keep_Src_Range -/
def keep_Src_Range.f (g_keep_Src_N : ((Unit × Int × Unit) × (((List Int) × Int × Unit) × Unit)) → Option ((Int × Unit) × (((List Int) × Int × Unit) × Unit))) (lo : Int) (hi : Int) (o0_0 : (List Int)) (o0_1 : Int) : Option ((Int × Unit) × (((List Int) × Int × Unit) × Unit)) :=
  (Option.bind (g_keep_Src_N (((), ((Go.IntKind.wrap Go.IntKind.i64 ((Go.IntKind.wrap Go.IntKind.i64 (hi - lo)) + (1:Int))), ())), ((o0_0, (o0_1, ())), ()))) (fun y0 =>
  (some (((Go.IntKind.wrap Go.IntKind.i64 (lo + y0.1.1)), ()), ((y0.2.1.1, (y0.2.1.2.1, ())), ())))))
theorem keep_Src_Range.eq (g_keep_Src_N : keep_Src_N.sh.X → Option keep_Src_N.osh.X) (x : ((Unit × Int × Int × Unit) × (((List Int) × Int × Unit) × Unit))) : (bodyO (keep_Src_Range.E g_keep_Src_N) (mk keep_Src_Range.hs keep_Src_Range.c []) Go.Proofs.Tryd.f22.results.toList keep_Src_Range.sh keep_Src_Range.osh x).run _ some = keep_Src_Range.f g_keep_Src_N x.1.2.1 x.1.2.2.1 x.2.1.1 x.2.1.2.1 := by
  show _ = (_ : Option _)
  kernel_rfl
noncomputable def keep_Src_Range (lo : Int) (hi : Int) (o0_0 : (List Int)) (o0_1 : Int) : Option ((Int × Unit) × (((List Int) × Int × Unit) × Unit)) := keep_Src_Range.f keep_Src_N.F lo hi o0_0 o0_1
noncomputable def keep_Src_Range.F (x : ((Unit × Int × Int × Unit) × (((List Int) × Int × Unit) × Unit))) : Option ((Int × Unit) × (((List Int) × Int × Unit) × Unit)) := keep_Src_Range x.1.2.1 x.1.2.2.1 x.2.1.1 x.2.1.2.1
theorem keep_Src_Range.F_eq (lo : Int) (hi : Int) (o0_0 : (List Int)) (o0_1 : Int) : keep_Src_Range.F (((), lo, hi, ()), ((o0_0, o0_1, ()), ())) = keep_Src_Range.f keep_Src_N.F lo hi o0_0 o0_1 := rfl
theorem keep_Src_Range.ok {tabs : List (Nat × Go.Obj)} (ht : TabsOk tabs) : FOK Go.Proofs.Tryd.prog tabs 22 (FE.of [true, true, true] true keep_Src_Range.sh keep_Src_Range.osh keep_Src_Range.F) := by
  refine fn_keeps (E := (keep_Src_Range.E keep_Src_N.F)) (c := keep_Src_Range.c) (fn := Go.Proofs.Tryd.f22) (hs := keep_Src_Range.hs) (by kernel_rfl) Go.Proofs.Tryd.func22 ⟨by kernel_rfl, by kernel_rfl, tb, by kernel_rfl, by kernel_rfl, by kernel_rfl, by kernel_rfl, by kernel_rfl⟩ ⟨fun g ks fe h => ?_, gt_ok ht⟩ ?_ (fun x => keep_Src_Range.eq keep_Src_N.F x)
  · rcases c_cons h with ⟨rfl, rfl⟩ | h
    · exact keep_Src_N.ok ht
    cases h
  · exact known_at 0 (by kernel_rfl) fun i hi => absurd hi (Nat.not_lt_zero i)

/-! keep_Src_Text -/
def keep_Src_Text.f (g_keep_Src_N : ((Unit × Int × Unit) × (((List Int) × Int × Unit) × Unit)) → Option ((Int × Unit) × (((List Int) × Int × Unit) × Unit))) (l : (List ByteArray)) (o0_0 : (List Int)) (o0_1 : Int) : Option ((ByteArray × Unit) × (((List Int) × Int × Unit) × Unit)) :=
  (Option.bind (g_keep_Src_N (((), ((((List.length l) : Nat) : Int), ())), ((o0_0, (o0_1, ())), ()))) (fun y0 =>
  (bif (decide ((0:Int) ≤ y0.1.1)) then
   (bif (decide (y0.1.1 < (((List.length l) : Nat) : Int))) then
    (some (((List.getD l (Int.toNat y0.1.1) (ByteArray.mk #[])), ()), ((y0.2.1.1, (y0.2.1.2.1, ())), ())))
   else
    none)
  else
   none)))
theorem keep_Src_Text.eq (g_keep_Src_N : keep_Src_N.sh.X → Option keep_Src_N.osh.X) (x : ((Unit × (List ByteArray) × Unit) × (((List Int) × Int × Unit) × Unit))) : (bodyO (keep_Src_Text.E g_keep_Src_N) (mk keep_Src_Text.hs keep_Src_Text.c []) Go.Proofs.Tryd.f25.results.toList keep_Src_Text.sh keep_Src_Text.osh x).run _ some = keep_Src_Text.f g_keep_Src_N x.1.2.1 x.2.1.1 x.2.1.2.1 := by
  show _ = (_ : Option _)
  kernel_rfl
noncomputable def keep_Src_Text (l : (List ByteArray)) (o0_0 : (List Int)) (o0_1 : Int) : Option ((ByteArray × Unit) × (((List Int) × Int × Unit) × Unit)) := keep_Src_Text.f keep_Src_N.F l o0_0 o0_1
noncomputable def keep_Src_Text.F (x : ((Unit × (List ByteArray) × Unit) × (((List Int) × Int × Unit) × Unit))) : Option ((ByteArray × Unit) × (((List Int) × Int × Unit) × Unit)) := keep_Src_Text x.1.2.1 x.2.1.1 x.2.1.2.1
theorem keep_Src_Text.F_eq (l : (List ByteArray)) (o0_0 : (List Int)) (o0_1 : Int) : keep_Src_Text.F (((), l, ()), ((o0_0, o0_1, ()), ())) = keep_Src_Text.f keep_Src_N.F l o0_0 o0_1 := rfl
theorem keep_Src_Text.ok {tabs : List (Nat × Go.Obj)} (ht : TabsOk tabs) : FOK Go.Proofs.Tryd.prog tabs 25 (FE.of [true, true] true keep_Src_Text.sh keep_Src_Text.osh keep_Src_Text.F) := by
  refine fn_keeps (E := (keep_Src_Text.E keep_Src_N.F)) (c := keep_Src_Text.c) (fn := Go.Proofs.Tryd.f25) (hs := keep_Src_Text.hs) (by kernel_rfl) Go.Proofs.Tryd.func25 ⟨by kernel_rfl, by kernel_rfl, tb, by kernel_rfl, by kernel_rfl, by kernel_rfl, by kernel_rfl, by kernel_rfl⟩ ⟨fun g ks fe h => ?_, gt_ok ht⟩ ?_ (fun x => keep_Src_Text.eq keep_Src_N.F x)
  · rcases c_cons h with ⟨rfl, rfl⟩ | h
    · exact keep_Src_N.ok ht
    cases h
  · exact known_at 0 (by kernel_rfl) fun i hi => absurd hi (Nat.not_lt_zero i)

/-! law04_made -/
def law04_made.f (g_keep_New : (((List Int) × Unit) × (Unit)) → Option ((Unit × Unit) × (((List Int) × Int × Unit) × Unit))) (g_keep_Src_Pick : ((Unit × (List Int) × Unit) × (((List Int) × Int × Unit) × Unit)) → Option ((Int × Unit) × (((List Int) × Int × Unit) × Unit))) (g_keep_Src_Range : ((Unit × Int × Int × Unit) × (((List Int) × Int × Unit) × Unit)) → Option ((Int × Unit) × (((List Int) × Int × Unit) × Unit))) (g_keep_Src_N : ((Unit × Int × Unit) × (((List Int) × Int × Unit) × Unit)) → Option ((Int × Unit) × (((List Int) × Int × Unit) × Unit))) (g_keep_Src_Text : ((Unit × (List ByteArray) × Unit) × (((List Int) × Int × Unit) × Unit)) → Option ((ByteArray × Unit) × (((List Int) × Int × Unit) × Unit))) (l : (List Int)) : Option (((Int × Int × Unit) × (ByteArray × Int × Int × Int × Unit) × Unit) × (Unit)) :=
  (Option.bind (g_keep_New ((l, ()), ())) (fun y0 =>
  (Option.bind (g_keep_Src_Pick (((), ([(9:Int), (1000:Int), (1000000000:Int)], ())), ((y0.2.1.1, (y0.2.1.2.1, ())), ()))) (fun y1 =>
  (Option.bind (g_keep_Src_Pick (((), ([(9:Int), (1000:Int), (1000000000:Int)], ())), ((y1.2.1.1, (y1.2.1.2.1, ())), ()))) (fun y2 =>
  (Option.bind (g_keep_Src_Range (((), ((Go.IntKind.wrap Go.IntKind.i64 ((0:Int) - y1.1.1)), (y2.1.1, ()))), ((y2.2.1.1, (y2.2.1.2.1, ())), ()))) (fun y3 =>
  (Option.bind (g_keep_Src_N (((), ((7:Int), ())), ((y3.2.1.1, (y3.2.1.2.1, ())), ()))) (fun y4 =>
  (Option.bind (g_keep_Src_Text (((), ([(ByteArray.mk #[(99:UInt8)]), (ByteArray.mk #[(114:UInt8), (97:UInt8), (119:UInt8)]), (ByteArray.mk #[(97:UInt8), (98:UInt8), (99:UInt8), (100:UInt8), (101:UInt8), (102:UInt8), (103:UInt8), (104:UInt8), (105:UInt8), (106:UInt8), (107:UInt8), (108:UInt8)])], ())), ((y4.2.1.1, (y4.2.1.2.1, ())), ()))) (fun y5 =>
  (Option.bind (g_keep_Src_Pick (((), ([(1:Int), (9:Int), (1000000:Int)], ())), ((y5.2.1.1, (y5.2.1.2.1, ())), ()))) (fun y6 =>
  (Option.bind (g_keep_Src_Range (((), ((1:Int), (y6.1.1, ()))), ((y6.2.1.1, (y6.2.1.2.1, ())), ()))) (fun y7 =>
  (Option.bind (g_keep_Src_Pick (((), ([(0:Int), (500:Int), (1000000000:Int)], ())), ((y7.2.1.1, (y7.2.1.2.1, ())), ()))) (fun y8 =>
  (Option.bind (g_keep_Src_Range (((), ((-(9:Int)), (y8.1.1, ()))), ((y8.2.1.1, (y8.2.1.2.1, ())), ()))) (fun y9 =>
  (Option.bind (g_keep_Src_Pick (((), ([(1:Int), (9:Int), (1000000:Int)], ())), ((y9.2.1.1, (y9.2.1.2.1, ())), ()))) (fun y10 =>
  (Option.bind (g_keep_Src_Range (((), ((1:Int), (y10.1.1, ()))), ((y10.2.1.1, (y10.2.1.2.1, ())), ()))) (fun y11 =>
  (some (((y3.1.1, (y4.1.1, ())), ((y5.1.1, (y7.1.1, (y9.1.1, (y11.1.1, ())))), ())), ()))))))))))))))))))))))))))
theorem law04_made.eq (g_keep_New : keep_New.sh.X → Option keep_New.osh.X) (g_keep_Src_Pick : keep_Src_Pick.sh.X → Option keep_Src_Pick.osh.X) (g_keep_Src_Range : keep_Src_Range.sh.X → Option keep_Src_Range.osh.X) (g_keep_Src_N : keep_Src_N.sh.X → Option keep_Src_N.osh.X) (g_keep_Src_Text : keep_Src_Text.sh.X → Option keep_Src_Text.osh.X) (x : (((List Int) × Unit) × (Unit))) : (bodyO (law04_made.E g_keep_New g_keep_Src_Pick g_keep_Src_Range g_keep_Src_N g_keep_Src_Text) (mk law04_made.hs law04_made.c []) Go.Proofs.Tryd.f10.results.toList law04_made.sh law04_made.osh x).run _ some = law04_made.f g_keep_New g_keep_Src_Pick g_keep_Src_Range g_keep_Src_N g_keep_Src_Text x.1.1 := by
  show _ = (_ : Option _)
  kernel_rfl
noncomputable def law04_made (l : (List Int)) : Option (((Int × Int × Unit) × (ByteArray × Int × Int × Int × Unit) × Unit) × (Unit)) := law04_made.f keep_New.F keep_Src_Pick.F keep_Src_Range.F keep_Src_N.F keep_Src_Text.F l
noncomputable def law04_made.F (x : (((List Int) × Unit) × (Unit))) : Option (((Int × Int × Unit) × (ByteArray × Int × Int × Int × Unit) × Unit) × (Unit)) := law04_made x.1.1
theorem law04_made.F_eq (l : (List Int)) : law04_made.F ((l, ()), ()) = law04_made.f keep_New.F keep_Src_Pick.F keep_Src_Range.F keep_Src_N.F keep_Src_Text.F l := rfl
theorem law04_made.ok {tabs : List (Nat × Go.Obj)} (ht : TabsOk tabs) : FOK Go.Proofs.Tryd.prog tabs 10 (FE.of [true] false law04_made.sh law04_made.osh law04_made.F) := by
  refine fn_keeps (E := (law04_made.E keep_New.F keep_Src_Pick.F keep_Src_Range.F keep_Src_N.F keep_Src_Text.F)) (c := law04_made.c) (fn := Go.Proofs.Tryd.f10) (hs := law04_made.hs) (by kernel_rfl) Go.Proofs.Tryd.func10 ⟨by kernel_rfl, by kernel_rfl, tb, by kernel_rfl, by kernel_rfl, by kernel_rfl, by kernel_rfl, by kernel_rfl⟩ ⟨fun g ks fe h => ?_, gt_ok ht⟩ ?_ (fun x => law04_made.eq keep_New.F keep_Src_Pick.F keep_Src_Range.F keep_Src_N.F keep_Src_Text.F x)
  · rcases c_cons h with ⟨rfl, rfl⟩ | h
    · exact keep_New.ok ht
    rcases c_cons h with ⟨rfl, rfl⟩ | h
    · exact keep_Src_Pick.ok ht
    rcases c_cons h with ⟨rfl, rfl⟩ | h
    · exact keep_Src_Range.ok ht
    rcases c_cons h with ⟨rfl, rfl⟩ | h
    · exact keep_Src_N.ok ht
    rcases c_cons h with ⟨rfl, rfl⟩ | h
    · exact keep_Src_Text.ok ht
    cases h
  · exact known_at 0 (by kernel_rfl) fun i hi => absurd hi (Nat.not_lt_zero i)

/-! law04_UnitGrows -/
def law04_UnitGrows.f0 (x_9 : Int) (e_10 : Int) (y_11 : Int) (f_12 : Int) (z_13 : Int) (g_14 : Int) : Option (((Int × Int × Int × Int × Bool × Unit) × (Unit)) ⊕ Empty) :=
  (bif (x_9 != z_13) then
   (some (Sum.inl ((x_9, (e_10, (y_11, (f_12, (Bool.true, ()))))), ())))
  else
   (bif (e_10 != g_14) then
    (some (Sum.inl ((x_9, (e_10, (y_11, (f_12, (Bool.true, ()))))), ())))
   else
    (bif (e_10 != (0:Int)) then
     (some (Sum.inl ((x_9, (e_10, (y_11, (f_12, ((e_10 != (12:Int)), ()))))), ())))
    else
     (some (Sum.inl ((x_9, (e_10, (y_11, (f_12, (Bool.false, ()))))), ()))))))
theorem law04_UnitGrows.eq0 (g_law04_made : law04_made.sh.X → Option law04_made.osh.X) (g_unit_Convert : unit_Convert.sh.X → Option unit_Convert.osh.X) (g_law04_awake : law04_awake.sh.X → Option law04_awake.osh.X) (l0 : law04_UnitGrows.s0.X → Option (sumX law04_UnitGrows.x0)) (L : ((Int × Int × Int × Int × Int × Int × Unit) × (Unit)) → Option (((Int × Int × Int × Int × Bool × Unit) × (Unit)) ⊕ Empty)) (x : ((Int × Int × Int × Int × Int × Int × Unit) × (Unit))) : (roundK (law04_UnitGrows.E g_law04_made g_unit_Convert g_law04_awake l0) law04_UnitGrows.s0 [9, 10, 11, 12, 13, 14] [(0, [9, 10, 11, 12, 69])] false (((mk law04_UnitGrows.hs law04_UnitGrows.c []).atoms.getD 0 .bad).body) law04_UnitGrows.x0 L x).run _ some = law04_UnitGrows.f0 x.1.1 x.1.2.1 x.1.2.2.1 x.1.2.2.2.1 x.1.2.2.2.2.1 x.1.2.2.2.2.2.1 := by
  show _ = (_ : Option _)
  kernel_rfl
noncomputable def law04_UnitGrows.L0 : ((Int × Int × Int × Int × Int × Int × Unit) × (Unit)) → Option (((Int × Int × Int × Int × Bool × Unit) × (Unit)) ⊕ Empty) := fun x => law04_UnitGrows.f0 x.1.1 x.1.2.1 x.1.2.2.1 x.1.2.2.2.1 x.1.2.2.2.2.1 x.1.2.2.2.2.2.1
def law04_UnitGrows.f (g_law04_made : (((List Int) × Unit) × (Unit)) → Option (((Int × Int × Unit) × (ByteArray × Int × Int × Int × Unit) × Unit) × (Unit))) (g_unit_Convert : (((Int × Int × Unit) × (ByteArray × Int × Int × Int × Unit) × Unit) × (Unit)) → Option ((Int × Int × Unit) × (Unit))) (g_law04_awake : ((Unit) × (Unit)) → Option ((Bool × Unit) × (Unit))) (l0 : ((Int × Int × Int × Int × Int × Int × Unit) × (Unit)) → Option (((Int × Int × Int × Int × Bool × Unit) × (Unit)) ⊕ Empty)) (a : Int) (b : Int) (l : (List Int)) : Option ((Bool × Unit) × (Unit)) :=
  (Option.bind (g_law04_made ((l, ()), ())) (fun y0 =>
  (Option.bind (g_unit_Convert ((((Go.VI.mn (Go.IntKind.wrap Go.IntKind.i64 a) (Go.IntKind.wrap Go.IntKind.i64 b)), ((1:Int), ())), ((y0.1.2.1.1, (y0.1.2.1.2.1, (y0.1.2.1.2.2.1, (y0.1.2.1.2.2.2.1, ())))), ())), ())) (fun y1 =>
  (Option.bind (g_unit_Convert ((((Go.VI.mx (Go.IntKind.wrap Go.IntKind.i64 a) (Go.IntKind.wrap Go.IntKind.i64 b)), ((1:Int), ())), ((y0.1.2.1.1, (y0.1.2.1.2.1, (y0.1.2.1.2.2.1, (y0.1.2.1.2.2.2.1, ())))), ())), ())) (fun y2 =>
  (Option.bind (g_unit_Convert ((((Go.IntKind.wrap Go.IntKind.i64 ((100:Int) * (Go.VI.mn (Go.IntKind.wrap Go.IntKind.i64 a) (Go.IntKind.wrap Go.IntKind.i64 b)))), ((3:Int), ())), ((y0.1.2.1.1, (y0.1.2.1.2.1, (y0.1.2.1.2.2.1, (y0.1.2.1.2.2.2.1, ())))), ())), ())) (fun y3 =>
  (Option.bind (l0 ((y1.1.1, (y1.1.2.1, (y2.1.1, (y2.1.2.1, (y3.1.1, (y3.1.2.1, ())))))), ())) (fun y4 =>
  (Sum.elim (fun a5 =>
   (bif a5.1.2.2.2.2.1 then
    (some ((Bool.false, ()), ()))
   else
    (bif (a5.1.2.1 != (0:Int)) then
     (Option.bind (g_law04_awake ((), ())) (fun y8 =>
     (some ((y8.1.1, ()), ()))))
    else
     (bif (a5.1.2.2.2.1 != (0:Int)) then
      (Option.bind (g_law04_awake ((), ())) (fun y9 =>
      (some ((y9.1.1, ()), ()))))
     else
      (bif (decide (a5.1.1 ≤ a5.1.2.2.1)) then
       (Option.bind (g_law04_awake ((), ())) (fun y10 =>
       (some ((y10.1.1, ()), ()))))
      else
       (some ((Bool.false, ()), ()))))))) (fun b5 =>
   (Empty.elim b5)) y4)))))))))))
theorem law04_UnitGrows.eq (g_law04_made : law04_made.sh.X → Option law04_made.osh.X) (g_unit_Convert : unit_Convert.sh.X → Option unit_Convert.osh.X) (g_law04_awake : law04_awake.sh.X → Option law04_awake.osh.X) (l0 : law04_UnitGrows.s0.X → Option (sumX law04_UnitGrows.x0)) (x : ((Int × Int × (List Int) × Unit) × (Unit))) : (bodyO (law04_UnitGrows.E g_law04_made g_unit_Convert g_law04_awake l0) (mk law04_UnitGrows.hs law04_UnitGrows.c []) Go.Proofs.Tryd.f4.results.toList law04_UnitGrows.sh law04_UnitGrows.osh x).run _ some = law04_UnitGrows.f g_law04_made g_unit_Convert g_law04_awake l0 x.1.1 x.1.2.1 x.1.2.2.1 := by
  show _ = (_ : Option _)
  kernel_rfl
noncomputable def law04_UnitGrows (a : Int) (b : Int) (l : (List Int)) : Option ((Bool × Unit) × (Unit)) := law04_UnitGrows.f law04_made.F unit_Convert.F law04_awake.F law04_UnitGrows.L0 a b l
noncomputable def law04_UnitGrows.F (x : ((Int × Int × (List Int) × Unit) × (Unit))) : Option ((Bool × Unit) × (Unit)) := law04_UnitGrows x.1.1 x.1.2.1 x.1.2.2.1
theorem law04_UnitGrows.L0_eq (x_9 : Int) (e_10 : Int) (y_11 : Int) (f_12 : Int) (z_13 : Int) (g_14 : Int) : law04_UnitGrows.L0 ((x_9, e_10, y_11, f_12, z_13, g_14, ()), ()) = law04_UnitGrows.f0 x_9 e_10 y_11 f_12 z_13 g_14 := rfl
theorem law04_UnitGrows.F_eq (a : Int) (b : Int) (l : (List Int)) : law04_UnitGrows.F ((a, b, l, ()), ()) = law04_UnitGrows.f law04_made.F unit_Convert.F law04_awake.F law04_UnitGrows.L0 a b l := rfl
theorem law04_UnitGrows.ok {tabs : List (Nat × Go.Obj)} (ht : TabsOk tabs) : FOK Go.Proofs.Tryd.prog tabs 4 (FE.of [true, true, true] false law04_UnitGrows.sh law04_UnitGrows.osh law04_UnitGrows.F) := by
  refine fn_keeps (E := (law04_UnitGrows.E law04_made.F unit_Convert.F law04_awake.F law04_UnitGrows.L0)) (c := law04_UnitGrows.c) (fn := Go.Proofs.Tryd.f4) (hs := law04_UnitGrows.hs) (by kernel_rfl) Go.Proofs.Tryd.func4 ⟨by kernel_rfl, by kernel_rfl, tb, by kernel_rfl, by kernel_rfl, by kernel_rfl, by kernel_rfl, by kernel_rfl⟩ ⟨fun g ks fe h => ?_, gt_ok ht⟩ ?_ (fun x => law04_UnitGrows.eq law04_made.F unit_Convert.F law04_awake.F law04_UnitGrows.L0 x)
  · rcases c_cons h with ⟨rfl, rfl⟩ | h
    · exact law04_made.ok ht
    rcases c_cons h with ⟨rfl, rfl⟩ | h
    · exact unit_Convert.ok ht
    rcases c_cons h with ⟨rfl, rfl⟩ | h
    · exact law04_awake.ok ht
    cases h
  · refine known_at 1 (by kernel_rfl) fun i hi => ?_
    match i, hi with
    | 0, _ => exact atom_at (id := 0) (live := [9, 10, 11, 12, 13, 14]) (outs := [(0, [9, 10, 11, 12, 69])]) (loop := false) (by kernel_rfl) (cut_ok (E := (law04_UnitGrows.E law04_made.F unit_Convert.F law04_awake.F law04_UnitGrows.L0)) (sh := law04_UnitGrows.s0) (es := law04_UnitGrows.x0) rfl (fun L x => law04_UnitGrows.eq0 law04_made.F unit_Convert.F law04_awake.F law04_UnitGrows.L0 L x))
    | n + 1, h => exact absurd h (by omega)
end Go.Proofs.YthbphpmiandmbaaDoor.V
