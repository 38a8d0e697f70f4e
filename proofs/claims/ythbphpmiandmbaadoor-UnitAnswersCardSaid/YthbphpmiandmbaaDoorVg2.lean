import Derived.Test.YthbphpmiandmbaaDoorVg1
import Derived.Test.YthbphpmiandmbaaDoorShelf
set_option linter.unusedVariables false
set_option maxRecDepth 100000
namespace Go.Proofs.YthbphpmiandmbaaDoor.V
open Go.VI
/-! law04_UnitReads -/
def law04_UnitReads.f0 (g_law04_awake : ((Unit) × (Unit)) → Option ((Bool × Unit) × (Unit))) (g_unit_Format : (((Int × Int × Unit) × Unit) × (Unit)) → Option ((ByteArray × Unit) × (Unit))) (s_0 : ByteArray) (e_8 : Int) (f_10 : Int) (o0_0 : Int) (o0_1 : Int) (o1_0 : Int) (o1_1 : Int) (o2_0 : Int) (o2_1 : Int) : Option (((Bool × Unit) × (Unit)) ⊕ Empty) :=
  (bif (e_8 == (0:Int)) then
   (bif ((o1_0 == o0_0) && ((o1_1 == o0_1) && Bool.true)) then
    (bif (f_10 != (0:Int)) then
     (Option.bind (g_law04_awake ((), ())) (fun y3 =>
     (some (Sum.inl ((y3.1.1, ()), ())))))
    else
     (Option.bind (g_unit_Format (((o2_0, (o2_1, ())), ()), ())) (fun y3 =>
     (bif ((ByteArray.toList y3.1.1) == (ByteArray.toList s_0)) then
      (Option.bind (g_law04_awake ((), ())) (fun y5 =>
      (some (Sum.inl ((y5.1.1, ()), ())))))
     else
      (some (Sum.inl ((Bool.false, ()), ())))))))
   else
    (some (Sum.inl ((Bool.false, ()), ()))))
  else
   (some (Sum.inl ((Bool.false, ()), ()))))
theorem law04_UnitReads.eq0 (g_law04_awake : law04_awake.sh.X → Option law04_awake.osh.X) (g_law04_made : law04_made.sh.X → Option law04_made.osh.X) (g_unit_Format : unit_Format.sh.X → Option unit_Format.osh.X) (g_unit_Parse : unit_Parse.sh.X → Option unit_Parse.osh.X) (l0 : law04_UnitReads.s0.X → Option (sumX law04_UnitReads.x0)) (L : ((ByteArray × Unit × Unit × Int × Unit × Int × Unit) × ((Int × Int × Unit) × (Int × Int × Unit) × (Int × Int × Unit) × Unit)) → Option (((Bool × Unit) × (Unit)) ⊕ Empty)) (x : ((ByteArray × Unit × Unit × Int × Unit × Int × Unit) × ((Int × Int × Unit) × (Int × Int × Unit) × (Int × Int × Unit) × Unit))) : (roundK (law04_UnitReads.E g_law04_awake g_law04_made g_unit_Format g_unit_Parse l0) law04_UnitReads.s0 [0, 5, 7, 8, 9, 10] [(0, [4])] false (((mk law04_UnitReads.hs law04_UnitReads.c []).atoms.getD 0 .bad).body) law04_UnitReads.x0 L x).run _ some = law04_UnitReads.f0 g_law04_awake g_unit_Format x.1.1 x.1.2.2.2.1 x.1.2.2.2.2.2.1 x.2.1.1 x.2.1.2.1 x.2.2.1.1 x.2.2.1.2.1 x.2.2.2.1.1 x.2.2.2.1.2.1 := by
  show _ = (_ : Option _)
  kernel_rfl
noncomputable def law04_UnitReads.L0 : ((ByteArray × Unit × Unit × Int × Unit × Int × Unit) × ((Int × Int × Unit) × (Int × Int × Unit) × (Int × Int × Unit) × Unit)) → Option (((Bool × Unit) × (Unit)) ⊕ Empty) := fun x => law04_UnitReads.f0 law04_awake.F unit_Format.F x.1.1 x.1.2.2.2.1 x.1.2.2.2.2.2.1 x.2.1.1 x.2.1.2.1 x.2.2.1.1 x.2.2.1.2.1 x.2.2.2.1.1 x.2.2.2.1.2.1
def law04_UnitReads.f (g_law04_awake : ((Unit) × (Unit)) → Option ((Bool × Unit) × (Unit))) (g_law04_made : (((List Int) × Unit) × (Unit)) → Option (((Int × Int × Unit) × (ByteArray × Int × Int × Int × Unit) × Unit) × (Unit))) (g_unit_Format : (((Int × Int × Unit) × Unit) × (Unit)) → Option ((ByteArray × Unit) × (Unit))) (g_unit_Parse : ((ByteArray × Unit) × (Unit)) → Option (((Int × Int × Unit) × Int × Unit) × (Unit))) (l0 : ((ByteArray × Unit × Unit × Int × Unit × Int × Unit) × ((Int × Int × Unit) × (Int × Int × Unit) × (Int × Int × Unit) × Unit)) → Option (((Bool × Unit) × (Unit)) ⊕ Empty)) (s : ByteArray) (l : (List Int)) : Option ((Bool × Unit) × (Unit)) :=
  (bif (decide ((((ByteArray.size s) : Nat) : Int) > (60:Int))) then
   (Option.bind (g_law04_awake ((), ())) (fun y1 =>
   (some ((y1.1.1, ()), ()))))
  else
   (Option.bind (g_law04_made ((l, ()), ())) (fun y1 =>
   (Option.bind (g_unit_Format (((y1.1.1.1, (y1.1.1.2.1, ())), ()), ())) (fun y2 =>
   (Option.bind (g_unit_Parse ((y2.1.1, ()), ())) (fun y3 =>
   (Option.bind (g_unit_Parse ((s, ()), ())) (fun y4 =>
   (Option.bind (l0 ((s, ((), ((), (y3.1.2.1, ((), (y4.1.2.1, ())))))), ((y1.1.1.1, (y1.1.1.2.1, ())), ((y3.1.1.1, (y3.1.1.2.1, ())), ((y4.1.1.1, (y4.1.1.2.1, ())), ()))))) (fun y5 =>
   (Sum.elim (fun a6 =>
    (some ((a6.1.1, ()), ()))) (fun b6 =>
    (Empty.elim b6)) y5))))))))))))
theorem law04_UnitReads.eq (g_law04_awake : law04_awake.sh.X → Option law04_awake.osh.X) (g_law04_made : law04_made.sh.X → Option law04_made.osh.X) (g_unit_Format : unit_Format.sh.X → Option unit_Format.osh.X) (g_unit_Parse : unit_Parse.sh.X → Option unit_Parse.osh.X) (l0 : law04_UnitReads.s0.X → Option (sumX law04_UnitReads.x0)) (x : ((ByteArray × (List Int) × Unit) × (Unit))) : (bodyO (law04_UnitReads.E g_law04_awake g_law04_made g_unit_Format g_unit_Parse l0) (mk law04_UnitReads.hs law04_UnitReads.c []) Go.Proofs.Tryd.f7.results.toList law04_UnitReads.sh law04_UnitReads.osh x).run _ some = law04_UnitReads.f g_law04_awake g_law04_made g_unit_Format g_unit_Parse l0 x.1.1 x.1.2.1 := by
  show _ = (_ : Option _)
  kernel_rfl
noncomputable def law04_UnitReads (s : ByteArray) (l : (List Int)) : Option ((Bool × Unit) × (Unit)) := law04_UnitReads.f law04_awake.F law04_made.F unit_Format.F unit_Parse.F law04_UnitReads.L0 s l
noncomputable def law04_UnitReads.F (x : ((ByteArray × (List Int) × Unit) × (Unit))) : Option ((Bool × Unit) × (Unit)) := law04_UnitReads x.1.1 x.1.2.1
theorem law04_UnitReads.L0_eq (s_0 : ByteArray) (e_8 : Int) (f_10 : Int) (o0_0 : Int) (o0_1 : Int) (o1_0 : Int) (o1_1 : Int) (o2_0 : Int) (o2_1 : Int) : law04_UnitReads.L0 ((s_0, (), (), e_8, (), f_10, ()), ((o0_0, o0_1, ()), (o1_0, o1_1, ()), (o2_0, o2_1, ()), ())) = law04_UnitReads.f0 law04_awake.F unit_Format.F s_0 e_8 f_10 o0_0 o0_1 o1_0 o1_1 o2_0 o2_1 := rfl
theorem law04_UnitReads.F_eq (s : ByteArray) (l : (List Int)) : law04_UnitReads.F ((s, l, ()), ()) = law04_UnitReads.f law04_awake.F law04_made.F unit_Format.F unit_Parse.F law04_UnitReads.L0 s l := rfl
theorem law04_UnitReads.ok {tabs : List (Nat × Go.Obj)} (ht : TabsOk tabs) : FOK Go.Proofs.Tryd.prog tabs 7 (FE.of [true, true] false law04_UnitReads.sh law04_UnitReads.osh law04_UnitReads.F) := by
  refine fn_keeps (E := (law04_UnitReads.E law04_awake.F law04_made.F unit_Format.F unit_Parse.F law04_UnitReads.L0)) (c := law04_UnitReads.c) (fn := Go.Proofs.Tryd.f7) (hs := law04_UnitReads.hs) (by kernel_rfl) Go.Proofs.Tryd.func7 ⟨by kernel_rfl, by kernel_rfl, tb, by kernel_rfl, by kernel_rfl, by kernel_rfl, by kernel_rfl, by kernel_rfl⟩ ⟨fun g ks fe h => ?_, gt_ok ht⟩ ?_ (fun x => law04_UnitReads.eq law04_awake.F law04_made.F unit_Format.F unit_Parse.F law04_UnitReads.L0 x)
  · rcases c_cons h with ⟨rfl, rfl⟩ | h
    · exact law04_awake.ok ht
    rcases c_cons h with ⟨rfl, rfl⟩ | h
    · exact law04_made.ok ht
    rcases c_cons h with ⟨rfl, rfl⟩ | h
    · exact unit_Format.ok ht
    rcases c_cons h with ⟨rfl, rfl⟩ | h
    · exact unit_Parse.ok ht
    cases h
  · refine known_at 1 (by kernel_rfl) fun i hi => ?_
    match i, hi with
    | 0, _ => exact atom_at (id := 0) (live := [0, 5, 7, 8, 9, 10]) (outs := [(0, [4])]) (loop := false) (by kernel_rfl) (cut_ok (E := (law04_UnitReads.E law04_awake.F law04_made.F unit_Format.F unit_Parse.F law04_UnitReads.L0)) (sh := law04_UnitReads.s0) (es := law04_UnitReads.x0) rfl (fun L x => law04_UnitReads.eq0 law04_awake.F law04_made.F unit_Format.F unit_Parse.F law04_UnitReads.L0 L x))
    | n + 1, h => exact absurd h (by omega)

/-! ref04_proper -/
def ref04_proper.f (d_Digits : Int) (d_Places : Int) : Option ((Bool × Unit) × (Unit)) :=
  (bif (decide (d_Digits ≥ (-(1000000000:Int)))) then
   (bif (decide (d_Digits ≤ (1000000000:Int))) then
    (bif (decide (d_Places ≥ (0:Int))) then
     (some (((decide (d_Places ≤ (6:Int))), ()), ()))
    else
     (some ((Bool.false, ()), ())))
   else
    (some ((Bool.false, ()), ())))
  else
   (some ((Bool.false, ()), ())))
theorem ref04_proper.eq (x : (((Int × Int × Unit) × Unit) × (Unit))) : (bodyO (ref04_proper.E) (mk ref04_proper.hs ref04_proper.c []) Go.Proofs.Tryd.f26.results.toList ref04_proper.sh ref04_proper.osh x).run _ some = ref04_proper.f x.1.1.1 x.1.1.2.1 := by
  show _ = (_ : Option _)
  kernel_rfl
noncomputable def ref04_proper (d_Digits : Int) (d_Places : Int) : Option ((Bool × Unit) × (Unit)) := ref04_proper.f d_Digits d_Places
noncomputable def ref04_proper.F (x : (((Int × Int × Unit) × Unit) × (Unit))) : Option ((Bool × Unit) × (Unit)) := ref04_proper x.1.1.1 x.1.1.2.1
theorem ref04_proper.F_eq (d_Digits : Int) (d_Places : Int) : ref04_proper.F (((d_Digits, d_Places, ()), ()), ()) = ref04_proper.f d_Digits d_Places := rfl
theorem ref04_proper.ok {tabs : List (Nat × Go.Obj)} (ht : TabsOk tabs) : FOK Go.Proofs.Tryd.prog tabs 26 (FE.of [true] false ref04_proper.sh ref04_proper.osh ref04_proper.F) := by
  refine fn_keeps (E := (ref04_proper.E)) (c := ref04_proper.c) (fn := Go.Proofs.Tryd.f26) (hs := ref04_proper.hs) (by kernel_rfl) Go.Proofs.Tryd.func26 ⟨by kernel_rfl, by kernel_rfl, tb, by kernel_rfl, by kernel_rfl, by kernel_rfl, by kernel_rfl, by kernel_rfl⟩ ⟨fun g ks fe h => ?_, gt_ok ht⟩ ?_ (fun x => ref04_proper.eq x)
  · cases h
  · exact known_at 0 (by kernel_rfl) fun i hi => absurd hi (Nat.not_lt_zero i)

/-! ref04_Power -/
def ref04_Power.f0 (L : ((Int × Int × Int × Unit) × (Unit)) → Option (((Int × Unit) × (Unit)) ⊕ Empty)) (n_0 : Int) (p_3 : Int) (i_4 : Int) : Option (((Int × Unit) × (Unit)) ⊕ Empty) :=
  (bif (decide (i_4 < n_0)) then
   (Option.bind (L ((n_0, ((Go.IntKind.wrap Go.IntKind.i64 (p_3 * (10:Int))), ((Go.IntKind.wrap Go.IntKind.i64 (i_4 + (1:Int))), ()))), ())) (fun y1 =>
   (some y1)))
  else
   (some (Sum.inl ((p_3, ()), ()))))
theorem ref04_Power.eq0 (l0 : ref04_Power.s0.X → Option (sumX ref04_Power.x0)) (L : ((Int × Int × Int × Unit) × (Unit)) → Option (((Int × Unit) × (Unit)) ⊕ Empty)) (x : ((Int × Int × Int × Unit) × (Unit))) : (roundK (ref04_Power.E l0) ref04_Power.s0 [0, 3, 4] [(2, [3])] true (((mk ref04_Power.hs ref04_Power.c []).atoms.getD 0 .bad).body) ref04_Power.x0 L x).run _ some = ref04_Power.f0 L x.1.1 x.1.2.1 x.1.2.2.1 := by
  show _ = (_ : Option _)
  kernel_rfl
noncomputable def ref04_Power.L0 : ((Int × Int × Int × Unit) × (Unit)) → Option (((Int × Unit) × (Unit)) ⊕ Empty) := loop fun L x => ref04_Power.f0 L x.1.1 x.1.2.1 x.1.2.2.1
def ref04_Power.f (l0 : ((Int × Int × Int × Unit) × (Unit)) → Option (((Int × Unit) × (Unit)) ⊕ Empty)) (n : Int) : Option ((Int × Unit) × (Unit)) :=
  (Option.bind (l0 ((n, ((1:Int), ((0:Int), ()))), ())) (fun y0 =>
  (Sum.elim (fun a1 =>
   (some ((a1.1.1, ()), ()))) (fun b1 =>
   (Empty.elim b1)) y0)))
theorem ref04_Power.eq (l0 : ref04_Power.s0.X → Option (sumX ref04_Power.x0)) (x : ((Int × Unit) × (Unit))) : (bodyO (ref04_Power.E l0) (mk ref04_Power.hs ref04_Power.c []) Go.Proofs.Tryd.f27.results.toList ref04_Power.sh ref04_Power.osh x).run _ some = ref04_Power.f l0 x.1.1 := by
  show _ = (_ : Option _)
  kernel_rfl
noncomputable def ref04_Power (n : Int) : Option ((Int × Unit) × (Unit)) := ref04_Power.f ref04_Power.L0 n
noncomputable def ref04_Power.F (x : ((Int × Unit) × (Unit))) : Option ((Int × Unit) × (Unit)) := ref04_Power x.1.1
theorem ref04_Power.L0_eq (n_0 : Int) (p_3 : Int) (i_4 : Int) : ref04_Power.L0 ((n_0, p_3, i_4, ()), ()) = ref04_Power.f0 ref04_Power.L0 n_0 p_3 i_4 :=
  loop_eq (E := (ref04_Power.E ref04_Power.L0)) (sh := ref04_Power.s0) (es := ref04_Power.x0) (lp := true) (H := fun L x => ref04_Power.eq0 ref04_Power.L0 L x) ((n_0, p_3, i_4, ()), ())
theorem ref04_Power.F_eq (n : Int) : ref04_Power.F ((n, ()), ()) = ref04_Power.f ref04_Power.L0 n := rfl
theorem ref04_Power.ok {tabs : List (Nat × Go.Obj)} (ht : TabsOk tabs) : FOK Go.Proofs.Tryd.prog tabs 27 (FE.of [true] false ref04_Power.sh ref04_Power.osh ref04_Power.F) := by
  refine fn_keeps (E := (ref04_Power.E ref04_Power.L0)) (c := ref04_Power.c) (fn := Go.Proofs.Tryd.f27) (hs := ref04_Power.hs) (by kernel_rfl) Go.Proofs.Tryd.func27 ⟨by kernel_rfl, by kernel_rfl, tb, by kernel_rfl, by kernel_rfl, by kernel_rfl, by kernel_rfl, by kernel_rfl⟩ ⟨fun g ks fe h => ?_, gt_ok ht⟩ ?_ (fun x => ref04_Power.eq ref04_Power.L0 x)
  · cases h
  · refine known_at 1 (by kernel_rfl) fun i hi => ?_
    match i, hi with
    | 0, _ => exact atom_at (id := 0) (live := [0, 3, 4]) (outs := [(2, [3])]) (loop := true) (by kernel_rfl) (loop_ok (E := (ref04_Power.E ref04_Power.L0)) (sh := ref04_Power.s0) (es := ref04_Power.x0) rfl (fun L x => ref04_Power.eq0 ref04_Power.L0 L x))
    | n + 1, h => exact absurd h (by omega)

/-! ref01_Decimal -/
def ref01_Decimal.f0 (L : ((Int × ByteArray × Unit) × (Unit)) → Option (((ByteArray × Unit) × (Unit)) ⊕ Empty)) (n_0 : Int) (s_3 : ByteArray) : Option (((ByteArray × Unit) × (Unit)) ⊕ Empty) :=
  (bif (decide (((ByteArray.size (ByteArray.mk #[(UInt8.ofBitVec (BitVec.ofFin (Fin.mk ((Int.toNat (Go.IntKind.wrap Go.IntKind.u8 (Go.IntKind.wrap Go.IntKind.i64 ((48:Int) + (Int.tmod n_0 (10:Int)))))) % ((2:Nat) ^ (8:Nat))) (Nat.mod_lt (Int.toNat (Go.IntKind.wrap Go.IntKind.u8 (Go.IntKind.wrap Go.IntKind.i64 ((48:Int) + (Int.tmod n_0 (10:Int)))))) (BitVec.ofNat._proof_1 (8:Nat))))))])) + (ByteArray.size s_3)) ≤ (9223372036854775807:Nat))) then
   (bif ((Go.IntKind.wrap Go.IntKind.i64 (Int.tdiv n_0 (10:Int))) == (0:Int)) then
    (some (Sum.inl ((((ByteArray.mk #[(UInt8.ofBitVec (BitVec.ofFin (Fin.mk ((Int.toNat (Go.IntKind.wrap Go.IntKind.u8 (Go.IntKind.wrap Go.IntKind.i64 ((48:Int) + (Int.tmod n_0 (10:Int)))))) % ((2:Nat) ^ (8:Nat))) (Nat.mod_lt (Int.toNat (Go.IntKind.wrap Go.IntKind.u8 (Go.IntKind.wrap Go.IntKind.i64 ((48:Int) + (Int.tmod n_0 (10:Int)))))) (BitVec.ofNat._proof_1 (8:Nat))))))]) ++ s_3), ()), ())))
   else
    (Option.bind (L (((Go.IntKind.wrap Go.IntKind.i64 (Int.tdiv n_0 (10:Int))), (((ByteArray.mk #[(UInt8.ofBitVec (BitVec.ofFin (Fin.mk ((Int.toNat (Go.IntKind.wrap Go.IntKind.u8 (Go.IntKind.wrap Go.IntKind.i64 ((48:Int) + (Int.tmod n_0 (10:Int)))))) % ((2:Nat) ^ (8:Nat))) (Nat.mod_lt (Int.toNat (Go.IntKind.wrap Go.IntKind.u8 (Go.IntKind.wrap Go.IntKind.i64 ((48:Int) + (Int.tmod n_0 (10:Int)))))) (BitVec.ofNat._proof_1 (8:Nat))))))]) ++ s_3), ())), ())) (fun y2 =>
    (some y2))))
  else
   none)
theorem ref01_Decimal.eq0 (l0 : ref01_Decimal.s0.X → Option (sumX ref01_Decimal.x0)) (L : ((Int × ByteArray × Unit) × (Unit)) → Option (((ByteArray × Unit) × (Unit)) ⊕ Empty)) (x : ((Int × ByteArray × Unit) × (Unit))) : (roundK (ref01_Decimal.E l0) ref01_Decimal.s0 [0, 3] [(1, [2])] true (((mk ref01_Decimal.hs ref01_Decimal.c []).atoms.getD 0 .bad).body) ref01_Decimal.x0 L x).run _ some = ref01_Decimal.f0 L x.1.1 x.1.2.1 := by
  show _ = (_ : Option _)
  kernel_rfl
noncomputable def ref01_Decimal.L0 : ((Int × ByteArray × Unit) × (Unit)) → Option (((ByteArray × Unit) × (Unit)) ⊕ Empty) := loop fun L x => ref01_Decimal.f0 L x.1.1 x.1.2.1
def ref01_Decimal.f (l0 : ((Int × ByteArray × Unit) × (Unit)) → Option (((ByteArray × Unit) × (Unit)) ⊕ Empty)) (n : Int) : Option ((ByteArray × Unit) × (Unit)) :=
  (Option.bind (l0 ((n, ((ByteArray.mk #[]), ())), ())) (fun y0 =>
  (Sum.elim (fun a1 =>
   (some ((a1.1.1, ()), ()))) (fun b1 =>
   (Empty.elim b1)) y0)))
theorem ref01_Decimal.eq (l0 : ref01_Decimal.s0.X → Option (sumX ref01_Decimal.x0)) (x : ((Int × Unit) × (Unit))) : (bodyO (ref01_Decimal.E l0) (mk ref01_Decimal.hs ref01_Decimal.c []) Go.Proofs.Tryd.f28.results.toList ref01_Decimal.sh ref01_Decimal.osh x).run _ some = ref01_Decimal.f l0 x.1.1 := by
  show _ = (_ : Option _)
  kernel_rfl
noncomputable def ref01_Decimal (n : Int) : Option ((ByteArray × Unit) × (Unit)) := ref01_Decimal.f ref01_Decimal.L0 n
noncomputable def ref01_Decimal.F (x : ((Int × Unit) × (Unit))) : Option ((ByteArray × Unit) × (Unit)) := ref01_Decimal x.1.1
theorem ref01_Decimal.L0_eq (n_0 : Int) (s_3 : ByteArray) : ref01_Decimal.L0 ((n_0, s_3, ()), ()) = ref01_Decimal.f0 ref01_Decimal.L0 n_0 s_3 :=
  loop_eq (E := (ref01_Decimal.E ref01_Decimal.L0)) (sh := ref01_Decimal.s0) (es := ref01_Decimal.x0) (lp := true) (H := fun L x => ref01_Decimal.eq0 ref01_Decimal.L0 L x) ((n_0, s_3, ()), ())
theorem ref01_Decimal.F_eq (n : Int) : ref01_Decimal.F ((n, ()), ()) = ref01_Decimal.f ref01_Decimal.L0 n := rfl
theorem ref01_Decimal.ok {tabs : List (Nat × Go.Obj)} (ht : TabsOk tabs) : FOK Go.Proofs.Tryd.prog tabs 28 (FE.of [true] false ref01_Decimal.sh ref01_Decimal.osh ref01_Decimal.F) := by
  refine fn_keeps (E := (ref01_Decimal.E ref01_Decimal.L0)) (c := ref01_Decimal.c) (fn := Go.Proofs.Tryd.f28) (hs := ref01_Decimal.hs) (by kernel_rfl) Go.Proofs.Tryd.func28 ⟨by kernel_rfl, by kernel_rfl, tb, by kernel_rfl, by kernel_rfl, by kernel_rfl, by kernel_rfl, by kernel_rfl⟩ ⟨fun g ks fe h => ?_, gt_ok ht⟩ ?_ (fun x => ref01_Decimal.eq ref01_Decimal.L0 x)
  · cases h
  · refine known_at 1 (by kernel_rfl) fun i hi => ?_
    match i, hi with
    | 0, _ => exact atom_at (id := 0) (live := [0, 3]) (outs := [(1, [2])]) (loop := true) (by kernel_rfl) (loop_ok (E := (ref01_Decimal.E ref01_Decimal.L0)) (sh := ref01_Decimal.s0) (es := ref01_Decimal.x0) rfl (fun L x => ref01_Decimal.eq0 ref01_Decimal.L0 L x))
    | n + 1, h => exact absurd h (by omega)

/-! ref04_Format -/
def ref04_Format.f (g_ref04_proper : (((Int × Int × Unit) × Unit) × (Unit)) → Option ((Bool × Unit) × (Unit))) (g_ref04_Power : ((Int × Unit) × (Unit)) → Option ((Int × Unit) × (Unit))) (g_ref01_Decimal : ((Int × Unit) × (Unit)) → Option ((ByteArray × Unit) × (Unit))) (d_Digits : Int) (d_Places : Int) : Option ((ByteArray × Unit) × (Unit)) :=
  (Option.bind (g_ref04_proper (((d_Digits, (d_Places, ())), ()), ())) (fun y0 =>
  (bif (!y0.1.1) then
   (some (((ByteArray.mk #[]), ()), ()))
  else
   (bif (decide (d_Digits < (0:Int))) then
    (Option.bind (g_ref04_Power ((d_Places, ()), ())) (fun y3 =>
    (bif (d_Places == (0:Int)) then
     (Option.bind (g_ref01_Decimal (((Go.IntKind.wrap Go.IntKind.i64 ((0:Int) - d_Digits)), ()), ())) (fun y5 =>
     (bif (decide (((ByteArray.size (ByteArray.mk #[(45:UInt8)])) + (ByteArray.size y5.1.1)) ≤ (9223372036854775807:Nat))) then
      (some ((((ByteArray.mk #[(45:UInt8)]) ++ y5.1.1), ()), ()))
     else
      none)))
    else
     (bif (!(decide (y3.1.1 = (0:Int)))) then
      (Option.bind (g_ref01_Decimal (((Go.IntKind.wrap Go.IntKind.i64 (Int.tdiv (Go.IntKind.wrap Go.IntKind.i64 ((0:Int) - d_Digits)) y3.1.1)), ()), ())) (fun y6 =>
      (bif (decide (((ByteArray.size (ByteArray.mk #[(45:UInt8)])) + (ByteArray.size y6.1.1)) ≤ (9223372036854775807:Nat))) then
       (bif (decide (((ByteArray.size ((ByteArray.mk #[(45:UInt8)]) ++ y6.1.1)) + (ByteArray.size (ByteArray.mk #[(46:UInt8)]))) ≤ (9223372036854775807:Nat))) then
        (bif (!(decide (y3.1.1 = (0:Int)))) then
         (Option.bind (g_ref01_Decimal (((Go.IntKind.wrap Go.IntKind.i64 (y3.1.1 + (Int.tmod (Go.IntKind.wrap Go.IntKind.i64 ((0:Int) - d_Digits)) y3.1.1))), ()), ())) (fun y10 =>
         (bif (decide ((1:Int) ≤ (((ByteArray.size y10.1.1) : Nat) : Int))) then
          (bif (decide (((ByteArray.size (((ByteArray.mk #[(45:UInt8)]) ++ y6.1.1) ++ (ByteArray.mk #[(46:UInt8)]))) + (ByteArray.size (ByteArray.extract y10.1.1 (Int.toNat (1:Int)) (Int.toNat (((ByteArray.size y10.1.1) : Nat) : Int))))) ≤ (9223372036854775807:Nat))) then
           (some ((((((ByteArray.mk #[(45:UInt8)]) ++ y6.1.1) ++ (ByteArray.mk #[(46:UInt8)])) ++ (ByteArray.extract y10.1.1 (Int.toNat (1:Int)) (Int.toNat (((ByteArray.size y10.1.1) : Nat) : Int)))), ()), ()))
          else
           none)
         else
          none)))
        else
         none)
       else
        none)
      else
       none)))
     else
      none))))
   else
    (Option.bind (g_ref04_Power ((d_Places, ()), ())) (fun y3 =>
    (bif (d_Places == (0:Int)) then
     (Option.bind (g_ref01_Decimal ((d_Digits, ()), ())) (fun y5 =>
     (bif (decide (((ByteArray.size (ByteArray.mk #[])) + (ByteArray.size y5.1.1)) ≤ (9223372036854775807:Nat))) then
      (some ((((ByteArray.mk #[]) ++ y5.1.1), ()), ()))
     else
      none)))
    else
     (bif (!(decide (y3.1.1 = (0:Int)))) then
      (Option.bind (g_ref01_Decimal (((Go.IntKind.wrap Go.IntKind.i64 (Int.tdiv d_Digits y3.1.1)), ()), ())) (fun y6 =>
      (bif (decide (((ByteArray.size (ByteArray.mk #[])) + (ByteArray.size y6.1.1)) ≤ (9223372036854775807:Nat))) then
       (bif (decide (((ByteArray.size ((ByteArray.mk #[]) ++ y6.1.1)) + (ByteArray.size (ByteArray.mk #[(46:UInt8)]))) ≤ (9223372036854775807:Nat))) then
        (bif (!(decide (y3.1.1 = (0:Int)))) then
         (Option.bind (g_ref01_Decimal (((Go.IntKind.wrap Go.IntKind.i64 (y3.1.1 + (Int.tmod d_Digits y3.1.1))), ()), ())) (fun y10 =>
         (bif (decide ((1:Int) ≤ (((ByteArray.size y10.1.1) : Nat) : Int))) then
          (bif (decide (((ByteArray.size (((ByteArray.mk #[]) ++ y6.1.1) ++ (ByteArray.mk #[(46:UInt8)]))) + (ByteArray.size (ByteArray.extract y10.1.1 (Int.toNat (1:Int)) (Int.toNat (((ByteArray.size y10.1.1) : Nat) : Int))))) ≤ (9223372036854775807:Nat))) then
           (some ((((((ByteArray.mk #[]) ++ y6.1.1) ++ (ByteArray.mk #[(46:UInt8)])) ++ (ByteArray.extract y10.1.1 (Int.toNat (1:Int)) (Int.toNat (((ByteArray.size y10.1.1) : Nat) : Int)))), ()), ()))
          else
           none)
         else
          none)))
        else
         none)
       else
        none)
      else
       none)))
     else
      none))))))))
theorem ref04_Format.eq (g_ref04_proper : ref04_proper.sh.X → Option ref04_proper.osh.X) (g_ref04_Power : ref04_Power.sh.X → Option ref04_Power.osh.X) (g_ref01_Decimal : ref01_Decimal.sh.X → Option ref01_Decimal.osh.X) (x : (((Int × Int × Unit) × Unit) × (Unit))) : (bodyO (ref04_Format.E g_ref04_proper g_ref04_Power g_ref01_Decimal) (mk ref04_Format.hs ref04_Format.c []) Go.Proofs.Tryd.f12.results.toList ref04_Format.sh ref04_Format.osh x).run _ some = ref04_Format.f g_ref04_proper g_ref04_Power g_ref01_Decimal x.1.1.1 x.1.1.2.1 := by
  show _ = (_ : Option _)
  kernel_rfl
noncomputable def ref04_Format (d_Digits : Int) (d_Places : Int) : Option ((ByteArray × Unit) × (Unit)) := ref04_Format.f ref04_proper.F ref04_Power.F ref01_Decimal.F d_Digits d_Places
noncomputable def ref04_Format.F (x : (((Int × Int × Unit) × Unit) × (Unit))) : Option ((ByteArray × Unit) × (Unit)) := ref04_Format x.1.1.1 x.1.1.2.1
theorem ref04_Format.F_eq (d_Digits : Int) (d_Places : Int) : ref04_Format.F (((d_Digits, d_Places, ()), ()), ()) = ref04_Format.f ref04_proper.F ref04_Power.F ref01_Decimal.F d_Digits d_Places := rfl
theorem ref04_Format.ok {tabs : List (Nat × Go.Obj)} (ht : TabsOk tabs) : FOK Go.Proofs.Tryd.prog tabs 12 (FE.of [true] false ref04_Format.sh ref04_Format.osh ref04_Format.F) := by
  refine fn_keeps (E := (ref04_Format.E ref04_proper.F ref04_Power.F ref01_Decimal.F)) (c := ref04_Format.c) (fn := Go.Proofs.Tryd.f12) (hs := ref04_Format.hs) (by kernel_rfl) Go.Proofs.Tryd.func12 ⟨by kernel_rfl, by kernel_rfl, tb, by kernel_rfl, by kernel_rfl, by kernel_rfl, by kernel_rfl, by kernel_rfl⟩ ⟨fun g ks fe h => ?_, gt_ok ht⟩ ?_ (fun x => ref04_Format.eq ref04_proper.F ref04_Power.F ref01_Decimal.F x)
  · rcases c_cons h with ⟨rfl, rfl⟩ | h
    · exact ref04_proper.ok ht
    rcases c_cons h with ⟨rfl, rfl⟩ | h
    · exact ref04_Power.ok ht
    rcases c_cons h with ⟨rfl, rfl⟩ | h
    · exact ref01_Decimal.ok ht
    cases h
  · exact known_at 0 (by kernel_rfl) fun i hi => absurd hi (Nat.not_lt_zero i)

/-! ref04_Parse -/
def ref04_Parse.f0 (s_0 : ByteArray) (o0_0 : Int) (o0_1 : Int) : Option (((ByteArray × Unit × Bool × Unit) × ((Int × Int × Unit) × Unit)) ⊕ Empty) :=
  (bif (decide ((((ByteArray.size s_0) : Nat) : Int) > (0:Int))) then
   (bif (decide ((0:Int) < (((ByteArray.size s_0) : Nat) : Int))) then
    (some (Sum.inl ((s_0, ((), (((((UInt8.toNat (Array.getD (ByteArray.data s_0) (Int.toNat (0:Int)) (0:UInt8))) : Nat) : Int) == (45:Int)), ()))), ((o0_0, (o0_1, ())), ()))))
   else
    none)
  else
   (some (Sum.inl ((s_0, ((), (Bool.false, ()))), ((o0_0, (o0_1, ())), ())))))
theorem ref04_Parse.eq0 (l0 : ref04_Parse.s0.X → Option (sumX ref04_Parse.x0)) (l1 : ref04_Parse.s1.X → Option (sumX ref04_Parse.x1)) (l2 : ref04_Parse.s2.X → Option (sumX ref04_Parse.x2)) (l3 : ref04_Parse.s3.X → Option (sumX ref04_Parse.x3)) (l4 : ref04_Parse.s4.X → Option (sumX ref04_Parse.x4)) (l5 : ref04_Parse.s5.X → Option (sumX ref04_Parse.x5)) (l6 : ref04_Parse.s6.X → Option (sumX ref04_Parse.x6)) (l7 : ref04_Parse.s7.X → Option (sumX ref04_Parse.x7)) (L : ((ByteArray × Unit × Unit) × ((Int × Int × Unit) × Unit)) → Option (((ByteArray × Unit × Bool × Unit) × ((Int × Int × Unit) × Unit)) ⊕ Empty)) (x : ((ByteArray × Unit × Unit) × ((Int × Int × Unit) × Unit))) : (roundK (ref04_Parse.E l0 l1 l2 l3 l4 l5 l6 l7) ref04_Parse.s0 [0, 2] [(0, [0, 2, 4])] false (((mk ref04_Parse.hs ref04_Parse.c []).atoms.getD 0 .bad).body) ref04_Parse.x0 L x).run _ some = ref04_Parse.f0 x.1.1 x.2.1.1 x.2.1.2.1 := by
  show _ = (_ : Option _)
  kernel_rfl
noncomputable def ref04_Parse.L0 : ((ByteArray × Unit × Unit) × ((Int × Int × Unit) × Unit)) → Option (((ByteArray × Unit × Bool × Unit) × ((Int × Int × Unit) × Unit)) ⊕ Empty) := fun x => ref04_Parse.f0 x.1.1 x.2.1.1 x.2.1.2.1
def ref04_Parse.f1 (s_0 : ByteArray) (minus_4 : Bool) (v19 : Bool) (o0_0 : Int) (o0_1 : Int) : Option (((ByteArray × Unit × Bool × Unit) × ((Int × Int × Unit) × Unit)) ⊕ Empty) :=
  (bif v19 then
   (bif (decide ((1:Int) ≤ (((ByteArray.size s_0) : Nat) : Int))) then
    (some (Sum.inl (((ByteArray.extract s_0 (Int.toNat (1:Int)) (Int.toNat (((ByteArray.size s_0) : Nat) : Int))), ((), (minus_4, ()))), ((o0_0, (o0_1, ())), ()))))
   else
    none)
  else
   (some (Sum.inl ((s_0, ((), (minus_4, ()))), ((o0_0, (o0_1, ())), ())))))
theorem ref04_Parse.eq1 (l0 : ref04_Parse.s0.X → Option (sumX ref04_Parse.x0)) (l1 : ref04_Parse.s1.X → Option (sumX ref04_Parse.x1)) (l2 : ref04_Parse.s2.X → Option (sumX ref04_Parse.x2)) (l3 : ref04_Parse.s3.X → Option (sumX ref04_Parse.x3)) (l4 : ref04_Parse.s4.X → Option (sumX ref04_Parse.x4)) (l5 : ref04_Parse.s5.X → Option (sumX ref04_Parse.x5)) (l6 : ref04_Parse.s6.X → Option (sumX ref04_Parse.x6)) (l7 : ref04_Parse.s7.X → Option (sumX ref04_Parse.x7)) (L : ((ByteArray × Unit × Bool × Bool × Unit) × ((Int × Int × Unit) × Unit)) → Option (((ByteArray × Unit × Bool × Unit) × ((Int × Int × Unit) × Unit)) ⊕ Empty)) (x : ((ByteArray × Unit × Bool × Bool × Unit) × ((Int × Int × Unit) × Unit))) : (roundK (ref04_Parse.E l0 l1 l2 l3 l4 l5 l6 l7) ref04_Parse.s1 [0, 2, 4, 19] [(0, [0, 2, 4])] false (((mk ref04_Parse.hs ref04_Parse.c []).atoms.getD 1 .bad).body) ref04_Parse.x1 L x).run _ some = ref04_Parse.f1 x.1.1 x.1.2.2.1 x.1.2.2.2.1 x.2.1.1 x.2.1.2.1 := by
  show _ = (_ : Option _)
  kernel_rfl
noncomputable def ref04_Parse.L1 : ((ByteArray × Unit × Bool × Bool × Unit) × ((Int × Int × Unit) × Unit)) → Option (((ByteArray × Unit × Bool × Unit) × ((Int × Int × Unit) × Unit)) ⊕ Empty) := fun x => ref04_Parse.f1 x.1.1 x.1.2.2.1 x.1.2.2.2.1 x.2.1.1 x.2.1.2.1
def ref04_Parse.f3 (s_0 : ByteArray) (minus_4 : Bool) (point_5 : Int) (zero_6 : Bool) (i_7 : Int) (o0_0 : Int) (o0_1 : Int) : Option (((ByteArray × Unit × Bool × Int × Bool × Int × Bool × Unit) × ((Int × Int × Unit) × Unit)) ⊕ Empty) :=
  (bif (decide ((0:Int) ≤ i_7)) then
   (bif (decide (i_7 < (((ByteArray.size s_0) : Nat) : Int))) then
    (bif ((((UInt8.toNat (Array.getD (ByteArray.data s_0) (Int.toNat i_7) (0:UInt8))) : Nat) : Int) == (46:Int)) then
     (some (Sum.inl ((s_0, ((), (minus_4, (point_5, (zero_6, (i_7, ((decide (point_5 < (0:Int))), ()))))))), ((o0_0, (o0_1, ())), ()))))
    else
     (some (Sum.inl ((s_0, ((), (minus_4, (point_5, (zero_6, (i_7, (Bool.false, ()))))))), ((o0_0, (o0_1, ())), ())))))
   else
    none)
  else
   none)
theorem ref04_Parse.eq3 (l0 : ref04_Parse.s0.X → Option (sumX ref04_Parse.x0)) (l1 : ref04_Parse.s1.X → Option (sumX ref04_Parse.x1)) (l2 : ref04_Parse.s2.X → Option (sumX ref04_Parse.x2)) (l3 : ref04_Parse.s3.X → Option (sumX ref04_Parse.x3)) (l4 : ref04_Parse.s4.X → Option (sumX ref04_Parse.x4)) (l5 : ref04_Parse.s5.X → Option (sumX ref04_Parse.x5)) (l6 : ref04_Parse.s6.X → Option (sumX ref04_Parse.x6)) (l7 : ref04_Parse.s7.X → Option (sumX ref04_Parse.x7)) (L : ((ByteArray × Unit × Bool × Int × Bool × Int × Unit) × ((Int × Int × Unit) × Unit)) → Option (((ByteArray × Unit × Bool × Int × Bool × Int × Bool × Unit) × ((Int × Int × Unit) × Unit)) ⊕ Empty)) (x : ((ByteArray × Unit × Bool × Int × Bool × Int × Unit) × ((Int × Int × Unit) × Unit))) : (roundK (ref04_Parse.E l0 l1 l2 l3 l4 l5 l6 l7) ref04_Parse.s3 [0, 2, 4, 5, 6, 7] [(0, [0, 2, 4, 5, 6, 7, 28])] false (((mk ref04_Parse.hs ref04_Parse.c []).atoms.getD 3 .bad).body) ref04_Parse.x3 L x).run _ some = ref04_Parse.f3 x.1.1 x.1.2.2.1 x.1.2.2.2.1 x.1.2.2.2.2.1 x.1.2.2.2.2.2.1 x.2.1.1 x.2.1.2.1 := by
  show _ = (_ : Option _)
  kernel_rfl
noncomputable def ref04_Parse.L3 : ((ByteArray × Unit × Bool × Int × Bool × Int × Unit) × ((Int × Int × Unit) × Unit)) → Option (((ByteArray × Unit × Bool × Int × Bool × Int × Bool × Unit) × ((Int × Int × Unit) × Unit)) ⊕ Empty) := fun x => ref04_Parse.f3 x.1.1 x.1.2.2.1 x.1.2.2.2.1 x.1.2.2.2.2.1 x.1.2.2.2.2.2.1 x.2.1.1 x.2.1.2.1
def ref04_Parse.f4 (s_0 : ByteArray) (minus_4 : Bool) (point_5 : Int) (zero_6 : Bool) (i_7 : Int) (o0_0 : Int) (o0_1 : Int) : Option (((ByteArray × Unit × Bool × Int × Bool × Int × Bool × Unit) × ((Int × Int × Unit) × Unit)) ⊕ Empty) :=
  (bif (decide ((0:Int) ≤ i_7)) then
   (bif (decide (i_7 < (((ByteArray.size s_0) : Nat) : Int))) then
    (bif (decide ((((UInt8.toNat (Array.getD (ByteArray.data s_0) (Int.toNat i_7) (0:UInt8))) : Nat) : Int) < (48:Int))) then
     (some (Sum.inl ((s_0, ((), (minus_4, (point_5, (zero_6, (i_7, (Bool.true, ()))))))), ((o0_0, (o0_1, ())), ()))))
    else
     (bif (decide ((0:Int) ≤ i_7)) then
      (bif (decide (i_7 < (((ByteArray.size s_0) : Nat) : Int))) then
       (some (Sum.inl ((s_0, ((), (minus_4, (point_5, (zero_6, (i_7, ((decide ((((UInt8.toNat (Array.getD (ByteArray.data s_0) (Int.toNat i_7) (0:UInt8))) : Nat) : Int) > (57:Int))), ()))))))), ((o0_0, (o0_1, ())), ()))))
      else
       none)
     else
      none))
   else
    none)
  else
   none)
theorem ref04_Parse.eq4 (l0 : ref04_Parse.s0.X → Option (sumX ref04_Parse.x0)) (l1 : ref04_Parse.s1.X → Option (sumX ref04_Parse.x1)) (l2 : ref04_Parse.s2.X → Option (sumX ref04_Parse.x2)) (l3 : ref04_Parse.s3.X → Option (sumX ref04_Parse.x3)) (l4 : ref04_Parse.s4.X → Option (sumX ref04_Parse.x4)) (l5 : ref04_Parse.s5.X → Option (sumX ref04_Parse.x5)) (l6 : ref04_Parse.s6.X → Option (sumX ref04_Parse.x6)) (l7 : ref04_Parse.s7.X → Option (sumX ref04_Parse.x7)) (L : ((ByteArray × Unit × Bool × Int × Bool × Int × Unit) × ((Int × Int × Unit) × Unit)) → Option (((ByteArray × Unit × Bool × Int × Bool × Int × Bool × Unit) × ((Int × Int × Unit) × Unit)) ⊕ Empty)) (x : ((ByteArray × Unit × Bool × Int × Bool × Int × Unit) × ((Int × Int × Unit) × Unit))) : (roundK (ref04_Parse.E l0 l1 l2 l3 l4 l5 l6 l7) ref04_Parse.s4 [0, 2, 4, 5, 6, 7] [(0, [0, 2, 4, 5, 6, 7, 38])] false (((mk ref04_Parse.hs ref04_Parse.c []).atoms.getD 4 .bad).body) ref04_Parse.x4 L x).run _ some = ref04_Parse.f4 x.1.1 x.1.2.2.1 x.1.2.2.2.1 x.1.2.2.2.2.1 x.1.2.2.2.2.2.1 x.2.1.1 x.2.1.2.1 := by
  show _ = (_ : Option _)
  kernel_rfl
noncomputable def ref04_Parse.L4 : ((ByteArray × Unit × Bool × Int × Bool × Int × Unit) × ((Int × Int × Unit) × Unit)) → Option (((ByteArray × Unit × Bool × Int × Bool × Int × Bool × Unit) × ((Int × Int × Unit) × Unit)) ⊕ Empty) := fun x => ref04_Parse.f4 x.1.1 x.1.2.2.1 x.1.2.2.2.1 x.1.2.2.2.2.1 x.1.2.2.2.2.2.1 x.2.1.1 x.2.1.2.1
def ref04_Parse.f2 (l3 : ((ByteArray × Unit × Bool × Int × Bool × Int × Unit) × ((Int × Int × Unit) × Unit)) → Option (((ByteArray × Unit × Bool × Int × Bool × Int × Bool × Unit) × ((Int × Int × Unit) × Unit)) ⊕ Empty)) (l4 : ((ByteArray × Unit × Bool × Int × Bool × Int × Unit) × ((Int × Int × Unit) × Unit)) → Option (((ByteArray × Unit × Bool × Int × Bool × Int × Bool × Unit) × ((Int × Int × Unit) × Unit)) ⊕ Empty)) (L : ((ByteArray × Unit × Bool × Int × Bool × Int × Unit) × ((Int × Int × Unit) × Unit)) → Option (((ByteArray × Unit × Bool × Int × Bool × Unit) × ((Int × Int × Unit) × Unit)) ⊕ ((Unit × Int × Unit) × ((Int × Int × Unit) × Unit)) ⊕ Empty)) (s_0 : ByteArray) (minus_4 : Bool) (point_5 : Int) (zero_6 : Bool) (i_7 : Int) (o0_0 : Int) (o0_1 : Int) : Option (((ByteArray × Unit × Bool × Int × Bool × Unit) × ((Int × Int × Unit) × Unit)) ⊕ ((Unit × Int × Unit) × ((Int × Int × Unit) × Unit)) ⊕ Empty) :=
  (bif (decide (i_7 < (((ByteArray.size s_0) : Nat) : Int))) then
   (Option.bind (l3 ((s_0, ((), (minus_4, (point_5, (zero_6, (i_7, ())))))), ((o0_0, (o0_1, ())), ()))) (fun y1 =>
   (Sum.elim (fun a2 =>
    (bif a2.1.2.2.2.2.2.2.1 then
     (Option.bind (L ((a2.1.1, ((), (a2.1.2.2.1, (a2.1.2.2.2.2.2.1, (a2.1.2.2.2.2.1, ((Go.IntKind.wrap Go.IntKind.i64 (a2.1.2.2.2.2.2.1 + (1:Int))), ())))))), ((a2.2.1.1, (a2.2.1.2.1, ())), ()))) (fun y4 =>
     (some y4)))
    else
     (Option.bind (l4 ((a2.1.1, ((), (a2.1.2.2.1, (a2.1.2.2.2.1, (a2.1.2.2.2.2.1, (a2.1.2.2.2.2.2.1, ())))))), ((a2.2.1.1, (a2.2.1.2.1, ())), ()))) (fun y4 =>
     (Sum.elim (fun a5 =>
      (bif a5.1.2.2.2.2.2.2.1 then
       (some (Sum.inr (Sum.inl (((), ((3:Int), ())), (((0:Int), ((0:Int), ())), ())))))
      else
       (bif (decide ((0:Int) ≤ a5.1.2.2.2.2.2.1)) then
        (bif (decide (a5.1.2.2.2.2.2.1 < (((ByteArray.size a5.1.1) : Nat) : Int))) then
         (bif ((((UInt8.toNat (Array.getD (ByteArray.data a5.1.1) (Int.toNat a5.1.2.2.2.2.2.1) (0:UInt8))) : Nat) : Int) != (48:Int)) then
          (Option.bind (L ((a5.1.1, ((), (a5.1.2.2.1, (a5.1.2.2.2.1, (Bool.false, ((Go.IntKind.wrap Go.IntKind.i64 (a5.1.2.2.2.2.2.1 + (1:Int))), ())))))), ((a5.2.1.1, (a5.2.1.2.1, ())), ()))) (fun y10 =>
          (some y10)))
         else
          (Option.bind (L ((a5.1.1, ((), (a5.1.2.2.1, (a5.1.2.2.2.1, (a5.1.2.2.2.2.1, ((Go.IntKind.wrap Go.IntKind.i64 (a5.1.2.2.2.2.2.1 + (1:Int))), ())))))), ((a5.2.1.1, (a5.2.1.2.1, ())), ()))) (fun y10 =>
          (some y10))))
        else
         none)
       else
        none))) (fun b5 =>
      (Empty.elim b5)) y4))))) (fun b2 =>
    (Empty.elim b2)) y1)))
  else
   (some (Sum.inl ((s_0, ((), (minus_4, (point_5, (zero_6, ()))))), ((o0_0, (o0_1, ())), ())))))
theorem ref04_Parse.eq2 (l0 : ref04_Parse.s0.X → Option (sumX ref04_Parse.x0)) (l1 : ref04_Parse.s1.X → Option (sumX ref04_Parse.x1)) (l2 : ref04_Parse.s2.X → Option (sumX ref04_Parse.x2)) (l3 : ref04_Parse.s3.X → Option (sumX ref04_Parse.x3)) (l4 : ref04_Parse.s4.X → Option (sumX ref04_Parse.x4)) (l5 : ref04_Parse.s5.X → Option (sumX ref04_Parse.x5)) (l6 : ref04_Parse.s6.X → Option (sumX ref04_Parse.x6)) (l7 : ref04_Parse.s7.X → Option (sumX ref04_Parse.x7)) (L : ((ByteArray × Unit × Bool × Int × Bool × Int × Unit) × ((Int × Int × Unit) × Unit)) → Option (((ByteArray × Unit × Bool × Int × Bool × Unit) × ((Int × Int × Unit) × Unit)) ⊕ ((Unit × Int × Unit) × ((Int × Int × Unit) × Unit)) ⊕ Empty)) (x : ((ByteArray × Unit × Bool × Int × Bool × Int × Unit) × ((Int × Int × Unit) × Unit))) : (roundK (ref04_Parse.E l0 l1 l2 l3 l4 l5 l6 l7) ref04_Parse.s2 [0, 2, 4, 5, 6, 7] [(2, [0, 2, 4, 5, 6]), (1, [2, 3])] true (((mk ref04_Parse.hs ref04_Parse.c []).atoms.getD 2 .bad).body) ref04_Parse.x2 L x).run _ some = ref04_Parse.f2 l3 l4 L x.1.1 x.1.2.2.1 x.1.2.2.2.1 x.1.2.2.2.2.1 x.1.2.2.2.2.2.1 x.2.1.1 x.2.1.2.1 := by
  show _ = (_ : Option _)
  kernel_rfl
noncomputable def ref04_Parse.L2 : ((ByteArray × Unit × Bool × Int × Bool × Int × Unit) × ((Int × Int × Unit) × Unit)) → Option (((ByteArray × Unit × Bool × Int × Bool × Unit) × ((Int × Int × Unit) × Unit)) ⊕ ((Unit × Int × Unit) × ((Int × Int × Unit) × Unit)) ⊕ Empty) := loop fun L x => ref04_Parse.f2 ref04_Parse.L3 ref04_Parse.L4 L x.1.1 x.1.2.2.1 x.1.2.2.2.1 x.1.2.2.2.2.1 x.1.2.2.2.2.2.1 x.2.1.1 x.2.1.2.1
def ref04_Parse.f5 (s_0 : ByteArray) (minus_4 : Bool) (point_5 : Int) (zero_6 : Bool) (whole_8 : ByteArray) (v58 : Bool) (o0_0 : Int) (o0_1 : Int) (o1_0 : Int) (o1_1 : Int) : Option (((Unit × Int × Unit) × ((Int × Int × Unit) × Unit)) ⊕ ((ByteArray × Unit × Bool × Bool × ByteArray × Unit × Unit) × ((Int × Int × Unit) × (Int × Int × Unit) × Unit)) ⊕ Empty) :=
  (bif v58 then
   (bif (decide ((0:Int) ≤ point_5)) then
    (bif (decide (point_5 ≤ (((ByteArray.size s_0) : Nat) : Int))) then
     (bif (decide ((Go.IntKind.wrap Go.IntKind.i64 ((Go.IntKind.wrap Go.IntKind.i64 ((((ByteArray.size s_0) : Nat) : Int) - point_5)) - (1:Int))) < (1:Int))) then
      (some (Sum.inl (((), ((3:Int), ())), (((0:Int), ((0:Int), ())), ()))))
     else
      (bif (decide ((Go.IntKind.wrap Go.IntKind.i64 ((Go.IntKind.wrap Go.IntKind.i64 ((((ByteArray.size s_0) : Nat) : Int) - point_5)) - (1:Int))) > (6:Int))) then
       (some (Sum.inl (((), ((3:Int), ())), (((0:Int), ((0:Int), ())), ()))))
      else
       (some (Sum.inr (Sum.inl ((s_0, ((), (minus_4, (zero_6, ((ByteArray.extract s_0 (Int.toNat (0:Int)) (Int.toNat point_5)), ((), ())))))), ((o0_0, (o0_1, ())), ((o1_0, ((Go.IntKind.wrap Go.IntKind.i64 ((Go.IntKind.wrap Go.IntKind.i64 ((((ByteArray.size s_0) : Nat) : Int) - point_5)) - (1:Int))), ())), ()))))))))
    else
     none)
   else
    none)
  else
   (some (Sum.inr (Sum.inl ((s_0, ((), (minus_4, (zero_6, (whole_8, ((), ())))))), ((o0_0, (o0_1, ())), ((o1_0, (o1_1, ())), ())))))))
theorem ref04_Parse.eq5 (l0 : ref04_Parse.s0.X → Option (sumX ref04_Parse.x0)) (l1 : ref04_Parse.s1.X → Option (sumX ref04_Parse.x1)) (l2 : ref04_Parse.s2.X → Option (sumX ref04_Parse.x2)) (l3 : ref04_Parse.s3.X → Option (sumX ref04_Parse.x3)) (l4 : ref04_Parse.s4.X → Option (sumX ref04_Parse.x4)) (l5 : ref04_Parse.s5.X → Option (sumX ref04_Parse.x5)) (l6 : ref04_Parse.s6.X → Option (sumX ref04_Parse.x6)) (l7 : ref04_Parse.s7.X → Option (sumX ref04_Parse.x7)) (L : ((ByteArray × Unit × Bool × Int × Bool × ByteArray × Unit × Bool × Unit) × ((Int × Int × Unit) × (Int × Int × Unit) × Unit)) → Option (((Unit × Int × Unit) × ((Int × Int × Unit) × Unit)) ⊕ ((ByteArray × Unit × Bool × Bool × ByteArray × Unit × Unit) × ((Int × Int × Unit) × (Int × Int × Unit) × Unit)) ⊕ Empty)) (x : ((ByteArray × Unit × Bool × Int × Bool × ByteArray × Unit × Bool × Unit) × ((Int × Int × Unit) × (Int × Int × Unit) × Unit))) : (roundK (ref04_Parse.E l0 l1 l2 l3 l4 l5 l6 l7) ref04_Parse.s5 [0, 2, 4, 5, 6, 8, 9, 58] [(1, [2, 3]), (0, [0, 2, 4, 6, 8, 9])] false (((mk ref04_Parse.hs ref04_Parse.c []).atoms.getD 5 .bad).body) ref04_Parse.x5 L x).run _ some = ref04_Parse.f5 x.1.1 x.1.2.2.1 x.1.2.2.2.1 x.1.2.2.2.2.1 x.1.2.2.2.2.2.1 x.1.2.2.2.2.2.2.2.1 x.2.1.1 x.2.1.2.1 x.2.2.1.1 x.2.2.1.2.1 := by
  show _ = (_ : Option _)
  kernel_rfl
noncomputable def ref04_Parse.L5 : ((ByteArray × Unit × Bool × Int × Bool × ByteArray × Unit × Bool × Unit) × ((Int × Int × Unit) × (Int × Int × Unit) × Unit)) → Option (((Unit × Int × Unit) × ((Int × Int × Unit) × Unit)) ⊕ ((ByteArray × Unit × Bool × Bool × ByteArray × Unit × Unit) × ((Int × Int × Unit) × (Int × Int × Unit) × Unit)) ⊕ Empty) := fun x => ref04_Parse.f5 x.1.1 x.1.2.2.1 x.1.2.2.2.1 x.1.2.2.2.2.1 x.1.2.2.2.2.2.1 x.1.2.2.2.2.2.2.2.1 x.2.1.1 x.2.1.2.1 x.2.2.1.1 x.2.2.1.2.1
def ref04_Parse.f6 (s_0 : ByteArray) (minus_4 : Bool) (zero_6 : Bool) (whole_8 : ByteArray) (o0_0 : Int) (o0_1 : Int) (o1_0 : Int) (o1_1 : Int) : Option (((ByteArray × Unit × Bool × Unit × Bool × Unit) × ((Int × Int × Unit) × (Int × Int × Unit) × Unit)) ⊕ Empty) :=
  (bif ((ByteArray.toList whole_8) == (ByteArray.toList (ByteArray.mk #[]))) then
   (some (Sum.inl ((s_0, ((), (minus_4, ((), (Bool.true, ()))))), ((o0_0, (o0_1, ())), ((o1_0, (o1_1, ())), ())))))
  else
   (bif (decide ((((ByteArray.size whole_8) : Nat) : Int) > (1:Int))) then
    (bif (decide ((0:Int) < (((ByteArray.size whole_8) : Nat) : Int))) then
     (bif ((((UInt8.toNat (Array.getD (ByteArray.data whole_8) (Int.toNat (0:Int)) (0:UInt8))) : Nat) : Int) == (48:Int)) then
      (some (Sum.inl ((s_0, ((), (minus_4, ((), (Bool.true, ()))))), ((o0_0, (o0_1, ())), ((o1_0, (o1_1, ())), ())))))
     else
      (bif minus_4 then
       (some (Sum.inl ((s_0, ((), (minus_4, ((), (zero_6, ()))))), ((o0_0, (o0_1, ())), ((o1_0, (o1_1, ())), ())))))
      else
       (some (Sum.inl ((s_0, ((), (minus_4, ((), (Bool.false, ()))))), ((o0_0, (o0_1, ())), ((o1_0, (o1_1, ())), ())))))))
    else
     none)
   else
    (bif minus_4 then
     (some (Sum.inl ((s_0, ((), (minus_4, ((), (zero_6, ()))))), ((o0_0, (o0_1, ())), ((o1_0, (o1_1, ())), ())))))
    else
     (some (Sum.inl ((s_0, ((), (minus_4, ((), (Bool.false, ()))))), ((o0_0, (o0_1, ())), ((o1_0, (o1_1, ())), ()))))))))
theorem ref04_Parse.eq6 (l0 : ref04_Parse.s0.X → Option (sumX ref04_Parse.x0)) (l1 : ref04_Parse.s1.X → Option (sumX ref04_Parse.x1)) (l2 : ref04_Parse.s2.X → Option (sumX ref04_Parse.x2)) (l3 : ref04_Parse.s3.X → Option (sumX ref04_Parse.x3)) (l4 : ref04_Parse.s4.X → Option (sumX ref04_Parse.x4)) (l5 : ref04_Parse.s5.X → Option (sumX ref04_Parse.x5)) (l6 : ref04_Parse.s6.X → Option (sumX ref04_Parse.x6)) (l7 : ref04_Parse.s7.X → Option (sumX ref04_Parse.x7)) (L : ((ByteArray × Unit × Bool × Bool × ByteArray × Unit × Unit) × ((Int × Int × Unit) × (Int × Int × Unit) × Unit)) → Option (((ByteArray × Unit × Bool × Unit × Bool × Unit) × ((Int × Int × Unit) × (Int × Int × Unit) × Unit)) ⊕ Empty)) (x : ((ByteArray × Unit × Bool × Bool × ByteArray × Unit × Unit) × ((Int × Int × Unit) × (Int × Int × Unit) × Unit))) : (roundK (ref04_Parse.E l0 l1 l2 l3 l4 l5 l6 l7) ref04_Parse.s6 [0, 2, 4, 6, 8, 9] [(0, [0, 2, 4, 9, 94])] false (((mk ref04_Parse.hs ref04_Parse.c []).atoms.getD 6 .bad).body) ref04_Parse.x6 L x).run _ some = ref04_Parse.f6 x.1.1 x.1.2.2.1 x.1.2.2.2.1 x.1.2.2.2.2.1 x.2.1.1 x.2.1.2.1 x.2.2.1.1 x.2.2.1.2.1 := by
  show _ = (_ : Option _)
  kernel_rfl
noncomputable def ref04_Parse.L6 : ((ByteArray × Unit × Bool × Bool × ByteArray × Unit × Unit) × ((Int × Int × Unit) × (Int × Int × Unit) × Unit)) → Option (((ByteArray × Unit × Bool × Unit × Bool × Unit) × ((Int × Int × Unit) × (Int × Int × Unit) × Unit)) ⊕ Empty) := fun x => ref04_Parse.f6 x.1.1 x.1.2.2.1 x.1.2.2.2.1 x.1.2.2.2.2.1 x.2.1.1 x.2.1.2.1 x.2.2.1.1 x.2.2.1.2.1
def ref04_Parse.f7 (L : ((ByteArray × Unit × Bool × Unit × Int × Unit) × ((Int × Int × Unit) × (Int × Int × Unit) × Unit)) → Option (((Unit × Bool × Unit × Unit) × ((Int × Int × Unit) × (Int × Int × Unit) × Unit)) ⊕ ((Unit × Int × Unit) × ((Int × Int × Unit) × Unit)) ⊕ Empty)) (s_0 : ByteArray) (minus_4 : Bool) (i_10 : Int) (o0_0 : Int) (o0_1 : Int) (o1_0 : Int) (o1_1 : Int) : Option (((Unit × Bool × Unit × Unit) × ((Int × Int × Unit) × (Int × Int × Unit) × Unit)) ⊕ ((Unit × Int × Unit) × ((Int × Int × Unit) × Unit)) ⊕ Empty) :=
  (bif (decide (i_10 < (((ByteArray.size s_0) : Nat) : Int))) then
   (bif (decide ((0:Int) ≤ i_10)) then
    (bif (decide (i_10 < (((ByteArray.size s_0) : Nat) : Int))) then
     (bif ((((UInt8.toNat (Array.getD (ByteArray.data s_0) (Int.toNat i_10) (0:UInt8))) : Nat) : Int) == (46:Int)) then
      (Option.bind (L ((s_0, ((), (minus_4, ((), ((Go.IntKind.wrap Go.IntKind.i64 (i_10 + (1:Int))), ()))))), ((o0_0, (o0_1, ())), ((o1_0, (o1_1, ())), ())))) (fun y4 =>
      (some y4)))
     else
      (bif (decide ((0:Int) ≤ i_10)) then
       (bif (decide (i_10 < (((ByteArray.size s_0) : Nat) : Int))) then
        (bif (decide ((Go.IntKind.wrap Go.IntKind.i64 ((Go.IntKind.wrap Go.IntKind.i64 (o1_0 * (10:Int))) + (Go.IntKind.wrap Go.IntKind.i64 (Go.IntKind.wrap Go.IntKind.u8 ((((UInt8.toNat (Array.getD (ByteArray.data s_0) (Int.toNat i_10) (0:UInt8))) : Nat) : Int) - (48:Int)))))) > (1000000000:Int))) then
         (some (Sum.inr (Sum.inl (((), ((1:Int), ())), (((0:Int), ((0:Int), ())), ())))))
        else
         (Option.bind (L ((s_0, ((), (minus_4, ((), ((Go.IntKind.wrap Go.IntKind.i64 (i_10 + (1:Int))), ()))))), ((o0_0, (o0_1, ())), (((Go.IntKind.wrap Go.IntKind.i64 ((Go.IntKind.wrap Go.IntKind.i64 (o1_0 * (10:Int))) + (Go.IntKind.wrap Go.IntKind.i64 (Go.IntKind.wrap Go.IntKind.u8 ((((UInt8.toNat (Array.getD (ByteArray.data s_0) (Int.toNat i_10) (0:UInt8))) : Nat) : Int) - (48:Int)))))), (o1_1, ())), ())))) (fun y7 =>
         (some y7))))
       else
        none)
      else
       none))
    else
     none)
   else
    none)
  else
   (some (Sum.inl (((), (minus_4, ((), ()))), ((o0_0, (o0_1, ())), ((o1_0, (o1_1, ())), ()))))))
theorem ref04_Parse.eq7 (l0 : ref04_Parse.s0.X → Option (sumX ref04_Parse.x0)) (l1 : ref04_Parse.s1.X → Option (sumX ref04_Parse.x1)) (l2 : ref04_Parse.s2.X → Option (sumX ref04_Parse.x2)) (l3 : ref04_Parse.s3.X → Option (sumX ref04_Parse.x3)) (l4 : ref04_Parse.s4.X → Option (sumX ref04_Parse.x4)) (l5 : ref04_Parse.s5.X → Option (sumX ref04_Parse.x5)) (l6 : ref04_Parse.s6.X → Option (sumX ref04_Parse.x6)) (l7 : ref04_Parse.s7.X → Option (sumX ref04_Parse.x7)) (L : ((ByteArray × Unit × Bool × Unit × Int × Unit) × ((Int × Int × Unit) × (Int × Int × Unit) × Unit)) → Option (((Unit × Bool × Unit × Unit) × ((Int × Int × Unit) × (Int × Int × Unit) × Unit)) ⊕ ((Unit × Int × Unit) × ((Int × Int × Unit) × Unit)) ⊕ Empty)) (x : ((ByteArray × Unit × Bool × Unit × Int × Unit) × ((Int × Int × Unit) × (Int × Int × Unit) × Unit))) : (roundK (ref04_Parse.E l0 l1 l2 l3 l4 l5 l6 l7) ref04_Parse.s7 [0, 2, 4, 9, 10] [(5, [2, 4, 9]), (1, [2, 3])] true (((mk ref04_Parse.hs ref04_Parse.c []).atoms.getD 7 .bad).body) ref04_Parse.x7 L x).run _ some = ref04_Parse.f7 L x.1.1 x.1.2.2.1 x.1.2.2.2.2.1 x.2.1.1 x.2.1.2.1 x.2.2.1.1 x.2.2.1.2.1 := by
  show _ = (_ : Option _)
  kernel_rfl
noncomputable def ref04_Parse.L7 : ((ByteArray × Unit × Bool × Unit × Int × Unit) × ((Int × Int × Unit) × (Int × Int × Unit) × Unit)) → Option (((Unit × Bool × Unit × Unit) × ((Int × Int × Unit) × (Int × Int × Unit) × Unit)) ⊕ ((Unit × Int × Unit) × ((Int × Int × Unit) × Unit)) ⊕ Empty) := loop fun L x => ref04_Parse.f7 L x.1.1 x.1.2.2.1 x.1.2.2.2.2.1 x.2.1.1 x.2.1.2.1 x.2.2.1.1 x.2.2.1.2.1
def ref04_Parse.f (l0 : ((ByteArray × Unit × Unit) × ((Int × Int × Unit) × Unit)) → Option (((ByteArray × Unit × Bool × Unit) × ((Int × Int × Unit) × Unit)) ⊕ Empty)) (l1 : ((ByteArray × Unit × Bool × Bool × Unit) × ((Int × Int × Unit) × Unit)) → Option (((ByteArray × Unit × Bool × Unit) × ((Int × Int × Unit) × Unit)) ⊕ Empty)) (l2 : ((ByteArray × Unit × Bool × Int × Bool × Int × Unit) × ((Int × Int × Unit) × Unit)) → Option (((ByteArray × Unit × Bool × Int × Bool × Unit) × ((Int × Int × Unit) × Unit)) ⊕ ((Unit × Int × Unit) × ((Int × Int × Unit) × Unit)) ⊕ Empty)) (l5 : ((ByteArray × Unit × Bool × Int × Bool × ByteArray × Unit × Bool × Unit) × ((Int × Int × Unit) × (Int × Int × Unit) × Unit)) → Option (((Unit × Int × Unit) × ((Int × Int × Unit) × Unit)) ⊕ ((ByteArray × Unit × Bool × Bool × ByteArray × Unit × Unit) × ((Int × Int × Unit) × (Int × Int × Unit) × Unit)) ⊕ Empty)) (l6 : ((ByteArray × Unit × Bool × Bool × ByteArray × Unit × Unit) × ((Int × Int × Unit) × (Int × Int × Unit) × Unit)) → Option (((ByteArray × Unit × Bool × Unit × Bool × Unit) × ((Int × Int × Unit) × (Int × Int × Unit) × Unit)) ⊕ Empty)) (l7 : ((ByteArray × Unit × Bool × Unit × Int × Unit) × ((Int × Int × Unit) × (Int × Int × Unit) × Unit)) → Option (((Unit × Bool × Unit × Unit) × ((Int × Int × Unit) × (Int × Int × Unit) × Unit)) ⊕ ((Unit × Int × Unit) × ((Int × Int × Unit) × Unit)) ⊕ Empty)) (s : ByteArray) : Option (((Int × Int × Unit) × Int × Unit) × (Unit)) :=
  (Option.bind (l0 ((s, ((), ())), (((0:Int), ((0:Int), ())), ()))) (fun y0 =>
  (Sum.elim (fun a1 =>
   (Option.bind (l1 ((a1.1.1, ((), (a1.1.2.2.1, (a1.1.2.2.1, ())))), ((a1.2.1.1, (a1.2.1.2.1, ())), ()))) (fun y2 =>
   (Sum.elim (fun a3 =>
    (Option.bind (l2 ((a3.1.1, ((), (a3.1.2.2.1, ((-(1:Int)), (Bool.true, ((0:Int), ())))))), ((a3.2.1.1, (a3.2.1.2.1, ())), ()))) (fun y4 =>
    (Sum.elim (fun a5 =>
     (Option.bind (l5 ((a5.1.1, ((), (a5.1.2.2.1, (a5.1.2.2.2.1, (a5.1.2.2.2.2.1, (a5.1.1, ((), ((decide (a5.1.2.2.2.1 ≥ (0:Int))), ())))))))), ((a5.2.1.1, (a5.2.1.2.1, ())), (((0:Int), ((0:Int), ())), ())))) (fun y6 =>
     (Sum.elim (fun a7 =>
      (some (((a7.2.1.1, (a7.2.1.2.1, ())), (a7.1.2.1, ())), ()))) (fun b7 =>
      (Sum.elim (fun a8 =>
       (Option.bind (l6 ((a8.1.1, ((), (a8.1.2.2.1, (a8.1.2.2.2.1, (a8.1.2.2.2.2.1, ((), ())))))), ((a8.2.1.1, (a8.2.1.2.1, ())), ((a8.2.2.1.1, (a8.2.2.1.2.1, ())), ())))) (fun y9 =>
       (Sum.elim (fun a10 =>
        (bif a10.1.2.2.2.2.1 then
         (some ((((0:Int), ((0:Int), ())), ((3:Int), ())), ()))
        else
         (Option.bind (l7 ((a10.1.1, ((), (a10.1.2.2.1, ((), ((0:Int), ()))))), ((a10.2.1.1, (a10.2.1.2.1, ())), ((a10.2.2.1.1, (a10.2.2.1.2.1, ())), ())))) (fun y12 =>
         (Sum.elim (fun a13 =>
          (bif a13.1.2.1 then
           (some ((((Go.IntKind.wrap Go.IntKind.i64 ((0:Int) - a13.2.2.1.1)), (a13.2.2.1.2.1, ())), ((0:Int), ())), ()))
          else
           (some (((a13.2.2.1.1, (a13.2.2.1.2.1, ())), ((0:Int), ())), ())))) (fun b13 =>
          (Sum.elim (fun a14 =>
           (some (((a14.2.1.1, (a14.2.1.2.1, ())), (a14.1.2.1, ())), ()))) (fun b14 =>
           (Empty.elim b14)) b13)) y12))))) (fun b10 =>
        (Empty.elim b10)) y9)))) (fun b8 =>
       (Empty.elim b8)) b7)) y6)))) (fun b5 =>
     (Sum.elim (fun a6 =>
      (some (((a6.2.1.1, (a6.2.1.2.1, ())), (a6.1.2.1, ())), ()))) (fun b6 =>
      (Empty.elim b6)) b5)) y4)))) (fun b3 =>
    (Empty.elim b3)) y2)))) (fun b1 =>
   (Empty.elim b1)) y0)))
theorem ref04_Parse.eq (l0 : ref04_Parse.s0.X → Option (sumX ref04_Parse.x0)) (l1 : ref04_Parse.s1.X → Option (sumX ref04_Parse.x1)) (l2 : ref04_Parse.s2.X → Option (sumX ref04_Parse.x2)) (l3 : ref04_Parse.s3.X → Option (sumX ref04_Parse.x3)) (l4 : ref04_Parse.s4.X → Option (sumX ref04_Parse.x4)) (l5 : ref04_Parse.s5.X → Option (sumX ref04_Parse.x5)) (l6 : ref04_Parse.s6.X → Option (sumX ref04_Parse.x6)) (l7 : ref04_Parse.s7.X → Option (sumX ref04_Parse.x7)) (x : ((ByteArray × Unit) × (Unit))) : (bodyO (ref04_Parse.E l0 l1 l2 l3 l4 l5 l6 l7) (mk ref04_Parse.hs ref04_Parse.c []) Go.Proofs.Tryd.f14.results.toList ref04_Parse.sh ref04_Parse.osh x).run _ some = ref04_Parse.f l0 l1 l2 l5 l6 l7 x.1.1 := by
  show _ = (_ : Option _)
  kernel_rfl
noncomputable def ref04_Parse (s : ByteArray) : Option (((Int × Int × Unit) × Int × Unit) × (Unit)) := ref04_Parse.f ref04_Parse.L0 ref04_Parse.L1 ref04_Parse.L2 ref04_Parse.L5 ref04_Parse.L6 ref04_Parse.L7 s
noncomputable def ref04_Parse.F (x : ((ByteArray × Unit) × (Unit))) : Option (((Int × Int × Unit) × Int × Unit) × (Unit)) := ref04_Parse x.1.1
theorem ref04_Parse.L0_eq (s_0 : ByteArray) (o0_0 : Int) (o0_1 : Int) : ref04_Parse.L0 ((s_0, (), ()), ((o0_0, o0_1, ()), ())) = ref04_Parse.f0 s_0 o0_0 o0_1 := rfl
theorem ref04_Parse.L1_eq (s_0 : ByteArray) (minus_4 : Bool) (v19 : Bool) (o0_0 : Int) (o0_1 : Int) : ref04_Parse.L1 ((s_0, (), minus_4, v19, ()), ((o0_0, o0_1, ()), ())) = ref04_Parse.f1 s_0 minus_4 v19 o0_0 o0_1 := rfl
theorem ref04_Parse.L2_eq (s_0 : ByteArray) (minus_4 : Bool) (point_5 : Int) (zero_6 : Bool) (i_7 : Int) (o0_0 : Int) (o0_1 : Int) : ref04_Parse.L2 ((s_0, (), minus_4, point_5, zero_6, i_7, ()), ((o0_0, o0_1, ()), ())) = ref04_Parse.f2 ref04_Parse.L3 ref04_Parse.L4 ref04_Parse.L2 s_0 minus_4 point_5 zero_6 i_7 o0_0 o0_1 :=
  loop_eq (E := (ref04_Parse.E ref04_Parse.L0 ref04_Parse.L1 ref04_Parse.L2 ref04_Parse.L3 ref04_Parse.L4 ref04_Parse.L5 ref04_Parse.L6 ref04_Parse.L7)) (sh := ref04_Parse.s2) (es := ref04_Parse.x2) (lp := true) (H := fun L x => ref04_Parse.eq2 ref04_Parse.L0 ref04_Parse.L1 ref04_Parse.L2 ref04_Parse.L3 ref04_Parse.L4 ref04_Parse.L5 ref04_Parse.L6 ref04_Parse.L7 L x) ((s_0, (), minus_4, point_5, zero_6, i_7, ()), ((o0_0, o0_1, ()), ()))
theorem ref04_Parse.L3_eq (s_0 : ByteArray) (minus_4 : Bool) (point_5 : Int) (zero_6 : Bool) (i_7 : Int) (o0_0 : Int) (o0_1 : Int) : ref04_Parse.L3 ((s_0, (), minus_4, point_5, zero_6, i_7, ()), ((o0_0, o0_1, ()), ())) = ref04_Parse.f3 s_0 minus_4 point_5 zero_6 i_7 o0_0 o0_1 := rfl
theorem ref04_Parse.L4_eq (s_0 : ByteArray) (minus_4 : Bool) (point_5 : Int) (zero_6 : Bool) (i_7 : Int) (o0_0 : Int) (o0_1 : Int) : ref04_Parse.L4 ((s_0, (), minus_4, point_5, zero_6, i_7, ()), ((o0_0, o0_1, ()), ())) = ref04_Parse.f4 s_0 minus_4 point_5 zero_6 i_7 o0_0 o0_1 := rfl
theorem ref04_Parse.L5_eq (s_0 : ByteArray) (minus_4 : Bool) (point_5 : Int) (zero_6 : Bool) (whole_8 : ByteArray) (v58 : Bool) (o0_0 : Int) (o0_1 : Int) (o1_0 : Int) (o1_1 : Int) : ref04_Parse.L5 ((s_0, (), minus_4, point_5, zero_6, whole_8, (), v58, ()), ((o0_0, o0_1, ()), (o1_0, o1_1, ()), ())) = ref04_Parse.f5 s_0 minus_4 point_5 zero_6 whole_8 v58 o0_0 o0_1 o1_0 o1_1 := rfl
theorem ref04_Parse.L6_eq (s_0 : ByteArray) (minus_4 : Bool) (zero_6 : Bool) (whole_8 : ByteArray) (o0_0 : Int) (o0_1 : Int) (o1_0 : Int) (o1_1 : Int) : ref04_Parse.L6 ((s_0, (), minus_4, zero_6, whole_8, (), ()), ((o0_0, o0_1, ()), (o1_0, o1_1, ()), ())) = ref04_Parse.f6 s_0 minus_4 zero_6 whole_8 o0_0 o0_1 o1_0 o1_1 := rfl
theorem ref04_Parse.L7_eq (s_0 : ByteArray) (minus_4 : Bool) (i_10 : Int) (o0_0 : Int) (o0_1 : Int) (o1_0 : Int) (o1_1 : Int) : ref04_Parse.L7 ((s_0, (), minus_4, (), i_10, ()), ((o0_0, o0_1, ()), (o1_0, o1_1, ()), ())) = ref04_Parse.f7 ref04_Parse.L7 s_0 minus_4 i_10 o0_0 o0_1 o1_0 o1_1 :=
  loop_eq (E := (ref04_Parse.E ref04_Parse.L0 ref04_Parse.L1 ref04_Parse.L2 ref04_Parse.L3 ref04_Parse.L4 ref04_Parse.L5 ref04_Parse.L6 ref04_Parse.L7)) (sh := ref04_Parse.s7) (es := ref04_Parse.x7) (lp := true) (H := fun L x => ref04_Parse.eq7 ref04_Parse.L0 ref04_Parse.L1 ref04_Parse.L2 ref04_Parse.L3 ref04_Parse.L4 ref04_Parse.L5 ref04_Parse.L6 ref04_Parse.L7 L x) ((s_0, (), minus_4, (), i_10, ()), ((o0_0, o0_1, ()), (o1_0, o1_1, ()), ()))
theorem ref04_Parse.F_eq (s : ByteArray) : ref04_Parse.F ((s, ()), ()) = ref04_Parse.f ref04_Parse.L0 ref04_Parse.L1 ref04_Parse.L2 ref04_Parse.L5 ref04_Parse.L6 ref04_Parse.L7 s := rfl
theorem ref04_Parse.ok {tabs : List (Nat × Go.Obj)} (ht : TabsOk tabs) : FOK Go.Proofs.Tryd.prog tabs 14 (FE.of [true] false ref04_Parse.sh ref04_Parse.osh ref04_Parse.F) := by
  refine fn_keeps (E := (ref04_Parse.E ref04_Parse.L0 ref04_Parse.L1 ref04_Parse.L2 ref04_Parse.L3 ref04_Parse.L4 ref04_Parse.L5 ref04_Parse.L6 ref04_Parse.L7)) (c := ref04_Parse.c) (fn := Go.Proofs.Tryd.f14) (hs := ref04_Parse.hs) (by kernel_rfl) Go.Proofs.Tryd.func14 ⟨by kernel_rfl, by kernel_rfl, tb, by kernel_rfl, by kernel_rfl, by kernel_rfl, by kernel_rfl, by kernel_rfl⟩ ⟨fun g ks fe h => ?_, gt_ok ht⟩ ?_ (fun x => ref04_Parse.eq ref04_Parse.L0 ref04_Parse.L1 ref04_Parse.L2 ref04_Parse.L3 ref04_Parse.L4 ref04_Parse.L5 ref04_Parse.L6 ref04_Parse.L7 x)
  · cases h
  · refine known_at 8 (by kernel_rfl) fun i hi => ?_
    match i, hi with
    | 0, _ => exact atom_at (id := 0) (live := [0, 2]) (outs := [(0, [0, 2, 4])]) (loop := false) (by kernel_rfl) (cut_ok (E := (ref04_Parse.E ref04_Parse.L0 ref04_Parse.L1 ref04_Parse.L2 ref04_Parse.L3 ref04_Parse.L4 ref04_Parse.L5 ref04_Parse.L6 ref04_Parse.L7)) (sh := ref04_Parse.s0) (es := ref04_Parse.x0) rfl (fun L x => ref04_Parse.eq0 ref04_Parse.L0 ref04_Parse.L1 ref04_Parse.L2 ref04_Parse.L3 ref04_Parse.L4 ref04_Parse.L5 ref04_Parse.L6 ref04_Parse.L7 L x))
    | 1, _ => exact atom_at (id := 1) (live := [0, 2, 4, 19]) (outs := [(0, [0, 2, 4])]) (loop := false) (by kernel_rfl) (cut_ok (E := (ref04_Parse.E ref04_Parse.L0 ref04_Parse.L1 ref04_Parse.L2 ref04_Parse.L3 ref04_Parse.L4 ref04_Parse.L5 ref04_Parse.L6 ref04_Parse.L7)) (sh := ref04_Parse.s1) (es := ref04_Parse.x1) rfl (fun L x => ref04_Parse.eq1 ref04_Parse.L0 ref04_Parse.L1 ref04_Parse.L2 ref04_Parse.L3 ref04_Parse.L4 ref04_Parse.L5 ref04_Parse.L6 ref04_Parse.L7 L x))
    | 2, _ => exact atom_at (id := 2) (live := [0, 2, 4, 5, 6, 7]) (outs := [(2, [0, 2, 4, 5, 6]), (1, [2, 3])]) (loop := true) (by kernel_rfl) (loop_ok (E := (ref04_Parse.E ref04_Parse.L0 ref04_Parse.L1 ref04_Parse.L2 ref04_Parse.L3 ref04_Parse.L4 ref04_Parse.L5 ref04_Parse.L6 ref04_Parse.L7)) (sh := ref04_Parse.s2) (es := ref04_Parse.x2) rfl (fun L x => ref04_Parse.eq2 ref04_Parse.L0 ref04_Parse.L1 ref04_Parse.L2 ref04_Parse.L3 ref04_Parse.L4 ref04_Parse.L5 ref04_Parse.L6 ref04_Parse.L7 L x))
    | 3, _ => exact atom_at (id := 3) (live := [0, 2, 4, 5, 6, 7]) (outs := [(0, [0, 2, 4, 5, 6, 7, 28])]) (loop := false) (by kernel_rfl) (cut_ok (E := (ref04_Parse.E ref04_Parse.L0 ref04_Parse.L1 ref04_Parse.L2 ref04_Parse.L3 ref04_Parse.L4 ref04_Parse.L5 ref04_Parse.L6 ref04_Parse.L7)) (sh := ref04_Parse.s3) (es := ref04_Parse.x3) rfl (fun L x => ref04_Parse.eq3 ref04_Parse.L0 ref04_Parse.L1 ref04_Parse.L2 ref04_Parse.L3 ref04_Parse.L4 ref04_Parse.L5 ref04_Parse.L6 ref04_Parse.L7 L x))
    | 4, _ => exact atom_at (id := 4) (live := [0, 2, 4, 5, 6, 7]) (outs := [(0, [0, 2, 4, 5, 6, 7, 38])]) (loop := false) (by kernel_rfl) (cut_ok (E := (ref04_Parse.E ref04_Parse.L0 ref04_Parse.L1 ref04_Parse.L2 ref04_Parse.L3 ref04_Parse.L4 ref04_Parse.L5 ref04_Parse.L6 ref04_Parse.L7)) (sh := ref04_Parse.s4) (es := ref04_Parse.x4) rfl (fun L x => ref04_Parse.eq4 ref04_Parse.L0 ref04_Parse.L1 ref04_Parse.L2 ref04_Parse.L3 ref04_Parse.L4 ref04_Parse.L5 ref04_Parse.L6 ref04_Parse.L7 L x))
    | 5, _ => exact atom_at (id := 5) (live := [0, 2, 4, 5, 6, 8, 9, 58]) (outs := [(1, [2, 3]), (0, [0, 2, 4, 6, 8, 9])]) (loop := false) (by kernel_rfl) (cut_ok (E := (ref04_Parse.E ref04_Parse.L0 ref04_Parse.L1 ref04_Parse.L2 ref04_Parse.L3 ref04_Parse.L4 ref04_Parse.L5 ref04_Parse.L6 ref04_Parse.L7)) (sh := ref04_Parse.s5) (es := ref04_Parse.x5) rfl (fun L x => ref04_Parse.eq5 ref04_Parse.L0 ref04_Parse.L1 ref04_Parse.L2 ref04_Parse.L3 ref04_Parse.L4 ref04_Parse.L5 ref04_Parse.L6 ref04_Parse.L7 L x))
    | 6, _ => exact atom_at (id := 6) (live := [0, 2, 4, 6, 8, 9]) (outs := [(0, [0, 2, 4, 9, 94])]) (loop := false) (by kernel_rfl) (cut_ok (E := (ref04_Parse.E ref04_Parse.L0 ref04_Parse.L1 ref04_Parse.L2 ref04_Parse.L3 ref04_Parse.L4 ref04_Parse.L5 ref04_Parse.L6 ref04_Parse.L7)) (sh := ref04_Parse.s6) (es := ref04_Parse.x6) rfl (fun L x => ref04_Parse.eq6 ref04_Parse.L0 ref04_Parse.L1 ref04_Parse.L2 ref04_Parse.L3 ref04_Parse.L4 ref04_Parse.L5 ref04_Parse.L6 ref04_Parse.L7 L x))
    | 7, _ => exact atom_at (id := 7) (live := [0, 2, 4, 9, 10]) (outs := [(5, [2, 4, 9]), (1, [2, 3])]) (loop := true) (by kernel_rfl) (loop_ok (E := (ref04_Parse.E ref04_Parse.L0 ref04_Parse.L1 ref04_Parse.L2 ref04_Parse.L3 ref04_Parse.L4 ref04_Parse.L5 ref04_Parse.L6 ref04_Parse.L7)) (sh := ref04_Parse.s7) (es := ref04_Parse.x7) rfl (fun L x => ref04_Parse.eq7 ref04_Parse.L0 ref04_Parse.L1 ref04_Parse.L2 ref04_Parse.L3 ref04_Parse.L4 ref04_Parse.L5 ref04_Parse.L6 ref04_Parse.L7 L x))
    | n + 8, h => exact absurd h (by omega)
end Go.Proofs.YthbphpmiandmbaaDoor.V
