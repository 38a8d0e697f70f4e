import Derived.Test.YthbphpmiandmbaaDoorVgEnv
import Derived.Test.YthbphpmiandmbaaDoorShelf
set_option linter.unusedVariables false
set_option maxRecDepth 100000
namespace Go.Proofs.YthbphpmiandmbaaDoor.V
open Go.VI
/-! stringslite_HasPrefix -/
def stringslite_HasPrefix.f (s : ByteArray) (prefix_ : ByteArray) : Option ((Bool × Unit) × (Unit)) :=
  (bif (decide ((((ByteArray.size s) : Nat) : Int) ≥ (((ByteArray.size prefix_) : Nat) : Int))) then
   (bif (decide ((((ByteArray.size prefix_) : Nat) : Int) ≤ (((ByteArray.size s) : Nat) : Int))) then
    (some ((((ByteArray.toList (ByteArray.extract s (Int.toNat (0:Int)) (Int.toNat (((ByteArray.size prefix_) : Nat) : Int)))) == (ByteArray.toList prefix_)), ()), ()))
   else
    none)
  else
   (some ((Bool.false, ()), ())))
theorem stringslite_HasPrefix.eq (x : ((ByteArray × ByteArray × Unit) × (Unit))) : (bodyO (stringslite_HasPrefix.E) (mk stringslite_HasPrefix.hs stringslite_HasPrefix.c []) Go.Proofs.Tryd.f54.results.toList stringslite_HasPrefix.sh stringslite_HasPrefix.osh x).run _ some = stringslite_HasPrefix.f x.1.1 x.1.2.1 := by
  show _ = (_ : Option _)
  kernel_rfl
noncomputable def stringslite_HasPrefix (s : ByteArray) (prefix_ : ByteArray) : Option ((Bool × Unit) × (Unit)) := stringslite_HasPrefix.f s prefix_
noncomputable def stringslite_HasPrefix.F (x : ((ByteArray × ByteArray × Unit) × (Unit))) : Option ((Bool × Unit) × (Unit)) := stringslite_HasPrefix x.1.1 x.1.2.1
theorem stringslite_HasPrefix.F_eq (s : ByteArray) (prefix_ : ByteArray) : stringslite_HasPrefix.F ((s, prefix_, ()), ()) = stringslite_HasPrefix.f s prefix_ := rfl
theorem stringslite_HasPrefix.ok {tabs : List (Nat × Go.Obj)} (ht : TabsOk tabs) : FOK Go.Proofs.Tryd.prog tabs 54 (FE.of [true, true] false stringslite_HasPrefix.sh stringslite_HasPrefix.osh stringslite_HasPrefix.F) := by
  refine fn_keeps (E := (stringslite_HasPrefix.E)) (c := stringslite_HasPrefix.c) (fn := Go.Proofs.Tryd.f54) (hs := stringslite_HasPrefix.hs) (by kernel_rfl) Go.Proofs.Tryd.func54 ⟨by kernel_rfl, by kernel_rfl, tb, by kernel_rfl, by kernel_rfl, by kernel_rfl, by kernel_rfl, by kernel_rfl⟩ ⟨fun g ks fe h => ?_, gt_ok ht⟩ ?_ (fun x => stringslite_HasPrefix.eq x)
  · cases h
  · exact known_at 0 (by kernel_rfl) fun i hi => absurd hi (Nat.not_lt_zero i)

/-! stringslite_CutPrefix -/
def stringslite_CutPrefix.f (g_stringslite_HasPrefix : ((ByteArray × ByteArray × Unit) × (Unit)) → Option ((Bool × Unit) × (Unit))) (s : ByteArray) (prefix_ : ByteArray) : Option ((ByteArray × Bool × Unit) × (Unit)) :=
  (Option.bind (g_stringslite_HasPrefix ((s, (prefix_, ())), ())) (fun y0 =>
  (bif (!y0.1.1) then
   (some ((s, (Bool.false, ())), ()))
  else
   (bif (decide ((((ByteArray.size prefix_) : Nat) : Int) ≤ (((ByteArray.size s) : Nat) : Int))) then
    (some (((ByteArray.extract s (Int.toNat (((ByteArray.size prefix_) : Nat) : Int)) (Int.toNat (((ByteArray.size s) : Nat) : Int))), (Bool.true, ())), ()))
   else
    none))))
theorem stringslite_CutPrefix.eq (g_stringslite_HasPrefix : stringslite_HasPrefix.sh.X → Option stringslite_HasPrefix.osh.X) (x : ((ByteArray × ByteArray × Unit) × (Unit))) : (bodyO (stringslite_CutPrefix.E g_stringslite_HasPrefix) (mk stringslite_CutPrefix.hs stringslite_CutPrefix.c []) Go.Proofs.Tryd.f39.results.toList stringslite_CutPrefix.sh stringslite_CutPrefix.osh x).run _ some = stringslite_CutPrefix.f g_stringslite_HasPrefix x.1.1 x.1.2.1 := by
  show _ = (_ : Option _)
  kernel_rfl
noncomputable def stringslite_CutPrefix (s : ByteArray) (prefix_ : ByteArray) : Option ((ByteArray × Bool × Unit) × (Unit)) := stringslite_CutPrefix.f stringslite_HasPrefix.F s prefix_
noncomputable def stringslite_CutPrefix.F (x : ((ByteArray × ByteArray × Unit) × (Unit))) : Option ((ByteArray × Bool × Unit) × (Unit)) := stringslite_CutPrefix x.1.1 x.1.2.1
theorem stringslite_CutPrefix.F_eq (s : ByteArray) (prefix_ : ByteArray) : stringslite_CutPrefix.F ((s, prefix_, ()), ()) = stringslite_CutPrefix.f stringslite_HasPrefix.F s prefix_ := rfl
theorem stringslite_CutPrefix.ok {tabs : List (Nat × Go.Obj)} (ht : TabsOk tabs) : FOK Go.Proofs.Tryd.prog tabs 39 (FE.of [true, true] false stringslite_CutPrefix.sh stringslite_CutPrefix.osh stringslite_CutPrefix.F) := by
  refine fn_keeps (E := (stringslite_CutPrefix.E stringslite_HasPrefix.F)) (c := stringslite_CutPrefix.c) (fn := Go.Proofs.Tryd.f39) (hs := stringslite_CutPrefix.hs) (by kernel_rfl) Go.Proofs.Tryd.func39 ⟨by kernel_rfl, by kernel_rfl, tb, by kernel_rfl, by kernel_rfl, by kernel_rfl, by kernel_rfl, by kernel_rfl⟩ ⟨fun g ks fe h => ?_, gt_ok ht⟩ ?_ (fun x => stringslite_CutPrefix.eq stringslite_HasPrefix.F x)
  · rcases c_cons h with ⟨rfl, rfl⟩ | h
    · exact stringslite_HasPrefix.ok ht
    cases h
  · exact known_at 0 (by kernel_rfl) fun i hi => absurd hi (Nat.not_lt_zero i)

/-! strings_CutPrefix -/
def strings_CutPrefix.f (g_stringslite_CutPrefix : ((ByteArray × ByteArray × Unit) × (Unit)) → Option ((ByteArray × Bool × Unit) × (Unit))) (s : ByteArray) (prefix_ : ByteArray) : Option ((ByteArray × Bool × Unit) × (Unit)) :=
  (Option.bind (g_stringslite_CutPrefix ((s, (prefix_, ())), ())) (fun y0 =>
  (some ((y0.1.1, (y0.1.2.1, ())), ()))))
theorem strings_CutPrefix.eq (g_stringslite_CutPrefix : stringslite_CutPrefix.sh.X → Option stringslite_CutPrefix.osh.X) (x : ((ByteArray × ByteArray × Unit) × (Unit))) : (bodyO (strings_CutPrefix.E g_stringslite_CutPrefix) (mk strings_CutPrefix.hs strings_CutPrefix.c []) Go.Proofs.Tryd.f29.results.toList strings_CutPrefix.sh strings_CutPrefix.osh x).run _ some = strings_CutPrefix.f g_stringslite_CutPrefix x.1.1 x.1.2.1 := by
  show _ = (_ : Option _)
  kernel_rfl
noncomputable def strings_CutPrefix (s : ByteArray) (prefix_ : ByteArray) : Option ((ByteArray × Bool × Unit) × (Unit)) := strings_CutPrefix.f stringslite_CutPrefix.F s prefix_
noncomputable def strings_CutPrefix.F (x : ((ByteArray × ByteArray × Unit) × (Unit))) : Option ((ByteArray × Bool × Unit) × (Unit)) := strings_CutPrefix x.1.1 x.1.2.1
theorem strings_CutPrefix.F_eq (s : ByteArray) (prefix_ : ByteArray) : strings_CutPrefix.F ((s, prefix_, ()), ()) = strings_CutPrefix.f stringslite_CutPrefix.F s prefix_ := rfl
theorem strings_CutPrefix.ok {tabs : List (Nat × Go.Obj)} (ht : TabsOk tabs) : FOK Go.Proofs.Tryd.prog tabs 29 (FE.of [true, true] false strings_CutPrefix.sh strings_CutPrefix.osh strings_CutPrefix.F) := by
  refine fn_keeps (E := (strings_CutPrefix.E stringslite_CutPrefix.F)) (c := strings_CutPrefix.c) (fn := Go.Proofs.Tryd.f29) (hs := strings_CutPrefix.hs) (by kernel_rfl) Go.Proofs.Tryd.func29 ⟨by kernel_rfl, by kernel_rfl, tb, by kernel_rfl, by kernel_rfl, by kernel_rfl, by kernel_rfl, by kernel_rfl⟩ ⟨fun g ks fe h => ?_, gt_ok ht⟩ ?_ (fun x => strings_CutPrefix.eq stringslite_CutPrefix.F x)
  · rcases c_cons h with ⟨rfl, rfl⟩ | h
    · exact stringslite_CutPrefix.ok ht
    cases h
  · exact known_at 0 (by kernel_rfl) fun i hi => absurd hi (Nat.not_lt_zero i)

/-! stringslite_IndexByte -/
noncomputable def stringslite_IndexByte.F (x : ((ByteArray × Int × Unit) × (Unit))) : Option ((Int × Unit) × (Unit)) := some ((Go.Lib.indexByte x.1.1.data.toList x.1.2.1.toNat.toUInt8, ()), ())
theorem stringslite_IndexByte.F_eq (s : ByteArray) (c : Int) : stringslite_IndexByte.F ((s, (c, ())), ()) = some ((Go.Lib.indexByte s.data.toList c.toNat.toUInt8, ()), ()) := rfl
theorem stringslite_IndexByte.ok {tabs : List (Nat × Go.Obj)} (ht : TabsOk tabs) : FOK Go.Proofs.Tryd.prog tabs 64 (FE.of [true, true] false stringslite_IndexByte.sh stringslite_IndexByte.osh stringslite_IndexByte.F) := by
  refine fok_shelf Go.Proofs.Tryd.func64 (c := stringslite_IndexByte.c) (by kernel_rfl) (by kernel_rfl) rfl rfl fun x y h => ?_
  cases h
  exact ⟨_, _, rfl, rfl, fun w _ => (Go.Proofs.Tryd.stringslite_IndexByte x.1.1 x.1.2.1 w).mono fun e w' ⟨h1, h2⟩ => ⟨h1, h2 ▸ Go.RowKit.Below.refl _ _⟩⟩


/-! stringslite_Index -/
def stringslite_Index.f1 (s_0 : ByteArray) (substr_1 : ByteArray) (n_5 : Int) : Option (((ByteArray × ByteArray × Int × Bool × Unit) × (Unit)) ⊕ Empty) :=
  (bif (n_5 == (0:Int)) then
   (some (Sum.inl ((s_0, (substr_1, (n_5, (Bool.true, ())))), ())))
  else
   (some (Sum.inl ((s_0, (substr_1, (n_5, (((ByteArray.toList substr_1) == (ByteArray.toList s_0)), ())))), ()))))
theorem stringslite_Index.eq1 (g_stringslite_IndexByte : stringslite_IndexByte.sh.X → Option stringslite_IndexByte.osh.X) (l0 : stringslite_Index.s0.X → Option (sumX stringslite_Index.x0)) (l1 : stringslite_Index.s1.X → Option (sumX stringslite_Index.x1)) (L : ((ByteArray × ByteArray × Int × Unit) × (Unit)) → Option (((ByteArray × ByteArray × Int × Bool × Unit) × (Unit)) ⊕ Empty)) (x : ((ByteArray × ByteArray × Int × Unit) × (Unit))) : (roundK (stringslite_Index.E g_stringslite_IndexByte l0 l1) stringslite_Index.s1 [0, 1, 5] [(0, [0, 1, 5, 16])] false (((mk stringslite_Index.hs stringslite_Index.c []).atoms.getD 1 .bad).body) stringslite_Index.x1 L x).run _ some = stringslite_Index.f1 x.1.1 x.1.2.1 x.1.2.2.1 := by
  show _ = (_ : Option _)
  kernel_rfl
noncomputable def stringslite_Index.L1 : ((ByteArray × ByteArray × Int × Unit) × (Unit)) → Option (((ByteArray × ByteArray × Int × Bool × Unit) × (Unit)) ⊕ Empty) := fun x => stringslite_Index.f1 x.1.1 x.1.2.1 x.1.2.2.1
def stringslite_Index.f0 (g_stringslite_IndexByte : ((ByteArray × Int × Unit) × (Unit)) → Option ((Int × Unit) × (Unit))) (l1 : ((ByteArray × ByteArray × Int × Unit) × (Unit)) → Option (((ByteArray × ByteArray × Int × Bool × Unit) × (Unit)) ⊕ Empty)) (s_0 : ByteArray) (substr_1 : ByteArray) (n_5 : Int) : Option (((Int × Unit) × (Unit)) ⊕ Empty) :=
  (Option.bind (l1 ((s_0, (substr_1, (n_5, ()))), ())) (fun y0 =>
  (Sum.elim (fun a1 =>
   (bif a1.1.2.2.2.1 then
    (some (Sum.inl (((0:Int), ()), ())))
   else
    (bif (a1.1.2.2.1 == (1:Int)) then
     (bif (decide ((0:Int) < (((ByteArray.size a1.1.2.1) : Nat) : Int))) then
      (Option.bind (g_stringslite_IndexByte ((a1.1.1, ((((UInt8.toNat (Array.getD (ByteArray.data a1.1.2.1) (Int.toNat (0:Int)) (0:UInt8))) : Nat) : Int), ())), ())) (fun y5 =>
      (some (Sum.inl ((y5.1.1, ()), ())))))
     else
      none)
    else
     (bif (decide (a1.1.2.2.1 ≥ (((ByteArray.size a1.1.1) : Nat) : Int))) then
      (some (Sum.inl (((-(1:Int)), ()), ())))
     else
      none)))) (fun b1 =>
   (Empty.elim b1)) y0)))
theorem stringslite_Index.eq0 (g_stringslite_IndexByte : stringslite_IndexByte.sh.X → Option stringslite_IndexByte.osh.X) (l0 : stringslite_Index.s0.X → Option (sumX stringslite_Index.x0)) (l1 : stringslite_Index.s1.X → Option (sumX stringslite_Index.x1)) (L : ((ByteArray × ByteArray × Int × Unit) × (Unit)) → Option (((Int × Unit) × (Unit)) ⊕ Empty)) (x : ((ByteArray × ByteArray × Int × Unit) × (Unit))) : (roundK (stringslite_Index.E g_stringslite_IndexByte l0 l1) stringslite_Index.s0 [0, 1, 5] [(1, [4])] false (((mk stringslite_Index.hs stringslite_Index.c []).atoms.getD 0 .bad).body) stringslite_Index.x0 L x).run _ some = stringslite_Index.f0 g_stringslite_IndexByte l1 x.1.1 x.1.2.1 x.1.2.2.1 := by
  show _ = (_ : Option _)
  kernel_rfl
noncomputable def stringslite_Index.L0 : ((ByteArray × ByteArray × Int × Unit) × (Unit)) → Option (((Int × Unit) × (Unit)) ⊕ Empty) := fun x => stringslite_Index.f0 stringslite_IndexByte.F stringslite_Index.L1 x.1.1 x.1.2.1 x.1.2.2.1
def stringslite_Index.f (l0 : ((ByteArray × ByteArray × Int × Unit) × (Unit)) → Option (((Int × Unit) × (Unit)) ⊕ Empty)) (s : ByteArray) (substr : ByteArray) : Option ((Int × Unit) × (Unit)) :=
  (Option.bind (l0 ((s, (substr, ((((ByteArray.size substr) : Nat) : Int), ()))), ())) (fun y0 =>
  (Sum.elim (fun a1 =>
   (some ((a1.1.1, ()), ()))) (fun b1 =>
   (Empty.elim b1)) y0)))
theorem stringslite_Index.eq (g_stringslite_IndexByte : stringslite_IndexByte.sh.X → Option stringslite_IndexByte.osh.X) (l0 : stringslite_Index.s0.X → Option (sumX stringslite_Index.x0)) (l1 : stringslite_Index.s1.X → Option (sumX stringslite_Index.x1)) (x : ((ByteArray × ByteArray × Unit) × (Unit))) : (bodyO (stringslite_Index.E g_stringslite_IndexByte l0 l1) (mk stringslite_Index.hs stringslite_Index.c []) Go.Proofs.Tryd.f55.results.toList stringslite_Index.sh stringslite_Index.osh x).run _ some = stringslite_Index.f l0 x.1.1 x.1.2.1 := by
  show _ = (_ : Option _)
  kernel_rfl
noncomputable def stringslite_Index (s : ByteArray) (substr : ByteArray) : Option ((Int × Unit) × (Unit)) := stringslite_Index.f stringslite_Index.L0 s substr
noncomputable def stringslite_Index.F (x : ((ByteArray × ByteArray × Unit) × (Unit))) : Option ((Int × Unit) × (Unit)) := stringslite_Index x.1.1 x.1.2.1
theorem stringslite_Index.L0_eq (s_0 : ByteArray) (substr_1 : ByteArray) (n_5 : Int) : stringslite_Index.L0 ((s_0, substr_1, n_5, ()), ()) = stringslite_Index.f0 stringslite_IndexByte.F stringslite_Index.L1 s_0 substr_1 n_5 := rfl
theorem stringslite_Index.L1_eq (s_0 : ByteArray) (substr_1 : ByteArray) (n_5 : Int) : stringslite_Index.L1 ((s_0, substr_1, n_5, ()), ()) = stringslite_Index.f1 s_0 substr_1 n_5 := rfl
theorem stringslite_Index.F_eq (s : ByteArray) (substr : ByteArray) : stringslite_Index.F ((s, substr, ()), ()) = stringslite_Index.f stringslite_Index.L0 s substr := rfl
theorem stringslite_Index.ok {tabs : List (Nat × Go.Obj)} (ht : TabsOk tabs) : FOK Go.Proofs.Tryd.prog tabs 55 (FE.of [true, true] false stringslite_Index.sh stringslite_Index.osh stringslite_Index.F) := by
  refine fn_keeps (E := (stringslite_Index.E stringslite_IndexByte.F stringslite_Index.L0 stringslite_Index.L1)) (c := stringslite_Index.c) (fn := Go.Proofs.Tryd.f55) (hs := stringslite_Index.hs) (by kernel_rfl) Go.Proofs.Tryd.func55 ⟨by kernel_rfl, by kernel_rfl, tb, by kernel_rfl, by kernel_rfl, by kernel_rfl, by kernel_rfl, by kernel_rfl⟩ ⟨fun g ks fe h => ?_, gt_ok ht⟩ ?_ (fun x => stringslite_Index.eq stringslite_IndexByte.F stringslite_Index.L0 stringslite_Index.L1 x)
  · rcases c_cons h with ⟨rfl, rfl⟩ | h
    · exact stringslite_IndexByte.ok ht
    cases h
  · refine known_at 2 (by kernel_rfl) fun i hi => ?_
    match i, hi with
    | 0, _ => exact atom_at (id := 0) (live := [0, 1, 5]) (outs := [(1, [4])]) (loop := false) (by kernel_rfl) (cut_ok (E := (stringslite_Index.E stringslite_IndexByte.F stringslite_Index.L0 stringslite_Index.L1)) (sh := stringslite_Index.s0) (es := stringslite_Index.x0) rfl (fun L x => stringslite_Index.eq0 stringslite_IndexByte.F stringslite_Index.L0 stringslite_Index.L1 L x))
    | 1, _ => exact atom_at (id := 1) (live := [0, 1, 5]) (outs := [(0, [0, 1, 5, 16])]) (loop := false) (by kernel_rfl) (cut_ok (E := (stringslite_Index.E stringslite_IndexByte.F stringslite_Index.L0 stringslite_Index.L1)) (sh := stringslite_Index.s1) (es := stringslite_Index.x1) rfl (fun L x => stringslite_Index.eq1 stringslite_IndexByte.F stringslite_Index.L0 stringslite_Index.L1 L x))
    | n + 2, h => exact absurd h (by omega)

/-! stringslite_Cut -/
def stringslite_Cut.f (g_stringslite_Index : ((ByteArray × ByteArray × Unit) × (Unit)) → Option ((Int × Unit) × (Unit))) (s : ByteArray) (sep : ByteArray) : Option ((ByteArray × ByteArray × Bool × Unit) × (Unit)) :=
  (Option.bind (g_stringslite_Index ((s, (sep, ())), ())) (fun y0 =>
  (bif (decide (y0.1.1 ≥ (0:Int))) then
   (bif (decide ((0:Int) ≤ y0.1.1)) then
    (bif (decide (y0.1.1 ≤ (((ByteArray.size s) : Nat) : Int))) then
     (bif (decide ((0:Int) ≤ (Go.IntKind.wrap Go.IntKind.i64 (y0.1.1 + (((ByteArray.size sep) : Nat) : Int))))) then
      (bif (decide ((Go.IntKind.wrap Go.IntKind.i64 (y0.1.1 + (((ByteArray.size sep) : Nat) : Int))) ≤ (((ByteArray.size s) : Nat) : Int))) then
       (some (((ByteArray.extract s (Int.toNat (0:Int)) (Int.toNat y0.1.1)), ((ByteArray.extract s (Int.toNat (Go.IntKind.wrap Go.IntKind.i64 (y0.1.1 + (((ByteArray.size sep) : Nat) : Int)))) (Int.toNat (((ByteArray.size s) : Nat) : Int))), (Bool.true, ()))), ()))
      else
       none)
     else
      none)
    else
     none)
   else
    none)
  else
   (some ((s, ((ByteArray.mk #[]), (Bool.false, ()))), ())))))
theorem stringslite_Cut.eq (g_stringslite_Index : stringslite_Index.sh.X → Option stringslite_Index.osh.X) (x : ((ByteArray × ByteArray × Unit) × (Unit))) : (bodyO (stringslite_Cut.E g_stringslite_Index) (mk stringslite_Cut.hs stringslite_Cut.c []) Go.Proofs.Tryd.f40.results.toList stringslite_Cut.sh stringslite_Cut.osh x).run _ some = stringslite_Cut.f g_stringslite_Index x.1.1 x.1.2.1 := by
  show _ = (_ : Option _)
  kernel_rfl
noncomputable def stringslite_Cut (s : ByteArray) (sep : ByteArray) : Option ((ByteArray × ByteArray × Bool × Unit) × (Unit)) := stringslite_Cut.f stringslite_Index.F s sep
noncomputable def stringslite_Cut.F (x : ((ByteArray × ByteArray × Unit) × (Unit))) : Option ((ByteArray × ByteArray × Bool × Unit) × (Unit)) := stringslite_Cut x.1.1 x.1.2.1
theorem stringslite_Cut.F_eq (s : ByteArray) (sep : ByteArray) : stringslite_Cut.F ((s, sep, ()), ()) = stringslite_Cut.f stringslite_Index.F s sep := rfl
theorem stringslite_Cut.ok {tabs : List (Nat × Go.Obj)} (ht : TabsOk tabs) : FOK Go.Proofs.Tryd.prog tabs 40 (FE.of [true, true] false stringslite_Cut.sh stringslite_Cut.osh stringslite_Cut.F) := by
  refine fn_keeps (E := (stringslite_Cut.E stringslite_Index.F)) (c := stringslite_Cut.c) (fn := Go.Proofs.Tryd.f40) (hs := stringslite_Cut.hs) (by kernel_rfl) Go.Proofs.Tryd.func40 ⟨by kernel_rfl, by kernel_rfl, tb, by kernel_rfl, by kernel_rfl, by kernel_rfl, by kernel_rfl, by kernel_rfl⟩ ⟨fun g ks fe h => ?_, gt_ok ht⟩ ?_ (fun x => stringslite_Cut.eq stringslite_Index.F x)
  · rcases c_cons h with ⟨rfl, rfl⟩ | h
    · exact stringslite_Index.ok ht
    cases h
  · exact known_at 0 (by kernel_rfl) fun i hi => absurd hi (Nat.not_lt_zero i)

/-! strings_Cut -/
def strings_Cut.f (g_stringslite_Cut : ((ByteArray × ByteArray × Unit) × (Unit)) → Option ((ByteArray × ByteArray × Bool × Unit) × (Unit))) (s : ByteArray) (sep : ByteArray) : Option ((ByteArray × ByteArray × Bool × Unit) × (Unit)) :=
  (Option.bind (g_stringslite_Cut ((s, (sep, ())), ())) (fun y0 =>
  (some ((y0.1.1, (y0.1.2.1, (y0.1.2.2.1, ()))), ()))))
theorem strings_Cut.eq (g_stringslite_Cut : stringslite_Cut.sh.X → Option stringslite_Cut.osh.X) (x : ((ByteArray × ByteArray × Unit) × (Unit))) : (bodyO (strings_Cut.E g_stringslite_Cut) (mk strings_Cut.hs strings_Cut.c []) Go.Proofs.Tryd.f30.results.toList strings_Cut.sh strings_Cut.osh x).run _ some = strings_Cut.f g_stringslite_Cut x.1.1 x.1.2.1 := by
  show _ = (_ : Option _)
  kernel_rfl
noncomputable def strings_Cut (s : ByteArray) (sep : ByteArray) : Option ((ByteArray × ByteArray × Bool × Unit) × (Unit)) := strings_Cut.f stringslite_Cut.F s sep
noncomputable def strings_Cut.F (x : ((ByteArray × ByteArray × Unit) × (Unit))) : Option ((ByteArray × ByteArray × Bool × Unit) × (Unit)) := strings_Cut x.1.1 x.1.2.1
theorem strings_Cut.F_eq (s : ByteArray) (sep : ByteArray) : strings_Cut.F ((s, sep, ()), ()) = strings_Cut.f stringslite_Cut.F s sep := rfl
theorem strings_Cut.ok {tabs : List (Nat × Go.Obj)} (ht : TabsOk tabs) : FOK Go.Proofs.Tryd.prog tabs 30 (FE.of [true, true] false strings_Cut.sh strings_Cut.osh strings_Cut.F) := by
  refine fn_keeps (E := (strings_Cut.E stringslite_Cut.F)) (c := strings_Cut.c) (fn := Go.Proofs.Tryd.f30) (hs := strings_Cut.hs) (by kernel_rfl) Go.Proofs.Tryd.func30 ⟨by kernel_rfl, by kernel_rfl, tb, by kernel_rfl, by kernel_rfl, by kernel_rfl, by kernel_rfl, by kernel_rfl⟩ ⟨fun g ks fe h => ?_, gt_ok ht⟩ ?_ (fun x => strings_Cut.eq stringslite_Cut.F x)
  · rcases c_cons h with ⟨rfl, rfl⟩ | h
    · exact stringslite_Cut.ok ht
    cases h
  · exact known_at 0 (by kernel_rfl) fun i hi => absurd hi (Nat.not_lt_zero i)

/-! unit_class -/
def unit_class.f (c : Int) : Option ((Int × Unit) × (Unit)) :=
  (bif (decide (c < (48:Int))) then
   (some (((1:Int), ()), ()))
  else
   (bif (decide (c > (57:Int))) then
    (some (((1:Int), ()), ()))
   else
    (some (((0:Int), ()), ()))))
theorem unit_class.eq (x : ((Int × Unit) × (Unit))) : (bodyO (unit_class.E) (mk unit_class.hs unit_class.c []) Go.Proofs.Tryd.f41.results.toList unit_class.sh unit_class.osh x).run _ some = unit_class.f x.1.1 := by
  show _ = (_ : Option _)
  kernel_rfl
noncomputable def unit_class (c : Int) : Option ((Int × Unit) × (Unit)) := unit_class.f c
noncomputable def unit_class.F (x : ((Int × Unit) × (Unit))) : Option ((Int × Unit) × (Unit)) := unit_class x.1.1
theorem unit_class.F_eq (c : Int) : unit_class.F ((c, ()), ()) = unit_class.f c := rfl
theorem unit_class.ok {tabs : List (Nat × Go.Obj)} (ht : TabsOk tabs) : FOK Go.Proofs.Tryd.prog tabs 41 (FE.of [true] false unit_class.sh unit_class.osh unit_class.F) := by
  refine fn_keeps (E := (unit_class.E)) (c := unit_class.c) (fn := Go.Proofs.Tryd.f41) (hs := unit_class.hs) (by kernel_rfl) Go.Proofs.Tryd.func41 ⟨by kernel_rfl, by kernel_rfl, tb, by kernel_rfl, by kernel_rfl, by kernel_rfl, by kernel_rfl, by kernel_rfl⟩ ⟨fun g ks fe h => ?_, gt_ok ht⟩ ?_ (fun x => unit_class.eq x)
  · cases h
  · exact known_at 0 (by kernel_rfl) fun i hi => absurd hi (Nat.not_lt_zero i)

/-! unit_digits -/
def unit_digits.f0 (g_unit_class : ((Int × Unit) × (Unit)) → Option ((Int × Unit) × (Unit))) (L : ((ByteArray × Int × Int × Unit) × (Unit)) → Option (((ByteArray × Unit) × (Unit)) ⊕ ((Bool × Unit) × (Unit)) ⊕ Empty)) (s_0 : ByteArray) (v5 : Int) (v6 : Int) : Option (((ByteArray × Unit) × (Unit)) ⊕ ((Bool × Unit) × (Unit)) ⊕ Empty) :=
  (bif (decide (v6 < v5)) then
   (bif (decide ((0:Int) ≤ v6)) then
    (bif (decide (v6 < (((ByteArray.size s_0) : Nat) : Int))) then
     (Option.bind (g_unit_class (((((UInt8.toNat (Array.getD (ByteArray.data s_0) (Int.toNat v6) (0:UInt8))) : Nat) : Int), ()), ())) (fun y3 =>
     (bif (y3.1.1 != (0:Int)) then
      (some (Sum.inr (Sum.inl ((Bool.false, ()), ()))))
     else
      (Option.bind (L ((s_0, (v5, ((Go.IntKind.wrap Go.IntKind.i64 (v6 + (1:Int))), ()))), ())) (fun y5 =>
      (some y5))))))
    else
     none)
   else
    none)
  else
   (some (Sum.inl ((s_0, ()), ()))))
theorem unit_digits.eq0 (g_unit_class : unit_class.sh.X → Option unit_class.osh.X) (l0 : unit_digits.s0.X → Option (sumX unit_digits.x0)) (L : ((ByteArray × Int × Int × Unit) × (Unit)) → Option (((ByteArray × Unit) × (Unit)) ⊕ ((Bool × Unit) × (Unit)) ⊕ Empty)) (x : ((ByteArray × Int × Int × Unit) × (Unit))) : (roundK (unit_digits.E g_unit_class l0) unit_digits.s0 [0, 5, 6] [(2, [0]), (1, [2])] true (((mk unit_digits.hs unit_digits.c []).atoms.getD 0 .bad).body) unit_digits.x0 L x).run _ some = unit_digits.f0 g_unit_class L x.1.1 x.1.2.1 x.1.2.2.1 := by
  show _ = (_ : Option _)
  kernel_rfl
noncomputable def unit_digits.L0 : ((ByteArray × Int × Int × Unit) × (Unit)) → Option (((ByteArray × Unit) × (Unit)) ⊕ ((Bool × Unit) × (Unit)) ⊕ Empty) := loop fun L x => unit_digits.f0 unit_class.F L x.1.1 x.1.2.1 x.1.2.2.1
def unit_digits.f (l0 : ((ByteArray × Int × Int × Unit) × (Unit)) → Option (((ByteArray × Unit) × (Unit)) ⊕ ((Bool × Unit) × (Unit)) ⊕ Empty)) (s : ByteArray) : Option ((Bool × Unit) × (Unit)) :=
  (Option.bind (l0 ((s, ((((ByteArray.size s) : Nat) : Int), ((0:Int), ()))), ())) (fun y0 =>
  (Sum.elim (fun a1 =>
   (some (((!((ByteArray.toList a1.1.1) == (ByteArray.toList (ByteArray.mk #[])))), ()), ()))) (fun b1 =>
   (Sum.elim (fun a2 =>
    (some ((a2.1.1, ()), ()))) (fun b2 =>
    (Empty.elim b2)) b1)) y0)))
theorem unit_digits.eq (g_unit_class : unit_class.sh.X → Option unit_class.osh.X) (l0 : unit_digits.s0.X → Option (sumX unit_digits.x0)) (x : ((ByteArray × Unit) × (Unit))) : (bodyO (unit_digits.E g_unit_class l0) (mk unit_digits.hs unit_digits.c []) Go.Proofs.Tryd.f31.results.toList unit_digits.sh unit_digits.osh x).run _ some = unit_digits.f l0 x.1.1 := by
  show _ = (_ : Option _)
  kernel_rfl
noncomputable def unit_digits (s : ByteArray) : Option ((Bool × Unit) × (Unit)) := unit_digits.f unit_digits.L0 s
noncomputable def unit_digits.F (x : ((ByteArray × Unit) × (Unit))) : Option ((Bool × Unit) × (Unit)) := unit_digits x.1.1
theorem unit_digits.L0_eq (s_0 : ByteArray) (v5 : Int) (v6 : Int) : unit_digits.L0 ((s_0, v5, v6, ()), ()) = unit_digits.f0 unit_class.F unit_digits.L0 s_0 v5 v6 :=
  loop_eq (E := (unit_digits.E unit_class.F unit_digits.L0)) (sh := unit_digits.s0) (es := unit_digits.x0) (lp := true) (H := fun L x => unit_digits.eq0 unit_class.F unit_digits.L0 L x) ((s_0, v5, v6, ()), ())
theorem unit_digits.F_eq (s : ByteArray) : unit_digits.F ((s, ()), ()) = unit_digits.f unit_digits.L0 s := rfl
theorem unit_digits.ok {tabs : List (Nat × Go.Obj)} (ht : TabsOk tabs) : FOK Go.Proofs.Tryd.prog tabs 31 (FE.of [true] false unit_digits.sh unit_digits.osh unit_digits.F) := by
  refine fn_keeps (E := (unit_digits.E unit_class.F unit_digits.L0)) (c := unit_digits.c) (fn := Go.Proofs.Tryd.f31) (hs := unit_digits.hs) (by kernel_rfl) Go.Proofs.Tryd.func31 ⟨by kernel_rfl, by kernel_rfl, tb, by kernel_rfl, by kernel_rfl, by kernel_rfl, by kernel_rfl, by kernel_rfl⟩ ⟨fun g ks fe h => ?_, gt_ok ht⟩ ?_ (fun x => unit_digits.eq unit_class.F unit_digits.L0 x)
  · rcases c_cons h with ⟨rfl, rfl⟩ | h
    · exact unit_class.ok ht
    cases h
  · refine known_at 1 (by kernel_rfl) fun i hi => ?_
    match i, hi with
    | 0, _ => exact atom_at (id := 0) (live := [0, 5, 6]) (outs := [(2, [0]), (1, [2])]) (loop := true) (by kernel_rfl) (loop_ok (E := (unit_digits.E unit_class.F unit_digits.L0)) (sh := unit_digits.s0) (es := unit_digits.x0) rfl (fun L x => unit_digits.eq0 unit_class.F unit_digits.L0 L x))
    | n + 1, h => exact absurd h (by omega)

/-! strings_trimLeftByte -/
def strings_trimLeftByte.f0 (L : ((ByteArray × Int × Unit) × (Unit)) → Option (((ByteArray × Unit) × (Unit)) ⊕ Empty)) (s_0 : ByteArray) (c_1 : Int) : Option (((ByteArray × Unit) × (Unit)) ⊕ Empty) :=
  (bif (decide ((((ByteArray.size s_0) : Nat) : Int) > (0:Int))) then
   (bif (decide ((0:Int) < (((ByteArray.size s_0) : Nat) : Int))) then
    (bif ((((UInt8.toNat (Array.getD (ByteArray.data s_0) (Int.toNat (0:Int)) (0:UInt8))) : Nat) : Int) == c_1) then
     (bif (decide ((1:Int) ≤ (((ByteArray.size s_0) : Nat) : Int))) then
      (Option.bind (L (((ByteArray.extract s_0 (Int.toNat (1:Int)) (Int.toNat (((ByteArray.size s_0) : Nat) : Int))), (c_1, ())), ())) (fun y4 =>
      (some y4)))
     else
      none)
    else
     (some (Sum.inl ((s_0, ()), ()))))
   else
    none)
  else
   (some (Sum.inl ((s_0, ()), ()))))
theorem strings_trimLeftByte.eq0 (l0 : strings_trimLeftByte.s0.X → Option (sumX strings_trimLeftByte.x0)) (L : ((ByteArray × Int × Unit) × (Unit)) → Option (((ByteArray × Unit) × (Unit)) ⊕ Empty)) (x : ((ByteArray × Int × Unit) × (Unit))) : (roundK (strings_trimLeftByte.E l0) strings_trimLeftByte.s0 [0, 1] [(2, [0])] true (((mk strings_trimLeftByte.hs strings_trimLeftByte.c []).atoms.getD 0 .bad).body) strings_trimLeftByte.x0 L x).run _ some = strings_trimLeftByte.f0 L x.1.1 x.1.2.1 := by
  show _ = (_ : Option _)
  kernel_rfl
noncomputable def strings_trimLeftByte.L0 : ((ByteArray × Int × Unit) × (Unit)) → Option (((ByteArray × Unit) × (Unit)) ⊕ Empty) := loop fun L x => strings_trimLeftByte.f0 L x.1.1 x.1.2.1
def strings_trimLeftByte.f (l0 : ((ByteArray × Int × Unit) × (Unit)) → Option (((ByteArray × Unit) × (Unit)) ⊕ Empty)) (s : ByteArray) (c : Int) : Option ((ByteArray × Unit) × (Unit)) :=
  (Option.bind (l0 ((s, (c, ())), ())) (fun y0 =>
  (Sum.elim (fun a1 =>
   (some ((a1.1.1, ()), ()))) (fun b1 =>
   (Empty.elim b1)) y0)))
theorem strings_trimLeftByte.eq (l0 : strings_trimLeftByte.s0.X → Option (sumX strings_trimLeftByte.x0)) (x : ((ByteArray × Int × Unit) × (Unit))) : (bodyO (strings_trimLeftByte.E l0) (mk strings_trimLeftByte.hs strings_trimLeftByte.c []) Go.Proofs.Tryd.f42.results.toList strings_trimLeftByte.sh strings_trimLeftByte.osh x).run _ some = strings_trimLeftByte.f l0 x.1.1 x.1.2.1 := by
  show _ = (_ : Option _)
  kernel_rfl
noncomputable def strings_trimLeftByte (s : ByteArray) (c : Int) : Option ((ByteArray × Unit) × (Unit)) := strings_trimLeftByte.f strings_trimLeftByte.L0 s c
noncomputable def strings_trimLeftByte.F (x : ((ByteArray × Int × Unit) × (Unit))) : Option ((ByteArray × Unit) × (Unit)) := strings_trimLeftByte x.1.1 x.1.2.1
theorem strings_trimLeftByte.L0_eq (s_0 : ByteArray) (c_1 : Int) : strings_trimLeftByte.L0 ((s_0, c_1, ()), ()) = strings_trimLeftByte.f0 strings_trimLeftByte.L0 s_0 c_1 :=
  loop_eq (E := (strings_trimLeftByte.E strings_trimLeftByte.L0)) (sh := strings_trimLeftByte.s0) (es := strings_trimLeftByte.x0) (lp := true) (H := fun L x => strings_trimLeftByte.eq0 strings_trimLeftByte.L0 L x) ((s_0, c_1, ()), ())
theorem strings_trimLeftByte.F_eq (s : ByteArray) (c : Int) : strings_trimLeftByte.F ((s, c, ()), ()) = strings_trimLeftByte.f strings_trimLeftByte.L0 s c := rfl
theorem strings_trimLeftByte.ok {tabs : List (Nat × Go.Obj)} (ht : TabsOk tabs) : FOK Go.Proofs.Tryd.prog tabs 42 (FE.of [true, true] false strings_trimLeftByte.sh strings_trimLeftByte.osh strings_trimLeftByte.F) := by
  refine fn_keeps (E := (strings_trimLeftByte.E strings_trimLeftByte.L0)) (c := strings_trimLeftByte.c) (fn := Go.Proofs.Tryd.f42) (hs := strings_trimLeftByte.hs) (by kernel_rfl) Go.Proofs.Tryd.func42 ⟨by kernel_rfl, by kernel_rfl, tb, by kernel_rfl, by kernel_rfl, by kernel_rfl, by kernel_rfl, by kernel_rfl⟩ ⟨fun g ks fe h => ?_, gt_ok ht⟩ ?_ (fun x => strings_trimLeftByte.eq strings_trimLeftByte.L0 x)
  · cases h
  · refine known_at 1 (by kernel_rfl) fun i hi => ?_
    match i, hi with
    | 0, _ => exact atom_at (id := 0) (live := [0, 1]) (outs := [(2, [0])]) (loop := true) (by kernel_rfl) (loop_ok (E := (strings_trimLeftByte.E strings_trimLeftByte.L0)) (sh := strings_trimLeftByte.s0) (es := strings_trimLeftByte.x0) rfl (fun L x => strings_trimLeftByte.eq0 strings_trimLeftByte.L0 L x))
    | n + 1, h => exact absurd h (by omega)

/-! strings_TrimLeft -/
def strings_TrimLeft.f0 (s_0 : ByteArray) (cutset_1 : ByteArray) : Option (((ByteArray × ByteArray × Bool × Unit) × (Unit)) ⊕ Empty) :=
  (bif ((ByteArray.toList s_0) == (ByteArray.toList (ByteArray.mk #[]))) then
   (some (Sum.inl ((s_0, (cutset_1, (Bool.true, ()))), ())))
  else
   (some (Sum.inl ((s_0, (cutset_1, (((ByteArray.toList cutset_1) == (ByteArray.toList (ByteArray.mk #[]))), ()))), ()))))
theorem strings_TrimLeft.eq0 (g_strings_trimLeftByte : strings_trimLeftByte.sh.X → Option strings_trimLeftByte.osh.X) (l0 : strings_TrimLeft.s0.X → Option (sumX strings_TrimLeft.x0)) (l1 : strings_TrimLeft.s1.X → Option (sumX strings_TrimLeft.x1)) (L : ((ByteArray × ByteArray × Unit) × (Unit)) → Option (((ByteArray × ByteArray × Bool × Unit) × (Unit)) ⊕ Empty)) (x : ((ByteArray × ByteArray × Unit) × (Unit))) : (roundK (strings_TrimLeft.E g_strings_trimLeftByte l0 l1) strings_TrimLeft.s0 [0, 1] [(0, [0, 1, 12])] false (((mk strings_TrimLeft.hs strings_TrimLeft.c []).atoms.getD 0 .bad).body) strings_TrimLeft.x0 L x).run _ some = strings_TrimLeft.f0 x.1.1 x.1.2.1 := by
  show _ = (_ : Option _)
  kernel_rfl
noncomputable def strings_TrimLeft.L0 : ((ByteArray × ByteArray × Unit) × (Unit)) → Option (((ByteArray × ByteArray × Bool × Unit) × (Unit)) ⊕ Empty) := fun x => strings_TrimLeft.f0 x.1.1 x.1.2.1
def strings_TrimLeft.f1 (s_0 : ByteArray) (cutset_1 : ByteArray) : Option (((ByteArray × ByteArray × Bool × Unit) × (Unit)) ⊕ Empty) :=
  (bif ((((ByteArray.size cutset_1) : Nat) : Int) == (1:Int)) then
   (bif (decide ((0:Int) < (((ByteArray.size cutset_1) : Nat) : Int))) then
    (some (Sum.inl ((s_0, (cutset_1, ((decide ((((UInt8.toNat (Array.getD (ByteArray.data cutset_1) (Int.toNat (0:Int)) (0:UInt8))) : Nat) : Int) < (128:Int))), ()))), ())))
   else
    none)
  else
   (some (Sum.inl ((s_0, (cutset_1, (Bool.false, ()))), ()))))
theorem strings_TrimLeft.eq1 (g_strings_trimLeftByte : strings_trimLeftByte.sh.X → Option strings_trimLeftByte.osh.X) (l0 : strings_TrimLeft.s0.X → Option (sumX strings_TrimLeft.x0)) (l1 : strings_TrimLeft.s1.X → Option (sumX strings_TrimLeft.x1)) (L : ((ByteArray × ByteArray × Unit) × (Unit)) → Option (((ByteArray × ByteArray × Bool × Unit) × (Unit)) ⊕ Empty)) (x : ((ByteArray × ByteArray × Unit) × (Unit))) : (roundK (strings_TrimLeft.E g_strings_trimLeftByte l0 l1) strings_TrimLeft.s1 [0, 1] [(0, [0, 1, 21])] false (((mk strings_TrimLeft.hs strings_TrimLeft.c []).atoms.getD 1 .bad).body) strings_TrimLeft.x1 L x).run _ some = strings_TrimLeft.f1 x.1.1 x.1.2.1 := by
  show _ = (_ : Option _)
  kernel_rfl
noncomputable def strings_TrimLeft.L1 : ((ByteArray × ByteArray × Unit) × (Unit)) → Option (((ByteArray × ByteArray × Bool × Unit) × (Unit)) ⊕ Empty) := fun x => strings_TrimLeft.f1 x.1.1 x.1.2.1
def strings_TrimLeft.f (g_strings_trimLeftByte : ((ByteArray × Int × Unit) × (Unit)) → Option ((ByteArray × Unit) × (Unit))) (l0 : ((ByteArray × ByteArray × Unit) × (Unit)) → Option (((ByteArray × ByteArray × Bool × Unit) × (Unit)) ⊕ Empty)) (l1 : ((ByteArray × ByteArray × Unit) × (Unit)) → Option (((ByteArray × ByteArray × Bool × Unit) × (Unit)) ⊕ Empty)) (s : ByteArray) (cutset : ByteArray) : Option ((ByteArray × Unit) × (Unit)) :=
  (Option.bind (l0 ((s, (cutset, ())), ())) (fun y0 =>
  (Sum.elim (fun a1 =>
   (bif a1.1.2.2.1 then
    (some ((a1.1.1, ()), ()))
   else
    (Option.bind (l1 ((a1.1.1, (a1.1.2.1, ())), ())) (fun y3 =>
    (Sum.elim (fun a4 =>
     (bif a4.1.2.2.1 then
      (bif (decide ((0:Int) < (((ByteArray.size a4.1.2.1) : Nat) : Int))) then
       (Option.bind (g_strings_trimLeftByte ((a4.1.1, ((((UInt8.toNat (Array.getD (ByteArray.data a4.1.2.1) (Int.toNat (0:Int)) (0:UInt8))) : Nat) : Int), ())), ())) (fun y7 =>
       (some ((y7.1.1, ()), ()))))
      else
       none)
     else
      none)) (fun b4 =>
     (Empty.elim b4)) y3))))) (fun b1 =>
   (Empty.elim b1)) y0)))
theorem strings_TrimLeft.eq (g_strings_trimLeftByte : strings_trimLeftByte.sh.X → Option strings_trimLeftByte.osh.X) (l0 : strings_TrimLeft.s0.X → Option (sumX strings_TrimLeft.x0)) (l1 : strings_TrimLeft.s1.X → Option (sumX strings_TrimLeft.x1)) (x : ((ByteArray × ByteArray × Unit) × (Unit))) : (bodyO (strings_TrimLeft.E g_strings_trimLeftByte l0 l1) (mk strings_TrimLeft.hs strings_TrimLeft.c []) Go.Proofs.Tryd.f32.results.toList strings_TrimLeft.sh strings_TrimLeft.osh x).run _ some = strings_TrimLeft.f g_strings_trimLeftByte l0 l1 x.1.1 x.1.2.1 := by
  show _ = (_ : Option _)
  kernel_rfl
noncomputable def strings_TrimLeft (s : ByteArray) (cutset : ByteArray) : Option ((ByteArray × Unit) × (Unit)) := strings_TrimLeft.f strings_trimLeftByte.F strings_TrimLeft.L0 strings_TrimLeft.L1 s cutset
noncomputable def strings_TrimLeft.F (x : ((ByteArray × ByteArray × Unit) × (Unit))) : Option ((ByteArray × Unit) × (Unit)) := strings_TrimLeft x.1.1 x.1.2.1
theorem strings_TrimLeft.L0_eq (s_0 : ByteArray) (cutset_1 : ByteArray) : strings_TrimLeft.L0 ((s_0, cutset_1, ()), ()) = strings_TrimLeft.f0 s_0 cutset_1 := rfl
theorem strings_TrimLeft.L1_eq (s_0 : ByteArray) (cutset_1 : ByteArray) : strings_TrimLeft.L1 ((s_0, cutset_1, ()), ()) = strings_TrimLeft.f1 s_0 cutset_1 := rfl
theorem strings_TrimLeft.F_eq (s : ByteArray) (cutset : ByteArray) : strings_TrimLeft.F ((s, cutset, ()), ()) = strings_TrimLeft.f strings_trimLeftByte.F strings_TrimLeft.L0 strings_TrimLeft.L1 s cutset := rfl
theorem strings_TrimLeft.ok {tabs : List (Nat × Go.Obj)} (ht : TabsOk tabs) : FOK Go.Proofs.Tryd.prog tabs 32 (FE.of [true, true] false strings_TrimLeft.sh strings_TrimLeft.osh strings_TrimLeft.F) := by
  refine fn_keeps (E := (strings_TrimLeft.E strings_trimLeftByte.F strings_TrimLeft.L0 strings_TrimLeft.L1)) (c := strings_TrimLeft.c) (fn := Go.Proofs.Tryd.f32) (hs := strings_TrimLeft.hs) (by kernel_rfl) Go.Proofs.Tryd.func32 ⟨by kernel_rfl, by kernel_rfl, tb, by kernel_rfl, by kernel_rfl, by kernel_rfl, by kernel_rfl, by kernel_rfl⟩ ⟨fun g ks fe h => ?_, gt_ok ht⟩ ?_ (fun x => strings_TrimLeft.eq strings_trimLeftByte.F strings_TrimLeft.L0 strings_TrimLeft.L1 x)
  · rcases c_cons h with ⟨rfl, rfl⟩ | h
    · exact strings_trimLeftByte.ok ht
    cases h
  · refine known_at 2 (by kernel_rfl) fun i hi => ?_
    match i, hi with
    | 0, _ => exact atom_at (id := 0) (live := [0, 1]) (outs := [(0, [0, 1, 12])]) (loop := false) (by kernel_rfl) (cut_ok (E := (strings_TrimLeft.E strings_trimLeftByte.F strings_TrimLeft.L0 strings_TrimLeft.L1)) (sh := strings_TrimLeft.s0) (es := strings_TrimLeft.x0) rfl (fun L x => strings_TrimLeft.eq0 strings_trimLeftByte.F strings_TrimLeft.L0 strings_TrimLeft.L1 L x))
    | 1, _ => exact atom_at (id := 1) (live := [0, 1]) (outs := [(0, [0, 1, 21])]) (loop := false) (by kernel_rfl) (cut_ok (E := (strings_TrimLeft.E strings_trimLeftByte.F strings_TrimLeft.L0 strings_TrimLeft.L1)) (sh := strings_TrimLeft.s1) (es := strings_TrimLeft.x1) rfl (fun L x => strings_TrimLeft.eq1 strings_trimLeftByte.F strings_TrimLeft.L0 strings_TrimLeft.L1 L x))
    | n + 2, h => exact absurd h (by omega)

/-! unit_Parse -/
def unit_Parse.f0 (g_unit_digits : ((ByteArray × Unit) × (Unit)) → Option ((Bool × Unit) × (Unit))) (minus_5 : Bool) (whole_6 : ByteArray) (part_7 : ByteArray) (point_8 : Bool) (o0_0 : Int) (o0_1 : Int) : Option (((Unit × Bool × ByteArray × ByteArray × Bool × Unit) × ((Int × Int × Unit) × Unit)) ⊕ Empty) :=
  (Option.bind (g_unit_digits ((whole_6, ()), ())) (fun y0 =>
  (bif (!y0.1.1) then
   (some (Sum.inl (((), (minus_5, (whole_6, (part_7, (Bool.true, ()))))), ((o0_0, (o0_1, ())), ()))))
  else
   (bif (decide ((((ByteArray.size whole_6) : Nat) : Int) > (1:Int))) then
    (bif (decide ((0:Int) < (((ByteArray.size whole_6) : Nat) : Int))) then
     (bif ((((UInt8.toNat (Array.getD (ByteArray.data whole_6) (Int.toNat (0:Int)) (0:UInt8))) : Nat) : Int) == (48:Int)) then
      (some (Sum.inl (((), (minus_5, (whole_6, (part_7, (Bool.true, ()))))), ((o0_0, (o0_1, ())), ()))))
     else
      (bif point_8 then
       (Option.bind (g_unit_digits ((part_7, ()), ())) (fun y6 =>
       (bif (!y6.1.1) then
        (some (Sum.inl (((), (minus_5, (whole_6, (part_7, (Bool.true, ()))))), ((o0_0, (o0_1, ())), ()))))
       else
        (some (Sum.inl (((), (minus_5, (whole_6, (part_7, ((decide ((((ByteArray.size part_7) : Nat) : Int) > (6:Int))), ()))))), ((o0_0, (o0_1, ())), ())))))))
      else
       (some (Sum.inl (((), (minus_5, (whole_6, (part_7, (Bool.false, ()))))), ((o0_0, (o0_1, ())), ()))))))
    else
     none)
   else
    (bif point_8 then
     (Option.bind (g_unit_digits ((part_7, ()), ())) (fun y4 =>
     (bif (!y4.1.1) then
      (some (Sum.inl (((), (minus_5, (whole_6, (part_7, (Bool.true, ()))))), ((o0_0, (o0_1, ())), ()))))
     else
      (some (Sum.inl (((), (minus_5, (whole_6, (part_7, ((decide ((((ByteArray.size part_7) : Nat) : Int) > (6:Int))), ()))))), ((o0_0, (o0_1, ())), ())))))))
    else
     (some (Sum.inl (((), (minus_5, (whole_6, (part_7, (Bool.false, ()))))), ((o0_0, (o0_1, ())), ())))))))))
theorem unit_Parse.eq0 (g_strings_CutPrefix : strings_CutPrefix.sh.X → Option strings_CutPrefix.osh.X) (g_strings_Cut : strings_Cut.sh.X → Option strings_Cut.osh.X) (g_unit_digits : unit_digits.sh.X → Option unit_digits.osh.X) (g_strings_TrimLeft : strings_TrimLeft.sh.X → Option strings_TrimLeft.osh.X) (l0 : unit_Parse.s0.X → Option (sumX unit_Parse.x0)) (l1 : unit_Parse.s1.X → Option (sumX unit_Parse.x1)) (l2 : unit_Parse.s2.X → Option (sumX unit_Parse.x2)) (L : ((Unit × Bool × ByteArray × ByteArray × Bool × Unit) × ((Int × Int × Unit) × Unit)) → Option (((Unit × Bool × ByteArray × ByteArray × Bool × Unit) × ((Int × Int × Unit) × Unit)) ⊕ Empty)) (x : ((Unit × Bool × ByteArray × ByteArray × Bool × Unit) × ((Int × Int × Unit) × Unit))) : (roundK (unit_Parse.E g_strings_CutPrefix g_strings_Cut g_unit_digits g_strings_TrimLeft l0 l1 l2) unit_Parse.s0 [2, 5, 6, 7, 8] [(0, [2, 5, 6, 7, 48])] false (((mk unit_Parse.hs unit_Parse.c []).atoms.getD 0 .bad).body) unit_Parse.x0 L x).run _ some = unit_Parse.f0 g_unit_digits x.1.2.1 x.1.2.2.1 x.1.2.2.2.1 x.1.2.2.2.2.1 x.2.1.1 x.2.1.2.1 := by
  show _ = (_ : Option _)
  kernel_rfl
noncomputable def unit_Parse.L0 : ((Unit × Bool × ByteArray × ByteArray × Bool × Unit) × ((Int × Int × Unit) × Unit)) → Option (((Unit × Bool × ByteArray × ByteArray × Bool × Unit) × ((Int × Int × Unit) × Unit)) ⊕ Empty) := fun x => unit_Parse.f0 unit_digits.F x.1.2.1 x.1.2.2.1 x.1.2.2.2.1 x.1.2.2.2.2.1 x.2.1.1 x.2.1.2.1
def unit_Parse.f1 (minus_5 : Bool) (part_7 : ByteArray) (all_9 : ByteArray) (o0_0 : Int) (o0_1 : Int) : Option (((Unit × Bool × ByteArray × ByteArray × Bool × Unit) × ((Int × Int × Unit) × Unit)) ⊕ Empty) :=
  (bif minus_5 then
   (some (Sum.inl (((), (minus_5, (part_7, (all_9, (((ByteArray.toList all_9) == (ByteArray.toList (ByteArray.mk #[]))), ()))))), ((o0_0, (o0_1, ())), ()))))
  else
   (some (Sum.inl (((), (minus_5, (part_7, (all_9, (Bool.false, ()))))), ((o0_0, (o0_1, ())), ())))))
theorem unit_Parse.eq1 (g_strings_CutPrefix : strings_CutPrefix.sh.X → Option strings_CutPrefix.osh.X) (g_strings_Cut : strings_Cut.sh.X → Option strings_Cut.osh.X) (g_unit_digits : unit_digits.sh.X → Option unit_digits.osh.X) (g_strings_TrimLeft : strings_TrimLeft.sh.X → Option strings_TrimLeft.osh.X) (l0 : unit_Parse.s0.X → Option (sumX unit_Parse.x0)) (l1 : unit_Parse.s1.X → Option (sumX unit_Parse.x1)) (l2 : unit_Parse.s2.X → Option (sumX unit_Parse.x2)) (L : ((Unit × Bool × ByteArray × ByteArray × Unit) × ((Int × Int × Unit) × Unit)) → Option (((Unit × Bool × ByteArray × ByteArray × Bool × Unit) × ((Int × Int × Unit) × Unit)) ⊕ Empty)) (x : ((Unit × Bool × ByteArray × ByteArray × Unit) × ((Int × Int × Unit) × Unit))) : (roundK (unit_Parse.E g_strings_CutPrefix g_strings_Cut g_unit_digits g_strings_TrimLeft l0 l1 l2) unit_Parse.s1 [2, 5, 7, 9] [(0, [2, 5, 7, 9, 58])] false (((mk unit_Parse.hs unit_Parse.c []).atoms.getD 1 .bad).body) unit_Parse.x1 L x).run _ some = unit_Parse.f1 x.1.2.1 x.1.2.2.1 x.1.2.2.2.1 x.2.1.1 x.2.1.2.1 := by
  show _ = (_ : Option _)
  kernel_rfl
noncomputable def unit_Parse.L1 : ((Unit × Bool × ByteArray × ByteArray × Unit) × ((Int × Int × Unit) × Unit)) → Option (((Unit × Bool × ByteArray × ByteArray × Bool × Unit) × ((Int × Int × Unit) × Unit)) ⊕ Empty) := fun x => unit_Parse.f1 x.1.2.1 x.1.2.2.1 x.1.2.2.2.1 x.2.1.1 x.2.1.2.1
def unit_Parse.f2 (L : ((Unit × Bool × ByteArray × ByteArray × Int × Int × Int × Unit) × ((Int × Int × Unit) × Unit)) → Option (((Unit × Bool × ByteArray × Int × Unit) × ((Int × Int × Unit) × Unit)) ⊕ ((Unit × Int × Unit) × ((Int × Int × Unit) × Unit)) ⊕ Empty)) (minus_5 : Bool) (part_7 : ByteArray) (all_9 : ByteArray) (n_10 : Int) (v61 : Int) (v62 : Int) (o0_0 : Int) (o0_1 : Int) : Option (((Unit × Bool × ByteArray × Int × Unit) × ((Int × Int × Unit) × Unit)) ⊕ ((Unit × Int × Unit) × ((Int × Int × Unit) × Unit)) ⊕ Empty) :=
  (bif (decide (v62 < v61)) then
   (bif (decide ((0:Int) ≤ v62)) then
    (bif (decide (v62 < (((ByteArray.size all_9) : Nat) : Int))) then
     (bif (decide ((Go.IntKind.wrap Go.IntKind.i64 ((Go.IntKind.wrap Go.IntKind.i64 ((10:Int) * n_10)) + (Go.IntKind.wrap Go.IntKind.i64 (Go.IntKind.wrap Go.IntKind.u8 ((((UInt8.toNat (Array.getD (ByteArray.data all_9) (Int.toNat v62) (0:UInt8))) : Nat) : Int) - (48:Int)))))) > (1000000000:Int))) then
      (some (Sum.inr (Sum.inl (((), ((1:Int), ())), (((0:Int), ((0:Int), ())), ())))))
     else
      (Option.bind (L (((), (minus_5, (part_7, (all_9, ((Go.IntKind.wrap Go.IntKind.i64 ((Go.IntKind.wrap Go.IntKind.i64 ((10:Int) * n_10)) + (Go.IntKind.wrap Go.IntKind.i64 (Go.IntKind.wrap Go.IntKind.u8 ((((UInt8.toNat (Array.getD (ByteArray.data all_9) (Int.toNat v62) (0:UInt8))) : Nat) : Int) - (48:Int)))))), (v61, ((Go.IntKind.wrap Go.IntKind.i64 (v62 + (1:Int))), ()))))))), ((o0_0, (o0_1, ())), ()))) (fun y4 =>
      (some y4))))
    else
     none)
   else
    none)
  else
   (some (Sum.inl (((), (minus_5, (part_7, (n_10, ())))), ((o0_0, (o0_1, ())), ())))))
theorem unit_Parse.eq2 (g_strings_CutPrefix : strings_CutPrefix.sh.X → Option strings_CutPrefix.osh.X) (g_strings_Cut : strings_Cut.sh.X → Option strings_Cut.osh.X) (g_unit_digits : unit_digits.sh.X → Option unit_digits.osh.X) (g_strings_TrimLeft : strings_TrimLeft.sh.X → Option strings_TrimLeft.osh.X) (l0 : unit_Parse.s0.X → Option (sumX unit_Parse.x0)) (l1 : unit_Parse.s1.X → Option (sumX unit_Parse.x1)) (l2 : unit_Parse.s2.X → Option (sumX unit_Parse.x2)) (L : ((Unit × Bool × ByteArray × ByteArray × Int × Int × Int × Unit) × ((Int × Int × Unit) × Unit)) → Option (((Unit × Bool × ByteArray × Int × Unit) × ((Int × Int × Unit) × Unit)) ⊕ ((Unit × Int × Unit) × ((Int × Int × Unit) × Unit)) ⊕ Empty)) (x : ((Unit × Bool × ByteArray × ByteArray × Int × Int × Int × Unit) × ((Int × Int × Unit) × Unit))) : (roundK (unit_Parse.E g_strings_CutPrefix g_strings_Cut g_unit_digits g_strings_TrimLeft l0 l1 l2) unit_Parse.s2 [2, 5, 7, 9, 10, 61, 62] [(2, [2, 5, 7, 10]), (1, [2, 3])] true (((mk unit_Parse.hs unit_Parse.c []).atoms.getD 2 .bad).body) unit_Parse.x2 L x).run _ some = unit_Parse.f2 L x.1.2.1 x.1.2.2.1 x.1.2.2.2.1 x.1.2.2.2.2.1 x.1.2.2.2.2.2.1 x.1.2.2.2.2.2.2.1 x.2.1.1 x.2.1.2.1 := by
  show _ = (_ : Option _)
  kernel_rfl
noncomputable def unit_Parse.L2 : ((Unit × Bool × ByteArray × ByteArray × Int × Int × Int × Unit) × ((Int × Int × Unit) × Unit)) → Option (((Unit × Bool × ByteArray × Int × Unit) × ((Int × Int × Unit) × Unit)) ⊕ ((Unit × Int × Unit) × ((Int × Int × Unit) × Unit)) ⊕ Empty) := loop fun L x => unit_Parse.f2 L x.1.2.1 x.1.2.2.1 x.1.2.2.2.1 x.1.2.2.2.2.1 x.1.2.2.2.2.2.1 x.1.2.2.2.2.2.2.1 x.2.1.1 x.2.1.2.1
def unit_Parse.f (g_strings_CutPrefix : ((ByteArray × ByteArray × Unit) × (Unit)) → Option ((ByteArray × Bool × Unit) × (Unit))) (g_strings_Cut : ((ByteArray × ByteArray × Unit) × (Unit)) → Option ((ByteArray × ByteArray × Bool × Unit) × (Unit))) (g_strings_TrimLeft : ((ByteArray × ByteArray × Unit) × (Unit)) → Option ((ByteArray × Unit) × (Unit))) (l0 : ((Unit × Bool × ByteArray × ByteArray × Bool × Unit) × ((Int × Int × Unit) × Unit)) → Option (((Unit × Bool × ByteArray × ByteArray × Bool × Unit) × ((Int × Int × Unit) × Unit)) ⊕ Empty)) (l1 : ((Unit × Bool × ByteArray × ByteArray × Unit) × ((Int × Int × Unit) × Unit)) → Option (((Unit × Bool × ByteArray × ByteArray × Bool × Unit) × ((Int × Int × Unit) × Unit)) ⊕ Empty)) (l2 : ((Unit × Bool × ByteArray × ByteArray × Int × Int × Int × Unit) × ((Int × Int × Unit) × Unit)) → Option (((Unit × Bool × ByteArray × Int × Unit) × ((Int × Int × Unit) × Unit)) ⊕ ((Unit × Int × Unit) × ((Int × Int × Unit) × Unit)) ⊕ Empty)) (s : ByteArray) : Option (((Int × Int × Unit) × Int × Unit) × (Unit)) :=
  (Option.bind (g_strings_CutPrefix ((s, ((ByteArray.mk #[(45:UInt8)]), ())), ())) (fun y0 =>
  (Option.bind (g_strings_Cut ((y0.1.1, ((ByteArray.mk #[(46:UInt8)]), ())), ())) (fun y1 =>
  (Option.bind (l0 (((), (y0.1.2.1, (y1.1.1, (y1.1.2.1, (y1.1.2.2.1, ()))))), (((0:Int), ((0:Int), ())), ()))) (fun y2 =>
  (Sum.elim (fun a3 =>
   (bif a3.1.2.2.2.2.1 then
    (some ((((0:Int), ((0:Int), ())), ((3:Int), ())), ()))
   else
    (bif (decide (((ByteArray.size a3.1.2.2.1) + (ByteArray.size a3.1.2.2.2.1)) ≤ (9223372036854775807:Nat))) then
     (Option.bind (g_strings_TrimLeft (((a3.1.2.2.1 ++ a3.1.2.2.2.1), ((ByteArray.mk #[(48:UInt8)]), ())), ())) (fun y6 =>
     (Option.bind (l1 (((), (a3.1.2.1, (a3.1.2.2.2.1, (y6.1.1, ())))), ((a3.2.1.1, (a3.2.1.2.1, ())), ()))) (fun y7 =>
     (Sum.elim (fun a8 =>
      (bif a8.1.2.2.2.2.1 then
       (some ((((0:Int), ((0:Int), ())), ((3:Int), ())), ()))
      else
       (Option.bind (l2 (((), (a8.1.2.1, (a8.1.2.2.1, (a8.1.2.2.2.1, ((0:Int), ((((ByteArray.size a8.1.2.2.2.1) : Nat) : Int), ((0:Int), ()))))))), ((a8.2.1.1, (a8.2.1.2.1, ())), ()))) (fun y10 =>
       (Sum.elim (fun a11 =>
        (bif a11.1.2.1 then
         (some ((((Go.IntKind.wrap Go.IntKind.i64 ((0:Int) - a11.1.2.2.2.1)), ((((ByteArray.size a11.1.2.2.1) : Nat) : Int), ())), ((0:Int), ())), ()))
        else
         (some (((a11.1.2.2.2.1, ((((ByteArray.size a11.1.2.2.1) : Nat) : Int), ())), ((0:Int), ())), ())))) (fun b11 =>
        (Sum.elim (fun a12 =>
         (some (((a12.2.1.1, (a12.2.1.2.1, ())), (a12.1.2.1, ())), ()))) (fun b12 =>
         (Empty.elim b12)) b11)) y10))))) (fun b8 =>
      (Empty.elim b8)) y7)))))
    else
     none))) (fun b3 =>
   (Empty.elim b3)) y2)))))))
theorem unit_Parse.eq (g_strings_CutPrefix : strings_CutPrefix.sh.X → Option strings_CutPrefix.osh.X) (g_strings_Cut : strings_Cut.sh.X → Option strings_Cut.osh.X) (g_unit_digits : unit_digits.sh.X → Option unit_digits.osh.X) (g_strings_TrimLeft : strings_TrimLeft.sh.X → Option strings_TrimLeft.osh.X) (l0 : unit_Parse.s0.X → Option (sumX unit_Parse.x0)) (l1 : unit_Parse.s1.X → Option (sumX unit_Parse.x1)) (l2 : unit_Parse.s2.X → Option (sumX unit_Parse.x2)) (x : ((ByteArray × Unit) × (Unit))) : (bodyO (unit_Parse.E g_strings_CutPrefix g_strings_Cut g_unit_digits g_strings_TrimLeft l0 l1 l2) (mk unit_Parse.hs unit_Parse.c []) Go.Proofs.Tryd.f13.results.toList unit_Parse.sh unit_Parse.osh x).run _ some = unit_Parse.f g_strings_CutPrefix g_strings_Cut g_strings_TrimLeft l0 l1 l2 x.1.1 := by
  show _ = (_ : Option _)
  kernel_rfl
noncomputable def unit_Parse (s : ByteArray) : Option (((Int × Int × Unit) × Int × Unit) × (Unit)) := unit_Parse.f strings_CutPrefix.F strings_Cut.F strings_TrimLeft.F unit_Parse.L0 unit_Parse.L1 unit_Parse.L2 s
noncomputable def unit_Parse.F (x : ((ByteArray × Unit) × (Unit))) : Option (((Int × Int × Unit) × Int × Unit) × (Unit)) := unit_Parse x.1.1
theorem unit_Parse.L0_eq (minus_5 : Bool) (whole_6 : ByteArray) (part_7 : ByteArray) (point_8 : Bool) (o0_0 : Int) (o0_1 : Int) : unit_Parse.L0 (((), minus_5, whole_6, part_7, point_8, ()), ((o0_0, o0_1, ()), ())) = unit_Parse.f0 unit_digits.F minus_5 whole_6 part_7 point_8 o0_0 o0_1 := rfl
theorem unit_Parse.L1_eq (minus_5 : Bool) (part_7 : ByteArray) (all_9 : ByteArray) (o0_0 : Int) (o0_1 : Int) : unit_Parse.L1 (((), minus_5, part_7, all_9, ()), ((o0_0, o0_1, ()), ())) = unit_Parse.f1 minus_5 part_7 all_9 o0_0 o0_1 := rfl
theorem unit_Parse.L2_eq (minus_5 : Bool) (part_7 : ByteArray) (all_9 : ByteArray) (n_10 : Int) (v61 : Int) (v62 : Int) (o0_0 : Int) (o0_1 : Int) : unit_Parse.L2 (((), minus_5, part_7, all_9, n_10, v61, v62, ()), ((o0_0, o0_1, ()), ())) = unit_Parse.f2 unit_Parse.L2 minus_5 part_7 all_9 n_10 v61 v62 o0_0 o0_1 :=
  loop_eq (E := (unit_Parse.E strings_CutPrefix.F strings_Cut.F unit_digits.F strings_TrimLeft.F unit_Parse.L0 unit_Parse.L1 unit_Parse.L2)) (sh := unit_Parse.s2) (es := unit_Parse.x2) (lp := true) (H := fun L x => unit_Parse.eq2 strings_CutPrefix.F strings_Cut.F unit_digits.F strings_TrimLeft.F unit_Parse.L0 unit_Parse.L1 unit_Parse.L2 L x) (((), minus_5, part_7, all_9, n_10, v61, v62, ()), ((o0_0, o0_1, ()), ()))
theorem unit_Parse.F_eq (s : ByteArray) : unit_Parse.F ((s, ()), ()) = unit_Parse.f strings_CutPrefix.F strings_Cut.F strings_TrimLeft.F unit_Parse.L0 unit_Parse.L1 unit_Parse.L2 s := rfl
theorem unit_Parse.ok {tabs : List (Nat × Go.Obj)} (ht : TabsOk tabs) : FOK Go.Proofs.Tryd.prog tabs 13 (FE.of [true] false unit_Parse.sh unit_Parse.osh unit_Parse.F) := by
  refine fn_keeps (E := (unit_Parse.E strings_CutPrefix.F strings_Cut.F unit_digits.F strings_TrimLeft.F unit_Parse.L0 unit_Parse.L1 unit_Parse.L2)) (c := unit_Parse.c) (fn := Go.Proofs.Tryd.f13) (hs := unit_Parse.hs) (by kernel_rfl) Go.Proofs.Tryd.func13 ⟨by kernel_rfl, by kernel_rfl, tb, by kernel_rfl, by kernel_rfl, by kernel_rfl, by kernel_rfl, by kernel_rfl⟩ ⟨fun g ks fe h => ?_, gt_ok ht⟩ ?_ (fun x => unit_Parse.eq strings_CutPrefix.F strings_Cut.F unit_digits.F strings_TrimLeft.F unit_Parse.L0 unit_Parse.L1 unit_Parse.L2 x)
  · rcases c_cons h with ⟨rfl, rfl⟩ | h
    · exact strings_CutPrefix.ok ht
    rcases c_cons h with ⟨rfl, rfl⟩ | h
    · exact strings_Cut.ok ht
    rcases c_cons h with ⟨rfl, rfl⟩ | h
    · exact unit_digits.ok ht
    rcases c_cons h with ⟨rfl, rfl⟩ | h
    · exact strings_TrimLeft.ok ht
    cases h
  · refine known_at 3 (by kernel_rfl) fun i hi => ?_
    match i, hi with
    | 0, _ => exact atom_at (id := 0) (live := [2, 5, 6, 7, 8]) (outs := [(0, [2, 5, 6, 7, 48])]) (loop := false) (by kernel_rfl) (cut_ok (E := (unit_Parse.E strings_CutPrefix.F strings_Cut.F unit_digits.F strings_TrimLeft.F unit_Parse.L0 unit_Parse.L1 unit_Parse.L2)) (sh := unit_Parse.s0) (es := unit_Parse.x0) rfl (fun L x => unit_Parse.eq0 strings_CutPrefix.F strings_Cut.F unit_digits.F strings_TrimLeft.F unit_Parse.L0 unit_Parse.L1 unit_Parse.L2 L x))
    | 1, _ => exact atom_at (id := 1) (live := [2, 5, 7, 9]) (outs := [(0, [2, 5, 7, 9, 58])]) (loop := false) (by kernel_rfl) (cut_ok (E := (unit_Parse.E strings_CutPrefix.F strings_Cut.F unit_digits.F strings_TrimLeft.F unit_Parse.L0 unit_Parse.L1 unit_Parse.L2)) (sh := unit_Parse.s1) (es := unit_Parse.x1) rfl (fun L x => unit_Parse.eq1 strings_CutPrefix.F strings_Cut.F unit_digits.F strings_TrimLeft.F unit_Parse.L0 unit_Parse.L1 unit_Parse.L2 L x))
    | 2, _ => exact atom_at (id := 2) (live := [2, 5, 7, 9, 10, 61, 62]) (outs := [(2, [2, 5, 7, 10]), (1, [2, 3])]) (loop := true) (by kernel_rfl) (loop_ok (E := (unit_Parse.E strings_CutPrefix.F strings_Cut.F unit_digits.F strings_TrimLeft.F unit_Parse.L0 unit_Parse.L1 unit_Parse.L2)) (sh := unit_Parse.s2) (es := unit_Parse.x2) rfl (fun L x => unit_Parse.eq2 strings_CutPrefix.F strings_Cut.F unit_digits.F strings_TrimLeft.F unit_Parse.L0 unit_Parse.L1 unit_Parse.L2 L x))
    | n + 3, h => exact absurd h (by omega)

/-! law04_raw -/
def law04_raw.f : Option (((ByteArray × Int × Int × Int × Unit) × Unit) × (Unit)) :=
  (some ((((ByteArray.mk #[(114:UInt8), (97:UInt8), (119:UInt8)]), ((1:Int), ((0:Int), ((1:Int), ())))), ()), ()))
theorem law04_raw.eq (x : ((Unit) × (Unit))) : (bodyO (law04_raw.E) (mk law04_raw.hs law04_raw.c []) Go.Proofs.Tryd.f11.results.toList law04_raw.sh law04_raw.osh x).run _ some = law04_raw.f := by
  show _ = (_ : Option _)
  kernel_rfl
noncomputable def law04_raw : Option (((ByteArray × Int × Int × Int × Unit) × Unit) × (Unit)) := law04_raw.f
noncomputable def law04_raw.F (x : ((Unit) × (Unit))) : Option (((ByteArray × Int × Int × Int × Unit) × Unit) × (Unit)) := law04_raw
theorem law04_raw.F_eq : law04_raw.F ((), ()) = law04_raw.f := rfl
theorem law04_raw.ok {tabs : List (Nat × Go.Obj)} (ht : TabsOk tabs) : FOK Go.Proofs.Tryd.prog tabs 11 (FE.of [] false law04_raw.sh law04_raw.osh law04_raw.F) := by
  refine fn_keeps (E := (law04_raw.E)) (c := law04_raw.c) (fn := Go.Proofs.Tryd.f11) (hs := law04_raw.hs) (by kernel_rfl) Go.Proofs.Tryd.func11 ⟨by kernel_rfl, by kernel_rfl, tb, by kernel_rfl, by kernel_rfl, by kernel_rfl, by kernel_rfl, by kernel_rfl⟩ ⟨fun g ks fe h => ?_, gt_ok ht⟩ ?_ (fun x => law04_raw.eq x)
  · cases h
  · exact known_at 0 (by kernel_rfl) fun i hi => absurd hi (Nat.not_lt_zero i)

/-! unit_proper -/
def unit_proper.f (d_Digits : Int) (d_Places : Int) : Option ((Bool × Unit) × (Unit)) :=
  (bif (decide (d_Digits ≥ (-(1000000000:Int)))) then
   (bif (decide (d_Digits ≤ (1000000000:Int))) then
    (bif (decide (d_Places ≥ (0:Int))) then
     (some (((decide (d_Places ≤ (6:Int))), ()), ()))
    else
     (some ((Bool.false, ()), ())))
   else
    (some ((Bool.false, ()), ())))
  else
   (some ((Bool.false, ()), ())))
theorem unit_proper.eq (x : (((Int × Int × Unit) × Unit) × (Unit))) : (bodyO (unit_proper.E) (mk unit_proper.hs unit_proper.c []) Go.Proofs.Tryd.f19.results.toList unit_proper.sh unit_proper.osh x).run _ some = unit_proper.f x.1.1.1 x.1.1.2.1 := by
  show _ = (_ : Option _)
  kernel_rfl
noncomputable def unit_proper (d_Digits : Int) (d_Places : Int) : Option ((Bool × Unit) × (Unit)) := unit_proper.f d_Digits d_Places
noncomputable def unit_proper.F (x : (((Int × Int × Unit) × Unit) × (Unit))) : Option ((Bool × Unit) × (Unit)) := unit_proper x.1.1.1 x.1.1.2.1
theorem unit_proper.F_eq (d_Digits : Int) (d_Places : Int) : unit_proper.F (((d_Digits, d_Places, ()), ()), ()) = unit_proper.f d_Digits d_Places := rfl
theorem unit_proper.ok {tabs : List (Nat × Go.Obj)} (ht : TabsOk tabs) : FOK Go.Proofs.Tryd.prog tabs 19 (FE.of [true] false unit_proper.sh unit_proper.osh unit_proper.F) := by
  refine fn_keeps (E := (unit_proper.E)) (c := unit_proper.c) (fn := Go.Proofs.Tryd.f19) (hs := unit_proper.hs) (by kernel_rfl) Go.Proofs.Tryd.func19 ⟨by kernel_rfl, by kernel_rfl, tb, by kernel_rfl, by kernel_rfl, by kernel_rfl, by kernel_rfl, by kernel_rfl⟩ ⟨fun g ks fe h => ?_, gt_ok ht⟩ ?_ (fun x => unit_proper.eq x)
  · cases h
  · exact known_at 0 (by kernel_rfl) fun i hi => absurd hi (Nat.not_lt_zero i)
end Go.Proofs.YthbphpmiandmbaaDoor.V
