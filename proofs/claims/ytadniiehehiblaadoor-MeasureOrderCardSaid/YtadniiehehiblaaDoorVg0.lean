import Derived.Test.YtadniiehehiblaaDoorVgEnv
import Derived.Test.YtadniiehehiblaaDoorShelf
import Derived.WalkKit
set_option linter.unusedVariables false
set_option maxRecDepth 100000
namespace Go.Proofs.YtadniiehehiblaaDoor.V
open Go.VI
/-! stringslite_IndexByte -/
noncomputable def stringslite_IndexByte.F (x : ((ByteArray × Int × Unit) × (Unit))) : Option ((Int × Unit) × (Unit)) := some ((Go.Lib.indexByte x.1.1.data.toList x.1.2.1.toNat.toUInt8, ()), ())
theorem stringslite_IndexByte.F_eq (s : ByteArray) (c : Int) : stringslite_IndexByte.F ((s, (c, ())), ()) = some ((Go.Lib.indexByte s.data.toList c.toNat.toUInt8, ()), ()) := rfl
theorem stringslite_IndexByte.ok {tabs : List (Nat × Go.Obj)} (ht : TabsOk tabs) : FOK Go.Proofs.Tryd.prog tabs 79 (FE.of [true, true] false stringslite_IndexByte.sh stringslite_IndexByte.osh stringslite_IndexByte.F) := by
  refine fok_shelf Go.Proofs.Tryd.func79 (c := stringslite_IndexByte.c) (by kernel_rfl) (by kernel_rfl) rfl rfl fun x y h => ?_
  cases h
  exact ⟨_, _, rfl, rfl, fun w _ => (Go.Proofs.Tryd.stringslite_IndexByte x.1.1 x.1.2.1 w).mono fun e w' ⟨h1, h2⟩ => ⟨h1, h2 ▸ Go.RowKit.Below.refl _ _⟩⟩


/-! stringslite_Index -/
def stringslite_Index.f1 (s_0 : ByteArray) (substr_1 : ByteArray) (n_5 : Int) : Option (((ByteArray × ByteArray × Int × Bool × Unit) × (Unit)) ⊕ Empty) :=
  (bif (n_5 == (0:Int)) then
   (some (Sum.inl ((s_0, (substr_1, (n_5, (Bool.true, ())))), ())))
  else
   (some (Sum.inl ((s_0, (substr_1, (n_5, (((ByteArray.toList substr_1) == (ByteArray.toList s_0)), ())))), ()))))
theorem stringslite_Index.eq1 (g_stringslite_IndexByte : stringslite_IndexByte.sh.X → Option stringslite_IndexByte.osh.X) (l0 : stringslite_Index.s0.X → Option (sumX stringslite_Index.x0)) (l1 : stringslite_Index.s1.X → Option (sumX stringslite_Index.x1)) (L : ((ByteArray × ByteArray × Int × Unit) × (Unit)) → Option (((ByteArray × ByteArray × Int × Bool × Unit) × (Unit)) ⊕ Empty)) (x : ((ByteArray × ByteArray × Int × Unit) × (Unit))) : (roundK (stringslite_Index.E g_stringslite_IndexByte l0 l1) stringslite_Index.s1 [0, 1, 5] [(0, [0, 1, 5, 16])] false (((mk stringslite_Index.hs stringslite_Index.c []).atoms.getD 1 .bad).body) stringslite_Index.x1 L x).run _ some = stringslite_Index.f1 x.1.1 x.1.2.1 x.1.2.2.1 := by
  show _ = (_ : Option _)
  kernel_rfl
noncomputable def stringslite_Index.L1 : ((ByteArray × ByteArray × Int × Unit) × (Unit)) → Option (((ByteArray × ByteArray × Int × Bool × Unit) × (Unit)) ⊕ Empty) := fun x => stringslite_Index.f1 x.1.1 x.1.2.1 x.1.2.2.1
def stringslite_Index.f0 (g_stringslite_IndexByte : ((ByteArray × Int × Unit) × (Unit)) → Option ((Int × Unit) × (Unit))) (l1 : ((ByteArray × ByteArray × Int × Unit) × (Unit)) → Option (((ByteArray × ByteArray × Int × Bool × Unit) × (Unit)) ⊕ Empty)) (s_0 : ByteArray) (substr_1 : ByteArray) (n_5 : Int) : Option (((Int × Unit) × (Unit)) ⊕ Empty) :=
  (Option.bind (l1 ((s_0, (substr_1, (n_5, ()))), ())) (fun y0 =>
  (Sum.elim (fun a1 =>
   (bif a1.1.2.2.2.1 then
    (some (Sum.inl (((0:Int), ()), ())))
   else
    (bif (a1.1.2.2.1 == (1:Int)) then
     (bif (decide ((0:Int) < (((ByteArray.size a1.1.2.1) : Nat) : Int))) then
      (Option.bind (g_stringslite_IndexByte ((a1.1.1, ((((UInt8.toNat (Array.getD (ByteArray.data a1.1.2.1) (Int.toNat (0:Int)) (0:UInt8))) : Nat) : Int), ())), ())) (fun y5 =>
      (some (Sum.inl ((y5.1.1, ()), ())))))
     else
      none)
    else
     (bif (decide (a1.1.2.2.1 ≥ (((ByteArray.size a1.1.1) : Nat) : Int))) then
      (some (Sum.inl (((-(1:Int)), ()), ())))
     else
      none)))) (fun b1 =>
   (Empty.elim b1)) y0)))
theorem stringslite_Index.eq0 (g_stringslite_IndexByte : stringslite_IndexByte.sh.X → Option stringslite_IndexByte.osh.X) (l0 : stringslite_Index.s0.X → Option (sumX stringslite_Index.x0)) (l1 : stringslite_Index.s1.X → Option (sumX stringslite_Index.x1)) (L : ((ByteArray × ByteArray × Int × Unit) × (Unit)) → Option (((Int × Unit) × (Unit)) ⊕ Empty)) (x : ((ByteArray × ByteArray × Int × Unit) × (Unit))) : (roundK (stringslite_Index.E g_stringslite_IndexByte l0 l1) stringslite_Index.s0 [0, 1, 5] [(1, [4])] false (((mk stringslite_Index.hs stringslite_Index.c []).atoms.getD 0 .bad).body) stringslite_Index.x0 L x).run _ some = stringslite_Index.f0 g_stringslite_IndexByte l1 x.1.1 x.1.2.1 x.1.2.2.1 := by
  show _ = (_ : Option _)
  kernel_rfl
noncomputable def stringslite_Index.L0 : ((ByteArray × ByteArray × Int × Unit) × (Unit)) → Option (((Int × Unit) × (Unit)) ⊕ Empty) := fun x => stringslite_Index.f0 stringslite_IndexByte.F stringslite_Index.L1 x.1.1 x.1.2.1 x.1.2.2.1
def stringslite_Index.f (l0 : ((ByteArray × ByteArray × Int × Unit) × (Unit)) → Option (((Int × Unit) × (Unit)) ⊕ Empty)) (s : ByteArray) (substr : ByteArray) : Option ((Int × Unit) × (Unit)) :=
  (Option.bind (l0 ((s, (substr, ((((ByteArray.size substr) : Nat) : Int), ()))), ())) (fun y0 =>
  (Sum.elim (fun a1 =>
   (some ((a1.1.1, ()), ()))) (fun b1 =>
   (Empty.elim b1)) y0)))
theorem stringslite_Index.eq (g_stringslite_IndexByte : stringslite_IndexByte.sh.X → Option stringslite_IndexByte.osh.X) (l0 : stringslite_Index.s0.X → Option (sumX stringslite_Index.x0)) (l1 : stringslite_Index.s1.X → Option (sumX stringslite_Index.x1)) (x : ((ByteArray × ByteArray × Unit) × (Unit))) : (bodyO (stringslite_Index.E g_stringslite_IndexByte l0 l1) (mk stringslite_Index.hs stringslite_Index.c []) Go.Proofs.Tryd.f64.results.toList stringslite_Index.sh stringslite_Index.osh x).run _ some = stringslite_Index.f l0 x.1.1 x.1.2.1 := by
  show _ = (_ : Option _)
  kernel_rfl
noncomputable def stringslite_Index (s : ByteArray) (substr : ByteArray) : Option ((Int × Unit) × (Unit)) := stringslite_Index.f stringslite_Index.L0 s substr
noncomputable def stringslite_Index.F (x : ((ByteArray × ByteArray × Unit) × (Unit))) : Option ((Int × Unit) × (Unit)) := stringslite_Index x.1.1 x.1.2.1
theorem stringslite_Index.L0_eq (s_0 : ByteArray) (substr_1 : ByteArray) (n_5 : Int) : stringslite_Index.L0 ((s_0, substr_1, n_5, ()), ()) = stringslite_Index.f0 stringslite_IndexByte.F stringslite_Index.L1 s_0 substr_1 n_5 := rfl
theorem stringslite_Index.L1_eq (s_0 : ByteArray) (substr_1 : ByteArray) (n_5 : Int) : stringslite_Index.L1 ((s_0, substr_1, n_5, ()), ()) = stringslite_Index.f1 s_0 substr_1 n_5 := rfl
theorem stringslite_Index.F_eq (s : ByteArray) (substr : ByteArray) : stringslite_Index.F ((s, substr, ()), ()) = stringslite_Index.f stringslite_Index.L0 s substr := rfl
theorem stringslite_Index.ok {tabs : List (Nat × Go.Obj)} (ht : TabsOk tabs) : FOK Go.Proofs.Tryd.prog tabs 64 (FE.of [true, true] false stringslite_Index.sh stringslite_Index.osh stringslite_Index.F) := by
  refine fn_keeps (E := (stringslite_Index.E stringslite_IndexByte.F stringslite_Index.L0 stringslite_Index.L1)) (c := stringslite_Index.c) (fn := Go.Proofs.Tryd.f64) (hs := stringslite_Index.hs) (by kernel_rfl) Go.Proofs.Tryd.func64 ⟨by kernel_rfl, by kernel_rfl, tb, by kernel_rfl, by kernel_rfl, by kernel_rfl, by kernel_rfl, by kernel_rfl⟩ ⟨fun g ks fe h => ?_, gt_ok ht⟩ ?_ (fun x => stringslite_Index.eq stringslite_IndexByte.F stringslite_Index.L0 stringslite_Index.L1 x)
  · rcases c_cons h with ⟨rfl, rfl⟩ | h
    · exact stringslite_IndexByte.ok ht
    cases h
  · refine known_at 2 (by kernel_rfl) fun i hi => ?_
    match i, hi with
    | 0, _ => exact atom_at (id := 0) (live := [0, 1, 5]) (outs := [(1, [4])]) (loop := false) (by kernel_rfl) (cut_ok (E := (stringslite_Index.E stringslite_IndexByte.F stringslite_Index.L0 stringslite_Index.L1)) (sh := stringslite_Index.s0) (es := stringslite_Index.x0) rfl (fun L x => stringslite_Index.eq0 stringslite_IndexByte.F stringslite_Index.L0 stringslite_Index.L1 L x))
    | 1, _ => exact atom_at (id := 1) (live := [0, 1, 5]) (outs := [(0, [0, 1, 5, 16])]) (loop := false) (by kernel_rfl) (cut_ok (E := (stringslite_Index.E stringslite_IndexByte.F stringslite_Index.L0 stringslite_Index.L1)) (sh := stringslite_Index.s1) (es := stringslite_Index.x1) rfl (fun L x => stringslite_Index.eq1 stringslite_IndexByte.F stringslite_Index.L0 stringslite_Index.L1 L x))
    | n + 2, h => exact absurd h (by omega)

/-! stringslite_Cut -/
def stringslite_Cut.f (g_stringslite_Index : ((ByteArray × ByteArray × Unit) × (Unit)) → Option ((Int × Unit) × (Unit))) (s : ByteArray) (sep : ByteArray) : Option ((ByteArray × ByteArray × Bool × Unit) × (Unit)) :=
  (Option.bind (g_stringslite_Index ((s, (sep, ())), ())) (fun y0 =>
  (bif (decide (y0.1.1 ≥ (0:Int))) then
   (bif (decide ((0:Int) ≤ y0.1.1)) then
    (bif (decide (y0.1.1 ≤ (((ByteArray.size s) : Nat) : Int))) then
     (bif (decide ((0:Int) ≤ (Go.IntKind.wrap Go.IntKind.i64 (y0.1.1 + (((ByteArray.size sep) : Nat) : Int))))) then
      (bif (decide ((Go.IntKind.wrap Go.IntKind.i64 (y0.1.1 + (((ByteArray.size sep) : Nat) : Int))) ≤ (((ByteArray.size s) : Nat) : Int))) then
       (some (((ByteArray.extract s (Int.toNat (0:Int)) (Int.toNat y0.1.1)), ((ByteArray.extract s (Int.toNat (Go.IntKind.wrap Go.IntKind.i64 (y0.1.1 + (((ByteArray.size sep) : Nat) : Int)))) (Int.toNat (((ByteArray.size s) : Nat) : Int))), (Bool.true, ()))), ()))
      else
       none)
     else
      none)
    else
     none)
   else
    none)
  else
   (some ((s, ((ByteArray.mk #[]), (Bool.false, ()))), ())))))
theorem stringslite_Cut.eq (g_stringslite_Index : stringslite_Index.sh.X → Option stringslite_Index.osh.X) (x : ((ByteArray × ByteArray × Unit) × (Unit))) : (bodyO (stringslite_Cut.E g_stringslite_Index) (mk stringslite_Cut.hs stringslite_Cut.c []) Go.Proofs.Tryd.f49.results.toList stringslite_Cut.sh stringslite_Cut.osh x).run _ some = stringslite_Cut.f g_stringslite_Index x.1.1 x.1.2.1 := by
  show _ = (_ : Option _)
  kernel_rfl
noncomputable def stringslite_Cut (s : ByteArray) (sep : ByteArray) : Option ((ByteArray × ByteArray × Bool × Unit) × (Unit)) := stringslite_Cut.f stringslite_Index.F s sep
noncomputable def stringslite_Cut.F (x : ((ByteArray × ByteArray × Unit) × (Unit))) : Option ((ByteArray × ByteArray × Bool × Unit) × (Unit)) := stringslite_Cut x.1.1 x.1.2.1
theorem stringslite_Cut.F_eq (s : ByteArray) (sep : ByteArray) : stringslite_Cut.F ((s, sep, ()), ()) = stringslite_Cut.f stringslite_Index.F s sep := rfl
theorem stringslite_Cut.ok {tabs : List (Nat × Go.Obj)} (ht : TabsOk tabs) : FOK Go.Proofs.Tryd.prog tabs 49 (FE.of [true, true] false stringslite_Cut.sh stringslite_Cut.osh stringslite_Cut.F) := by
  refine fn_keeps (E := (stringslite_Cut.E stringslite_Index.F)) (c := stringslite_Cut.c) (fn := Go.Proofs.Tryd.f49) (hs := stringslite_Cut.hs) (by kernel_rfl) Go.Proofs.Tryd.func49 ⟨by kernel_rfl, by kernel_rfl, tb, by kernel_rfl, by kernel_rfl, by kernel_rfl, by kernel_rfl, by kernel_rfl⟩ ⟨fun g ks fe h => ?_, gt_ok ht⟩ ?_ (fun x => stringslite_Cut.eq stringslite_Index.F x)
  · rcases c_cons h with ⟨rfl, rfl⟩ | h
    · exact stringslite_Index.ok ht
    cases h
  · exact known_at 0 (by kernel_rfl) fun i hi => absurd hi (Nat.not_lt_zero i)

/-! strings_Cut -/
def strings_Cut.f (g_stringslite_Cut : ((ByteArray × ByteArray × Unit) × (Unit)) → Option ((ByteArray × ByteArray × Bool × Unit) × (Unit))) (s : ByteArray) (sep : ByteArray) : Option ((ByteArray × ByteArray × Bool × Unit) × (Unit)) :=
  (Option.bind (g_stringslite_Cut ((s, (sep, ())), ())) (fun y0 =>
  (some ((y0.1.1, (y0.1.2.1, (y0.1.2.2.1, ()))), ()))))
theorem strings_Cut.eq (g_stringslite_Cut : stringslite_Cut.sh.X → Option stringslite_Cut.osh.X) (x : ((ByteArray × ByteArray × Unit) × (Unit))) : (bodyO (strings_Cut.E g_stringslite_Cut) (mk strings_Cut.hs strings_Cut.c []) Go.Proofs.Tryd.f30.results.toList strings_Cut.sh strings_Cut.osh x).run _ some = strings_Cut.f g_stringslite_Cut x.1.1 x.1.2.1 := by
  show _ = (_ : Option _)
  kernel_rfl
noncomputable def strings_Cut (s : ByteArray) (sep : ByteArray) : Option ((ByteArray × ByteArray × Bool × Unit) × (Unit)) := strings_Cut.f stringslite_Cut.F s sep
noncomputable def strings_Cut.F (x : ((ByteArray × ByteArray × Unit) × (Unit))) : Option ((ByteArray × ByteArray × Bool × Unit) × (Unit)) := strings_Cut x.1.1 x.1.2.1
theorem strings_Cut.F_eq (s : ByteArray) (sep : ByteArray) : strings_Cut.F ((s, sep, ()), ()) = strings_Cut.f stringslite_Cut.F s sep := rfl
theorem strings_Cut.ok {tabs : List (Nat × Go.Obj)} (ht : TabsOk tabs) : FOK Go.Proofs.Tryd.prog tabs 30 (FE.of [true, true] false strings_Cut.sh strings_Cut.osh strings_Cut.F) := by
  refine fn_keeps (E := (strings_Cut.E stringslite_Cut.F)) (c := strings_Cut.c) (fn := Go.Proofs.Tryd.f30) (hs := strings_Cut.hs) (by kernel_rfl) Go.Proofs.Tryd.func30 ⟨by kernel_rfl, by kernel_rfl, tb, by kernel_rfl, by kernel_rfl, by kernel_rfl, by kernel_rfl, by kernel_rfl⟩ ⟨fun g ks fe h => ?_, gt_ok ht⟩ ?_ (fun x => strings_Cut.eq stringslite_Cut.F x)
  · rcases c_cons h with ⟨rfl, rfl⟩ | h
    · exact stringslite_Cut.ok ht
    cases h
  · exact known_at 0 (by kernel_rfl) fun i hi => absurd hi (Nat.not_lt_zero i)

/-! strconv_Atoi -/
/-- What strconv.Atoi answers: a number, and whether there is an error. -/
def strconv_Atoi.end (l : List UInt8) : Int × Bool := match Go.Lib.atoiAll l with | .ok v => (v, false) | .«syntax» => (0, true) | .range => (Go.Lib.atoiSat l, true)
noncomputable def strconv_Atoi.F (x : ((ByteArray × Unit) × (Unit))) : Option ((Int × Bool × Unit) × (Unit)) := bif decide (x.1.1.size ≤ 281474976710656) then some (((strconv_Atoi.end x.1.1.data.toList).1, (strconv_Atoi.end x.1.1.data.toList).2, ()), ()) else none
theorem strconv_Atoi.F_eq (s : ByteArray) : strconv_Atoi.F ((s, ()), ()) = bif decide (s.size ≤ 281474976710656) then some (((strconv_Atoi.end s.data.toList).1, (strconv_Atoi.end s.data.toList).2, ()), ()) else none := rfl
theorem strconv_Atoi.ok {tabs : List (Nat × Go.Obj)} (ht : TabsOk tabs) : FOK Go.Proofs.Tryd.prog tabs 31 (FE.of [true] false strconv_Atoi.sh strconv_Atoi.osh strconv_Atoi.F) := by
  refine fok_shelf2 Go.Proofs.Tryd.func31 (c := strconv_Atoi.c) (by kernel_rfl) (by kernel_rfl) rfl rfl fun x y h => ?_
  unfold strconv_Atoi.F at h
  by_cases c : x.1.1.size ≤ 281474976710656
  · rw [decide_eq_true c] at h
    cases h
    refine ⟨_, rfl, fun w hw => ?_⟩
    have hD : ∀ (n : Int) (b : Bool) (v : Go.Value), v.oneCell' = true → (b = false → v = .nilIface) → (b = true → ∃ t x, v = .iface t x) → ∀ (w' : Go.World) (α : Nat → Go.Value) (ok : Nat → Prop) (h : Heap), F2 (DR w' α ok h) (dsEnc strconv_Atoi.osh.ds ((n, b, ()) : dsX strconv_Atoi.osh.ds)) [.int .i64 n, v] :=
      fun n b v h1 h2 h3 w' α ok h => ⟨by simp [DR, LR, Rep, DS.enc, LS.enc], ⟨v, rfl, h1, h2, h3⟩, trivial⟩
    unfold strconv_Atoi.end
    cases hE : Go.Lib.atoiAll x.1.1.data.toList with
    | ok v =>
      refine (Go.Proofs.Tryd.strconv_Atoi_ok x.1.1 (by omega) v hE w).mono fun e w' h => ?_
      obtain ⟨rfl, hb⟩ := h
      refine ⟨[.int .i64 v, .nilIface], rfl, hD v false .nilIface rfl (fun _ => rfl) (fun h => by cases h) w', ?_⟩
      rcases hb with rfl | ⟨t, rfl⟩
      · exact Go.RowKit.Below.refl _ _
      · exact Go.Lib.bytesWorld_below _ _ _
    | «syntax» =>
      obtain ⟨tp, p, hv⟩ := errVar_of (g := 1) (P := Go.Proofs.Tryd.prog) (name := "strconv.ErrSyntax") (by kernel_rfl) (by unfold TabsOk at ht; first | exact ht.1 | exact ht.2.1 | exact ht.2.2.1 | exact ht.2.2.2.1) hw
      refine (Go.Proofs.Tryd.strconv_Atoi_syntax_var x.1.1 c hE tp p w hv).mono fun e w' h => ?_
      obtain ⟨N, rfl, _, _, hb⟩ := h
      exact ⟨_, rfl, hD 0 true _ rfl (fun h => by cases h) (fun _ => ⟨_, _, rfl⟩) w', hb⟩
    | range =>
      obtain ⟨tp, p, hv⟩ := errVar_of (g := 2) (P := Go.Proofs.Tryd.prog) (name := "strconv.ErrRange") (by kernel_rfl) (by unfold TabsOk at ht; first | exact ht.1 | exact ht.2.1 | exact ht.2.2.1 | exact ht.2.2.2.1) hw
      refine (Go.Proofs.Tryd.strconv_Atoi_range_var x.1.1 c hE tp p w hv).mono fun e w' h => ?_
      obtain ⟨N, rfl, _, _, hb⟩ := h
      exact ⟨_, rfl, hD _ true _ rfl (fun h => by cases h) (fun _ => ⟨_, _, rfl⟩) w', hb⟩
  · rw [decide_eq_false c] at h
    cases h


/-! measure_name -/
def measure_name.f (kind : Int) : Option ((ByteArray × Unit) × (Unit)) :=
  (bif (kind == (1:Int)) then
   (some (((ByteArray.mk #[(101:UInt8), (117:UInt8), (99:UInt8), (108:UInt8), (105:UInt8), (100:UInt8)]), ()), ()))
  else
   (bif (kind == (2:Int)) then
    (some (((ByteArray.mk #[(115:UInt8), (104:UInt8), (105:UInt8), (102:UInt8), (116:UInt8), (101:UInt8), (100:UInt8)]), ()), ()))
   else
    (bif (kind == (3:Int)) then
     (some (((ByteArray.mk #[(110:UInt8), (111:UInt8), (114:UInt8), (109:UInt8), (97:UInt8), (108:UInt8)]), ()), ()))
    else
     (bif (kind == (4:Int)) then
      (some (((ByteArray.mk #[(119:UInt8), (97:UInt8), (114:UInt8), (112:UInt8)]), ()), ()))
     else
      (bif (kind == (5:Int)) then
       (some (((ByteArray.mk #[(101:UInt8), (100:UInt8), (105:UInt8), (116:UInt8)]), ()), ()))
      else
       (some (((ByteArray.mk #[]), ()), ())))))))
theorem measure_name.eq (x : ((Int × Unit) × (Unit))) : (bodyO (measure_name.E) (mk measure_name.hs measure_name.c []) Go.Proofs.Tryd.f32.results.toList measure_name.sh measure_name.osh x).run _ some = measure_name.f x.1.1 := by
  show _ = (_ : Option _)
  kernel_rfl
noncomputable def measure_name (kind : Int) : Option ((ByteArray × Unit) × (Unit)) := measure_name.f kind
noncomputable def measure_name.F (x : ((Int × Unit) × (Unit))) : Option ((ByteArray × Unit) × (Unit)) := measure_name x.1.1
theorem measure_name.F_eq (kind : Int) : measure_name.F ((kind, ()), ()) = measure_name.f kind := rfl
theorem measure_name.ok {tabs : List (Nat × Go.Obj)} (ht : TabsOk tabs) : FOK Go.Proofs.Tryd.prog tabs 32 (FE.of [true] false measure_name.sh measure_name.osh measure_name.F) := by
  refine fn_keeps (E := (measure_name.E)) (c := measure_name.c) (fn := Go.Proofs.Tryd.f32) (hs := measure_name.hs) (by kernel_rfl) Go.Proofs.Tryd.func32 ⟨by kernel_rfl, by kernel_rfl, tb, by kernel_rfl, by kernel_rfl, by kernel_rfl, by kernel_rfl, by kernel_rfl⟩ ⟨fun g ks fe h => ?_, gt_ok ht⟩ ?_ (fun x => measure_name.eq x)
  · cases h
  · exact known_at 0 (by kernel_rfl) fun i hi => absurd hi (Nat.not_lt_zero i)

/-! measure_Check -/
def measure_Check.f1 (o0_0 : Int) (o0_1 : Int) (o0_2 : Int) : Option (((Unit × Bool × Unit) × ((Int × Int × Int × Unit) × Unit)) ⊕ Empty) :=
  (bif (decide (o0_1 < (0:Int))) then
   (some (Sum.inl (((), (Bool.true, ())), ((o0_0, (o0_1, (o0_2, ()))), ()))))
  else
   (bif (decide (o0_1 > (32:Int))) then
    (some (Sum.inl (((), (Bool.true, ())), ((o0_0, (o0_1, (o0_2, ()))), ()))))
   else
    (bif (o0_1 != (0:Int)) then
     (some (Sum.inl (((), ((o0_0 != (4:Int)), ())), ((o0_0, (o0_1, (o0_2, ()))), ()))))
    else
     (some (Sum.inl (((), (Bool.false, ())), ((o0_0, (o0_1, (o0_2, ()))), ())))))))
theorem measure_Check.eq1 (g_measure_name : measure_name.sh.X → Option measure_name.osh.X) (l0 : measure_Check.s0.X → Option (sumX measure_Check.x0)) (l1 : measure_Check.s1.X → Option (sumX measure_Check.x1)) (l2 : measure_Check.s2.X → Option (sumX measure_Check.x2)) (L : ((Unit × Unit) × ((Int × Int × Int × Unit) × Unit)) → Option (((Unit × Bool × Unit) × ((Int × Int × Int × Unit) × Unit)) ⊕ Empty)) (x : ((Unit × Unit) × ((Int × Int × Int × Unit) × Unit))) : (roundK (measure_Check.E g_measure_name l0 l1 l2) measure_Check.s1 [1] [(0, [1, 3])] false (((mk measure_Check.hs measure_Check.c []).atoms.getD 1 .bad).body) measure_Check.x1 L x).run _ some = measure_Check.f1 x.2.1.1 x.2.1.2.1 x.2.1.2.2.1 := by
  show _ = (_ : Option _)
  kernel_rfl
noncomputable def measure_Check.L1 : ((Unit × Unit) × ((Int × Int × Int × Unit) × Unit)) → Option (((Unit × Bool × Unit) × ((Int × Int × Int × Unit) × Unit)) ⊕ Empty) := fun x => measure_Check.f1 x.2.1.1 x.2.1.2.1 x.2.1.2.2.1
def measure_Check.f2 (v3 : Bool) (o0_0 : Int) (o0_1 : Int) (o0_2 : Int) : Option (((Bool × Unit) × (Unit)) ⊕ Empty) :=
  (bif v3 then
   (some (Sum.inl ((v3, ()), ())))
  else
   (bif (decide (o0_2 < (-(1000:Int)))) then
    (some (Sum.inl ((Bool.true, ()), ())))
   else
    (bif (decide (o0_2 > (1000:Int))) then
     (some (Sum.inl ((Bool.true, ()), ())))
    else
     (bif (o0_2 != (0:Int)) then
      (some (Sum.inl (((o0_0 != (5:Int)), ()), ())))
     else
      (some (Sum.inl ((Bool.false, ()), ())))))))
theorem measure_Check.eq2 (g_measure_name : measure_name.sh.X → Option measure_name.osh.X) (l0 : measure_Check.s0.X → Option (sumX measure_Check.x0)) (l1 : measure_Check.s1.X → Option (sumX measure_Check.x1)) (l2 : measure_Check.s2.X → Option (sumX measure_Check.x2)) (L : ((Unit × Bool × Unit) × ((Int × Int × Int × Unit) × Unit)) → Option (((Bool × Unit) × (Unit)) ⊕ Empty)) (x : ((Unit × Bool × Unit) × ((Int × Int × Int × Unit) × Unit))) : (roundK (measure_Check.E g_measure_name l0 l1 l2) measure_Check.s2 [1, 3] [(0, [3])] false (((mk measure_Check.hs measure_Check.c []).atoms.getD 2 .bad).body) measure_Check.x2 L x).run _ some = measure_Check.f2 x.1.2.1 x.2.1.1 x.2.1.2.1 x.2.1.2.2.1 := by
  show _ = (_ : Option _)
  kernel_rfl
noncomputable def measure_Check.L2 : ((Unit × Bool × Unit) × ((Int × Int × Int × Unit) × Unit)) → Option (((Bool × Unit) × (Unit)) ⊕ Empty) := fun x => measure_Check.f2 x.1.2.1 x.2.1.1 x.2.1.2.1 x.2.1.2.2.1
def measure_Check.f0 (l1 : ((Unit × Unit) × ((Int × Int × Int × Unit) × Unit)) → Option (((Unit × Bool × Unit) × ((Int × Int × Int × Unit) × Unit)) ⊕ Empty)) (l2 : ((Unit × Bool × Unit) × ((Int × Int × Int × Unit) × Unit)) → Option (((Bool × Unit) × (Unit)) ⊕ Empty)) (v3 : Bool) (o0_0 : Int) (o0_1 : Int) (o0_2 : Int) : Option (((Bool × Unit) × (Unit)) ⊕ Empty) :=
  (bif v3 then
   (some (Sum.inl ((v3, ()), ())))
  else
   (Option.bind (l1 (((), ()), ((o0_0, (o0_1, (o0_2, ()))), ()))) (fun y1 =>
   (Sum.elim (fun a2 =>
    (Option.bind (l2 (((), (a2.1.2.1, ())), ((a2.2.1.1, (a2.2.1.2.1, (a2.2.1.2.2.1, ()))), ()))) (fun y3 =>
    (Sum.elim (fun a4 =>
     (some (Sum.inl ((a4.1.1, ()), ())))) (fun b4 =>
     (Empty.elim b4)) y3)))) (fun b2 =>
    (Empty.elim b2)) y1))))
theorem measure_Check.eq0 (g_measure_name : measure_name.sh.X → Option measure_name.osh.X) (l0 : measure_Check.s0.X → Option (sumX measure_Check.x0)) (l1 : measure_Check.s1.X → Option (sumX measure_Check.x1)) (l2 : measure_Check.s2.X → Option (sumX measure_Check.x2)) (L : ((Unit × Bool × Unit) × ((Int × Int × Int × Unit) × Unit)) → Option (((Bool × Unit) × (Unit)) ⊕ Empty)) (x : ((Unit × Bool × Unit) × ((Int × Int × Int × Unit) × Unit))) : (roundK (measure_Check.E g_measure_name l0 l1 l2) measure_Check.s0 [1, 3] [(0, [3])] false (((mk measure_Check.hs measure_Check.c []).atoms.getD 0 .bad).body) measure_Check.x0 L x).run _ some = measure_Check.f0 l1 l2 x.1.2.1 x.2.1.1 x.2.1.2.1 x.2.1.2.2.1 := by
  show _ = (_ : Option _)
  kernel_rfl
noncomputable def measure_Check.L0 : ((Unit × Bool × Unit) × ((Int × Int × Int × Unit) × Unit)) → Option (((Bool × Unit) × (Unit)) ⊕ Empty) := fun x => measure_Check.f0 measure_Check.L1 measure_Check.L2 x.1.2.1 x.2.1.1 x.2.1.2.1 x.2.1.2.2.1
def measure_Check.f (g_measure_name : ((Int × Unit) × (Unit)) → Option ((ByteArray × Unit) × (Unit))) (l0 : ((Unit × Bool × Unit) × ((Int × Int × Int × Unit) × Unit)) → Option (((Bool × Unit) × (Unit)) ⊕ Empty)) (m_Kind : Int) (m_Band : Int) (m_Gap : Int) : Option ((Int × Unit) × (Unit)) :=
  (Option.bind (g_measure_name ((m_Kind, ()), ())) (fun y0 =>
  (Option.bind (l0 (((), (((ByteArray.toList y0.1.1) == (ByteArray.toList (ByteArray.mk #[]))), ())), ((m_Kind, (m_Band, (m_Gap, ()))), ()))) (fun y1 =>
  (Sum.elim (fun a2 =>
   (bif a2.1.1 then
    (some (((9:Int), ()), ()))
   else
    (some (((0:Int), ()), ())))) (fun b2 =>
   (Empty.elim b2)) y1)))))
theorem measure_Check.eq (g_measure_name : measure_name.sh.X → Option measure_name.osh.X) (l0 : measure_Check.s0.X → Option (sumX measure_Check.x0)) (l1 : measure_Check.s1.X → Option (sumX measure_Check.x1)) (l2 : measure_Check.s2.X → Option (sumX measure_Check.x2)) (x : (((Int × Int × Int × Unit) × Unit) × (Unit))) : (bodyO (measure_Check.E g_measure_name l0 l1 l2) (mk measure_Check.hs measure_Check.c []) Go.Proofs.Tryd.f18.results.toList measure_Check.sh measure_Check.osh x).run _ some = measure_Check.f g_measure_name l0 x.1.1.1 x.1.1.2.1 x.1.1.2.2.1 := by
  show _ = (_ : Option _)
  kernel_rfl
noncomputable def measure_Check (m_Kind : Int) (m_Band : Int) (m_Gap : Int) : Option ((Int × Unit) × (Unit)) := measure_Check.f measure_name.F measure_Check.L0 m_Kind m_Band m_Gap
noncomputable def measure_Check.F (x : (((Int × Int × Int × Unit) × Unit) × (Unit))) : Option ((Int × Unit) × (Unit)) := measure_Check x.1.1.1 x.1.1.2.1 x.1.1.2.2.1
theorem measure_Check.L0_eq (v3 : Bool) (o0_0 : Int) (o0_1 : Int) (o0_2 : Int) : measure_Check.L0 (((), v3, ()), ((o0_0, o0_1, o0_2, ()), ())) = measure_Check.f0 measure_Check.L1 measure_Check.L2 v3 o0_0 o0_1 o0_2 := rfl
theorem measure_Check.L1_eq (o0_0 : Int) (o0_1 : Int) (o0_2 : Int) : measure_Check.L1 (((), ()), ((o0_0, o0_1, o0_2, ()), ())) = measure_Check.f1 o0_0 o0_1 o0_2 := rfl
theorem measure_Check.L2_eq (v3 : Bool) (o0_0 : Int) (o0_1 : Int) (o0_2 : Int) : measure_Check.L2 (((), v3, ()), ((o0_0, o0_1, o0_2, ()), ())) = measure_Check.f2 v3 o0_0 o0_1 o0_2 := rfl
theorem measure_Check.F_eq (m_Kind : Int) (m_Band : Int) (m_Gap : Int) : measure_Check.F (((m_Kind, m_Band, m_Gap, ()), ()), ()) = measure_Check.f measure_name.F measure_Check.L0 m_Kind m_Band m_Gap := rfl
theorem measure_Check.ok {tabs : List (Nat × Go.Obj)} (ht : TabsOk tabs) : FOK Go.Proofs.Tryd.prog tabs 18 (FE.of [true] false measure_Check.sh measure_Check.osh measure_Check.F) := by
  refine fn_keeps (E := (measure_Check.E measure_name.F measure_Check.L0 measure_Check.L1 measure_Check.L2)) (c := measure_Check.c) (fn := Go.Proofs.Tryd.f18) (hs := measure_Check.hs) (by kernel_rfl) Go.Proofs.Tryd.func18 ⟨by kernel_rfl, by kernel_rfl, tb, by kernel_rfl, by kernel_rfl, by kernel_rfl, by kernel_rfl, by kernel_rfl⟩ ⟨fun g ks fe h => ?_, gt_ok ht⟩ ?_ (fun x => measure_Check.eq measure_name.F measure_Check.L0 measure_Check.L1 measure_Check.L2 x)
  · rcases c_cons h with ⟨rfl, rfl⟩ | h
    · exact measure_name.ok ht
    cases h
  · refine known_at 3 (by kernel_rfl) fun i hi => ?_
    match i, hi with
    | 0, _ => exact atom_at (id := 0) (live := [1, 3]) (outs := [(0, [3])]) (loop := false) (by kernel_rfl) (cut_ok (E := (measure_Check.E measure_name.F measure_Check.L0 measure_Check.L1 measure_Check.L2)) (sh := measure_Check.s0) (es := measure_Check.x0) rfl (fun L x => measure_Check.eq0 measure_name.F measure_Check.L0 measure_Check.L1 measure_Check.L2 L x))
    | 1, _ => exact atom_at (id := 1) (live := [1]) (outs := [(0, [1, 3])]) (loop := false) (by kernel_rfl) (cut_ok (E := (measure_Check.E measure_name.F measure_Check.L0 measure_Check.L1 measure_Check.L2)) (sh := measure_Check.s1) (es := measure_Check.x1) rfl (fun L x => measure_Check.eq1 measure_name.F measure_Check.L0 measure_Check.L1 measure_Check.L2 L x))
    | 2, _ => exact atom_at (id := 2) (live := [1, 3]) (outs := [(0, [3])]) (loop := false) (by kernel_rfl) (cut_ok (E := (measure_Check.E measure_name.F measure_Check.L0 measure_Check.L1 measure_Check.L2)) (sh := measure_Check.s2) (es := measure_Check.x2) rfl (fun L x => measure_Check.eq2 measure_name.F measure_Check.L0 measure_Check.L1 measure_Check.L2 L x))
    | n + 3, h => exact absurd h (by omega)

/-! strconv_Itoa -/
noncomputable def strconv_Itoa.F (x : ((Int × Unit) × (Unit))) : Option ((ByteArray × Unit) × (Unit)) := bif decide (-9223372036854775808 ≤ x.1.1 ∧ x.1.1 ≤ 9223372036854775807) then some ((⟨(Go.Lib.itoa x.1.1).toArray⟩, ()), ()) else none
theorem strconv_Itoa.F_eq (n : Int) : strconv_Itoa.F ((n, ()), ()) = bif decide (-9223372036854775808 ≤ n ∧ n ≤ 9223372036854775807) then some ((⟨(Go.Lib.itoa n).toArray⟩, ()), ()) else none := rfl
theorem strconv_Itoa.ok {tabs : List (Nat × Go.Obj)} (ht : TabsOk tabs) : FOK Go.Proofs.Tryd.prog tabs 33 (FE.of [true] false strconv_Itoa.sh strconv_Itoa.osh strconv_Itoa.F) := by
  refine fok_shelf Go.Proofs.Tryd.func33 (c := strconv_Itoa.c) (by kernel_rfl) (by kernel_rfl) rfl rfl fun x y h => ?_
  unfold strconv_Itoa.F at h
  by_cases c : -9223372036854775808 ≤ x.1.1 ∧ x.1.1 ≤ 9223372036854775807
  · rw [decide_eq_true c] at h
    cases h
    refine ⟨_, _, rfl, rfl, fun w hw => (Go.Proofs.Tryd.strconv_Itoa x.1.1 c.1 c.2 w (Go.VI.tabIs_of (by kernel_rfl) (by unfold TabsOk at ht; first | exact ht.1 | exact ht.2.1 | exact ht.2.2.1) hw)).mono fun e w' h => ?_⟩
    obtain ⟨h1, k, os, h2⟩ := h
    subst h2
    exact ⟨h1, rfl, rfl, rfl, by simp [Go.Sort.grow, Go.World.drewN], fun b hb => by simp only [Go.Sort.grow]; exact Array.getElem?_append_left hb⟩
  · rw [decide_eq_false c] at h
    cases h


/-! measure_Format -/
def measure_Format.f (g_measure_Check : (((Int × Int × Int × Unit) × Unit) × (Unit)) → Option ((Int × Unit) × (Unit))) (g_measure_name : ((Int × Unit) × (Unit)) → Option ((ByteArray × Unit) × (Unit))) (g_strconv_Itoa : ((Int × Unit) × (Unit)) → Option ((ByteArray × Unit) × (Unit))) (m_Kind : Int) (m_Band : Int) (m_Gap : Int) : Option ((ByteArray × Unit) × (Unit)) :=
  (Option.bind (g_measure_Check (((m_Kind, (m_Band, (m_Gap, ()))), ()), ())) (fun y0 =>
  (bif (y0.1.1 != (0:Int)) then
   (some (((ByteArray.mk #[]), ()), ()))
  else
   (bif (m_Kind == (4:Int)) then
    (Option.bind (g_measure_name ((m_Kind, ()), ())) (fun y3 =>
    (bif (decide (((ByteArray.size y3.1.1) + (ByteArray.size (ByteArray.mk #[(32:UInt8)]))) ≤ (9223372036854775807:Nat))) then
     (Option.bind (g_strconv_Itoa ((m_Band, ()), ())) (fun y5 =>
     (bif (decide (((ByteArray.size (y3.1.1 ++ (ByteArray.mk #[(32:UInt8)]))) + (ByteArray.size y5.1.1)) ≤ (9223372036854775807:Nat))) then
      (some ((((y3.1.1 ++ (ByteArray.mk #[(32:UInt8)])) ++ y5.1.1), ()), ()))
     else
      none)))
    else
     none)))
   else
    (bif (m_Kind == (5:Int)) then
     (Option.bind (g_measure_name ((m_Kind, ()), ())) (fun y4 =>
     (bif (decide (((ByteArray.size y4.1.1) + (ByteArray.size (ByteArray.mk #[(32:UInt8)]))) ≤ (9223372036854775807:Nat))) then
      (Option.bind (g_strconv_Itoa ((m_Gap, ()), ())) (fun y6 =>
      (bif (decide (((ByteArray.size (y4.1.1 ++ (ByteArray.mk #[(32:UInt8)]))) + (ByteArray.size y6.1.1)) ≤ (9223372036854775807:Nat))) then
       (some ((((y4.1.1 ++ (ByteArray.mk #[(32:UInt8)])) ++ y6.1.1), ()), ()))
      else
       none)))
     else
      none)))
    else
     (Option.bind (g_measure_name ((m_Kind, ()), ())) (fun y4 =>
     (some ((y4.1.1, ()), ())))))))))
theorem measure_Format.eq (g_measure_Check : measure_Check.sh.X → Option measure_Check.osh.X) (g_measure_name : measure_name.sh.X → Option measure_name.osh.X) (g_strconv_Itoa : strconv_Itoa.sh.X → Option strconv_Itoa.osh.X) (x : (((Int × Int × Int × Unit) × Unit) × (Unit))) : (bodyO (measure_Format.E g_measure_Check g_measure_name g_strconv_Itoa) (mk measure_Format.hs measure_Format.c []) Go.Proofs.Tryd.f17.results.toList measure_Format.sh measure_Format.osh x).run _ some = measure_Format.f g_measure_Check g_measure_name g_strconv_Itoa x.1.1.1 x.1.1.2.1 x.1.1.2.2.1 := by
  show _ = (_ : Option _)
  kernel_rfl
noncomputable def measure_Format (m_Kind : Int) (m_Band : Int) (m_Gap : Int) : Option ((ByteArray × Unit) × (Unit)) := measure_Format.f measure_Check.F measure_name.F strconv_Itoa.F m_Kind m_Band m_Gap
noncomputable def measure_Format.F (x : (((Int × Int × Int × Unit) × Unit) × (Unit))) : Option ((ByteArray × Unit) × (Unit)) := measure_Format x.1.1.1 x.1.1.2.1 x.1.1.2.2.1
theorem measure_Format.F_eq (m_Kind : Int) (m_Band : Int) (m_Gap : Int) : measure_Format.F (((m_Kind, m_Band, m_Gap, ()), ()), ()) = measure_Format.f measure_Check.F measure_name.F strconv_Itoa.F m_Kind m_Band m_Gap := rfl
theorem measure_Format.ok {tabs : List (Nat × Go.Obj)} (ht : TabsOk tabs) : FOK Go.Proofs.Tryd.prog tabs 17 (FE.of [true] false measure_Format.sh measure_Format.osh measure_Format.F) := by
  refine fn_keeps (E := (measure_Format.E measure_Check.F measure_name.F strconv_Itoa.F)) (c := measure_Format.c) (fn := Go.Proofs.Tryd.f17) (hs := measure_Format.hs) (by kernel_rfl) Go.Proofs.Tryd.func17 ⟨by kernel_rfl, by kernel_rfl, tb, by kernel_rfl, by kernel_rfl, by kernel_rfl, by kernel_rfl, by kernel_rfl⟩ ⟨fun g ks fe h => ?_, gt_ok ht⟩ ?_ (fun x => measure_Format.eq measure_Check.F measure_name.F strconv_Itoa.F x)
  · rcases c_cons h with ⟨rfl, rfl⟩ | h
    · exact measure_Check.ok ht
    rcases c_cons h with ⟨rfl, rfl⟩ | h
    · exact measure_name.ok ht
    rcases c_cons h with ⟨rfl, rfl⟩ | h
    · exact strconv_Itoa.ok ht
    cases h
  · exact known_at 0 (by kernel_rfl) fun i hi => absurd hi (Nat.not_lt_zero i)

/-! measure_Parse -/
def measure_Parse.f0 (g_measure_name : ((Int × Unit) × (Unit)) → Option ((ByteArray × Unit) × (Unit))) (g_measure_Format : (((Int × Int × Int × Unit) × Unit) × (Unit)) → Option ((ByteArray × Unit) × (Unit))) (L : ((ByteArray × Unit × ByteArray × Int × Int × Unit) × ((Int × Int × Int × Unit) × Unit)) → Option (((Unit × Unit) × ((Int × Int × Int × Unit) × Unit)) ⊕ ((Unit × Int × Unit) × ((Int × Int × Int × Unit) × Unit)) ⊕ Empty)) (s_0 : ByteArray) (word_4 : ByteArray) (n_7 : Int) (kind_9 : Int) (o0_0 : Int) (o0_1 : Int) (o0_2 : Int) : Option (((Unit × Unit) × ((Int × Int × Int × Unit) × Unit)) ⊕ ((Unit × Int × Unit) × ((Int × Int × Int × Unit) × Unit)) ⊕ Empty) :=
  (bif (decide (kind_9 ≤ (5:Int))) then
   (Option.bind (g_measure_name ((kind_9, ()), ())) (fun y1 =>
   (bif (!((ByteArray.toList y1.1.1) == (ByteArray.toList word_4))) then
    (Option.bind (L ((s_0, ((), (word_4, (n_7, ((Go.IntKind.wrap Go.IntKind.i64 (kind_9 + (1:Int))), ()))))), ((o0_0, (o0_1, (o0_2, ()))), ()))) (fun y3 =>
    (some y3)))
   else
    (bif (kind_9 == (4:Int)) then
     (Option.bind (g_measure_Format (((kind_9, (n_7, ((0:Int), ()))), ()), ())) (fun y4 =>
     (bif ((ByteArray.toList y4.1.1) == (ByteArray.toList s_0)) then
      (some (Sum.inr (Sum.inl (((), ((0:Int), ())), ((kind_9, (n_7, ((0:Int), ()))), ())))))
     else
      (Option.bind (L ((s_0, ((), (word_4, (n_7, ((Go.IntKind.wrap Go.IntKind.i64 (kind_9 + (1:Int))), ()))))), ((o0_0, (o0_1, (o0_2, ()))), ()))) (fun y6 =>
      (some y6))))))
    else
     (bif (kind_9 == (5:Int)) then
      (Option.bind (g_measure_Format (((kind_9, ((0:Int), (n_7, ()))), ()), ())) (fun y5 =>
      (bif ((ByteArray.toList y5.1.1) == (ByteArray.toList s_0)) then
       (some (Sum.inr (Sum.inl (((), ((0:Int), ())), ((kind_9, ((0:Int), (n_7, ()))), ())))))
      else
       (Option.bind (L ((s_0, ((), (word_4, (n_7, ((Go.IntKind.wrap Go.IntKind.i64 (kind_9 + (1:Int))), ()))))), ((o0_0, (o0_1, (o0_2, ()))), ()))) (fun y7 =>
       (some y7))))))
     else
      (Option.bind (g_measure_Format (((kind_9, ((0:Int), ((0:Int), ()))), ()), ())) (fun y5 =>
      (bif ((ByteArray.toList y5.1.1) == (ByteArray.toList s_0)) then
       (some (Sum.inr (Sum.inl (((), ((0:Int), ())), ((kind_9, ((0:Int), ((0:Int), ()))), ())))))
      else
       (Option.bind (L ((s_0, ((), (word_4, (n_7, ((Go.IntKind.wrap Go.IntKind.i64 (kind_9 + (1:Int))), ()))))), ((o0_0, (o0_1, (o0_2, ()))), ()))) (fun y7 =>
       (some y7)))))))))))
  else
   (some (Sum.inl (((), ()), ((o0_0, (o0_1, (o0_2, ()))), ())))))
theorem measure_Parse.eq0 (g_strings_Cut : strings_Cut.sh.X → Option strings_Cut.osh.X) (g_strconv_Atoi : strconv_Atoi.sh.X → Option strconv_Atoi.osh.X) (g_measure_name : measure_name.sh.X → Option measure_name.osh.X) (g_measure_Format : measure_Format.sh.X → Option measure_Format.osh.X) (l0 : measure_Parse.s0.X → Option (sumX measure_Parse.x0)) (L : ((ByteArray × Unit × ByteArray × Int × Int × Unit) × ((Int × Int × Int × Unit) × Unit)) → Option (((Unit × Unit) × ((Int × Int × Int × Unit) × Unit)) ⊕ ((Unit × Int × Unit) × ((Int × Int × Int × Unit) × Unit)) ⊕ Empty)) (x : ((ByteArray × Unit × ByteArray × Int × Int × Unit) × ((Int × Int × Int × Unit) × Unit))) : (roundK (measure_Parse.E g_strings_Cut g_strconv_Atoi g_measure_name g_measure_Format l0) measure_Parse.s0 [0, 2, 4, 7, 9] [(2, [2]), (1, [2, 3])] true (((mk measure_Parse.hs measure_Parse.c []).atoms.getD 0 .bad).body) measure_Parse.x0 L x).run _ some = measure_Parse.f0 g_measure_name g_measure_Format L x.1.1 x.1.2.2.1 x.1.2.2.2.1 x.1.2.2.2.2.1 x.2.1.1 x.2.1.2.1 x.2.1.2.2.1 := by
  show _ = (_ : Option _)
  kernel_rfl
noncomputable def measure_Parse.L0 : ((ByteArray × Unit × ByteArray × Int × Int × Unit) × ((Int × Int × Int × Unit) × Unit)) → Option (((Unit × Unit) × ((Int × Int × Int × Unit) × Unit)) ⊕ ((Unit × Int × Unit) × ((Int × Int × Int × Unit) × Unit)) ⊕ Empty) := loop fun L x => measure_Parse.f0 measure_name.F measure_Format.F L x.1.1 x.1.2.2.1 x.1.2.2.2.1 x.1.2.2.2.2.1 x.2.1.1 x.2.1.2.1 x.2.1.2.2.1
def measure_Parse.f (g_strings_Cut : ((ByteArray × ByteArray × Unit) × (Unit)) → Option ((ByteArray × ByteArray × Bool × Unit) × (Unit))) (g_strconv_Atoi : ((ByteArray × Unit) × (Unit)) → Option ((Int × Bool × Unit) × (Unit))) (l0 : ((ByteArray × Unit × ByteArray × Int × Int × Unit) × ((Int × Int × Int × Unit) × Unit)) → Option (((Unit × Unit) × ((Int × Int × Int × Unit) × Unit)) ⊕ ((Unit × Int × Unit) × ((Int × Int × Int × Unit) × Unit)) ⊕ Empty)) (s : ByteArray) : Option (((Int × Int × Int × Unit) × Int × Unit) × (Unit)) :=
  (Option.bind (g_strings_Cut ((s, ((ByteArray.mk #[(32:UInt8)]), ())), ())) (fun y0 =>
  (Option.bind (g_strconv_Atoi ((y0.1.2.1, ()), ())) (fun y1 =>
  (Option.bind (l0 ((s, ((), (y0.1.1, (y1.1.1, ((1:Int), ()))))), (((0:Int), ((0:Int), ((0:Int), ()))), ()))) (fun y2 =>
  (Sum.elim (fun a3 =>
   (some ((((0:Int), ((0:Int), ((0:Int), ()))), ((3:Int), ())), ()))) (fun b3 =>
   (Sum.elim (fun a4 =>
    (some (((a4.2.1.1, (a4.2.1.2.1, (a4.2.1.2.2.1, ()))), (a4.1.2.1, ())), ()))) (fun b4 =>
    (Empty.elim b4)) b3)) y2)))))))
theorem measure_Parse.eq (g_strings_Cut : strings_Cut.sh.X → Option strings_Cut.osh.X) (g_strconv_Atoi : strconv_Atoi.sh.X → Option strconv_Atoi.osh.X) (g_measure_name : measure_name.sh.X → Option measure_name.osh.X) (g_measure_Format : measure_Format.sh.X → Option measure_Format.osh.X) (l0 : measure_Parse.s0.X → Option (sumX measure_Parse.x0)) (x : ((ByteArray × Unit) × (Unit))) : (bodyO (measure_Parse.E g_strings_Cut g_strconv_Atoi g_measure_name g_measure_Format l0) (mk measure_Parse.hs measure_Parse.c []) Go.Proofs.Tryd.f16.results.toList measure_Parse.sh measure_Parse.osh x).run _ some = measure_Parse.f g_strings_Cut g_strconv_Atoi l0 x.1.1 := by
  show _ = (_ : Option _)
  kernel_rfl
noncomputable def measure_Parse (s : ByteArray) : Option (((Int × Int × Int × Unit) × Int × Unit) × (Unit)) := measure_Parse.f strings_Cut.F strconv_Atoi.F measure_Parse.L0 s
noncomputable def measure_Parse.F (x : ((ByteArray × Unit) × (Unit))) : Option (((Int × Int × Int × Unit) × Int × Unit) × (Unit)) := measure_Parse x.1.1
theorem measure_Parse.L0_eq (s_0 : ByteArray) (word_4 : ByteArray) (n_7 : Int) (kind_9 : Int) (o0_0 : Int) (o0_1 : Int) (o0_2 : Int) : measure_Parse.L0 ((s_0, (), word_4, n_7, kind_9, ()), ((o0_0, o0_1, o0_2, ()), ())) = measure_Parse.f0 measure_name.F measure_Format.F measure_Parse.L0 s_0 word_4 n_7 kind_9 o0_0 o0_1 o0_2 :=
  loop_eq (E := (measure_Parse.E strings_Cut.F strconv_Atoi.F measure_name.F measure_Format.F measure_Parse.L0)) (sh := measure_Parse.s0) (es := measure_Parse.x0) (lp := true) (H := fun L x => measure_Parse.eq0 strings_Cut.F strconv_Atoi.F measure_name.F measure_Format.F measure_Parse.L0 L x) ((s_0, (), word_4, n_7, kind_9, ()), ((o0_0, o0_1, o0_2, ()), ()))
theorem measure_Parse.F_eq (s : ByteArray) : measure_Parse.F ((s, ()), ()) = measure_Parse.f strings_Cut.F strconv_Atoi.F measure_Parse.L0 s := rfl
theorem measure_Parse.ok {tabs : List (Nat × Go.Obj)} (ht : TabsOk tabs) : FOK Go.Proofs.Tryd.prog tabs 16 (FE.of [true] false measure_Parse.sh measure_Parse.osh measure_Parse.F) := by
  refine fn_keeps (E := (measure_Parse.E strings_Cut.F strconv_Atoi.F measure_name.F measure_Format.F measure_Parse.L0)) (c := measure_Parse.c) (fn := Go.Proofs.Tryd.f16) (hs := measure_Parse.hs) (by kernel_rfl) Go.Proofs.Tryd.func16 ⟨by kernel_rfl, by kernel_rfl, tb, by kernel_rfl, by kernel_rfl, by kernel_rfl, by kernel_rfl, by kernel_rfl⟩ ⟨fun g ks fe h => ?_, gt_ok ht⟩ ?_ (fun x => measure_Parse.eq strings_Cut.F strconv_Atoi.F measure_name.F measure_Format.F measure_Parse.L0 x)
  · rcases c_cons h with ⟨rfl, rfl⟩ | h
    · exact strings_Cut.ok ht
    rcases c_cons h with ⟨rfl, rfl⟩ | h
    · exact strconv_Atoi.ok ht
    rcases c_cons h with ⟨rfl, rfl⟩ | h
    · exact measure_name.ok ht
    rcases c_cons h with ⟨rfl, rfl⟩ | h
    · exact measure_Format.ok ht
    cases h
  · refine known_at 1 (by kernel_rfl) fun i hi => ?_
    match i, hi with
    | 0, _ => exact atom_at (id := 0) (live := [0, 2, 4, 7, 9]) (outs := [(2, [2]), (1, [2, 3])]) (loop := true) (by kernel_rfl) (loop_ok (E := (measure_Parse.E strings_Cut.F strconv_Atoi.F measure_name.F measure_Format.F measure_Parse.L0)) (sh := measure_Parse.s0) (es := measure_Parse.x0) rfl (fun L x => measure_Parse.eq0 strings_Cut.F strconv_Atoi.F measure_name.F measure_Format.F measure_Parse.L0 L x))
    | n + 1, h => exact absurd h (by omega)

/-! measure_distances -/
def measure_distances.ents : List (Int × Nat × List (Nat × Nat)) := [(1, 39, []), (2, 42, []), (3, 43, []), (4, 44, [(0, 0)]), (5, 46, [(0, 0)])]
noncomputable def measure_distances.F : measure_distances.sh.X → Option measure_distances.osh.X := mapF measure_distances.ents
theorem measure_distances.F_eq (k b g : Int) : measure_distances.F (((k, b, g, ()), ()), ()) = some (((), ()), ((k, b, g, ()), ())) := rfl
section
open Go.RowKit
theorem measure_distances.walk (k b g : Int) (w : Go.World) : Go.Calls Go.Proofs.Tryd.prog 25 #[.agg #[.int .i64 k, .int .i64 b, .int .i64 g]] w fun e w' => e = .returned (.map (some (w.heap.size + 1))) ∧
    w' = mapW w (.cells #[.int .i64 k, .int .i64 b, .int .i64 g] 26) #[{ key := .int .i64 1, val := .func (.func 39) #[] #[], born := 0 }, { key := .int .i64 2, val := .func (.func 42) #[] #[], born := 1 }, { key := .int .i64 3, val := .func (.func 43) #[] #[], born := 2 }, { key := .int .i64 4, val := .func (.func 44) #[] #[.pointer (some ⟨w.heap.size, 0, none⟩)], born := 3 }, { key := .int .i64 5, val := .func (.func 46) #[] #[.pointer (some ⟨w.heap.size, 0, none⟩)], born := 4 }] 5 := by
  have hmf : ∀ (fn : Go.Fn) (first cap : Array Go.Value) (w : Go.World), (Go.Instr.makeFunc fn first cap).run Go.Proofs.Tryd.prog w = .ok (.func fn first cap) w := fun _ _ _ _ => rfl
  have hmm := @run_makeMap_mapW Go.Proofs.Tryd.prog 57 w (.cells #[.int .i64 k, .int .i64 b, .int .i64 g] 26)
  have hi0 := @run_insert_mapW Go.Proofs.Tryd.prog 57 3 56 w (.cells #[.int .i64 k, .int .i64 b, .int .i64 g] 26) #[] 0 1 (.func (.func 39) #[] #[]) Go.Proofs.Tryd.underlying57 Go.Proofs.Tryd.underlying3 rfl
  have hi1 := @run_insert_mapW Go.Proofs.Tryd.prog 57 3 56 w (.cells #[.int .i64 k, .int .i64 b, .int .i64 g] 26) #[{ key := .int .i64 1, val := .func (.func 39) #[] #[], born := 0 }] 1 2 (.func (.func 42) #[] #[]) Go.Proofs.Tryd.underlying57 Go.Proofs.Tryd.underlying3 rfl
  have hi2 := @run_insert_mapW Go.Proofs.Tryd.prog 57 3 56 w (.cells #[.int .i64 k, .int .i64 b, .int .i64 g] 26) #[{ key := .int .i64 1, val := .func (.func 39) #[] #[], born := 0 }, { key := .int .i64 2, val := .func (.func 42) #[] #[], born := 1 }] 2 3 (.func (.func 43) #[] #[]) Go.Proofs.Tryd.underlying57 Go.Proofs.Tryd.underlying3 rfl
  have hi3 := @run_insert_mapW Go.Proofs.Tryd.prog 57 3 56 w (.cells #[.int .i64 k, .int .i64 b, .int .i64 g] 26) #[{ key := .int .i64 1, val := .func (.func 39) #[] #[], born := 0 }, { key := .int .i64 2, val := .func (.func 42) #[] #[], born := 1 }, { key := .int .i64 3, val := .func (.func 43) #[] #[], born := 2 }] 3 4 (.func (.func 44) #[] #[.pointer (some ⟨w.heap.size, 0, none⟩)]) Go.Proofs.Tryd.underlying57 Go.Proofs.Tryd.underlying3 rfl
  have hi4 := @run_insert_mapW Go.Proofs.Tryd.prog 57 3 56 w (.cells #[.int .i64 k, .int .i64 b, .int .i64 g] 26) #[{ key := .int .i64 1, val := .func (.func 39) #[] #[], born := 0 }, { key := .int .i64 2, val := .func (.func 42) #[] #[], born := 1 }, { key := .int .i64 3, val := .func (.func 43) #[] #[], born := 2 }, { key := .int .i64 4, val := .func (.func 44) #[] #[.pointer (some ⟨w.heap.size, 0, none⟩)], born := 3 }] 4 5 (.func (.func 46) #[] #[.pointer (some ⟨w.heap.size, 0, none⟩)]) Go.Proofs.Tryd.underlying57 Go.Proofs.Tryd.underlying3 rfl
  simp only [List.push_toArray, List.cons_append, List.nil_append, Nat.zero_add, Nat.reduceAdd] at hi0 hi1 hi2 hi3 hi4
  go_enter Go.Proofs.Tryd.func25, Go.Proofs.Tryd.ntmps25
  go_wp2
  simp [Go.bodyPost, Go.results, Go.Proofs.Tryd.results25]
end
theorem measure_distances.ok {tabs : List (Nat × Go.Obj)} (ht : TabsOk tabs) : FOK Go.Proofs.Tryd.prog tabs 25 (FE.of [true] true measure_distances.sh measure_distances.osh measure_distances.F) :=
  fok_map Go.Proofs.Tryd.func25 (c := measure_distances.c) (by kernel_rfl) (by kernel_rfl) (fun B => #[{ key := .int .i64 1, val := .func (.func 39) #[] #[], born := 0 }, { key := .int .i64 2, val := .func (.func 42) #[] #[], born := 1 }, { key := .int .i64 3, val := .func (.func 43) #[] #[], born := 2 }, { key := .int .i64 4, val := .func (.func 44) #[] #[B], born := 3 }, { key := .int .i64 5, val := .func (.func 46) #[] #[B], born := 4 }]) (fun k b g w => measure_distances.walk k b g w) (fun α h B hB => ⟨⟨rfl, _, rfl, trivial⟩, ⟨rfl, _, rfl, trivial⟩, ⟨rfl, _, rfl, trivial⟩, ⟨rfl, _, rfl, ⟨hB, trivial⟩⟩, ⟨rfl, _, rfl, ⟨hB, trivial⟩⟩, trivial⟩)


/-! euclid_length -/
def euclid_length.f (x_ : (List Int)) : Option ((Bool × Unit) × (Unit)) :=
  (bif (decide ((((List.length x_) : Nat) : Int) ≥ (2:Int))) then
   (some (((decide ((((List.length x_) : Nat) : Int) ≤ (32:Int))), ()), ()))
  else
   (some ((Bool.false, ()), ())))
theorem euclid_length.eq (x : (((List Int) × Unit) × (Unit))) : (bodyO (euclid_length.E) (mk euclid_length.hs euclid_length.c []) Go.Proofs.Tryd.f72.results.toList euclid_length.sh euclid_length.osh x).run _ some = euclid_length.f x.1.1 := by
  show _ = (_ : Option _)
  kernel_rfl
noncomputable def euclid_length (x_ : (List Int)) : Option ((Bool × Unit) × (Unit)) := euclid_length.f x_
noncomputable def euclid_length.F (x : (((List Int) × Unit) × (Unit))) : Option ((Bool × Unit) × (Unit)) := euclid_length x.1.1
theorem euclid_length.F_eq (x_ : (List Int)) : euclid_length.F ((x_, ()), ()) = euclid_length.f x_ := rfl
theorem euclid_length.ok {tabs : List (Nat × Go.Obj)} (ht : TabsOk tabs) : FOK Go.Proofs.Tryd.prog tabs 72 (FE.of [true] false euclid_length.sh euclid_length.osh euclid_length.F) := by
  refine fn_keeps (E := (euclid_length.E)) (c := euclid_length.c) (fn := Go.Proofs.Tryd.f72) (hs := euclid_length.hs) (by kernel_rfl) Go.Proofs.Tryd.func72 ⟨by kernel_rfl, by kernel_rfl, tb, by kernel_rfl, by kernel_rfl, by kernel_rfl, by kernel_rfl, by kernel_rfl⟩ ⟨fun g ks fe h => ?_, gt_ok ht⟩ ?_ (fun x => euclid_length.eq x)
  · cases h
  · exact known_at 0 (by kernel_rfl) fun i hi => absurd hi (Nat.not_lt_zero i)

/-! euclid_samples -/
def euclid_samples.f0 (L : (((List Int) × Int × Int × Unit) × (Unit)) → Option (((Unit) × (Unit)) ⊕ ((Bool × Unit) × (Unit)) ⊕ Empty)) (v5 : (List Int)) (v6 : Int) (v7 : Int) : Option (((Unit) × (Unit)) ⊕ ((Bool × Unit) × (Unit)) ⊕ Empty) :=
  (bif (decide (v7 < v6)) then
   (bif (decide ((0:Int) ≤ v7)) then
    (bif (decide (v7 < (((List.length v5) : Nat) : Int))) then
     (bif (decide ((List.getD v5 (Int.toNat v7) (0:Int)) < (-(1000:Int)))) then
      (some (Sum.inr (Sum.inl ((Bool.false, ()), ()))))
     else
      (bif (decide ((List.getD v5 (Int.toNat v7) (0:Int)) > (1000:Int))) then
       (some (Sum.inr (Sum.inl ((Bool.false, ()), ()))))
      else
       (Option.bind (L ((v5, (v6, ((Go.IntKind.wrap Go.IntKind.i64 (v7 + (1:Int))), ()))), ())) (fun y5 =>
       (some y5)))))
    else
     none)
   else
    none)
  else
   (some (Sum.inl ((), ()))))
theorem euclid_samples.eq0 (l0 : euclid_samples.s0.X → Option (sumX euclid_samples.x0)) (L : (((List Int) × Int × Int × Unit) × (Unit)) → Option (((Unit) × (Unit)) ⊕ ((Bool × Unit) × (Unit)) ⊕ Empty)) (x : (((List Int) × Int × Int × Unit) × (Unit))) : (roundK (euclid_samples.E l0) euclid_samples.s0 [5, 6, 7] [(2, []), (1, [2])] true (((mk euclid_samples.hs euclid_samples.c []).atoms.getD 0 .bad).body) euclid_samples.x0 L x).run _ some = euclid_samples.f0 L x.1.1 x.1.2.1 x.1.2.2.1 := by
  show _ = (_ : Option _)
  kernel_rfl
noncomputable def euclid_samples.L0 : (((List Int) × Int × Int × Unit) × (Unit)) → Option (((Unit) × (Unit)) ⊕ ((Bool × Unit) × (Unit)) ⊕ Empty) := loop fun L x => euclid_samples.f0 L x.1.1 x.1.2.1 x.1.2.2.1
def euclid_samples.f (l0 : (((List Int) × Int × Int × Unit) × (Unit)) → Option (((Unit) × (Unit)) ⊕ ((Bool × Unit) × (Unit)) ⊕ Empty)) (x_ : (List Int)) : Option ((Bool × Unit) × (Unit)) :=
  (Option.bind (l0 ((x_, ((((List.length x_) : Nat) : Int), ((0:Int), ()))), ())) (fun y0 =>
  (Sum.elim (fun a1 =>
   (some ((Bool.true, ()), ()))) (fun b1 =>
   (Sum.elim (fun a2 =>
    (some ((a2.1.1, ()), ()))) (fun b2 =>
    (Empty.elim b2)) b1)) y0)))
theorem euclid_samples.eq (l0 : euclid_samples.s0.X → Option (sumX euclid_samples.x0)) (x : (((List Int) × Unit) × (Unit))) : (bodyO (euclid_samples.E l0) (mk euclid_samples.hs euclid_samples.c []) Go.Proofs.Tryd.f73.results.toList euclid_samples.sh euclid_samples.osh x).run _ some = euclid_samples.f l0 x.1.1 := by
  show _ = (_ : Option _)
  kernel_rfl
noncomputable def euclid_samples (x_ : (List Int)) : Option ((Bool × Unit) × (Unit)) := euclid_samples.f euclid_samples.L0 x_
noncomputable def euclid_samples.F (x : (((List Int) × Unit) × (Unit))) : Option ((Bool × Unit) × (Unit)) := euclid_samples x.1.1
theorem euclid_samples.L0_eq (v5 : (List Int)) (v6 : Int) (v7 : Int) : euclid_samples.L0 ((v5, v6, v7, ()), ()) = euclid_samples.f0 euclid_samples.L0 v5 v6 v7 :=
  loop_eq (E := (euclid_samples.E euclid_samples.L0)) (sh := euclid_samples.s0) (es := euclid_samples.x0) (lp := true) (H := fun L x => euclid_samples.eq0 euclid_samples.L0 L x) ((v5, v6, v7, ()), ())
theorem euclid_samples.F_eq (x_ : (List Int)) : euclid_samples.F ((x_, ()), ()) = euclid_samples.f euclid_samples.L0 x_ := rfl
theorem euclid_samples.ok {tabs : List (Nat × Go.Obj)} (ht : TabsOk tabs) : FOK Go.Proofs.Tryd.prog tabs 73 (FE.of [true] false euclid_samples.sh euclid_samples.osh euclid_samples.F) := by
  refine fn_keeps (E := (euclid_samples.E euclid_samples.L0)) (c := euclid_samples.c) (fn := Go.Proofs.Tryd.f73) (hs := euclid_samples.hs) (by kernel_rfl) Go.Proofs.Tryd.func73 ⟨by kernel_rfl, by kernel_rfl, tb, by kernel_rfl, by kernel_rfl, by kernel_rfl, by kernel_rfl, by kernel_rfl⟩ ⟨fun g ks fe h => ?_, gt_ok ht⟩ ?_ (fun x => euclid_samples.eq euclid_samples.L0 x)
  · cases h
  · refine known_at 1 (by kernel_rfl) fun i hi => ?_
    match i, hi with
    | 0, _ => exact atom_at (id := 0) (live := [5, 6, 7]) (outs := [(2, []), (1, [2])]) (loop := true) (by kernel_rfl) (loop_ok (E := (euclid_samples.E euclid_samples.L0)) (sh := euclid_samples.s0) (es := euclid_samples.x0) rfl (fun L x => euclid_samples.eq0 euclid_samples.L0 L x))
    | n + 1, h => exact absurd h (by omega)

/-! euclid_check -/
def euclid_check.f0 (g_euclid_length : (((List Int) × Unit) × (Unit)) → Option ((Bool × Unit) × (Unit))) (x_0 : (List Int)) (y_1 : (List Int)) : Option ((((List Int) × (List Int) × Bool × Unit) × (Unit)) ⊕ Empty) :=
  (Option.bind (g_euclid_length ((x_0, ()), ())) (fun y0 =>
  (bif (!y0.1.1) then
   (some (Sum.inl ((x_0, (y_1, (Bool.true, ()))), ())))
  else
   (Option.bind (g_euclid_length ((y_1, ()), ())) (fun y2 =>
   (some (Sum.inl ((x_0, (y_1, ((!y2.1.1), ()))), ()))))))))
theorem euclid_check.eq0 (g_euclid_length : euclid_length.sh.X → Option euclid_length.osh.X) (g_euclid_samples : euclid_samples.sh.X → Option euclid_samples.osh.X) (l0 : euclid_check.s0.X → Option (sumX euclid_check.x0)) (l1 : euclid_check.s1.X → Option (sumX euclid_check.x1)) (L : (((List Int) × (List Int) × Unit) × (Unit)) → Option ((((List Int) × (List Int) × Bool × Unit) × (Unit)) ⊕ Empty)) (x : (((List Int) × (List Int) × Unit) × (Unit))) : (roundK (euclid_check.E g_euclid_length g_euclid_samples l0 l1) euclid_check.s0 [0, 1] [(0, [0, 1, 5])] false (((mk euclid_check.hs euclid_check.c []).atoms.getD 0 .bad).body) euclid_check.x0 L x).run _ some = euclid_check.f0 g_euclid_length x.1.1 x.1.2.1 := by
  show _ = (_ : Option _)
  kernel_rfl
noncomputable def euclid_check.L0 : (((List Int) × (List Int) × Unit) × (Unit)) → Option ((((List Int) × (List Int) × Bool × Unit) × (Unit)) ⊕ Empty) := fun x => euclid_check.f0 euclid_length.F x.1.1 x.1.2.1
def euclid_check.f1 (g_euclid_samples : (((List Int) × Unit) × (Unit)) → Option ((Bool × Unit) × (Unit))) (x_0 : (List Int)) (y_1 : (List Int)) : Option ((((List Int) × (List Int) × Bool × Unit) × (Unit)) ⊕ Empty) :=
  (Option.bind (g_euclid_samples ((x_0, ()), ())) (fun y0 =>
  (bif (!y0.1.1) then
   (some (Sum.inl ((x_0, (y_1, (Bool.true, ()))), ())))
  else
   (Option.bind (g_euclid_samples ((y_1, ()), ())) (fun y2 =>
   (some (Sum.inl ((x_0, (y_1, ((!y2.1.1), ()))), ()))))))))
theorem euclid_check.eq1 (g_euclid_length : euclid_length.sh.X → Option euclid_length.osh.X) (g_euclid_samples : euclid_samples.sh.X → Option euclid_samples.osh.X) (l0 : euclid_check.s0.X → Option (sumX euclid_check.x0)) (l1 : euclid_check.s1.X → Option (sumX euclid_check.x1)) (L : (((List Int) × (List Int) × Unit) × (Unit)) → Option ((((List Int) × (List Int) × Bool × Unit) × (Unit)) ⊕ Empty)) (x : (((List Int) × (List Int) × Unit) × (Unit))) : (roundK (euclid_check.E g_euclid_length g_euclid_samples l0 l1) euclid_check.s1 [0, 1] [(0, [0, 1, 14])] false (((mk euclid_check.hs euclid_check.c []).atoms.getD 1 .bad).body) euclid_check.x1 L x).run _ some = euclid_check.f1 g_euclid_samples x.1.1 x.1.2.1 := by
  show _ = (_ : Option _)
  kernel_rfl
noncomputable def euclid_check.L1 : (((List Int) × (List Int) × Unit) × (Unit)) → Option ((((List Int) × (List Int) × Bool × Unit) × (Unit)) ⊕ Empty) := fun x => euclid_check.f1 euclid_samples.F x.1.1 x.1.2.1
def euclid_check.f (l0 : (((List Int) × (List Int) × Unit) × (Unit)) → Option ((((List Int) × (List Int) × Bool × Unit) × (Unit)) ⊕ Empty)) (l1 : (((List Int) × (List Int) × Unit) × (Unit)) → Option ((((List Int) × (List Int) × Bool × Unit) × (Unit)) ⊕ Empty)) (x_ : (List Int)) (y : (List Int)) : Option ((Int × Unit) × (Unit)) :=
  (Option.bind (l0 ((x_, (y, ())), ())) (fun y0 =>
  (Sum.elim (fun a1 =>
   (bif a1.1.2.2.1 then
    (some (((8:Int), ()), ()))
   else
    (Option.bind (l1 ((a1.1.1, (a1.1.2.1, ())), ())) (fun y3 =>
    (Sum.elim (fun a4 =>
     (bif a4.1.2.2.1 then
      (some (((12:Int), ()), ()))
     else
      (bif ((((List.length a4.1.1) : Nat) : Int) != (((List.length a4.1.2.1) : Nat) : Int)) then
       (some (((8:Int), ()), ()))
      else
       (some (((0:Int), ()), ()))))) (fun b4 =>
     (Empty.elim b4)) y3))))) (fun b1 =>
   (Empty.elim b1)) y0)))
theorem euclid_check.eq (g_euclid_length : euclid_length.sh.X → Option euclid_length.osh.X) (g_euclid_samples : euclid_samples.sh.X → Option euclid_samples.osh.X) (l0 : euclid_check.s0.X → Option (sumX euclid_check.x0)) (l1 : euclid_check.s1.X → Option (sumX euclid_check.x1)) (x : (((List Int) × (List Int) × Unit) × (Unit))) : (bodyO (euclid_check.E g_euclid_length g_euclid_samples l0 l1) (mk euclid_check.hs euclid_check.c []) Go.Proofs.Tryd.f57.results.toList euclid_check.sh euclid_check.osh x).run _ some = euclid_check.f l0 l1 x.1.1 x.1.2.1 := by
  show _ = (_ : Option _)
  kernel_rfl
noncomputable def euclid_check (x_ : (List Int)) (y : (List Int)) : Option ((Int × Unit) × (Unit)) := euclid_check.f euclid_check.L0 euclid_check.L1 x_ y
noncomputable def euclid_check.F (x : (((List Int) × (List Int) × Unit) × (Unit))) : Option ((Int × Unit) × (Unit)) := euclid_check x.1.1 x.1.2.1
theorem euclid_check.L0_eq (x_0 : (List Int)) (y_1 : (List Int)) : euclid_check.L0 ((x_0, y_1, ()), ()) = euclid_check.f0 euclid_length.F x_0 y_1 := rfl
theorem euclid_check.L1_eq (x_0 : (List Int)) (y_1 : (List Int)) : euclid_check.L1 ((x_0, y_1, ()), ()) = euclid_check.f1 euclid_samples.F x_0 y_1 := rfl
theorem euclid_check.F_eq (x_ : (List Int)) (y : (List Int)) : euclid_check.F ((x_, y, ()), ()) = euclid_check.f euclid_check.L0 euclid_check.L1 x_ y := rfl
theorem euclid_check.ok {tabs : List (Nat × Go.Obj)} (ht : TabsOk tabs) : FOK Go.Proofs.Tryd.prog tabs 57 (FE.of [true, true] false euclid_check.sh euclid_check.osh euclid_check.F) := by
  refine fn_keeps (E := (euclid_check.E euclid_length.F euclid_samples.F euclid_check.L0 euclid_check.L1)) (c := euclid_check.c) (fn := Go.Proofs.Tryd.f57) (hs := euclid_check.hs) (by kernel_rfl) Go.Proofs.Tryd.func57 ⟨by kernel_rfl, by kernel_rfl, tb, by kernel_rfl, by kernel_rfl, by kernel_rfl, by kernel_rfl, by kernel_rfl⟩ ⟨fun g ks fe h => ?_, gt_ok ht⟩ ?_ (fun x => euclid_check.eq euclid_length.F euclid_samples.F euclid_check.L0 euclid_check.L1 x)
  · rcases c_cons h with ⟨rfl, rfl⟩ | h
    · exact euclid_length.ok ht
    rcases c_cons h with ⟨rfl, rfl⟩ | h
    · exact euclid_samples.ok ht
    cases h
  · refine known_at 2 (by kernel_rfl) fun i hi => ?_
    match i, hi with
    | 0, _ => exact atom_at (id := 0) (live := [0, 1]) (outs := [(0, [0, 1, 5])]) (loop := false) (by kernel_rfl) (cut_ok (E := (euclid_check.E euclid_length.F euclid_samples.F euclid_check.L0 euclid_check.L1)) (sh := euclid_check.s0) (es := euclid_check.x0) rfl (fun L x => euclid_check.eq0 euclid_length.F euclid_samples.F euclid_check.L0 euclid_check.L1 L x))
    | 1, _ => exact atom_at (id := 1) (live := [0, 1]) (outs := [(0, [0, 1, 14])]) (loop := false) (by kernel_rfl) (cut_ok (E := (euclid_check.E euclid_length.F euclid_samples.F euclid_check.L0 euclid_check.L1)) (sh := euclid_check.s1) (es := euclid_check.x1) rfl (fun L x => euclid_check.eq1 euclid_length.F euclid_samples.F euclid_check.L0 euclid_check.L1 L x))
    | n + 2, h => exact absurd h (by omega)
end Go.Proofs.YtadniiehehiblaaDoor.V
