import Derived.Test.YtadniiehehiblaaDoorVg4
import Derived.Test.YtadniiehehiblaaDoorShelf
import Derived.WalkKit
set_option linter.unusedVariables false
set_option maxRecDepth 100000
namespace Go.Proofs.YtadniiehehiblaaDoor.V
open Go.VI
/-! stringslite_Index -/
def stringslite_Index.f1 (s_0 : ByteArray) (substr_1 : ByteArray) (n_5 : Int) : Option (((ByteArray × ByteArray × Int × Bool × Unit) × (Unit)) ⊕ Empty) :=
  (bif (n_5 == (0:Int)) then
   (some (Sum.inl ((s_0, (substr_1, (n_5, (Bool.true, ())))), ())))
  else
   (some (Sum.inl ((s_0, (substr_1, (n_5, (((ByteArray.toList substr_1) == (ByteArray.toList s_0)), ())))), ()))))
theorem stringslite_Index.eq1 (g_stringslite_IndexByte : stringslite_IndexByte.sh.X → Option stringslite_IndexByte.osh.X) (l0 : stringslite_Index.s0.X → Option (sumX stringslite_Index.x0)) (l1 : stringslite_Index.s1.X → Option (sumX stringslite_Index.x1)) (L : ((ByteArray × ByteArray × Int × Unit) × (Unit)) → Option (((ByteArray × ByteArray × Int × Bool × Unit) × (Unit)) ⊕ Empty)) (x : ((ByteArray × ByteArray × Int × Unit) × (Unit))) : (roundK (stringslite_Index.E g_stringslite_IndexByte l0 l1) stringslite_Index.s1 [0, 1, 5] [(0, [0, 1, 5, 16])] false (((mk stringslite_Index.hs stringslite_Index.c []).atoms.getD 1 .bad).body) stringslite_Index.x1 L x).run _ some = stringslite_Index.f1 x.1.1 x.1.2.1 x.1.2.2.1 := by
  show _ = (_ : Option _)
  kernel_rfl
noncomputable def stringslite_Index.L1 : ((ByteArray × ByteArray × Int × Unit) × (Unit)) → Option (((ByteArray × ByteArray × Int × Bool × Unit) × (Unit)) ⊕ Empty) := fun x => stringslite_Index.f1 x.1.1 x.1.2.1 x.1.2.2.1
def stringslite_Index.f0 (g_stringslite_IndexByte : ((ByteArray × Int × Unit) × (Unit)) → Option ((Int × Unit) × (Unit))) (l1 : ((ByteArray × ByteArray × Int × Unit) × (Unit)) → Option (((ByteArray × ByteArray × Int × Bool × Unit) × (Unit)) ⊕ Empty)) (s_0 : ByteArray) (substr_1 : ByteArray) (n_5 : Int) : Option (((Int × Unit) × (Unit)) ⊕ Empty) :=
  (Option.bind (l1 ((s_0, (substr_1, (n_5, ()))), ())) (fun y0 =>
  (Sum.elim (fun a1 =>
   (bif a1.1.2.2.2.1 then
    (some (Sum.inl (((0:Int), ()), ())))
   else
    (bif (a1.1.2.2.1 == (1:Int)) then
     (bif (decide ((0:Int) < (((ByteArray.size a1.1.2.1) : Nat) : Int))) then
      (Option.bind (g_stringslite_IndexByte ((a1.1.1, ((((UInt8.toNat (Array.getD (ByteArray.data a1.1.2.1) (Int.toNat (0:Int)) (0:UInt8))) : Nat) : Int), ())), ())) (fun y5 =>
      (some (Sum.inl ((y5.1.1, ()), ())))))
     else
      none)
    else
     (bif (decide (a1.1.2.2.1 ≥ (((ByteArray.size a1.1.1) : Nat) : Int))) then
      (some (Sum.inl (((-(1:Int)), ()), ())))
     else
      none)))) (fun b1 =>
   (Empty.elim b1)) y0)))
theorem stringslite_Index.eq0 (g_stringslite_IndexByte : stringslite_IndexByte.sh.X → Option stringslite_IndexByte.osh.X) (l0 : stringslite_Index.s0.X → Option (sumX stringslite_Index.x0)) (l1 : stringslite_Index.s1.X → Option (sumX stringslite_Index.x1)) (L : ((ByteArray × ByteArray × Int × Unit) × (Unit)) → Option (((Int × Unit) × (Unit)) ⊕ Empty)) (x : ((ByteArray × ByteArray × Int × Unit) × (Unit))) : (roundK (stringslite_Index.E g_stringslite_IndexByte l0 l1) stringslite_Index.s0 [0, 1, 5] [(1, [4])] false (((mk stringslite_Index.hs stringslite_Index.c []).atoms.getD 0 .bad).body) stringslite_Index.x0 L x).run _ some = stringslite_Index.f0 g_stringslite_IndexByte l1 x.1.1 x.1.2.1 x.1.2.2.1 := by
  show _ = (_ : Option _)
  kernel_rfl
noncomputable def stringslite_Index.L0 : ((ByteArray × ByteArray × Int × Unit) × (Unit)) → Option (((Int × Unit) × (Unit)) ⊕ Empty) := fun x => stringslite_Index.f0 stringslite_IndexByte.F stringslite_Index.L1 x.1.1 x.1.2.1 x.1.2.2.1
def stringslite_Index.f (l0 : ((ByteArray × ByteArray × Int × Unit) × (Unit)) → Option (((Int × Unit) × (Unit)) ⊕ Empty)) (s : ByteArray) (substr : ByteArray) : Option ((Int × Unit) × (Unit)) :=
  (Option.bind (l0 ((s, (substr, ((((ByteArray.size substr) : Nat) : Int), ()))), ())) (fun y0 =>
  (Sum.elim (fun a1 =>
   (some ((a1.1.1, ()), ()))) (fun b1 =>
   (Empty.elim b1)) y0)))
theorem stringslite_Index.eq (g_stringslite_IndexByte : stringslite_IndexByte.sh.X → Option stringslite_IndexByte.osh.X) (l0 : stringslite_Index.s0.X → Option (sumX stringslite_Index.x0)) (l1 : stringslite_Index.s1.X → Option (sumX stringslite_Index.x1)) (x : ((ByteArray × ByteArray × Unit) × (Unit))) : (bodyO (stringslite_Index.E g_stringslite_IndexByte l0 l1) (mk stringslite_Index.hs stringslite_Index.c []) Go.Proofs.Tryd.f64.results.toList stringslite_Index.sh stringslite_Index.osh x).run _ some = stringslite_Index.f l0 x.1.1 x.1.2.1 := by
  show _ = (_ : Option _)
  kernel_rfl
noncomputable def stringslite_Index (s : ByteArray) (substr : ByteArray) : Option ((Int × Unit) × (Unit)) := stringslite_Index.f stringslite_Index.L0 s substr
noncomputable def stringslite_Index.F (x : ((ByteArray × ByteArray × Unit) × (Unit))) : Option ((Int × Unit) × (Unit)) := stringslite_Index x.1.1 x.1.2.1
theorem stringslite_Index.L0_eq (s_0 : ByteArray) (substr_1 : ByteArray) (n_5 : Int) : stringslite_Index.L0 ((s_0, substr_1, n_5, ()), ()) = stringslite_Index.f0 stringslite_IndexByte.F stringslite_Index.L1 s_0 substr_1 n_5 := rfl
theorem stringslite_Index.L1_eq (s_0 : ByteArray) (substr_1 : ByteArray) (n_5 : Int) : stringslite_Index.L1 ((s_0, substr_1, n_5, ()), ()) = stringslite_Index.f1 s_0 substr_1 n_5 := rfl
theorem stringslite_Index.F_eq (s : ByteArray) (substr : ByteArray) : stringslite_Index.F ((s, substr, ()), ()) = stringslite_Index.f stringslite_Index.L0 s substr := rfl
theorem stringslite_Index.ok {tabs : List (Nat × Go.Obj)} (ht : TabsOk tabs) : FOK Go.Proofs.Tryd.prog tabs 64 (FE.of [true, true] false stringslite_Index.sh stringslite_Index.osh stringslite_Index.F) := by
  refine fn_keeps (E := (stringslite_Index.E stringslite_IndexByte.F stringslite_Index.L0 stringslite_Index.L1)) (c := stringslite_Index.c) (fn := Go.Proofs.Tryd.f64) (hs := stringslite_Index.hs) (by kernel_rfl) Go.Proofs.Tryd.func64 ⟨by kernel_rfl, by kernel_rfl, tb, by kernel_rfl, by kernel_rfl, by kernel_rfl, by kernel_rfl, by kernel_rfl⟩ ⟨fun g ks fe h => ?_, gt_ok ht⟩ ?_ (fun x => stringslite_Index.eq stringslite_IndexByte.F stringslite_Index.L0 stringslite_Index.L1 x)
  · rcases c_cons h with ⟨rfl, rfl⟩ | h
    · exact stringslite_IndexByte.ok ht
    cases h
  · refine known_at 2 (by kernel_rfl) fun i hi => ?_
    match i, hi with
    | 0, _ => exact atom_at (id := 0) (live := [0, 1, 5]) (outs := [(1, [4])]) (loop := false) (by kernel_rfl) (cut_ok (E := (stringslite_Index.E stringslite_IndexByte.F stringslite_Index.L0 stringslite_Index.L1)) (sh := stringslite_Index.s0) (es := stringslite_Index.x0) rfl (fun L x => stringslite_Index.eq0 stringslite_IndexByte.F stringslite_Index.L0 stringslite_Index.L1 L x))
    | 1, _ => exact atom_at (id := 1) (live := [0, 1, 5]) (outs := [(0, [0, 1, 5, 16])]) (loop := false) (by kernel_rfl) (cut_ok (E := (stringslite_Index.E stringslite_IndexByte.F stringslite_Index.L0 stringslite_Index.L1)) (sh := stringslite_Index.s1) (es := stringslite_Index.x1) rfl (fun L x => stringslite_Index.eq1 stringslite_IndexByte.F stringslite_Index.L0 stringslite_Index.L1 L x))
    | n + 2, h => exact absurd h (by omega)

/-! stringslite_Cut -/
def stringslite_Cut.f (g_stringslite_Index : ((ByteArray × ByteArray × Unit) × (Unit)) → Option ((Int × Unit) × (Unit))) (s : ByteArray) (sep : ByteArray) : Option ((ByteArray × ByteArray × Bool × Unit) × (Unit)) :=
  (Option.bind (g_stringslite_Index ((s, (sep, ())), ())) (fun y0 =>
  (bif (decide (y0.1.1 ≥ (0:Int))) then
   (bif (decide ((0:Int) ≤ y0.1.1)) then
    (bif (decide (y0.1.1 ≤ (((ByteArray.size s) : Nat) : Int))) then
     (bif (decide ((0:Int) ≤ (Go.IntKind.wrap Go.IntKind.i64 (y0.1.1 + (((ByteArray.size sep) : Nat) : Int))))) then
      (bif (decide ((Go.IntKind.wrap Go.IntKind.i64 (y0.1.1 + (((ByteArray.size sep) : Nat) : Int))) ≤ (((ByteArray.size s) : Nat) : Int))) then
       (some (((ByteArray.extract s (Int.toNat (0:Int)) (Int.toNat y0.1.1)), ((ByteArray.extract s (Int.toNat (Go.IntKind.wrap Go.IntKind.i64 (y0.1.1 + (((ByteArray.size sep) : Nat) : Int)))) (Int.toNat (((ByteArray.size s) : Nat) : Int))), (Bool.true, ()))), ()))
      else
       none)
     else
      none)
    else
     none)
   else
    none)
  else
   (some ((s, ((ByteArray.mk #[]), (Bool.false, ()))), ())))))
theorem stringslite_Cut.eq (g_stringslite_Index : stringslite_Index.sh.X → Option stringslite_Index.osh.X) (x : ((ByteArray × ByteArray × Unit) × (Unit))) : (bodyO (stringslite_Cut.E g_stringslite_Index) (mk stringslite_Cut.hs stringslite_Cut.c []) Go.Proofs.Tryd.f49.results.toList stringslite_Cut.sh stringslite_Cut.osh x).run _ some = stringslite_Cut.f g_stringslite_Index x.1.1 x.1.2.1 := by
  show _ = (_ : Option _)
  kernel_rfl
noncomputable def stringslite_Cut (s : ByteArray) (sep : ByteArray) : Option ((ByteArray × ByteArray × Bool × Unit) × (Unit)) := stringslite_Cut.f stringslite_Index.F s sep
noncomputable def stringslite_Cut.F (x : ((ByteArray × ByteArray × Unit) × (Unit))) : Option ((ByteArray × ByteArray × Bool × Unit) × (Unit)) := stringslite_Cut x.1.1 x.1.2.1
theorem stringslite_Cut.F_eq (s : ByteArray) (sep : ByteArray) : stringslite_Cut.F ((s, sep, ()), ()) = stringslite_Cut.f stringslite_Index.F s sep := rfl
theorem stringslite_Cut.ok {tabs : List (Nat × Go.Obj)} (ht : TabsOk tabs) : FOK Go.Proofs.Tryd.prog tabs 49 (FE.of [true, true] false stringslite_Cut.sh stringslite_Cut.osh stringslite_Cut.F) := by
  refine fn_keeps (E := (stringslite_Cut.E stringslite_Index.F)) (c := stringslite_Cut.c) (fn := Go.Proofs.Tryd.f49) (hs := stringslite_Cut.hs) (by kernel_rfl) Go.Proofs.Tryd.func49 ⟨by kernel_rfl, by kernel_rfl, tb, by kernel_rfl, by kernel_rfl, by kernel_rfl, by kernel_rfl, by kernel_rfl⟩ ⟨fun g ks fe h => ?_, gt_ok ht⟩ ?_ (fun x => stringslite_Cut.eq stringslite_Index.F x)
  · rcases c_cons h with ⟨rfl, rfl⟩ | h
    · exact stringslite_Index.ok ht
    cases h
  · exact known_at 0 (by kernel_rfl) fun i hi => absurd hi (Nat.not_lt_zero i)

/-! strings_Cut -/
def strings_Cut.f (g_stringslite_Cut : ((ByteArray × ByteArray × Unit) × (Unit)) → Option ((ByteArray × ByteArray × Bool × Unit) × (Unit))) (s : ByteArray) (sep : ByteArray) : Option ((ByteArray × ByteArray × Bool × Unit) × (Unit)) :=
  (Option.bind (g_stringslite_Cut ((s, (sep, ())), ())) (fun y0 =>
  (some ((y0.1.1, (y0.1.2.1, (y0.1.2.2.1, ()))), ()))))
theorem strings_Cut.eq (g_stringslite_Cut : stringslite_Cut.sh.X → Option stringslite_Cut.osh.X) (x : ((ByteArray × ByteArray × Unit) × (Unit))) : (bodyO (strings_Cut.E g_stringslite_Cut) (mk strings_Cut.hs strings_Cut.c []) Go.Proofs.Tryd.f30.results.toList strings_Cut.sh strings_Cut.osh x).run _ some = strings_Cut.f g_stringslite_Cut x.1.1 x.1.2.1 := by
  show _ = (_ : Option _)
  kernel_rfl
noncomputable def strings_Cut (s : ByteArray) (sep : ByteArray) : Option ((ByteArray × ByteArray × Bool × Unit) × (Unit)) := strings_Cut.f stringslite_Cut.F s sep
noncomputable def strings_Cut.F (x : ((ByteArray × ByteArray × Unit) × (Unit))) : Option ((ByteArray × ByteArray × Bool × Unit) × (Unit)) := strings_Cut x.1.1 x.1.2.1
theorem strings_Cut.F_eq (s : ByteArray) (sep : ByteArray) : strings_Cut.F ((s, sep, ()), ()) = strings_Cut.f stringslite_Cut.F s sep := rfl
theorem strings_Cut.ok {tabs : List (Nat × Go.Obj)} (ht : TabsOk tabs) : FOK Go.Proofs.Tryd.prog tabs 30 (FE.of [true, true] false strings_Cut.sh strings_Cut.osh strings_Cut.F) := by
  refine fn_keeps (E := (strings_Cut.E stringslite_Cut.F)) (c := strings_Cut.c) (fn := Go.Proofs.Tryd.f30) (hs := strings_Cut.hs) (by kernel_rfl) Go.Proofs.Tryd.func30 ⟨by kernel_rfl, by kernel_rfl, tb, by kernel_rfl, by kernel_rfl, by kernel_rfl, by kernel_rfl, by kernel_rfl⟩ ⟨fun g ks fe h => ?_, gt_ok ht⟩ ?_ (fun x => strings_Cut.eq stringslite_Cut.F x)
  · rcases c_cons h with ⟨rfl, rfl⟩ | h
    · exact stringslite_Cut.ok ht
    cases h
  · exact known_at 0 (by kernel_rfl) fun i hi => absurd hi (Nat.not_lt_zero i)

/-! strconv_Atoi -/
/-- What strconv.Atoi answers: a number, and whether there is an error. -/
def strconv_Atoi.end (l : List UInt8) : Int × Bool := match Go.Lib.atoiAll l with | .ok v => (v, false) | .«syntax» => (0, true) | .range => (Go.Lib.atoiSat l, true)
noncomputable def strconv_Atoi.F (x : ((ByteArray × Unit) × (Unit))) : Option ((Int × Bool × Unit) × (Unit)) := bif decide (x.1.1.size ≤ 281474976710656) then some (((strconv_Atoi.end x.1.1.data.toList).1, (strconv_Atoi.end x.1.1.data.toList).2, ()), ()) else none
theorem strconv_Atoi.F_eq (s : ByteArray) : strconv_Atoi.F ((s, ()), ()) = bif decide (s.size ≤ 281474976710656) then some (((strconv_Atoi.end s.data.toList).1, (strconv_Atoi.end s.data.toList).2, ()), ()) else none := rfl
theorem strconv_Atoi.ok {tabs : List (Nat × Go.Obj)} (ht : TabsOk tabs) : FOK Go.Proofs.Tryd.prog tabs 31 (FE.of [true] false strconv_Atoi.sh strconv_Atoi.osh strconv_Atoi.F) := by
  refine fok_shelf2 Go.Proofs.Tryd.func31 (c := strconv_Atoi.c) (by kernel_rfl) (by kernel_rfl) rfl rfl fun x y h => ?_
  unfold strconv_Atoi.F at h
  by_cases c : x.1.1.size ≤ 281474976710656
  · rw [decide_eq_true c] at h
    cases h
    refine ⟨_, rfl, fun w hw => ?_⟩
    have hD : ∀ (n : Int) (b : Bool) (v : Go.Value), v.oneCell' = true → (b = false → v = .nilIface) → (b = true → ∃ t x, v = .iface t x) → ∀ (w' : Go.World) (α : Nat → Go.Value) (ok : Nat → Prop) (h : Heap), F2 (DR w' α ok h) (dsEnc strconv_Atoi.osh.ds ((n, b, ()) : dsX strconv_Atoi.osh.ds)) [.int .i64 n, v] :=
      fun n b v h1 h2 h3 w' α ok h => ⟨by simp [DR, LR, Rep, DS.enc, LS.enc], ⟨v, rfl, h1, h2, h3⟩, trivial⟩
    unfold strconv_Atoi.end
    cases hE : Go.Lib.atoiAll x.1.1.data.toList with
    | ok v =>
      refine (Go.Proofs.Tryd.strconv_Atoi_ok x.1.1 (by omega) v hE w).mono fun e w' h => ?_
      obtain ⟨rfl, hb⟩ := h
      refine ⟨[.int .i64 v, .nilIface], rfl, hD v false .nilIface rfl (fun _ => rfl) (fun h => by cases h) w', ?_⟩
      rcases hb with rfl | ⟨t, rfl⟩
      · exact Go.RowKit.Below.refl _ _
      · exact Go.Lib.bytesWorld_below _ _ _
    | «syntax» =>
      obtain ⟨tp, p, hv⟩ := errVar_of (g := 1) (P := Go.Proofs.Tryd.prog) (name := "strconv.ErrSyntax") (by kernel_rfl) (by unfold TabsOk at ht; first | exact ht.1 | exact ht.2.1 | exact ht.2.2.1 | exact ht.2.2.2.1) hw
      refine (Go.Proofs.Tryd.strconv_Atoi_syntax_var x.1.1 c hE tp p w hv).mono fun e w' h => ?_
      obtain ⟨N, rfl, _, _, hb⟩ := h
      exact ⟨_, rfl, hD 0 true _ rfl (fun h => by cases h) (fun _ => ⟨_, _, rfl⟩) w', hb⟩
    | range =>
      obtain ⟨tp, p, hv⟩ := errVar_of (g := 2) (P := Go.Proofs.Tryd.prog) (name := "strconv.ErrRange") (by kernel_rfl) (by unfold TabsOk at ht; first | exact ht.1 | exact ht.2.1 | exact ht.2.2.1 | exact ht.2.2.2.1) hw
      refine (Go.Proofs.Tryd.strconv_Atoi_range_var x.1.1 c hE tp p w hv).mono fun e w' h => ?_
      obtain ⟨N, rfl, _, _, hb⟩ := h
      exact ⟨_, rfl, hD _ true _ rfl (fun h => by cases h) (fun _ => ⟨_, _, rfl⟩) w', hb⟩
  · rw [decide_eq_false c] at h
    cases h


/-! strconv_Itoa -/
noncomputable def strconv_Itoa.F (x : ((Int × Unit) × (Unit))) : Option ((ByteArray × Unit) × (Unit)) := bif decide (-9223372036854775808 ≤ x.1.1 ∧ x.1.1 ≤ 9223372036854775807) then some ((⟨(Go.Lib.itoa x.1.1).toArray⟩, ()), ()) else none
theorem strconv_Itoa.F_eq (n : Int) : strconv_Itoa.F ((n, ()), ()) = bif decide (-9223372036854775808 ≤ n ∧ n ≤ 9223372036854775807) then some ((⟨(Go.Lib.itoa n).toArray⟩, ()), ()) else none := rfl
theorem strconv_Itoa.ok {tabs : List (Nat × Go.Obj)} (ht : TabsOk tabs) : FOK Go.Proofs.Tryd.prog tabs 33 (FE.of [true] false strconv_Itoa.sh strconv_Itoa.osh strconv_Itoa.F) := by
  refine fok_shelf Go.Proofs.Tryd.func33 (c := strconv_Itoa.c) (by kernel_rfl) (by kernel_rfl) rfl rfl fun x y h => ?_
  unfold strconv_Itoa.F at h
  by_cases c : -9223372036854775808 ≤ x.1.1 ∧ x.1.1 ≤ 9223372036854775807
  · rw [decide_eq_true c] at h
    cases h
    refine ⟨_, _, rfl, rfl, fun w hw => (Go.Proofs.Tryd.strconv_Itoa x.1.1 c.1 c.2 w (Go.VI.tabIs_of (by kernel_rfl) (by unfold TabsOk at ht; first | exact ht.1 | exact ht.2.1 | exact ht.2.2.1) hw)).mono fun e w' h => ?_⟩
    obtain ⟨h1, k, os, h2⟩ := h
    subst h2
    exact ⟨h1, rfl, rfl, rfl, by simp [Go.Sort.grow, Go.World.drewN], fun b hb => by simp only [Go.Sort.grow]; exact Array.getElem?_append_left hb⟩
  · rw [decide_eq_false c] at h
    cases h


/-! measure_Format -/
def measure_Format.f (g_measure_Check : (((Int × Int × Int × Unit) × Unit) × (Unit)) → Option ((Int × Unit) × (Unit))) (g_measure_name : ((Int × Unit) × (Unit)) → Option ((ByteArray × Unit) × (Unit))) (g_strconv_Itoa : ((Int × Unit) × (Unit)) → Option ((ByteArray × Unit) × (Unit))) (m_Kind : Int) (m_Band : Int) (m_Gap : Int) : Option ((ByteArray × Unit) × (Unit)) :=
  (Option.bind (g_measure_Check (((m_Kind, (m_Band, (m_Gap, ()))), ()), ())) (fun y0 =>
  (bif (y0.1.1 != (0:Int)) then
   (some (((ByteArray.mk #[]), ()), ()))
  else
   (bif (m_Kind == (4:Int)) then
    (Option.bind (g_measure_name ((m_Kind, ()), ())) (fun y3 =>
    (bif (decide (((ByteArray.size y3.1.1) + (ByteArray.size (ByteArray.mk #[(32:UInt8)]))) ≤ (9223372036854775807:Nat))) then
     (Option.bind (g_strconv_Itoa ((m_Band, ()), ())) (fun y5 =>
     (bif (decide (((ByteArray.size (y3.1.1 ++ (ByteArray.mk #[(32:UInt8)]))) + (ByteArray.size y5.1.1)) ≤ (9223372036854775807:Nat))) then
      (some ((((y3.1.1 ++ (ByteArray.mk #[(32:UInt8)])) ++ y5.1.1), ()), ()))
     else
      none)))
    else
     none)))
   else
    (bif (m_Kind == (5:Int)) then
     (Option.bind (g_measure_name ((m_Kind, ()), ())) (fun y4 =>
     (bif (decide (((ByteArray.size y4.1.1) + (ByteArray.size (ByteArray.mk #[(32:UInt8)]))) ≤ (9223372036854775807:Nat))) then
      (Option.bind (g_strconv_Itoa ((m_Gap, ()), ())) (fun y6 =>
      (bif (decide (((ByteArray.size (y4.1.1 ++ (ByteArray.mk #[(32:UInt8)]))) + (ByteArray.size y6.1.1)) ≤ (9223372036854775807:Nat))) then
       (some ((((y4.1.1 ++ (ByteArray.mk #[(32:UInt8)])) ++ y6.1.1), ()), ()))
      else
       none)))
     else
      none)))
    else
     (Option.bind (g_measure_name ((m_Kind, ()), ())) (fun y4 =>
     (some ((y4.1.1, ()), ())))))))))
theorem measure_Format.eq (g_measure_Check : measure_Check.sh.X → Option measure_Check.osh.X) (g_measure_name : measure_name.sh.X → Option measure_name.osh.X) (g_strconv_Itoa : strconv_Itoa.sh.X → Option strconv_Itoa.osh.X) (x : (((Int × Int × Int × Unit) × Unit) × (Unit))) : (bodyO (measure_Format.E g_measure_Check g_measure_name g_strconv_Itoa) (mk measure_Format.hs measure_Format.c []) Go.Proofs.Tryd.f17.results.toList measure_Format.sh measure_Format.osh x).run _ some = measure_Format.f g_measure_Check g_measure_name g_strconv_Itoa x.1.1.1 x.1.1.2.1 x.1.1.2.2.1 := by
  show _ = (_ : Option _)
  kernel_rfl
noncomputable def measure_Format (m_Kind : Int) (m_Band : Int) (m_Gap : Int) : Option ((ByteArray × Unit) × (Unit)) := measure_Format.f measure_Check.F measure_name.F strconv_Itoa.F m_Kind m_Band m_Gap
noncomputable def measure_Format.F (x : (((Int × Int × Int × Unit) × Unit) × (Unit))) : Option ((ByteArray × Unit) × (Unit)) := measure_Format x.1.1.1 x.1.1.2.1 x.1.1.2.2.1
theorem measure_Format.F_eq (m_Kind : Int) (m_Band : Int) (m_Gap : Int) : measure_Format.F (((m_Kind, m_Band, m_Gap, ()), ()), ()) = measure_Format.f measure_Check.F measure_name.F strconv_Itoa.F m_Kind m_Band m_Gap := rfl
theorem measure_Format.ok {tabs : List (Nat × Go.Obj)} (ht : TabsOk tabs) : FOK Go.Proofs.Tryd.prog tabs 17 (FE.of [true] false measure_Format.sh measure_Format.osh measure_Format.F) := by
  refine fn_keeps (E := (measure_Format.E measure_Check.F measure_name.F strconv_Itoa.F)) (c := measure_Format.c) (fn := Go.Proofs.Tryd.f17) (hs := measure_Format.hs) (by kernel_rfl) Go.Proofs.Tryd.func17 ⟨by kernel_rfl, by kernel_rfl, tb, by kernel_rfl, by kernel_rfl, by kernel_rfl, by kernel_rfl, by kernel_rfl⟩ ⟨fun g ks fe h => ?_, gt_ok ht⟩ ?_ (fun x => measure_Format.eq measure_Check.F measure_name.F strconv_Itoa.F x)
  · rcases c_cons h with ⟨rfl, rfl⟩ | h
    · exact measure_Check.ok ht
    rcases c_cons h with ⟨rfl, rfl⟩ | h
    · exact measure_name.ok ht
    rcases c_cons h with ⟨rfl, rfl⟩ | h
    · exact strconv_Itoa.ok ht
    cases h
  · exact known_at 0 (by kernel_rfl) fun i hi => absurd hi (Nat.not_lt_zero i)

/-! measure_Parse -/
def measure_Parse.f0 (g_measure_name : ((Int × Unit) × (Unit)) → Option ((ByteArray × Unit) × (Unit))) (g_measure_Format : (((Int × Int × Int × Unit) × Unit) × (Unit)) → Option ((ByteArray × Unit) × (Unit))) (L : ((ByteArray × Unit × ByteArray × Int × Int × Unit) × ((Int × Int × Int × Unit) × Unit)) → Option (((Unit × Unit) × ((Int × Int × Int × Unit) × Unit)) ⊕ ((Unit × Int × Unit) × ((Int × Int × Int × Unit) × Unit)) ⊕ Empty)) (s_0 : ByteArray) (word_4 : ByteArray) (n_7 : Int) (kind_9 : Int) (o0_0 : Int) (o0_1 : Int) (o0_2 : Int) : Option (((Unit × Unit) × ((Int × Int × Int × Unit) × Unit)) ⊕ ((Unit × Int × Unit) × ((Int × Int × Int × Unit) × Unit)) ⊕ Empty) :=
  (bif (decide (kind_9 ≤ (5:Int))) then
   (Option.bind (g_measure_name ((kind_9, ()), ())) (fun y1 =>
   (bif (!((ByteArray.toList y1.1.1) == (ByteArray.toList word_4))) then
    (Option.bind (L ((s_0, ((), (word_4, (n_7, ((Go.IntKind.wrap Go.IntKind.i64 (kind_9 + (1:Int))), ()))))), ((o0_0, (o0_1, (o0_2, ()))), ()))) (fun y3 =>
    (some y3)))
   else
    (bif (kind_9 == (4:Int)) then
     (Option.bind (g_measure_Format (((kind_9, (n_7, ((0:Int), ()))), ()), ())) (fun y4 =>
     (bif ((ByteArray.toList y4.1.1) == (ByteArray.toList s_0)) then
      (some (Sum.inr (Sum.inl (((), ((0:Int), ())), ((kind_9, (n_7, ((0:Int), ()))), ())))))
     else
      (Option.bind (L ((s_0, ((), (word_4, (n_7, ((Go.IntKind.wrap Go.IntKind.i64 (kind_9 + (1:Int))), ()))))), ((o0_0, (o0_1, (o0_2, ()))), ()))) (fun y6 =>
      (some y6))))))
    else
     (bif (kind_9 == (5:Int)) then
      (Option.bind (g_measure_Format (((kind_9, ((0:Int), (n_7, ()))), ()), ())) (fun y5 =>
      (bif ((ByteArray.toList y5.1.1) == (ByteArray.toList s_0)) then
       (some (Sum.inr (Sum.inl (((), ((0:Int), ())), ((kind_9, ((0:Int), (n_7, ()))), ())))))
      else
       (Option.bind (L ((s_0, ((), (word_4, (n_7, ((Go.IntKind.wrap Go.IntKind.i64 (kind_9 + (1:Int))), ()))))), ((o0_0, (o0_1, (o0_2, ()))), ()))) (fun y7 =>
       (some y7))))))
     else
      (Option.bind (g_measure_Format (((kind_9, ((0:Int), ((0:Int), ()))), ()), ())) (fun y5 =>
      (bif ((ByteArray.toList y5.1.1) == (ByteArray.toList s_0)) then
       (some (Sum.inr (Sum.inl (((), ((0:Int), ())), ((kind_9, ((0:Int), ((0:Int), ()))), ())))))
      else
       (Option.bind (L ((s_0, ((), (word_4, (n_7, ((Go.IntKind.wrap Go.IntKind.i64 (kind_9 + (1:Int))), ()))))), ((o0_0, (o0_1, (o0_2, ()))), ()))) (fun y7 =>
       (some y7)))))))))))
  else
   (some (Sum.inl (((), ()), ((o0_0, (o0_1, (o0_2, ()))), ())))))
theorem measure_Parse.eq0 (g_strings_Cut : strings_Cut.sh.X → Option strings_Cut.osh.X) (g_strconv_Atoi : strconv_Atoi.sh.X → Option strconv_Atoi.osh.X) (g_measure_name : measure_name.sh.X → Option measure_name.osh.X) (g_measure_Format : measure_Format.sh.X → Option measure_Format.osh.X) (l0 : measure_Parse.s0.X → Option (sumX measure_Parse.x0)) (L : ((ByteArray × Unit × ByteArray × Int × Int × Unit) × ((Int × Int × Int × Unit) × Unit)) → Option (((Unit × Unit) × ((Int × Int × Int × Unit) × Unit)) ⊕ ((Unit × Int × Unit) × ((Int × Int × Int × Unit) × Unit)) ⊕ Empty)) (x : ((ByteArray × Unit × ByteArray × Int × Int × Unit) × ((Int × Int × Int × Unit) × Unit))) : (roundK (measure_Parse.E g_strings_Cut g_strconv_Atoi g_measure_name g_measure_Format l0) measure_Parse.s0 [0, 2, 4, 7, 9] [(2, [2]), (1, [2, 3])] true (((mk measure_Parse.hs measure_Parse.c []).atoms.getD 0 .bad).body) measure_Parse.x0 L x).run _ some = measure_Parse.f0 g_measure_name g_measure_Format L x.1.1 x.1.2.2.1 x.1.2.2.2.1 x.1.2.2.2.2.1 x.2.1.1 x.2.1.2.1 x.2.1.2.2.1 := by
  show _ = (_ : Option _)
  kernel_rfl
noncomputable def measure_Parse.L0 : ((ByteArray × Unit × ByteArray × Int × Int × Unit) × ((Int × Int × Int × Unit) × Unit)) → Option (((Unit × Unit) × ((Int × Int × Int × Unit) × Unit)) ⊕ ((Unit × Int × Unit) × ((Int × Int × Int × Unit) × Unit)) ⊕ Empty) := loop fun L x => measure_Parse.f0 measure_name.F measure_Format.F L x.1.1 x.1.2.2.1 x.1.2.2.2.1 x.1.2.2.2.2.1 x.2.1.1 x.2.1.2.1 x.2.1.2.2.1
def measure_Parse.f (g_strings_Cut : ((ByteArray × ByteArray × Unit) × (Unit)) → Option ((ByteArray × ByteArray × Bool × Unit) × (Unit))) (g_strconv_Atoi : ((ByteArray × Unit) × (Unit)) → Option ((Int × Bool × Unit) × (Unit))) (l0 : ((ByteArray × Unit × ByteArray × Int × Int × Unit) × ((Int × Int × Int × Unit) × Unit)) → Option (((Unit × Unit) × ((Int × Int × Int × Unit) × Unit)) ⊕ ((Unit × Int × Unit) × ((Int × Int × Int × Unit) × Unit)) ⊕ Empty)) (s : ByteArray) : Option (((Int × Int × Int × Unit) × Int × Unit) × (Unit)) :=
  (Option.bind (g_strings_Cut ((s, ((ByteArray.mk #[(32:UInt8)]), ())), ())) (fun y0 =>
  (Option.bind (g_strconv_Atoi ((y0.1.2.1, ()), ())) (fun y1 =>
  (Option.bind (l0 ((s, ((), (y0.1.1, (y1.1.1, ((1:Int), ()))))), (((0:Int), ((0:Int), ((0:Int), ()))), ()))) (fun y2 =>
  (Sum.elim (fun a3 =>
   (some ((((0:Int), ((0:Int), ((0:Int), ()))), ((3:Int), ())), ()))) (fun b3 =>
   (Sum.elim (fun a4 =>
    (some (((a4.2.1.1, (a4.2.1.2.1, (a4.2.1.2.2.1, ()))), (a4.1.2.1, ())), ()))) (fun b4 =>
    (Empty.elim b4)) b3)) y2)))))))
theorem measure_Parse.eq (g_strings_Cut : strings_Cut.sh.X → Option strings_Cut.osh.X) (g_strconv_Atoi : strconv_Atoi.sh.X → Option strconv_Atoi.osh.X) (g_measure_name : measure_name.sh.X → Option measure_name.osh.X) (g_measure_Format : measure_Format.sh.X → Option measure_Format.osh.X) (l0 : measure_Parse.s0.X → Option (sumX measure_Parse.x0)) (x : ((ByteArray × Unit) × (Unit))) : (bodyO (measure_Parse.E g_strings_Cut g_strconv_Atoi g_measure_name g_measure_Format l0) (mk measure_Parse.hs measure_Parse.c []) Go.Proofs.Tryd.f16.results.toList measure_Parse.sh measure_Parse.osh x).run _ some = measure_Parse.f g_strings_Cut g_strconv_Atoi l0 x.1.1 := by
  show _ = (_ : Option _)
  kernel_rfl
noncomputable def measure_Parse (s : ByteArray) : Option (((Int × Int × Int × Unit) × Int × Unit) × (Unit)) := measure_Parse.f strings_Cut.F strconv_Atoi.F measure_Parse.L0 s
noncomputable def measure_Parse.F (x : ((ByteArray × Unit) × (Unit))) : Option (((Int × Int × Int × Unit) × Int × Unit) × (Unit)) := measure_Parse x.1.1
theorem measure_Parse.L0_eq (s_0 : ByteArray) (word_4 : ByteArray) (n_7 : Int) (kind_9 : Int) (o0_0 : Int) (o0_1 : Int) (o0_2 : Int) : measure_Parse.L0 ((s_0, (), word_4, n_7, kind_9, ()), ((o0_0, o0_1, o0_2, ()), ())) = measure_Parse.f0 measure_name.F measure_Format.F measure_Parse.L0 s_0 word_4 n_7 kind_9 o0_0 o0_1 o0_2 :=
  loop_eq (E := (measure_Parse.E strings_Cut.F strconv_Atoi.F measure_name.F measure_Format.F measure_Parse.L0)) (sh := measure_Parse.s0) (es := measure_Parse.x0) (lp := true) (H := fun L x => measure_Parse.eq0 strings_Cut.F strconv_Atoi.F measure_name.F measure_Format.F measure_Parse.L0 L x) ((s_0, (), word_4, n_7, kind_9, ()), ((o0_0, o0_1, o0_2, ()), ()))
theorem measure_Parse.F_eq (s : ByteArray) : measure_Parse.F ((s, ()), ()) = measure_Parse.f strings_Cut.F strconv_Atoi.F measure_Parse.L0 s := rfl
theorem measure_Parse.ok {tabs : List (Nat × Go.Obj)} (ht : TabsOk tabs) : FOK Go.Proofs.Tryd.prog tabs 16 (FE.of [true] false measure_Parse.sh measure_Parse.osh measure_Parse.F) := by
  refine fn_keeps (E := (measure_Parse.E strings_Cut.F strconv_Atoi.F measure_name.F measure_Format.F measure_Parse.L0)) (c := measure_Parse.c) (fn := Go.Proofs.Tryd.f16) (hs := measure_Parse.hs) (by kernel_rfl) Go.Proofs.Tryd.func16 ⟨by kernel_rfl, by kernel_rfl, tb, by kernel_rfl, by kernel_rfl, by kernel_rfl, by kernel_rfl, by kernel_rfl⟩ ⟨fun g ks fe h => ?_, gt_ok ht⟩ ?_ (fun x => measure_Parse.eq strings_Cut.F strconv_Atoi.F measure_name.F measure_Format.F measure_Parse.L0 x)
  · rcases c_cons h with ⟨rfl, rfl⟩ | h
    · exact strings_Cut.ok ht
    rcases c_cons h with ⟨rfl, rfl⟩ | h
    · exact strconv_Atoi.ok ht
    rcases c_cons h with ⟨rfl, rfl⟩ | h
    · exact measure_name.ok ht
    rcases c_cons h with ⟨rfl, rfl⟩ | h
    · exact measure_Format.ok ht
    cases h
  · refine known_at 1 (by kernel_rfl) fun i hi => ?_
    match i, hi with
    | 0, _ => exact atom_at (id := 0) (live := [0, 2, 4, 7, 9]) (outs := [(2, [2]), (1, [2, 3])]) (loop := true) (by kernel_rfl) (loop_ok (E := (measure_Parse.E strings_Cut.F strconv_Atoi.F measure_name.F measure_Format.F measure_Parse.L0)) (sh := measure_Parse.s0) (es := measure_Parse.x0) rfl (fun L x => measure_Parse.eq0 strings_Cut.F strconv_Atoi.F measure_name.F measure_Format.F measure_Parse.L0 L x))
    | n + 1, h => exact absurd h (by omega)

/-! law17_awake -/
def law17_awake.f0 (g_measure_Check : (((Int × Int × Int × Unit) × Unit) × (Unit)) → Option ((Int × Unit) × (Unit))) (e_2 : Int) (f_4 : Int) (o0_0 : Int) (o0_1 : Int) (o0_2 : Int) (o1_0 : Int) (o1_1 : Int) : Option (((Bool × Unit) × (Unit)) ⊕ Empty) :=
  (bif (e_2 == (0:Int)) then
   (bif ((o0_0 == (5:Int)) && ((o0_1 == (0:Int)) && ((o0_2 == (-(5:Int))) && Bool.true))) then
    (bif (f_4 == (0:Int)) then
     (bif ((o1_0 == (0:Int)) && ((o1_1 == (1:Int)) && Bool.true)) then
      (Option.bind (g_measure_Check ((((0:Int), ((1:Int), ((0:Int), ()))), ()), ())) (fun y4 =>
      (some (Sum.inl (((y4.1.1 == (9:Int)), ()), ())))))
     else
      (some (Sum.inl ((Bool.false, ()), ()))))
    else
     (some (Sum.inl ((Bool.false, ()), ()))))
   else
    (some (Sum.inl ((Bool.false, ()), ()))))
  else
   (some (Sum.inl ((Bool.false, ()), ()))))
theorem law17_awake.eq0 (g_measure_Parse : measure_Parse.sh.X → Option measure_Parse.osh.X) (g_measure_Distance : measure_Distance.sh.X → Option measure_Distance.osh.X) (g_measure_Check : measure_Check.sh.X → Option measure_Check.osh.X) (l0 : law17_awake.s0.X → Option (sumX law17_awake.x0)) (L : ((Unit × Int × Unit × Int × Unit) × ((Int × Int × Int × Unit) × (Int × Int × Unit) × Unit)) → Option (((Bool × Unit) × (Unit)) ⊕ Empty)) (x : ((Unit × Int × Unit × Int × Unit) × ((Int × Int × Int × Unit) × (Int × Int × Unit) × Unit))) : (roundK (law17_awake.E g_measure_Parse g_measure_Distance g_measure_Check l0) law17_awake.s0 [1, 2, 3, 4] [(0, [0])] false (((mk law17_awake.hs law17_awake.c []).atoms.getD 0 .bad).body) law17_awake.x0 L x).run _ some = law17_awake.f0 g_measure_Check x.1.2.1 x.1.2.2.2.1 x.2.1.1 x.2.1.2.1 x.2.1.2.2.1 x.2.2.1.1 x.2.2.1.2.1 := by
  show _ = (_ : Option _)
  kernel_rfl
noncomputable def law17_awake.L0 : ((Unit × Int × Unit × Int × Unit) × ((Int × Int × Int × Unit) × (Int × Int × Unit) × Unit)) → Option (((Bool × Unit) × (Unit)) ⊕ Empty) := fun x => law17_awake.f0 measure_Check.F x.1.2.1 x.1.2.2.2.1 x.2.1.1 x.2.1.2.1 x.2.1.2.2.1 x.2.2.1.1 x.2.2.1.2.1
def law17_awake.f (g_measure_Parse : ((ByteArray × Unit) × (Unit)) → Option (((Int × Int × Int × Unit) × Int × Unit) × (Unit))) (g_measure_Distance : (((Int × Int × Int × Unit) × (List Int) × (List Int) × Unit) × (Unit)) → Option (((Int × Int × Unit) × Int × Unit) × (Unit))) (l0 : ((Unit × Int × Unit × Int × Unit) × ((Int × Int × Int × Unit) × (Int × Int × Unit) × Unit)) → Option (((Bool × Unit) × (Unit)) ⊕ Empty)) : Option ((Bool × Unit) × (Unit)) :=
  (Option.bind (g_measure_Parse (((ByteArray.mk #[(101:UInt8), (100:UInt8), (105:UInt8), (116:UInt8), (32:UInt8), (45:UInt8), (53:UInt8)]), ()), ())) (fun y0 =>
  (Option.bind (g_measure_Distance ((((4:Int), ((1:Int), ((0:Int), ()))), ([(0:Int), (0:Int), (5:Int)], ([(0:Int), (5:Int), (5:Int)], ()))), ())) (fun y1 =>
  (Option.bind (l0 (((), (y0.1.2.1, ((), (y1.1.2.1, ())))), ((y0.1.1.1, (y0.1.1.2.1, (y0.1.1.2.2.1, ()))), ((y1.1.1.1, (y1.1.1.2.1, ())), ())))) (fun y2 =>
  (Sum.elim (fun a3 =>
   (some ((a3.1.1, ()), ()))) (fun b3 =>
   (Empty.elim b3)) y2)))))))
theorem law17_awake.eq (g_measure_Parse : measure_Parse.sh.X → Option measure_Parse.osh.X) (g_measure_Distance : measure_Distance.sh.X → Option measure_Distance.osh.X) (g_measure_Check : measure_Check.sh.X → Option measure_Check.osh.X) (l0 : law17_awake.s0.X → Option (sumX law17_awake.x0)) (x : ((Unit) × (Unit))) : (bodyO (law17_awake.E g_measure_Parse g_measure_Distance g_measure_Check l0) (mk law17_awake.hs law17_awake.c []) Go.Proofs.Tryd.f13.results.toList law17_awake.sh law17_awake.osh x).run _ some = law17_awake.f g_measure_Parse g_measure_Distance l0 := by
  show _ = (_ : Option _)
  kernel_rfl
noncomputable def law17_awake : Option ((Bool × Unit) × (Unit)) := law17_awake.f measure_Parse.F measure_Distance.F law17_awake.L0
noncomputable def law17_awake.F (x : ((Unit) × (Unit))) : Option ((Bool × Unit) × (Unit)) := law17_awake
theorem law17_awake.L0_eq (e_2 : Int) (f_4 : Int) (o0_0 : Int) (o0_1 : Int) (o0_2 : Int) (o1_0 : Int) (o1_1 : Int) : law17_awake.L0 (((), e_2, (), f_4, ()), ((o0_0, o0_1, o0_2, ()), (o1_0, o1_1, ()), ())) = law17_awake.f0 measure_Check.F e_2 f_4 o0_0 o0_1 o0_2 o1_0 o1_1 := rfl
theorem law17_awake.F_eq : law17_awake.F ((), ()) = law17_awake.f measure_Parse.F measure_Distance.F law17_awake.L0 := rfl
theorem law17_awake.ok {tabs : List (Nat × Go.Obj)} (ht : TabsOk tabs) : FOK Go.Proofs.Tryd.prog tabs 13 (FE.of [] false law17_awake.sh law17_awake.osh law17_awake.F) := by
  refine fn_keeps (E := (law17_awake.E measure_Parse.F measure_Distance.F measure_Check.F law17_awake.L0)) (c := law17_awake.c) (fn := Go.Proofs.Tryd.f13) (hs := law17_awake.hs) (by kernel_rfl) Go.Proofs.Tryd.func13 ⟨by kernel_rfl, by kernel_rfl, tb, by kernel_rfl, by kernel_rfl, by kernel_rfl, by kernel_rfl, by kernel_rfl⟩ ⟨fun g ks fe h => ?_, gt_ok ht⟩ ?_ (fun x => law17_awake.eq measure_Parse.F measure_Distance.F measure_Check.F law17_awake.L0 x)
  · rcases c_cons h with ⟨rfl, rfl⟩ | h
    · exact measure_Parse.ok ht
    rcases c_cons h with ⟨rfl, rfl⟩ | h
    · exact measure_Distance.ok ht
    rcases c_cons h with ⟨rfl, rfl⟩ | h
    · exact measure_Check.ok ht
    cases h
  · refine known_at 1 (by kernel_rfl) fun i hi => ?_
    match i, hi with
    | 0, _ => exact atom_at (id := 0) (live := [1, 2, 3, 4]) (outs := [(0, [0])]) (loop := false) (by kernel_rfl) (cut_ok (E := (law17_awake.E measure_Parse.F measure_Distance.F measure_Check.F law17_awake.L0)) (sh := law17_awake.s0) (es := law17_awake.x0) rfl (fun L x => law17_awake.eq0 measure_Parse.F measure_Distance.F measure_Check.F law17_awake.L0 L x))
    | n + 1, h => exact absurd h (by omega)

/-! law17_MeasureSymmetric -/
def law17_MeasureSymmetric.f0 (g_ref01_Valid : (((Int × Int × Unit) × Unit) × (Unit)) → Option ((Bool × Unit) × (Unit))) (g_law17_awake : ((Unit) × (Unit)) → Option ((Bool × Unit) × (Unit))) (e_8 : Int) (f_10 : Int) (g_12 : Int) (o0_0 : Int) (o0_1 : Int) (o1_0 : Int) (o1_1 : Int) (o2_0 : Int) (o2_1 : Int) : Option (((Bool × Unit) × (Unit)) ⊕ Empty) :=
  (bif (e_8 == (0:Int)) then
   (bif (f_10 == (0:Int)) then
    (bif ((o0_0 == o1_0) && ((o0_1 == o1_1) && Bool.true)) then
     (Option.bind (g_ref01_Valid (((o0_0, (o0_1, ())), ()), ())) (fun y3 =>
     (bif y3.1.1 then
      (bif (g_12 == (0:Int)) then
       (bif ((o2_0 == (0:Int)) && ((o2_1 == (1:Int)) && Bool.true)) then
        (Option.bind (g_law17_awake ((), ())) (fun y7 =>
        (some (Sum.inl ((y7.1.1, ()), ())))))
       else
        (some (Sum.inl ((Bool.false, ()), ()))))
      else
       (some (Sum.inl ((Bool.false, ()), ()))))
     else
      (some (Sum.inl ((Bool.false, ()), ()))))))
    else
     (some (Sum.inl ((Bool.false, ()), ()))))
   else
    (some (Sum.inl ((Bool.false, ()), ()))))
  else
   (some (Sum.inl ((Bool.false, ()), ()))))
theorem law17_MeasureSymmetric.eq0 (g_keep_New : keep_New.sh.X → Option keep_New.osh.X) (g_keep_Src_Measure : keep_Src_Measure.sh.X → Option keep_Src_Measure.osh.X) (g_keep_Src_Suited : keep_Src_Suited.sh.X → Option keep_Src_Suited.osh.X) (g_measure_Distance : measure_Distance.sh.X → Option measure_Distance.osh.X) (g_ref01_Valid : ref01_Valid.sh.X → Option ref01_Valid.osh.X) (g_law17_awake : law17_awake.sh.X → Option law17_awake.osh.X) (l0 : law17_MeasureSymmetric.s0.X → Option (sumX law17_MeasureSymmetric.x0)) (L : ((Unit × Int × Unit × Int × Unit × Int × Unit) × ((Int × Int × Unit) × (Int × Int × Unit) × (Int × Int × Unit) × Unit)) → Option (((Bool × Unit) × (Unit)) ⊕ Empty)) (x : ((Unit × Int × Unit × Int × Unit × Int × Unit) × ((Int × Int × Unit) × (Int × Int × Unit) × (Int × Int × Unit) × Unit))) : (roundK (law17_MeasureSymmetric.E g_keep_New g_keep_Src_Measure g_keep_Src_Suited g_measure_Distance g_ref01_Valid g_law17_awake l0) law17_MeasureSymmetric.s0 [7, 8, 9, 10, 11, 12] [(0, [2])] false (((mk law17_MeasureSymmetric.hs law17_MeasureSymmetric.c []).atoms.getD 0 .bad).body) law17_MeasureSymmetric.x0 L x).run _ some = law17_MeasureSymmetric.f0 g_ref01_Valid g_law17_awake x.1.2.1 x.1.2.2.2.1 x.1.2.2.2.2.2.1 x.2.1.1 x.2.1.2.1 x.2.2.1.1 x.2.2.1.2.1 x.2.2.2.1.1 x.2.2.2.1.2.1 := by
  show _ = (_ : Option _)
  kernel_rfl
noncomputable def law17_MeasureSymmetric.L0 : ((Unit × Int × Unit × Int × Unit × Int × Unit) × ((Int × Int × Unit) × (Int × Int × Unit) × (Int × Int × Unit) × Unit)) → Option (((Bool × Unit) × (Unit)) ⊕ Empty) := fun x => law17_MeasureSymmetric.f0 ref01_Valid.F law17_awake.F x.1.2.1 x.1.2.2.2.1 x.1.2.2.2.2.2.1 x.2.1.1 x.2.1.2.1 x.2.2.1.1 x.2.2.1.2.1 x.2.2.2.1.1 x.2.2.2.1.2.1
def law17_MeasureSymmetric.f (g_keep_New : (((List Int) × Unit) × (Unit)) → Option ((Unit × Unit) × (((List Int) × Int × Unit) × Unit))) (g_keep_Src_Measure : ((Unit × Unit) × (((List Int) × Int × Unit) × Unit)) → Option (((Int × Int × Int × Unit) × Unit) × (((List Int) × Int × Unit) × Unit))) (g_keep_Src_Suited : ((Unit × (Int × Int × Int × Unit) × Unit) × (((List Int) × Int × Unit) × Unit)) → Option (((List Int) × (List Int) × Unit) × (((List Int) × Int × Unit) × Unit))) (g_measure_Distance : (((Int × Int × Int × Unit) × (List Int) × (List Int) × Unit) × (Unit)) → Option (((Int × Int × Unit) × Int × Unit) × (Unit))) (l0 : ((Unit × Int × Unit × Int × Unit × Int × Unit) × ((Int × Int × Unit) × (Int × Int × Unit) × (Int × Int × Unit) × Unit)) → Option (((Bool × Unit) × (Unit)) ⊕ Empty)) (l : (List Int)) : Option ((Bool × Unit) × (Unit)) :=
  (Option.bind (g_keep_New ((l, ()), ())) (fun y0 =>
  (Option.bind (g_keep_Src_Measure (((), ()), ((y0.2.1.1, (y0.2.1.2.1, ())), ()))) (fun y1 =>
  (Option.bind (g_keep_Src_Suited (((), ((y1.1.1.1, (y1.1.1.2.1, (y1.1.1.2.2.1, ()))), ())), ((y1.2.1.1, (y1.2.1.2.1, ())), ()))) (fun y2 =>
  (Option.bind (g_measure_Distance (((y1.1.1.1, (y1.1.1.2.1, (y1.1.1.2.2.1, ()))), (y2.1.1, (y2.1.2.1, ()))), ())) (fun y3 =>
  (Option.bind (g_measure_Distance (((y1.1.1.1, (y1.1.1.2.1, (y1.1.1.2.2.1, ()))), (y2.1.2.1, (y2.1.1, ()))), ())) (fun y4 =>
  (Option.bind (g_measure_Distance (((y1.1.1.1, (y1.1.1.2.1, (y1.1.1.2.2.1, ()))), (y2.1.1, (y2.1.1, ()))), ())) (fun y5 =>
  (Option.bind (l0 (((), (y3.1.2.1, ((), (y4.1.2.1, ((), (y5.1.2.1, ())))))), ((y3.1.1.1, (y3.1.1.2.1, ())), ((y4.1.1.1, (y4.1.1.2.1, ())), ((y5.1.1.1, (y5.1.1.2.1, ())), ()))))) (fun y6 =>
  (Sum.elim (fun a7 =>
   (some ((a7.1.1, ()), ()))) (fun b7 =>
   (Empty.elim b7)) y6)))))))))))))))
theorem law17_MeasureSymmetric.eq (g_keep_New : keep_New.sh.X → Option keep_New.osh.X) (g_keep_Src_Measure : keep_Src_Measure.sh.X → Option keep_Src_Measure.osh.X) (g_keep_Src_Suited : keep_Src_Suited.sh.X → Option keep_Src_Suited.osh.X) (g_measure_Distance : measure_Distance.sh.X → Option measure_Distance.osh.X) (g_ref01_Valid : ref01_Valid.sh.X → Option ref01_Valid.osh.X) (g_law17_awake : law17_awake.sh.X → Option law17_awake.osh.X) (l0 : law17_MeasureSymmetric.s0.X → Option (sumX law17_MeasureSymmetric.x0)) (x : (((List Int) × Unit) × (Unit))) : (bodyO (law17_MeasureSymmetric.E g_keep_New g_keep_Src_Measure g_keep_Src_Suited g_measure_Distance g_ref01_Valid g_law17_awake l0) (mk law17_MeasureSymmetric.hs law17_MeasureSymmetric.c []) Go.Proofs.Tryd.f3.results.toList law17_MeasureSymmetric.sh law17_MeasureSymmetric.osh x).run _ some = law17_MeasureSymmetric.f g_keep_New g_keep_Src_Measure g_keep_Src_Suited g_measure_Distance l0 x.1.1 := by
  show _ = (_ : Option _)
  kernel_rfl
noncomputable def law17_MeasureSymmetric (l : (List Int)) : Option ((Bool × Unit) × (Unit)) := law17_MeasureSymmetric.f keep_New.F keep_Src_Measure.F keep_Src_Suited.F measure_Distance.F law17_MeasureSymmetric.L0 l
noncomputable def law17_MeasureSymmetric.F (x : (((List Int) × Unit) × (Unit))) : Option ((Bool × Unit) × (Unit)) := law17_MeasureSymmetric x.1.1
theorem law17_MeasureSymmetric.L0_eq (e_8 : Int) (f_10 : Int) (g_12 : Int) (o0_0 : Int) (o0_1 : Int) (o1_0 : Int) (o1_1 : Int) (o2_0 : Int) (o2_1 : Int) : law17_MeasureSymmetric.L0 (((), e_8, (), f_10, (), g_12, ()), ((o0_0, o0_1, ()), (o1_0, o1_1, ()), (o2_0, o2_1, ()), ())) = law17_MeasureSymmetric.f0 ref01_Valid.F law17_awake.F e_8 f_10 g_12 o0_0 o0_1 o1_0 o1_1 o2_0 o2_1 := rfl
theorem law17_MeasureSymmetric.F_eq (l : (List Int)) : law17_MeasureSymmetric.F ((l, ()), ()) = law17_MeasureSymmetric.f keep_New.F keep_Src_Measure.F keep_Src_Suited.F measure_Distance.F law17_MeasureSymmetric.L0 l := rfl
theorem law17_MeasureSymmetric.ok {tabs : List (Nat × Go.Obj)} (ht : TabsOk tabs) : FOK Go.Proofs.Tryd.prog tabs 3 (FE.of [true] false law17_MeasureSymmetric.sh law17_MeasureSymmetric.osh law17_MeasureSymmetric.F) := by
  refine fn_keeps (E := (law17_MeasureSymmetric.E keep_New.F keep_Src_Measure.F keep_Src_Suited.F measure_Distance.F ref01_Valid.F law17_awake.F law17_MeasureSymmetric.L0)) (c := law17_MeasureSymmetric.c) (fn := Go.Proofs.Tryd.f3) (hs := law17_MeasureSymmetric.hs) (by kernel_rfl) Go.Proofs.Tryd.func3 ⟨by kernel_rfl, by kernel_rfl, tb, by kernel_rfl, by kernel_rfl, by kernel_rfl, by kernel_rfl, by kernel_rfl⟩ ⟨fun g ks fe h => ?_, gt_ok ht⟩ ?_ (fun x => law17_MeasureSymmetric.eq keep_New.F keep_Src_Measure.F keep_Src_Suited.F measure_Distance.F ref01_Valid.F law17_awake.F law17_MeasureSymmetric.L0 x)
  · rcases c_cons h with ⟨rfl, rfl⟩ | h
    · exact keep_New.ok ht
    rcases c_cons h with ⟨rfl, rfl⟩ | h
    · exact keep_Src_Measure.ok ht
    rcases c_cons h with ⟨rfl, rfl⟩ | h
    · exact keep_Src_Suited.ok ht
    rcases c_cons h with ⟨rfl, rfl⟩ | h
    · exact measure_Distance.ok ht
    rcases c_cons h with ⟨rfl, rfl⟩ | h
    · exact ref01_Valid.ok ht
    rcases c_cons h with ⟨rfl, rfl⟩ | h
    · exact law17_awake.ok ht
    cases h
  · refine known_at 1 (by kernel_rfl) fun i hi => ?_
    match i, hi with
    | 0, _ => exact atom_at (id := 0) (live := [7, 8, 9, 10, 11, 12]) (outs := [(0, [2])]) (loop := false) (by kernel_rfl) (cut_ok (E := (law17_MeasureSymmetric.E keep_New.F keep_Src_Measure.F keep_Src_Suited.F measure_Distance.F ref01_Valid.F law17_awake.F law17_MeasureSymmetric.L0)) (sh := law17_MeasureSymmetric.s0) (es := law17_MeasureSymmetric.x0) rfl (fun L x => law17_MeasureSymmetric.eq0 keep_New.F keep_Src_Measure.F keep_Src_Suited.F measure_Distance.F ref01_Valid.F law17_awake.F law17_MeasureSymmetric.L0 L x))
    | n + 1, h => exact absurd h (by omega)

/-! law17_MeasureTurned -/
def law17_MeasureTurned.f0 (L : ((Unit × (List Int) × Unit × Unit × Unit × Int × Int × Unit) × ((Int × Int × Int × Unit) × (List Int) × (List Int) × (List Int) × Unit)) → Option (((Unit × (List Int) × Unit × Unit × Unit × Unit) × ((Int × Int × Int × Unit) × (List Int) × (List Int) × (List Int) × Unit)) ⊕ Empty)) (x_5 : (List Int)) (v24 : Int) (v25 : Int) (o0_0 : Int) (o0_1 : Int) (o0_2 : Int) (o1 : List Int) (o2 : List Int) (o3 : List Int) : Option (((Unit × (List Int) × Unit × Unit × Unit × Unit) × ((Int × Int × Int × Unit) × (List Int) × (List Int) × (List Int) × Unit)) ⊕ Empty) :=
  (bif (decide (v25 < v24)) then
   (bif (decide ((0:Int) ≤ (Go.IntKind.wrap Go.IntKind.i64 ((Go.IntKind.wrap Go.IntKind.i64 ((((List.length x_5) : Nat) : Int) - (1:Int))) - v25)))) then
    (bif (decide ((Go.IntKind.wrap Go.IntKind.i64 ((Go.IntKind.wrap Go.IntKind.i64 ((((List.length x_5) : Nat) : Int) - (1:Int))) - v25)) < (((List.length x_5) : Nat) : Int))) then
     (bif (decide ((((List.length o2) + (List.length [(List.getD x_5 (Int.toNat (Go.IntKind.wrap Go.IntKind.i64 ((Go.IntKind.wrap Go.IntKind.i64 ((((List.length x_5) : Nat) : Int) - (1:Int))) - v25))) (0:Int))])) * (8:Nat)) ≤ (140737488355328:Nat))) then
      (bif (decide ((0:Int) ≤ (Go.IntKind.wrap Go.IntKind.i64 ((Go.IntKind.wrap Go.IntKind.i64 ((((List.length x_5) : Nat) : Int) - (1:Int))) - v25)))) then
       (bif (decide ((Go.IntKind.wrap Go.IntKind.i64 ((Go.IntKind.wrap Go.IntKind.i64 ((((List.length x_5) : Nat) : Int) - (1:Int))) - v25)) < (((List.length o1) : Nat) : Int))) then
        (bif (decide ((((List.length o3) + (List.length [(List.getD o1 (Int.toNat (Go.IntKind.wrap Go.IntKind.i64 ((Go.IntKind.wrap Go.IntKind.i64 ((((List.length x_5) : Nat) : Int) - (1:Int))) - v25))) (0:Int))])) * (8:Nat)) ≤ (140737488355328:Nat))) then
         (Option.bind (L (((), (x_5, ((), ((), ((), (v24, ((Go.IntKind.wrap Go.IntKind.i64 (v25 + (1:Int))), ()))))))), ((o0_0, (o0_1, (o0_2, ()))), (o1, ((o2 ++ [(List.getD x_5 (Int.toNat (Go.IntKind.wrap Go.IntKind.i64 ((Go.IntKind.wrap Go.IntKind.i64 ((((List.length x_5) : Nat) : Int) - (1:Int))) - v25))) (0:Int))]), ((o3 ++ [(List.getD o1 (Int.toNat (Go.IntKind.wrap Go.IntKind.i64 ((Go.IntKind.wrap Go.IntKind.i64 ((((List.length x_5) : Nat) : Int) - (1:Int))) - v25))) (0:Int))]), ())))))) (fun y7 =>
         (some y7)))
        else
         none)
       else
        none)
      else
       none)
     else
      none)
    else
     none)
   else
    none)
  else
   (some (Sum.inl (((), (x_5, ((), ((), ((), ()))))), ((o0_0, (o0_1, (o0_2, ()))), (o1, (o2, (o3, ()))))))))
theorem law17_MeasureTurned.eq0 (g_keep_New : keep_New.sh.X → Option keep_New.osh.X) (g_keep_Src_Measure : keep_Src_Measure.sh.X → Option keep_Src_Measure.osh.X) (g_keep_Src_Pair : keep_Src_Pair.sh.X → Option keep_Src_Pair.osh.X) (g_measure_Distance : measure_Distance.sh.X → Option measure_Distance.osh.X) (g_law17_awake : law17_awake.sh.X → Option law17_awake.osh.X) (l0 : law17_MeasureTurned.s0.X → Option (sumX law17_MeasureTurned.x0)) (L : ((Unit × (List Int) × Unit × Unit × Unit × Int × Int × Unit) × ((Int × Int × Int × Unit) × (List Int) × (List Int) × (List Int) × Unit)) → Option (((Unit × (List Int) × Unit × Unit × Unit × Unit) × ((Int × Int × Int × Unit) × (List Int) × (List Int) × (List Int) × Unit)) ⊕ Empty)) (x : ((Unit × (List Int) × Unit × Unit × Unit × Int × Int × Unit) × ((Int × Int × Int × Unit) × (List Int) × (List Int) × (List Int) × Unit))) : (roundK (law17_MeasureTurned.E g_keep_New g_keep_Src_Measure g_keep_Src_Pair g_measure_Distance g_law17_awake l0) law17_MeasureTurned.s0 [4, 5, 6, 7, 8, 24, 25] [(2, [4, 5, 6, 7, 8])] true (((mk law17_MeasureTurned.hs law17_MeasureTurned.c []).atoms.getD 0 .bad).body) law17_MeasureTurned.x0 L x).run _ some = law17_MeasureTurned.f0 L x.1.2.1 x.1.2.2.2.2.2.1 x.1.2.2.2.2.2.2.1 x.2.1.1 x.2.1.2.1 x.2.1.2.2.1 x.2.2.1 x.2.2.2.1 x.2.2.2.2.1 := by
  show _ = (_ : Option _)
  kernel_rfl
noncomputable def law17_MeasureTurned.L0 : ((Unit × (List Int) × Unit × Unit × Unit × Int × Int × Unit) × ((Int × Int × Int × Unit) × (List Int) × (List Int) × (List Int) × Unit)) → Option (((Unit × (List Int) × Unit × Unit × Unit × Unit) × ((Int × Int × Int × Unit) × (List Int) × (List Int) × (List Int) × Unit)) ⊕ Empty) := loop fun L x => law17_MeasureTurned.f0 L x.1.2.1 x.1.2.2.2.2.2.1 x.1.2.2.2.2.2.2.1 x.2.1.1 x.2.1.2.1 x.2.1.2.2.1 x.2.2.1 x.2.2.2.1 x.2.2.2.2.1
def law17_MeasureTurned.f (g_keep_New : (((List Int) × Unit) × (Unit)) → Option ((Unit × Unit) × (((List Int) × Int × Unit) × Unit))) (g_keep_Src_Measure : ((Unit × Unit) × (((List Int) × Int × Unit) × Unit)) → Option (((Int × Int × Int × Unit) × Unit) × (((List Int) × Int × Unit) × Unit))) (g_keep_Src_Pair : ((Unit × Unit) × (((List Int) × Int × Unit) × Unit)) → Option (((List Int) × Unit × Unit) × (((List Int) × Int × Unit) × (List Int) × Unit))) (g_measure_Distance : (((Int × Int × Int × Unit) × (List Int) × (List Int) × Unit) × (Unit)) → Option (((Int × Int × Unit) × Int × Unit) × (Unit))) (g_law17_awake : ((Unit) × (Unit)) → Option ((Bool × Unit) × (Unit))) (l0 : ((Unit × (List Int) × Unit × Unit × Unit × Int × Int × Unit) × ((Int × Int × Int × Unit) × (List Int) × (List Int) × (List Int) × Unit)) → Option (((Unit × (List Int) × Unit × Unit × Unit × Unit) × ((Int × Int × Int × Unit) × (List Int) × (List Int) × (List Int) × Unit)) ⊕ Empty)) (l : (List Int)) : Option ((Bool × Unit) × (Unit)) :=
  (Option.bind (g_keep_New ((l, ()), ())) (fun y0 =>
  (Option.bind (g_keep_Src_Measure (((), ()), ((y0.2.1.1, (y0.2.1.2.1, ())), ()))) (fun y1 =>
  (Option.bind (g_keep_Src_Pair (((), ()), ((y1.2.1.1, (y1.2.1.2.1, ())), ()))) (fun y2 =>
  (Option.bind (l0 (((), (y2.1.1, ((), ((), ((), ((((List.length y2.1.1) : Nat) : Int), ((0:Int), ()))))))), ((y1.1.1.1, (y1.1.1.2.1, (y1.1.1.2.2.1, ()))), (y2.2.2.1, (([] : List Int), (([] : List Int), ())))))) (fun y3 =>
  (Sum.elim (fun a4 =>
   (Option.bind (g_measure_Distance (((a4.2.1.1, (a4.2.1.2.1, (a4.2.1.2.2.1, ()))), (a4.1.2.1, (a4.2.2.1, ()))), ())) (fun y5 =>
   (Option.bind (g_measure_Distance (((a4.2.1.1, (a4.2.1.2.1, (a4.2.1.2.2.1, ()))), (a4.2.2.2.1, (a4.2.2.2.2.1, ()))), ())) (fun y6 =>
   (bif (y5.1.2.1 == (0:Int)) then
    (bif (y6.1.2.1 == (0:Int)) then
     (bif ((y5.1.1.1 == y6.1.1.1) && ((y5.1.1.2.1 == y6.1.1.2.1) && Bool.true)) then
      (Option.bind (g_law17_awake ((), ())) (fun y10 =>
      (some ((y10.1.1, ()), ()))))
     else
      (some ((Bool.false, ()), ())))
    else
     (some ((Bool.false, ()), ())))
   else
    (some ((Bool.false, ()), ())))))))) (fun b4 =>
   (Empty.elim b4)) y3)))))))))
theorem law17_MeasureTurned.eq (g_keep_New : keep_New.sh.X → Option keep_New.osh.X) (g_keep_Src_Measure : keep_Src_Measure.sh.X → Option keep_Src_Measure.osh.X) (g_keep_Src_Pair : keep_Src_Pair.sh.X → Option keep_Src_Pair.osh.X) (g_measure_Distance : measure_Distance.sh.X → Option measure_Distance.osh.X) (g_law17_awake : law17_awake.sh.X → Option law17_awake.osh.X) (l0 : law17_MeasureTurned.s0.X → Option (sumX law17_MeasureTurned.x0)) (x : (((List Int) × Unit) × (Unit))) : (bodyO (law17_MeasureTurned.E g_keep_New g_keep_Src_Measure g_keep_Src_Pair g_measure_Distance g_law17_awake l0) (mk law17_MeasureTurned.hs law17_MeasureTurned.c []) Go.Proofs.Tryd.f4.results.toList law17_MeasureTurned.sh law17_MeasureTurned.osh x).run _ some = law17_MeasureTurned.f g_keep_New g_keep_Src_Measure g_keep_Src_Pair g_measure_Distance g_law17_awake l0 x.1.1 := by
  show _ = (_ : Option _)
  kernel_rfl
noncomputable def law17_MeasureTurned (l : (List Int)) : Option ((Bool × Unit) × (Unit)) := law17_MeasureTurned.f keep_New.F keep_Src_Measure.F keep_Src_Pair.F measure_Distance.F law17_awake.F law17_MeasureTurned.L0 l
noncomputable def law17_MeasureTurned.F (x : (((List Int) × Unit) × (Unit))) : Option ((Bool × Unit) × (Unit)) := law17_MeasureTurned x.1.1
theorem law17_MeasureTurned.L0_eq (x_5 : (List Int)) (v24 : Int) (v25 : Int) (o0_0 : Int) (o0_1 : Int) (o0_2 : Int) (o1 : List Int) (o2 : List Int) (o3 : List Int) : law17_MeasureTurned.L0 (((), x_5, (), (), (), v24, v25, ()), ((o0_0, o0_1, o0_2, ()), o1, o2, o3, ())) = law17_MeasureTurned.f0 law17_MeasureTurned.L0 x_5 v24 v25 o0_0 o0_1 o0_2 o1 o2 o3 :=
  loop_eq (E := (law17_MeasureTurned.E keep_New.F keep_Src_Measure.F keep_Src_Pair.F measure_Distance.F law17_awake.F law17_MeasureTurned.L0)) (sh := law17_MeasureTurned.s0) (es := law17_MeasureTurned.x0) (lp := true) (H := fun L x => law17_MeasureTurned.eq0 keep_New.F keep_Src_Measure.F keep_Src_Pair.F measure_Distance.F law17_awake.F law17_MeasureTurned.L0 L x) (((), x_5, (), (), (), v24, v25, ()), ((o0_0, o0_1, o0_2, ()), o1, o2, o3, ()))
theorem law17_MeasureTurned.F_eq (l : (List Int)) : law17_MeasureTurned.F ((l, ()), ()) = law17_MeasureTurned.f keep_New.F keep_Src_Measure.F keep_Src_Pair.F measure_Distance.F law17_awake.F law17_MeasureTurned.L0 l := rfl
theorem law17_MeasureTurned.ok {tabs : List (Nat × Go.Obj)} (ht : TabsOk tabs) : FOK Go.Proofs.Tryd.prog tabs 4 (FE.of [true] false law17_MeasureTurned.sh law17_MeasureTurned.osh law17_MeasureTurned.F) := by
  refine fn_keeps (E := (law17_MeasureTurned.E keep_New.F keep_Src_Measure.F keep_Src_Pair.F measure_Distance.F law17_awake.F law17_MeasureTurned.L0)) (c := law17_MeasureTurned.c) (fn := Go.Proofs.Tryd.f4) (hs := law17_MeasureTurned.hs) (by kernel_rfl) Go.Proofs.Tryd.func4 ⟨by kernel_rfl, by kernel_rfl, tb, by kernel_rfl, by kernel_rfl, by kernel_rfl, by kernel_rfl, by kernel_rfl⟩ ⟨fun g ks fe h => ?_, gt_ok ht⟩ ?_ (fun x => law17_MeasureTurned.eq keep_New.F keep_Src_Measure.F keep_Src_Pair.F measure_Distance.F law17_awake.F law17_MeasureTurned.L0 x)
  · rcases c_cons h with ⟨rfl, rfl⟩ | h
    · exact keep_New.ok ht
    rcases c_cons h with ⟨rfl, rfl⟩ | h
    · exact keep_Src_Measure.ok ht
    rcases c_cons h with ⟨rfl, rfl⟩ | h
    · exact keep_Src_Pair.ok ht
    rcases c_cons h with ⟨rfl, rfl⟩ | h
    · exact measure_Distance.ok ht
    rcases c_cons h with ⟨rfl, rfl⟩ | h
    · exact law17_awake.ok ht
    cases h
  · refine known_at 1 (by kernel_rfl) fun i hi => ?_
    match i, hi with
    | 0, _ => exact atom_at (id := 0) (live := [4, 5, 6, 7, 8, 24, 25]) (outs := [(2, [4, 5, 6, 7, 8])]) (loop := true) (by kernel_rfl) (loop_ok (E := (law17_MeasureTurned.E keep_New.F keep_Src_Measure.F keep_Src_Pair.F measure_Distance.F law17_awake.F law17_MeasureTurned.L0)) (sh := law17_MeasureTurned.s0) (es := law17_MeasureTurned.x0) rfl (fun L x => law17_MeasureTurned.eq0 keep_New.F keep_Src_Measure.F keep_Src_Pair.F measure_Distance.F law17_awake.F law17_MeasureTurned.L0 L x))
    | n + 1, h => exact absurd h (by omega)
end Go.Proofs.YtadniiehehiblaaDoor.V
