import Derived.Test.YtdfdecpplnjdcaaDoorVg0
import Derived.Test.YtdfdecpplnjdcaaDoorShelf
import Derived.Test.YtdfdecpplnjdcaaDoorHx6
set_option linter.unusedVariables false
set_option maxRecDepth 100000
namespace Go.Proofs.YtdfdecpplnjdcaaDoor.V
open Go.VI
/-! ratio_Parse -/
def ratio_Parse.f (g_strings_Cut : ((ByteArray × ByteArray × Unit) × (Unit)) → Option ((ByteArray × ByteArray × Bool × Unit) × (Unit))) (g_strconv_Atoi : ((ByteArray × Unit) × (Unit)) → Option ((Int × Bool × Unit) × (Unit))) (g_ratio_Valid : (((Int × Int × Unit) × Unit) × (Unit)) → Option ((Bool × Unit) × (Unit))) (g_ratio_Format : (((Int × Int × Unit) × Unit) × (Unit)) → Option ((ByteArray × Unit) × (Unit))) (s : ByteArray) : Option (((Int × Int × Unit) × Int × Unit) × (Unit)) :=
  (Option.bind (g_strings_Cut ((s, ((ByteArray.mk #[(47:UInt8)]), ())), ())) (fun y0 =>
  (Option.bind (g_strconv_Atoi ((y0.1.1, ()), ())) (fun y1 =>
  (bif y1.1.2.1 then
   (some ((((0:Int), ((0:Int), ())), ((3:Int), ())), ()))
  else
   (bif y0.1.2.2.1 then
    (Option.bind (g_strconv_Atoi ((y0.1.2.1, ()), ())) (fun y4 =>
    (bif y4.1.2.1 then
     (some ((((0:Int), ((0:Int), ())), ((3:Int), ())), ()))
    else
     (Option.bind (g_ratio_Valid (((y1.1.1, (y4.1.1, ())), ()), ())) (fun y6 =>
     (bif (!y6.1.1) then
      (some ((((0:Int), ((0:Int), ())), ((3:Int), ())), ()))
     else
      (Option.bind (g_ratio_Format (((y1.1.1, (y4.1.1, ())), ()), ())) (fun y8 =>
      (bif (!((ByteArray.toList y8.1.1) == (ByteArray.toList s))) then
       (some ((((0:Int), ((0:Int), ())), ((3:Int), ())), ()))
      else
       (some (((y1.1.1, (y4.1.1, ())), ((0:Int), ())), ())))))))))))
   else
    (Option.bind (g_ratio_Valid (((y1.1.1, ((1:Int), ())), ()), ())) (fun y4 =>
    (bif (!y4.1.1) then
     (some ((((0:Int), ((0:Int), ())), ((3:Int), ())), ()))
    else
     (Option.bind (g_ratio_Format (((y1.1.1, ((1:Int), ())), ()), ())) (fun y6 =>
     (bif (!((ByteArray.toList y6.1.1) == (ByteArray.toList s))) then
      (some ((((0:Int), ((0:Int), ())), ((3:Int), ())), ()))
     else
      (some (((y1.1.1, ((1:Int), ())), ((0:Int), ())), ()))))))))))))))
theorem ratio_Parse.eq (g_strings_Cut : strings_Cut.sh.X → Option strings_Cut.osh.X) (g_strconv_Atoi : strconv_Atoi.sh.X → Option strconv_Atoi.osh.X) (g_ratio_Valid : ratio_Valid.sh.X → Option ratio_Valid.osh.X) (g_ratio_Format : ratio_Format.sh.X → Option ratio_Format.osh.X) (x : ((ByteArray × Unit) × (Unit))) : (bodyO (ratio_Parse.E g_strings_Cut g_strconv_Atoi g_ratio_Valid g_ratio_Format) (mk ratio_Parse.hs ratio_Parse.c []) Go.Proofs.Tryd.f23.results.toList ratio_Parse.sh ratio_Parse.osh x).run _ some = ratio_Parse.f g_strings_Cut g_strconv_Atoi g_ratio_Valid g_ratio_Format x.1.1 := by
  show _ = (_ : Option _)
  kernel_rfl
noncomputable def ratio_Parse (s : ByteArray) : Option (((Int × Int × Unit) × Int × Unit) × (Unit)) := ratio_Parse.f strings_Cut.F strconv_Atoi.F ratio_Valid.F ratio_Format.F s
noncomputable def ratio_Parse.F (x : ((ByteArray × Unit) × (Unit))) : Option (((Int × Int × Unit) × Int × Unit) × (Unit)) := ratio_Parse x.1.1
theorem ratio_Parse.F_eq (s : ByteArray) : ratio_Parse.F ((s, ()), ()) = ratio_Parse.f strings_Cut.F strconv_Atoi.F ratio_Valid.F ratio_Format.F s := rfl
theorem ratio_Parse.ok {tabs : List (Nat × Go.Obj)} (ht : TabsOk tabs) : FOK Go.Proofs.Tryd.prog tabs 23 (FE.of [true] false ratio_Parse.sh ratio_Parse.osh ratio_Parse.F) := by
  refine fn_keeps (E := (ratio_Parse.E strings_Cut.F strconv_Atoi.F ratio_Valid.F ratio_Format.F)) (c := ratio_Parse.c) (fn := Go.Proofs.Tryd.f23) (hs := ratio_Parse.hs) (by kernel_rfl) Go.Proofs.Tryd.func23 ⟨by kernel_rfl, by kernel_rfl, tb, by kernel_rfl, by kernel_rfl, by kernel_rfl, by kernel_rfl, by kernel_rfl⟩ ⟨fun g ks fe h => ?_, gt_ok ht⟩ ?_ (fun x => ratio_Parse.eq strings_Cut.F strconv_Atoi.F ratio_Valid.F ratio_Format.F x)
  · rcases c_cons h with ⟨rfl, rfl⟩ | h
    · exact strings_Cut.ok ht
    rcases c_cons h with ⟨rfl, rfl⟩ | h
    · exact strconv_Atoi.ok ht
    rcases c_cons h with ⟨rfl, rfl⟩ | h
    · exact ratio_Valid.ok ht
    rcases c_cons h with ⟨rfl, rfl⟩ | h
    · exact ratio_Format.ok ht
    cases h
  · exact known_at 0 (by kernel_rfl) fun i hi => absurd hi (Nat.not_lt_zero i)

/-! law01_RatioReads -/
def law01_RatioReads.f0 (g_law01_awake : ((Unit) × (Unit)) → Option ((Bool × Unit) × (Unit))) (g_ratio_Format : (((Int × Int × Unit) × Unit) × (Unit)) → Option ((ByteArray × Unit) × (Unit))) (g_ratio_Valid : (((Int × Int × Unit) × Unit) × (Unit)) → Option ((Bool × Unit) × (Unit))) (s_1 : ByteArray) (e_7 : Int) (f_9 : Int) (o0_0 : Int) (o0_1 : Int) (o1_0 : Int) (o1_1 : Int) (o2_0 : Int) (o2_1 : Int) : Option (((Bool × Unit) × (Unit)) ⊕ Empty) :=
  (bif (e_7 == (0:Int)) then
   (bif ((o1_0 == o0_0) && ((o1_1 == o0_1) && Bool.true)) then
    (bif (f_9 != (0:Int)) then
     (Option.bind (g_law01_awake ((), ())) (fun y3 =>
     (some (Sum.inl ((y3.1.1, ()), ())))))
    else
     (Option.bind (g_ratio_Valid (((o2_0, (o2_1, ())), ()), ())) (fun y3 =>
     (bif y3.1.1 then
      (Option.bind (g_ratio_Format (((o2_0, (o2_1, ())), ()), ())) (fun y5 =>
      (bif ((ByteArray.toList y5.1.1) == (ByteArray.toList s_1)) then
       (Option.bind (g_law01_awake ((), ())) (fun y7 =>
       (some (Sum.inl ((y7.1.1, ()), ())))))
      else
       (some (Sum.inl ((Bool.false, ()), ()))))))
     else
      (some (Sum.inl ((Bool.false, ()), ())))))))
   else
    (some (Sum.inl ((Bool.false, ()), ()))))
  else
   (some (Sum.inl ((Bool.false, ()), ()))))
theorem law01_RatioReads.eq0 (g_law01_awake : law01_awake.sh.X → Option law01_awake.osh.X) (g_keep_New : keep_New.sh.X → Option keep_New.osh.X) (g_keep_Src_Ratio : keep_Src_Ratio.sh.X → Option keep_Src_Ratio.osh.X) (g_ratio_Format : ratio_Format.sh.X → Option ratio_Format.osh.X) (g_ratio_Parse : ratio_Parse.sh.X → Option ratio_Parse.osh.X) (g_ratio_Valid : ratio_Valid.sh.X → Option ratio_Valid.osh.X) (l0 : law01_RatioReads.s0.X → Option (sumX law01_RatioReads.x0)) (L : ((ByteArray × Unit × Unit × Int × Unit × Int × Unit) × ((Int × Int × Unit) × (Int × Int × Unit) × (Int × Int × Unit) × Unit)) → Option (((Bool × Unit) × (Unit)) ⊕ Empty)) (x : ((ByteArray × Unit × Unit × Int × Unit × Int × Unit) × ((Int × Int × Unit) × (Int × Int × Unit) × (Int × Int × Unit) × Unit))) : (roundK (law01_RatioReads.E g_law01_awake g_keep_New g_keep_Src_Ratio g_ratio_Format g_ratio_Parse g_ratio_Valid l0) law01_RatioReads.s0 [1, 5, 6, 7, 8, 9] [(0, [4])] false (((mk law01_RatioReads.hs law01_RatioReads.c []).atoms.getD 0 .bad).body) law01_RatioReads.x0 L x).run _ some = law01_RatioReads.f0 g_law01_awake g_ratio_Format g_ratio_Valid x.1.1 x.1.2.2.2.1 x.1.2.2.2.2.2.1 x.2.1.1 x.2.1.2.1 x.2.2.1.1 x.2.2.1.2.1 x.2.2.2.1.1 x.2.2.2.1.2.1 := by
  show _ = (_ : Option _)
  kernel_rfl
noncomputable def law01_RatioReads.L0 : ((ByteArray × Unit × Unit × Int × Unit × Int × Unit) × ((Int × Int × Unit) × (Int × Int × Unit) × (Int × Int × Unit) × Unit)) → Option (((Bool × Unit) × (Unit)) ⊕ Empty) := fun x => law01_RatioReads.f0 law01_awake.F ratio_Format.F ratio_Valid.F x.1.1 x.1.2.2.2.1 x.1.2.2.2.2.2.1 x.2.1.1 x.2.1.2.1 x.2.2.1.1 x.2.2.1.2.1 x.2.2.2.1.1 x.2.2.2.1.2.1
def law01_RatioReads.f (g_law01_awake : ((Unit) × (Unit)) → Option ((Bool × Unit) × (Unit))) (g_keep_New : (((List Int) × Unit) × (Unit)) → Option ((Unit × Unit) × (((List Int) × Int × Unit) × Unit))) (g_keep_Src_Ratio : ((Unit × Unit) × (((List Int) × Int × Unit) × Unit)) → Option (((Int × Int × Unit) × Unit) × (((List Int) × Int × Unit) × Unit))) (g_ratio_Format : (((Int × Int × Unit) × Unit) × (Unit)) → Option ((ByteArray × Unit) × (Unit))) (g_ratio_Parse : ((ByteArray × Unit) × (Unit)) → Option (((Int × Int × Unit) × Int × Unit) × (Unit))) (l0 : ((ByteArray × Unit × Unit × Int × Unit × Int × Unit) × ((Int × Int × Unit) × (Int × Int × Unit) × (Int × Int × Unit) × Unit)) → Option (((Bool × Unit) × (Unit)) ⊕ Empty)) (l : (List Int)) (s : ByteArray) : Option ((Bool × Unit) × (Unit)) :=
  (bif (decide ((((ByteArray.size s) : Nat) : Int) > (60:Int))) then
   (Option.bind (g_law01_awake ((), ())) (fun y1 =>
   (some ((y1.1.1, ()), ()))))
  else
   (Option.bind (g_keep_New ((l, ()), ())) (fun y1 =>
   (Option.bind (g_keep_Src_Ratio (((), ()), ((y1.2.1.1, (y1.2.1.2.1, ())), ()))) (fun y2 =>
   (Option.bind (g_ratio_Format (((y2.1.1.1, (y2.1.1.2.1, ())), ()), ())) (fun y3 =>
   (Option.bind (g_ratio_Parse ((y3.1.1, ()), ())) (fun y4 =>
   (Option.bind (g_ratio_Parse ((s, ()), ())) (fun y5 =>
   (Option.bind (l0 ((s, ((), ((), (y4.1.2.1, ((), (y5.1.2.1, ())))))), ((y2.1.1.1, (y2.1.1.2.1, ())), ((y4.1.1.1, (y4.1.1.2.1, ())), ((y5.1.1.1, (y5.1.1.2.1, ())), ()))))) (fun y6 =>
   (Sum.elim (fun a7 =>
    (some ((a7.1.1, ()), ()))) (fun b7 =>
    (Empty.elim b7)) y6))))))))))))))
theorem law01_RatioReads.eq (g_law01_awake : law01_awake.sh.X → Option law01_awake.osh.X) (g_keep_New : keep_New.sh.X → Option keep_New.osh.X) (g_keep_Src_Ratio : keep_Src_Ratio.sh.X → Option keep_Src_Ratio.osh.X) (g_ratio_Format : ratio_Format.sh.X → Option ratio_Format.osh.X) (g_ratio_Parse : ratio_Parse.sh.X → Option ratio_Parse.osh.X) (g_ratio_Valid : ratio_Valid.sh.X → Option ratio_Valid.osh.X) (l0 : law01_RatioReads.s0.X → Option (sumX law01_RatioReads.x0)) (x : (((List Int) × ByteArray × Unit) × (Unit))) : (bodyO (law01_RatioReads.E g_law01_awake g_keep_New g_keep_Src_Ratio g_ratio_Format g_ratio_Parse g_ratio_Valid l0) (mk law01_RatioReads.hs law01_RatioReads.c []) Go.Proofs.Tryd.f9.results.toList law01_RatioReads.sh law01_RatioReads.osh x).run _ some = law01_RatioReads.f g_law01_awake g_keep_New g_keep_Src_Ratio g_ratio_Format g_ratio_Parse l0 x.1.1 x.1.2.1 := by
  show _ = (_ : Option _)
  kernel_rfl
noncomputable def law01_RatioReads (l : (List Int)) (s : ByteArray) : Option ((Bool × Unit) × (Unit)) := law01_RatioReads.f law01_awake.F keep_New.F keep_Src_Ratio.F ratio_Format.F ratio_Parse.F law01_RatioReads.L0 l s
noncomputable def law01_RatioReads.F (x : (((List Int) × ByteArray × Unit) × (Unit))) : Option ((Bool × Unit) × (Unit)) := law01_RatioReads x.1.1 x.1.2.1
theorem law01_RatioReads.L0_eq (s_1 : ByteArray) (e_7 : Int) (f_9 : Int) (o0_0 : Int) (o0_1 : Int) (o1_0 : Int) (o1_1 : Int) (o2_0 : Int) (o2_1 : Int) : law01_RatioReads.L0 ((s_1, (), (), e_7, (), f_9, ()), ((o0_0, o0_1, ()), (o1_0, o1_1, ()), (o2_0, o2_1, ()), ())) = law01_RatioReads.f0 law01_awake.F ratio_Format.F ratio_Valid.F s_1 e_7 f_9 o0_0 o0_1 o1_0 o1_1 o2_0 o2_1 := rfl
theorem law01_RatioReads.F_eq (l : (List Int)) (s : ByteArray) : law01_RatioReads.F ((l, s, ()), ()) = law01_RatioReads.f law01_awake.F keep_New.F keep_Src_Ratio.F ratio_Format.F ratio_Parse.F law01_RatioReads.L0 l s := rfl
theorem law01_RatioReads.ok {tabs : List (Nat × Go.Obj)} (ht : TabsOk tabs) : FOK Go.Proofs.Tryd.prog tabs 9 (FE.of [true, true] false law01_RatioReads.sh law01_RatioReads.osh law01_RatioReads.F) := by
  refine fn_keeps (E := (law01_RatioReads.E law01_awake.F keep_New.F keep_Src_Ratio.F ratio_Format.F ratio_Parse.F ratio_Valid.F law01_RatioReads.L0)) (c := law01_RatioReads.c) (fn := Go.Proofs.Tryd.f9) (hs := law01_RatioReads.hs) (by kernel_rfl) Go.Proofs.Tryd.func9 ⟨by kernel_rfl, by kernel_rfl, tb, by kernel_rfl, by kernel_rfl, by kernel_rfl, by kernel_rfl, by kernel_rfl⟩ ⟨fun g ks fe h => ?_, gt_ok ht⟩ ?_ (fun x => law01_RatioReads.eq law01_awake.F keep_New.F keep_Src_Ratio.F ratio_Format.F ratio_Parse.F ratio_Valid.F law01_RatioReads.L0 x)
  · rcases c_cons h with ⟨rfl, rfl⟩ | h
    · exact law01_awake.ok ht
    rcases c_cons h with ⟨rfl, rfl⟩ | h
    · exact keep_New.ok ht
    rcases c_cons h with ⟨rfl, rfl⟩ | h
    · exact keep_Src_Ratio.ok ht
    rcases c_cons h with ⟨rfl, rfl⟩ | h
    · exact ratio_Format.ok ht
    rcases c_cons h with ⟨rfl, rfl⟩ | h
    · exact ratio_Parse.ok ht
    rcases c_cons h with ⟨rfl, rfl⟩ | h
    · exact ratio_Valid.ok ht
    cases h
  · refine known_at 1 (by kernel_rfl) fun i hi => ?_
    match i, hi with
    | 0, _ => exact atom_at (id := 0) (live := [1, 5, 6, 7, 8, 9]) (outs := [(0, [4])]) (loop := false) (by kernel_rfl) (cut_ok (E := (law01_RatioReads.E law01_awake.F keep_New.F keep_Src_Ratio.F ratio_Format.F ratio_Parse.F ratio_Valid.F law01_RatioReads.L0)) (sh := law01_RatioReads.s0) (es := law01_RatioReads.x0) rfl (fun L x => law01_RatioReads.eq0 law01_awake.F keep_New.F keep_Src_Ratio.F ratio_Format.F ratio_Parse.F ratio_Valid.F law01_RatioReads.L0 L x))
    | n + 1, h => exact absurd h (by omega)
end Go.Proofs.YtdfdecpplnjdcaaDoor.V
