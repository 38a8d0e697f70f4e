/- The law UnitAnswers of the given program returns true for every input, and leaves what it reads as it was. -/
import Derived.Test.YthbphpmiandmbaaDoorRows
import Derived.Test.YthbphpmiandmbaaDoorVg4
import Derived.Test.YthbphpmiandmbaaDoorPureUnitAnswers
import Derived.Test.YthbphpmiandmbaaDoorTie
import Derived.Test.YthbphpmiandmbaaDoorCards
import Derived.WalkKit
import Derived.Handed
import Derived.LaidMore
import Derived.LaidLaws
import Derived.LaidHandle
import Derived.Stop.Joined
import Derived.SevenTiedAt
import Derived.ProofKit
import Derived.OpenShut
import Derived.ShutString
import Derived.ChangeOld
import Derived.Below
import Derived.SizedLaws
namespace Go.Proofs.YthbphpmiandmbaaDoor.unitAnswers
open Go.ChangeShapes Go.WideShapes Go.ChangeAt Go.RowKit
set_option linter.unusedVariables false
theorem own : ownKnob Tryd.prog.godebug = none := by kernel_rfl
theorem laidOut : laidOutB Tryd.prog = true := by kernel_rfl
/-- The heap that the start leaves, the pinned tables laid. -/
noncomputable def laidWorld (os : Os) : World :=
  let w0 := (World.doorLaid Tryd.prog 400 os)
  { w0 with heap := ((w0.heap).modify ((Tryd.prog.globalNamed "unicode/utf8.first").getD 0) fun | .cells _ t frozen => .cells (Go.Pinned.utf8FirstZ.map fun (z : Nat) => Value.int .u8 (z : Int)).toArray t frozen | o => o) }
/-- The heap that the program's start leaves meets the row's condition. -/
theorem door_met (os : Os) (args : Array Value) : laidMetH Tryd.prog Rows.unitAnswersRow.laid ((laidWorld os).forCall (fun _ _ => 0) ⟨#[], args, []⟩).memory :=
  laidMetH_of_parts3 (fuel := 8) (laidMet_of_run' 8 (by kernel_rfl) (by kernel_rfl)) (by kernel_rfl) (by kernel_rfl)
set_option maxRecDepth 100000 in
theorem lifted (os : Os) (started : os.Started) (H : Type) (enc : TypeId × Value → H) :
    ReturnsInHanded {} Tryd.checked os 6 .any (fun w args => (Rows.unitAnswersSpec.pre enc Tryd.prog Tryd.f6 Rows.unitAnswersRow.domain false w args ∧ laidMetH Tryd.prog Rows.unitAnswersRow.laid w) ∧ sizedMet enc Tryd.prog Tryd.f6 (OpenSpec.ofChange Rows.unitAnswersSpec) false w args) (Rows.unitAnswersSpec.post enc Tryd.prog Tryd.f6 false true false false) := by
  refine returnsInHanded_of_change_and (C := Tryd.checked) (X := fun w _ => laidMetH Tryd.prog Rows.unitAnswersRow.laid w) (fun _ _ _ hh h => h.of_heap hh) own started (by kernel_rfl) Tryd.func6
    (ChangeSpec.witness_shaped (enc := enc) (C := Tryd.checked) (os := os) (X := fun w _ => laidMetH Tryd.prog Rows.unitAnswersRow.laid w) false (laidWorld os) #[.string ⟨#[]⟩, .agg #[.int .i64 0, .int .i64 0], .agg #[.string ⟨#[]⟩, .int .i64 0, .int .i64 0, .int .i64 0], .slice none 0 0] 8 rfl (World.shaped_of_RefB (by kernel_rfl) (by kernel_rfl)) (by kernel_rfl) (by kernel_rfl) (by kernel_rfl) (door_met os _)) ?_
  intro W base args ds gs before hval0 hW hcnd hsz0 hL _
  have hval : ∀ (j : Nat) t v, Tryd.f6.params[j]? = some t → args[j]? = some v → Value.okWide Tryd.prog W .any base t v := hval0
  have hW' := hW
  obtain ⟨p, q, hA0, hV, rfl, hfz, hnd⟩ := hW
  have hA : DataW.TrodAll enc Tryd.prog W 0 (fun _ => true) true Tryd.f6.params.toList args.toList ds p := hA0
  rw [Tryd.params6] at hA hval
  obtain ⟨x, hx, wx⟩ := Go.VI.args_ok (cs := [.str, (.pair (.int .i64) (.int .i64)), (.pair .str (.pair (.int .i64) (.pair (.int .i64) (.int .i64)))), (.list (.int .i64))]) (ds := Go.Proofs.YthbphpmiandmbaaDoor.V.law04_UnitAnswers.sh.ds) (by kernel_rfl) (fun j t v h1 h2 => hval j t v (by simpa using h1) (by simpa using h2)) hA
  have hL1 : laidMet Tryd.prog Rows.unitAnswersRow.laid W := hL
  obtain ⟨lps, hlv, _⟩ := hL1
  obtain ⟨cs4, tt4, fr4, hh4, hc4⟩ := Go.VI.tabIs_obj (g := 4) (by kernel_rfl) (Go.VI.tabIs_mem (P := Tryd.prog) (name := "internal/strconv.uint64pow10") (k := .u64) (zs := [1, 10, 100, 1000, 10000, 100000, 1000000, 10000000, 100000000, 1000000000, 10000000000, 100000000000, 1000000000000, 10000000000000, 100000000000000, 1000000000000000, 10000000000000000, 100000000000000000, 1000000000000000000, 10000000000000000000]) (g := 4) (t := 119) (e := 98) (n := 20) (by kernel_rfl) (by kernel_rfl) Tryd.underlying119 Tryd.underlying98 (by kernel_rfl) (by kernel_rfl) (List.mem_of_getElem? (i := 2) (by kernel_rfl)) hlv)
  obtain ⟨cs0, tt0, fr0, hh0, hc0⟩ := Go.VI.tabIs_obj (g := 0) (by kernel_rfl) (Go.VI.tabIs_mem (P := Tryd.prog) (name := "shapesearch/unit.powers") (k := .i64) (zs := [1, 10, 100, 1000, 10000, 100000, 1000000]) (g := 0) (t := 49) (e := 3) (n := 7) (by kernel_rfl) (by kernel_rfl) Tryd.underlying49 Tryd.underlying3 (by kernel_rfl) (by kernel_rfl) (List.mem_of_getElem? (i := 4) (by kernel_rfl)) hlv)
  obtain ⟨v0, vs0, d0, ds0, p0, q0, hargs, rfl, rfl, h0, r0⟩ := trodAll_cons hA
  obtain ⟨v1, vs1, d1, ds1, p1, q1, rfl, rfl, rfl, h1, r1⟩ := trodAll_cons r0
  obtain ⟨v2, vs2, d2, ds2, p2, q2, rfl, rfl, rfl, h2, r2⟩ := trodAll_cons r1
  obtain ⟨v3, vs3, d3, ds3, p3, q3, rfl, rfl, rfl, h3, r3⟩ := trodAll_cons r2
  obtain ⟨rfl, rfl, rfl⟩ := trodAll_nil r3
  obtain rfl : args = #[v0, v1, v2, v3] := by cases args; simp_all
  obtain ⟨rfl, rfl⟩ := trodVars_none hV
  have lt0 : ∀ x ∈ p0, x.block < W.heap.size := by obtain ⟨m, hm⟩ := h0; exact DataW.trod_lt m _ _ _ hm
  have lt1 : ∀ x ∈ p1, x.block < W.heap.size := by obtain ⟨m, hm⟩ := h1; exact DataW.trod_lt m _ _ _ hm
  have lt2 : ∀ x ∈ p2, x.block < W.heap.size := by obtain ⟨m, hm⟩ := h2; exact DataW.trod_lt m _ _ _ hm
  have lt3 : ∀ x ∈ p3, x.block < W.heap.size := by obtain ⟨m, hm⟩ := h3; exact DataW.trod_lt m _ _ _ hm
  clear hA0 hval0 hsz0
  refine (Go.VI.walk_of (Go.Proofs.YthbphpmiandmbaaDoor.V.law04_UnitAnswers.ok (tabs := [(0, .cells cs0 tt0 fr0), (4, .cells cs4 tt4 fr4)]) ⟨(Go.VI.TabHas.head hc0), (Go.VI.TabHas.more _ (Go.VI.TabHas.head hc4)), trivial⟩) rfl (x := (x, ())) (y := ((true, ()), ())) (Go.Proofs.YthbphpmiandmbaaDoor.V.UnitAnswers_true (x, ()) wx) (b := true) (obs := []) rfl (w := W) (fun p h => by simp at h; rcases h with rfl | rfl; all_goals assumption) hx).mono fun e W' ⟨he, bel⟩ => ?_
  subst he
  exact ⟨_, rfl, _, _, _, [], _, [], hW', trodAll_mk1 (shut_bool Tryd.underlying4 _), (trodAll_cons_mk (Below.trod laidOut (by kernel_rfl) (of_decide_eq_true (by kernel_rfl)) h0 bel lt0) (trodAll_cons_mk (Below.trod laidOut (by kernel_rfl) (of_decide_eq_true (by kernel_rfl)) h1 bel lt1) (trodAll_cons_mk (Below.trod laidOut (by kernel_rfl) (of_decide_eq_true (by kernel_rfl)) h2 bel lt2) (trodAll_cons_mk (Below.trod laidOut (by kernel_rfl) (of_decide_eq_true (by kernel_rfl)) h3 bel lt3) trodAll_mk0)))), rfl, bel.frame _, fun h => by cases h⟩
theorem over : Rows.unitAnswersRow.holds Tryd.pinned (OpenSpec.ofChange Rows.unitAnswersSpec) :=
  OpenClaim.holds_of_wide 6 Tryd.f6 rfl rfl rfl rfl rfl rfl rfl ⟨rfl, rfl, rfl, rfl, rfl⟩ rfl rfl rfl rfl rfl (by kernel_rfl) Tryd.func6 (by kernel_rfl)
    (of_decide_eq_true (by kernel_rfl)) (by unfold Func.isWrapper; first | (rw [if_pos (by decide +kernel)]; kernel_rfl) | (rw [if_neg (by decide +kernel)]; exact ⟨rfl, rfl⟩))
    (fun os started H enc _ => lifted os started H enc)
theorem carded : Rows.UnitAnswersCardSaid :=
  Claim7.holds_tied_plain_at .later [] [.data, .data, .data, .data, .data, .pinned] true (true, "02f71a9b9c53ccab271c5de487d1e8e2922e9234aeaec69eb6c84e4e36e9d1c9") false
    over (fun _ h => by cases h) (by kernel_rfl) (fun _ h => by cases h) unitAnswers_row_tie rfl ⟨rfl, rfl⟩ (by kernel_rfl) rfl
    (fun f fn hf hfn => by
      obtain rfl : f = 6 := Option.some.inj ((show Tryd.prog.funcNamed "shapesearch/shapesearchlaw04.UnitAnswers" = some 6 by kernel_rfl).symm.trans hf) |>.symm
      obtain rfl : fn = Tryd.f6 := (Option.some.inj (Tryd.func6.symm.trans hfn)).symm
      exact ⟨by kernel_rfl, fun j t ht => by
        rw [Tryd.params6] at ht
        have hm : t ∈ [9, 29, 24, 32] := by simpa using Array.mem_of_getElem? ht
        have hall : ([9, 29, 24, 32].all fun u => !Tryd.prog.wantsStandIn u) = true := by kernel_rfl
        exact (show Tryd.prog.wantsStandIn t = false by simpa using List.all_eq_true.1 hall t hm)⟩)
    (by kernel_rfl)
#print axioms carded
end Go.Proofs.YthbphpmiandmbaaDoor.unitAnswers
namespace Go.Proofs.YthbphpmiandmbaaDoor
/-- The row, under a short name, for the claim. -/
theorem unitAnswers_holds : Rows.UnitAnswersCardSaid := unitAnswers.carded
end Go.Proofs.YthbphpmiandmbaaDoor
