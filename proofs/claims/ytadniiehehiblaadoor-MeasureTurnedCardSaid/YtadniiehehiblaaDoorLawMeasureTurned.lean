/- The law MeasureTurned of the given program returns true for every input, and leaves what it reads as it was. -/
import Derived.Test.YtadniiehehiblaaDoorRows
import Derived.Test.YtadniiehehiblaaDoorVg5
import Derived.Test.YtadniiehehiblaaDoorPureMeasureTurned
import Derived.Test.YtadniiehehiblaaDoorTie
import Derived.Test.YtadniiehehiblaaDoorCards
import Derived.WalkKit
import Derived.Handed
import Derived.LaidMore
import Derived.LaidLaws
import Derived.LaidHandle
import Derived.Stop.Joined
import Derived.SevenTiedAt
import Derived.ProofKit
import Derived.OpenShut
import Derived.ShutString
import Derived.ChangeOld
import Derived.Below
import Derived.SizedLaws
namespace Go.Proofs.YtadniiehehiblaaDoor.measureTurned
open Go.ChangeShapes Go.WideShapes Go.ChangeAt Go.RowKit
set_option linter.unusedVariables false
theorem own : ownKnob Tryd.prog.godebug = none := by kernel_rfl
theorem laidOut : laidOutB Tryd.prog = true := by kernel_rfl
/-- The heap that the start leaves, the pinned tables laid. -/
noncomputable def laidWorld (os : Os) : World :=
  let w0 := (World.doorLaid Tryd.prog 400 os)
  { w0 with heap := w0.heap }
/-- The heap that the program's start leaves meets the row's condition. -/
theorem door_met (os : Os) (args : Array Value) : laidMetH Tryd.prog Rows.measureTurnedRow.laid ((laidWorld os).forCall (fun _ _ => 0) ⟨#[], args, []⟩).memory :=
  laidMetH_of_parts3 (fuel := 8) (laidMet_of_run' 8 (by kernel_rfl) (by kernel_rfl)) (by kernel_rfl) (by kernel_rfl)
set_option maxRecDepth 100000 in
theorem lifted (os : Os) (started : os.Started) (H : Type) (enc : TypeId × Value → H) :
    ReturnsInHanded {} Tryd.checked os 4 .any (fun w args => (Rows.measureTurnedSpec.pre enc Tryd.prog Tryd.f4 Rows.measureTurnedRow.domain false w args ∧ laidMetH Tryd.prog Rows.measureTurnedRow.laid w) ∧ sizedMet enc Tryd.prog Tryd.f4 (OpenSpec.ofChange Rows.measureTurnedSpec) false w args) (Rows.measureTurnedSpec.post enc Tryd.prog Tryd.f4 false true false false) := by
  refine returnsInHanded_of_change_and (C := Tryd.checked) (X := fun w _ => laidMetH Tryd.prog Rows.measureTurnedRow.laid w) (fun _ _ _ hh h => h.of_heap hh) own started (by kernel_rfl) Tryd.func4
    (ChangeSpec.witness_shaped (enc := enc) (C := Tryd.checked) (os := os) (X := fun w _ => laidMetH Tryd.prog Rows.measureTurnedRow.laid w) false (laidWorld os) #[.slice none 0 0] 8 rfl (World.shaped_of_RefB (by kernel_rfl) (by kernel_rfl)) (by kernel_rfl) (by kernel_rfl) (by kernel_rfl) (door_met os _)) ?_
  intro W base args ds gs before hval0 hW hcnd hsz0 hL _
  have hval : ∀ (j : Nat) t v, Tryd.f4.params[j]? = some t → args[j]? = some v → Value.okWide Tryd.prog W .any base t v := hval0
  have hW' := hW
  obtain ⟨p, q, hA0, hV, rfl, hfz, hnd⟩ := hW
  have hA : DataW.TrodAll enc Tryd.prog W 0 (fun _ => true) true Tryd.f4.params.toList args.toList ds p := hA0
  rw [Tryd.params4] at hA hval
  obtain ⟨x, hx, wx⟩ := Go.VI.args_ok (cs := [(.list (.int .i64))]) (ds := Go.Proofs.YtadniiehehiblaaDoor.V.law17_MeasureTurned.sh.ds) (by kernel_rfl) (fun j t v h1 h2 => hval j t v (by simpa using h1) (by simpa using h2)) hA
  have hL1 : laidMet Tryd.prog Rows.measureTurnedRow.laid W := hL
  obtain ⟨lps, hlv, _⟩ := hL1
  obtain ⟨cs3, tt3, fr3, hh3, hc3⟩ := Go.VI.tabIs_obj (g := 3) (by kernel_rfl) (Go.VI.tabIs_mem (P := Tryd.prog) (name := "internal/strconv.uint64pow10") (k := .u64) (zs := [1, 10, 100, 1000, 10000, 100000, 1000000, 10000000, 100000000, 1000000000, 10000000000, 100000000000, 1000000000000, 10000000000000, 100000000000000, 1000000000000000, 10000000000000000, 100000000000000000, 1000000000000000000, 10000000000000000000]) (g := 3) (t := 126) (e := 93) (n := 20) (by kernel_rfl) (by kernel_rfl) Tryd.underlying126 Tryd.underlying93 (by kernel_rfl) (by kernel_rfl) (List.mem_of_getElem? (i := 2) (by kernel_rfl)) hlv)
  obtain ⟨u1, e1, hv1⟩ := Go.VI.errIs_mem (P := Tryd.prog) (name := "strconv.ErrSyntax") (nm := "*errors.errorString") (d := (.ptr (.agg [.lit (.string [105, 110, 118, 97, 108, 105, 100, 32, 115, 121, 110, 116, 97, 120])]))) (g := 1) (t := 65) (by kernel_rfl) (by kernel_rfl) Tryd.underlying65 (List.mem_of_getElem? (i := 4) (by kernel_rfl)) hlv
  obtain ⟨tt1, fr1, hh1⟩ := Go.VI.errVar_obj (g := 1) (by kernel_rfl) hv1
  obtain ⟨u2, e2, hv2⟩ := Go.VI.errIs_mem (P := Tryd.prog) (name := "strconv.ErrRange") (nm := "*errors.errorString") (d := (.ptr (.agg [.lit (.string [118, 97, 108, 117, 101, 32, 111, 117, 116, 32, 111, 102, 32, 114, 97, 110, 103, 101])]))) (g := 2) (t := 65) (by kernel_rfl) (by kernel_rfl) Tryd.underlying65 (List.mem_of_getElem? (i := 3) (by kernel_rfl)) hlv
  obtain ⟨tt2, fr2, hh2⟩ := Go.VI.errVar_obj (g := 2) (by kernel_rfl) hv2
  obtain ⟨v0, vs0, d0, ds0, p0, q0, hargs, rfl, rfl, h0, r0⟩ := trodAll_cons hA
  obtain ⟨rfl, rfl, rfl⟩ := trodAll_nil r0
  obtain rfl : args = #[v0] := by cases args; simp_all
  obtain ⟨rfl, rfl⟩ := trodVars_none hV
  have lt0 : ∀ x ∈ p0, x.block < W.heap.size := by obtain ⟨m, hm⟩ := h0; exact DataW.trod_lt m _ _ _ hm
  clear hA0 hval0 hsz0
  refine (Go.VI.walk_of (Go.Proofs.YtadniiehehiblaaDoor.V.law17_MeasureTurned.ok (tabs := [(3, .cells cs3 tt3 fr3), (1, .cells #[.iface u1 e1] tt1 fr1), (2, .cells #[.iface u2 e2] tt2 fr2)]) ⟨(Go.VI.TabHas.head hc3), (Go.VI.ErrHas.more _ Go.VI.ErrHas.head), (Go.VI.ErrHas.more _ (Go.VI.ErrHas.more _ Go.VI.ErrHas.head)), trivial⟩) rfl (x := (x, ())) (y := ((true, ()), ())) (Go.Proofs.YtadniiehehiblaaDoor.V.MeasureTurned_true (x, ()) wx) (b := true) (obs := []) rfl (w := W) (fun p h => by simp at h; rcases h with rfl | rfl | rfl; all_goals assumption) hx).mono fun e W' ⟨he, bel⟩ => ?_
  subst he
  exact ⟨_, rfl, _, _, _, [], _, [], hW', trodAll_mk1 (shut_bool Tryd.underlying4 _), (trodAll_cons_mk (Below.trod laidOut (by kernel_rfl) (of_decide_eq_true (by kernel_rfl)) h0 bel lt0) trodAll_mk0), rfl, bel.frame _, fun h => by cases h⟩
theorem over : Rows.measureTurnedRow.holds Tryd.pinned (OpenSpec.ofChange Rows.measureTurnedSpec) :=
  OpenClaim.holds_of_wide 4 Tryd.f4 rfl rfl rfl rfl rfl rfl rfl ⟨rfl, rfl, rfl, rfl, rfl⟩ rfl rfl rfl rfl rfl (by kernel_rfl) Tryd.func4 (by kernel_rfl)
    (of_decide_eq_true (by kernel_rfl)) (by unfold Func.isWrapper; first | (rw [if_pos (by decide +kernel)]; kernel_rfl) | (rw [if_neg (by decide +kernel)]; exact ⟨rfl, rfl⟩))
    (fun os started H enc _ => lifted os started H enc)
theorem carded : Rows.MeasureTurnedCardSaid :=
  Claim7.holds_tied_plain_at .later [] [.data, .data, .data, .sentinel, .sentinel] true (true, "183a3a5865d75809e2c5a13885ceb96a546609caddf2a2eb057984173600dd4b") true
    over (fun _ h => by cases h) (by kernel_rfl) (fun _ h => by cases h) measureTurned_row_tie rfl ⟨rfl, rfl⟩ (by kernel_rfl) rfl
    (fun f fn hf hfn => by
      obtain rfl : f = 4 := Option.some.inj ((show Tryd.prog.funcNamed "shapesearch/shapesearchlaw17.MeasureTurned" = some 4 by kernel_rfl).symm.trans hf) |>.symm
      obtain rfl : fn = Tryd.f4 := (Option.some.inj (Tryd.func4.symm.trans hfn)).symm
      exact ⟨by kernel_rfl, fun j t ht => by
        rw [Tryd.params4] at ht
        have hm : t ∈ [22] := by simpa using Array.mem_of_getElem? ht
        have hall : ([22].all fun u => !Tryd.prog.wantsStandIn u) = true := by kernel_rfl
        exact (show Tryd.prog.wantsStandIn t = false by simpa using List.all_eq_true.1 hall t hm)⟩)
    (by kernel_rfl)
#print axioms carded
end Go.Proofs.YtadniiehehiblaaDoor.measureTurned
namespace Go.Proofs.YtadniiehehiblaaDoor
/-- The row, under a short name, for the claim. -/
theorem measureTurned_holds : Rows.MeasureTurnedCardSaid := measureTurned.carded
end Go.Proofs.YtadniiehehiblaaDoor
