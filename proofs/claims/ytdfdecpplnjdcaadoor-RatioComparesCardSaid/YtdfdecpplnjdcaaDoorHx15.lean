-- Written by wip/tools/hprint.py of this session, over the kit's print with hand-made contracts; Lean checks it.
import Derived.Test.YtdfdecpplnjdcaaDoorHx0
import Derived.Test.YtdfdecpplnjdcaaDoorHx1
import Derived.Test.YtdfdecpplnjdcaaDoorHx3
import Derived.Test.YtdfdecpplnjdcaaDoorHx8
import Derived.Test.YtdfdecpplnjdcaaDoorHx13
namespace Go.Proofs.YtdfdecpplnjdcaaDoor.Hp
open Go.RowKit Go.Proofs.YtdfdecpplnjdcaaDoorW.PrintWords Go.Proofs.YtdfdecpplnjdcaaDoorW.PrintLast Go.Proofs.YtdfdecpplnjdcaaDoorW.PrintMore
attribute [local go_sem] max2_int min2_int max_two min_two max_three min_three max_four min_four   -- for this text's walks alone
attribute [local go_sem] i64_w
set_option linter.unusedVariables false
set_option linter.unusedSimpArgs false

attribute [local go_sem high] eqA24
/-! ### shapesearchlaw01_RatioCompares: function 5 -/
def shapesearchlaw01_RatioCompares.j0 : Nat → Int → Int → Int → Int → Bool → Int → Int → Int → Int → Option (Bool)
  | 0, _, _, _, _, _, _, _, _, _ => none
  | k + 1, x0, x2, x13, x14, x56, x213000, x213001, x217000, x217001 => if x56 = true then (none) else (if x0 < 2147483648 then (if x2 < 2147483648 then ((ratio_Less.f k x213000 x213001 x217000 x217001).bind fun t217 => (if (t217 != (decide (x13 < x14))) = true then (none) else (if ((x213000 == x217000 && (x213001 == x217001)) != (x13 == x14)) = true then (none) else ((shapesearchlaw01_awake.f k).bind fun t218 => (some t218))))) else ((shapesearchlaw01_awake.f k).bind fun t219 => (some t219))) else ((shapesearchlaw01_awake.f k).bind fun t220 => (some t220)))
def shapesearchlaw01_RatioCompares.f (k : Nat) (a0 : Int) (a1 : Int) (a2 : Int) (a3 : Int) : Option (Bool) := (ratio_Make.f k (wrap64 (a0)) (wrap64 (1 + (Int.tmod (wrap64 (a1)) 1073741824)))).bind fun bt209 => ((ratio_Make.f k (wrap64 (a2)) (wrap64 (1 + (Int.tmod (wrap64 (a3)) 1073741824)))).bind fun bt213 => (if bt209.2.2 = 0 then (shapesearchlaw01_RatioCompares.j0 k a0 a2 (wrap64 ((Int.tmod (wrap64 (a0)) 2147483648) * (wrap64 (1 + (Int.tmod (wrap64 (a3)) 1073741824))))) (wrap64 ((Int.tmod (wrap64 (a2)) 2147483648) * (wrap64 (1 + (Int.tmod (wrap64 (a1)) 1073741824))))) (bt213.2.2 != 0) bt209.1 bt209.2.1 bt213.1 bt213.2.1) else (shapesearchlaw01_RatioCompares.j0 k a0 a2 (wrap64 ((Int.tmod (wrap64 (a0)) 2147483648) * (wrap64 (1 + (Int.tmod (wrap64 (a3)) 1073741824))))) (wrap64 ((Int.tmod (wrap64 (a2)) 2147483648) * (wrap64 (1 + (Int.tmod (wrap64 (a1)) 1073741824))))) true bt209.1 bt209.2.1 bt213.1 bt213.2.1)))
theorem shapesearchlaw01_RatioCompares.mono_l : ∀ k, (∀ y0 y1 y2 y3 y4 y5 y6 y7 y8, LeO (shapesearchlaw01_RatioCompares.j0 k y0 y1 y2 y3 y4 y5 y6 y7 y8) (shapesearchlaw01_RatioCompares.j0 (k + 1) y0 y1 y2 y3 y4 y5 y6 y7 y8))
  | 0 => fun _ _ _ _ _ _ _ _ _ r h => by simp [shapesearchlaw01_RatioCompares.j0] at h
  | k + 1 => by
    have ih0 := shapesearchlaw01_RatioCompares.mono_l k
    · intro y0 y1 y2 y3 y4 y5 y6 y7 y8
      unfold shapesearchlaw01_RatioCompares.j0
      repeat' first
      | (with_reducible exact ih0 _ _ _ _ _ _ _ _ _)
      | (with_reducible exact ratio_Less.mono _ _ _ _ _)
      | (with_reducible exact ratio_Make.mono _ _ _)
      | (with_reducible exact shapesearchlaw01_awake.mono _)
      | (with_reducible exact LeO.refl _)
      | (with_reducible exact LeO.none _)
      | (with_reducible refine LeO.ite ?_ ?_)
      | (with_reducible refine LeO.bind ?_ (fun _ => ?_))
      | exact ih0 _ _ _ _ _ _ _ _ _
      | exact ratio_Less.mono _ _ _ _ _
      | exact ratio_Make.mono _ _ _
      | exact shapesearchlaw01_awake.mono _
      | exact LeO.none _
      | refine LeO.ite ?_ ?_
      | refine LeO.bind ?_ (fun _ => ?_)
theorem shapesearchlaw01_RatioCompares.mono : ∀ a0 a1 a2 a3 k, LeO (shapesearchlaw01_RatioCompares.f k a0 a1 a2 a3) (shapesearchlaw01_RatioCompares.f (k + 1) a0 a1 a2 a3) := by
  intro a0 a1 a2 a3 k
  have ih0 := shapesearchlaw01_RatioCompares.mono_l k
  unfold shapesearchlaw01_RatioCompares.f
  repeat' first
      | (with_reducible exact ih0 _ _ _ _ _ _ _ _ _)
      | (with_reducible exact ratio_Less.mono _ _ _ _ _)
      | (with_reducible exact ratio_Make.mono _ _ _)
      | (with_reducible exact shapesearchlaw01_awake.mono _)
      | (with_reducible exact LeO.refl _)
      | (with_reducible exact LeO.none _)
      | (with_reducible refine LeO.ite ?_ ?_)
      | (with_reducible refine LeO.bind ?_ (fun _ => ?_))
      | exact ih0 _ _ _ _ _ _ _ _ _
      | exact ratio_Less.mono _ _ _ _ _
      | exact ratio_Make.mono _ _ _
      | exact shapesearchlaw01_awake.mono _
      | exact LeO.none _
      | refine LeO.ite ?_ ?_
      | refine LeO.bind ?_ (fun _ => ?_)
set_option maxHeartbeats 8000000 in
set_option maxRecDepth 100000 in
theorem shapesearchlaw01_RatioCompares.calls (k : Nat) (a0 : Int) (a1 : Int) (a2 : Int) (a3 : Int) (r : Bool) (w : World) (h : shapesearchlaw01_RatioCompares.f k a0 a1 a2 a3 = some r) :
    Calls Tryd.prog 5 #[.int .u32 a0, .int .u32 a1, .int .u32 a2, .int .u32 a3] w fun e w' => e = .returned (.bool r) ∧ Below w.heap.size w w' := by
  have hu24 := Tryd.underlying24
  have HB := Aside0.mk (Below.refl w.heap.size w)
  have H : ((ratio_Make.f k (wrap64 (a0)) (wrap64 (1 + (Int.tmod (wrap64 (a1)) 1073741824)))).bind fun bt209 => ((ratio_Make.f k (wrap64 (a2)) (wrap64 (1 + (Int.tmod (wrap64 (a3)) 1073741824)))).bind fun bt213 => (if bt209.2.2 = 0 then (shapesearchlaw01_RatioCompares.j0 k a0 a2 (wrap64 ((Int.tmod (wrap64 (a0)) 2147483648) * (wrap64 (1 + (Int.tmod (wrap64 (a3)) 1073741824))))) (wrap64 ((Int.tmod (wrap64 (a2)) 2147483648) * (wrap64 (1 + (Int.tmod (wrap64 (a1)) 1073741824))))) (bt213.2.2 != 0) bt209.1 bt209.2.1 bt213.1 bt213.2.1) else (shapesearchlaw01_RatioCompares.j0 k a0 a2 (wrap64 ((Int.tmod (wrap64 (a0)) 2147483648) * (wrap64 (1 + (Int.tmod (wrap64 (a3)) 1073741824))))) (wrap64 ((Int.tmod (wrap64 (a2)) 2147483648) * (wrap64 (1 + (Int.tmod (wrap64 (a1)) 1073741824))))) true bt209.1 bt209.2.1 bt213.1 bt213.2.1)))) = some r := h
  clear h
  replace H := Option.bind_eq_some_iff.mp H
  obtain ⟨⟨t209, t210, t211⟩, A50, H⟩ := H
  replace H : ((ratio_Make.f k (wrap64 (a2)) (wrap64 (1 + (Int.tmod (wrap64 (a3)) 1073741824)))).bind fun bt213 => (if t211 = 0 then (shapesearchlaw01_RatioCompares.j0 k a0 a2 (wrap64 ((Int.tmod (wrap64 (a0)) 2147483648) * (wrap64 (1 + (Int.tmod (wrap64 (a3)) 1073741824))))) (wrap64 ((Int.tmod (wrap64 (a2)) 2147483648) * (wrap64 (1 + (Int.tmod (wrap64 (a1)) 1073741824))))) (bt213.2.2 != 0) t209 t210 bt213.1 bt213.2.1) else (shapesearchlaw01_RatioCompares.j0 k a0 a2 (wrap64 ((Int.tmod (wrap64 (a0)) 2147483648) * (wrap64 (1 + (Int.tmod (wrap64 (a3)) 1073741824))))) (wrap64 ((Int.tmod (wrap64 (a2)) 2147483648) * (wrap64 (1 + (Int.tmod (wrap64 (a1)) 1073741824))))) true t209 t210 bt213.1 bt213.2.1))) = some r := H
  have A5 := Aside0.mk A50
  clear A50
  replace H := Option.bind_eq_some_iff.mp H
  obtain ⟨⟨t213, t214, t215⟩, A60, H⟩ := H
  replace H : (if t211 = 0 then (shapesearchlaw01_RatioCompares.j0 k a0 a2 (wrap64 ((Int.tmod (wrap64 (a0)) 2147483648) * (wrap64 (1 + (Int.tmod (wrap64 (a3)) 1073741824))))) (wrap64 ((Int.tmod (wrap64 (a2)) 2147483648) * (wrap64 (1 + (Int.tmod (wrap64 (a1)) 1073741824))))) (t215 != 0) t209 t210 t213 t214) else (shapesearchlaw01_RatioCompares.j0 k a0 a2 (wrap64 ((Int.tmod (wrap64 (a0)) 2147483648) * (wrap64 (1 + (Int.tmod (wrap64 (a3)) 1073741824))))) (wrap64 ((Int.tmod (wrap64 (a2)) 2147483648) * (wrap64 (1 + (Int.tmod (wrap64 (a1)) 1073741824))))) true t209 t210 t213 t214)) = some r := H
  have A6 := Aside0.mk A60
  clear A60
  have HC7 := Aside0.mk H
  clear H
  go_enter Tryd.func5, Tryd.ntmps5
  go_upto_region 4 with (first | ((with_reducible refine gate_callee (f := 11) rfl ?_); refine goesL_ (some 22) rfl rfl Tryd.func11 (by kernel_rfl) rfl #[.int .i64 (wrap64 (a0)), .int .i64 (wrap64 (1 + (Int.tmod (wrap64 (a1)) 1073741824)))] rfl (by (try simp only [List.map_toArray, List.map_cons, List.map_nil]); first | done | rfl | (simp only [List.length_drop, List.length_take]; rfl)) ?_; (with_reducible refine (ratio_Make.calls k (wrap64 (a0)) (wrap64 (1 + (Int.tmod (wrap64 (a1)) 1073741824))) t209 t210 t211 _ A5.out).mono ?_); rintro e w8 ⟨rfl, hb⟩; refine ⟨_, rfl, ?_⟩; have n0_ := Aside0.mk (below_step (by repeat (first | (with_reducible first | exact HB.out | apply below_alloc | apply pw_below_drewN | apply below_drew1) | exact HB.out)) hb); clear HB; have HB := n0_; clear n0_; (try clear hb); (try clear hb2); (try clear hk); (try clear hi)) | ((with_reducible refine gate_dst (N := 9) rfl ?_); refine box_event ?hg (N := 9) ?hd (cs := #[.int .i64 0, .int .i64 0]) (t := 24) ?hr ?_; (case hd => rfl); (case hg => rfl); (case hr => first | (go_simp; done) | (go_simp; rfl)); intro gb212 hg w9 hbox hb; have n0_ := Aside0.mk (below_step (by repeat (first | (with_reducible first | exact HB.out | apply below_alloc | apply pw_below_drewN | apply below_drew1) | exact HB.out)) hb); have n1_ := Aside0.mk (hbox); have n2_ := Aside0.mk ((by rw [hg]; exact (below_size (by repeat (first | (with_reducible first | exact HB.out | apply below_alloc | apply pw_below_drewN | apply below_drew1) | exact HB.out))) : w.heap.size ≤ gb212)); have n3_ := Aside0.mk ((by rw [hg]; exact (below_size (by repeat (first | (with_reducible first | exact HB.out | apply below_alloc | apply pw_below_drewN | apply below_drew1) | exact HB.out))) : w.heap.size ≤ gb212)); clear HB; have HB := n0_; have BK212 := n1_; have GW212 := n2_; have GE212 := n3_; clear n0_ n1_ n2_ n3_; clear hb hbox hg; have hcz10_0 : w9.cell? ⟨gb212, 0, none⟩ = some (.int .i64 0) := (blk_cell BK212.out 0).trans rfl; have hcz10_1 : w9.cell? ⟨gb212, 1, none⟩ = some (.int .i64 0) := (blk_cell BK212.out 1).trans rfl; have hfz10_0 := blk_frozen BK212.out 0; have hfz10_1 := blk_frozen BK212.out 1) | ((with_reducible refine gate_callee (f := 11) rfl ?_); refine goesL_ (some 32) rfl rfl Tryd.func11 (by kernel_rfl) rfl #[.int .i64 (wrap64 (a2)), .int .i64 (wrap64 (1 + (Int.tmod (wrap64 (a3)) 1073741824)))] rfl (by (try simp only [List.map_toArray, List.map_cons, List.map_nil]); first | done | rfl | (simp only [List.length_drop, List.length_take]; rfl)) ?_; (with_reducible refine (ratio_Make.calls k (wrap64 (a2)) (wrap64 (1 + (Int.tmod (wrap64 (a3)) 1073741824))) t213 t214 t215 _ A6.out).mono ?_); rintro e w11 ⟨rfl, hb⟩; refine ⟨_, rfl, ?_⟩; have n0_ := Aside0.mk (blk_below (g := gb212) (o := .cells #[.int .i64 t209, .int .i64 t210] 24 (0, 0)) (by (with_reducible repeat (first | refine blk_drewN ?_ _ | refine blk_drew ?_ | refine blk_alloc ?_ _)); refine blk_put (cs := #[.int .i64 t209, .int .i64 0]) ?_ 1 _ rfl; (with_reducible repeat (first | refine blk_drewN ?_ _ | refine blk_drew ?_ | refine blk_alloc ?_ _)); refine blk_put (cs := #[.int .i64 0, .int .i64 0]) ?_ 0 _ rfl; (with_reducible repeat (first | refine blk_drewN ?_ _ | refine blk_drew ?_ | refine blk_alloc ?_ _)); exact BK212.out) hb); have n1_ := Aside0.mk (below_step (by repeat (first | (with_reducible first | exact HB.out | apply below_alloc | apply pw_below_drewN | apply below_drew1 | refine below_set ?_ GE212.out) | exact HB.out)) hb); clear BK212; clear HB; have BK212 := n0_; have HB := n1_; clear n0_ n1_; (try clear hb); (try clear hb2); (try clear hk); (try clear hi)) | ((with_reducible refine gate_dst (N := 11) rfl ?_); refine box_event ?hg (N := 11) ?hd (cs := #[.int .i64 0, .int .i64 0]) (t := 24) ?hr ?_; (case hd => rfl); (case hg => rfl); (case hr => first | (go_simp; done) | (go_simp; rfl)); intro gb216 hg w12 hbox hb; have n0_ := Aside0.mk (blk_below (g := gb212) (o := .cells #[.int .i64 t209, .int .i64 t210] 24 (0, 0)) (by (with_reducible repeat (first | refine blk_drewN ?_ _ | refine blk_drew ?_ | refine blk_alloc ?_ _)); exact BK212.out) hb); have n1_ := Aside0.mk (below_step (by repeat (first | (with_reducible first | exact HB.out | apply below_alloc | apply pw_below_drewN | apply below_drew1 | refine below_set ?_ GE212.out) | exact HB.out)) hb); have n2_ := Aside0.mk (hbox); have n3_ := Aside0.mk ((by rw [hg]; exact (below_size (by repeat (first | (with_reducible first | exact HB.out | apply below_alloc | apply pw_below_drewN | apply below_drew1 | refine below_set ?_ GE212.out) | exact HB.out))) : w.heap.size ≤ gb216)); have n4_ := Aside0.mk ((by rw [hg]; exact (below_size (by repeat (first | (with_reducible first | exact HB.out | apply below_alloc | apply pw_below_drewN | apply below_drew1 | refine below_set ?_ GE212.out) | exact HB.out))) : w.heap.size ≤ gb216)); have n5_ := Aside0.mk ((by rw [hg]; exact Nat.ne_of_lt (blk_lt (g := gb212) (o := .cells #[.int .i64 t209, .int .i64 t210] 24 (0, 0)) (by (with_reducible repeat (first | refine blk_drewN ?_ _ | refine blk_drew ?_ | refine blk_alloc ?_ _)); exact BK212.out)) : gb212 ≠ gb216)); have n6_ := Aside0.mk ((by rw [hg]; exact Nat.ne_of_gt (blk_lt (g := gb212) (o := .cells #[.int .i64 t209, .int .i64 t210] 24 (0, 0)) (by (with_reducible repeat (first | refine blk_drewN ?_ _ | refine blk_drew ?_ | refine blk_alloc ?_ _)); exact BK212.out)) : gb216 ≠ gb212)); clear BK212; clear HB; have BK212 := n0_; have HB := n1_; have BK216 := n2_; have GW216 := n3_; have GE216 := n4_; have NB212_216 := n5_; have NB216_212 := n6_; clear n0_ n1_ n2_ n3_ n4_ n5_ n6_; clear hb hbox hg; have hnb13 := NB216_212.out; have hnc13 := NB212_216.out; have hcz14_0 : w12.cell? ⟨gb216, 0, none⟩ = some (.int .i64 0) := (blk_cell BK216.out 0).trans rfl; have hcz14_1 : w12.cell? ⟨gb216, 1, none⟩ = some (.int .i64 0) := (blk_cell BK216.out 1).trans rfl; have hfz14_0 := blk_frozen BK216.out 0; have hfz14_1 := blk_frozen BK216.out 1))
  (try simp only [Act.put, List.setIfInBounds_toArray, List.set_cons_zero, List.set_cons_succ])
  go_cut [56] (fun v56 wc => ∃ (kq : Nat) (x56_6 : Bool), v56 = .bool x56_6 ∧ Aside0 (shapesearchlaw01_RatioCompares.j0 kq a0 a2 (wrap64 ((Int.tmod (wrap64 (a0)) 2147483648) * (wrap64 (1 + (Int.tmod (wrap64 (a3)) 1073741824))))) (wrap64 ((Int.tmod (wrap64 (a2)) 2147483648) * (wrap64 (1 + (Int.tmod (wrap64 (a1)) 1073741824))))) x56_6 t209 t210 t213 t214 = some r) ∧ Aside0 (kq ≤ k) ∧ Aside0 (wc.heap[gb212]? = some (.cells #[.int .i64 t209, .int .i64 t210] 24 (0, 0))) ∧ Aside0 (wc.heap[gb216]? = some (.cells #[.int .i64 t213, .int .i64 t214] 24 (0, 0))) ∧ Aside0 (Below w.heap.size w wc))
  case first =>
    have H := HC7.out
    clear HC7
    by_cases c15 : t211 = 0
    · rw [if_pos c15] at H
      have c15b0 : (t211 == 0) = true := beq_iff_eq.mpr c15
      have c15b1 : (t211 != 0) = false := bne_eq_false_iff_eq.mpr c15
      clear c15
      (first | rw [c15b0] | (simp only [i64_w, i32_w]; rw [c15b0]) | rw [c15b1] | skip)
      have H' := Aside0.mk H
      clear H
      go_wp2
      go_meet
      case rel => exact ⟨_, ((t215 != 0)), (by first | rfl | (simp; done) | (simp [*]; done)), H', ⟨by first | omega | exact Nat.le_refl _⟩, ⟨by (with_reducible repeat (first | refine blk_drewN ?_ _ | refine blk_drew ?_ | refine blk_alloc ?_ _)); refine blk_far ?_ NB212_216.out _; (with_reducible repeat (first | refine blk_drewN ?_ _ | refine blk_drew ?_ | refine blk_alloc ?_ _)); refine blk_far ?_ NB212_216.out _; (with_reducible repeat (first | refine blk_drewN ?_ _ | refine blk_drew ?_ | refine blk_alloc ?_ _)); exact BK212.out⟩, ⟨by (with_reducible repeat (first | refine blk_drewN ?_ _ | refine blk_drew ?_ | refine blk_alloc ?_ _)); refine blk_put (cs := #[.int .i64 t213, .int .i64 0]) ?_ 1 _ rfl; (with_reducible repeat (first | refine blk_drewN ?_ _ | refine blk_drew ?_ | refine blk_alloc ?_ _)); refine blk_put (cs := #[.int .i64 0, .int .i64 0]) ?_ 0 _ rfl; (with_reducible repeat (first | refine blk_drewN ?_ _ | refine blk_drew ?_ | refine blk_alloc ?_ _)); exact BK216.out⟩, ⟨by repeat (first | (with_reducible first | exact HB.out | apply below_alloc | apply pw_below_drewN | apply below_drew1 | refine below_set ?_ GE212.out | refine below_set ?_ GE216.out) | exact HB.out)⟩⟩
    · rw [if_neg c15] at H
      have c15b0 : (t211 == 0) = false := beq_eq_false_iff_ne.mpr c15
      have c15b1 : (t211 != 0) = true := bne_iff_ne.mpr c15
      (first | rw [c15b0] | (simp only [i64_w, i32_w]; rw [c15b0]) | rw [c15b1] | skip)
      have H' := Aside0.mk H
      clear H
      go_wp2
      go_meet
      case rel => exact ⟨_, (true), (by first | rfl | (simp; done) | (simp [*]; done)), H', ⟨by first | omega | exact Nat.le_refl _⟩, ⟨by (with_reducible repeat (first | refine blk_drewN ?_ _ | refine blk_drew ?_ | refine blk_alloc ?_ _)); refine blk_far ?_ NB212_216.out _; (with_reducible repeat (first | refine blk_drewN ?_ _ | refine blk_drew ?_ | refine blk_alloc ?_ _)); refine blk_far ?_ NB212_216.out _; (with_reducible repeat (first | refine blk_drewN ?_ _ | refine blk_drew ?_ | refine blk_alloc ?_ _)); exact BK212.out⟩, ⟨by (with_reducible repeat (first | refine blk_drewN ?_ _ | refine blk_drew ?_ | refine blk_alloc ?_ _)); refine blk_put (cs := #[.int .i64 t213, .int .i64 0]) ?_ 1 _ rfl; (with_reducible repeat (first | refine blk_drewN ?_ _ | refine blk_drew ?_ | refine blk_alloc ?_ _)); refine blk_put (cs := #[.int .i64 0, .int .i64 0]) ?_ 0 _ rfl; (with_reducible repeat (first | refine blk_drewN ?_ _ | refine blk_drew ?_ | refine blk_alloc ?_ _)); exact BK216.out⟩, ⟨by repeat (first | (with_reducible first | exact HB.out | apply below_alloc | apply pw_below_drewN | apply below_drew1 | refine below_set ?_ GE212.out | refine below_set ?_ GE216.out) | exact HB.out)⟩⟩
  case rest =>
    clear HC7
    try clear c1
    try clear p2
    try clear c5
    try clear p6
    try clear c11
    try clear c13
    try clear c15
    try clear c15b0
    try clear c15b1
    try clear hcz10_0
    try clear hcz10_1
    try clear hcz14_0
    try clear hcz14_1
    try clear hfz10_0
    try clear hfz10_1
    try clear hfz14_0
    try clear hfz14_1
    obtain ⟨kq, x56_6, rfl, HA, HJ6, BK212, BK216, HB⟩ := hcut
    cases kq with
    | zero => exact absurd HA.out (by simp [shapesearchlaw01_RatioCompares.j0])
    | succ kj6 =>
      have H := HA.out
      clear HA
      simp only [shapesearchlaw01_RatioCompares.j0] at H
      by_cases c16 : x56_6 = true
      · subst c16
        have H1 : (none) = some r := by rw [if_pos rfl] at H; exact H
        clear H
        have H := H1
        clear H1
        exact absurd H (by simp)
      · replace c16 := Bool.eq_false_iff.mpr c16
        subst c16
        have H1 : (if a0 < 2147483648 then (if a2 < 2147483648 then ((ratio_Less.f kj6 t209 t210 t213 t214).bind fun t217 => (if (t217 != (decide ((wrap64 ((Int.tmod (wrap64 (a0)) 2147483648) * (wrap64 (1 + (Int.tmod (wrap64 (a3)) 1073741824))))) < (wrap64 ((Int.tmod (wrap64 (a2)) 2147483648) * (wrap64 (1 + (Int.tmod (wrap64 (a1)) 1073741824)))))))) = true then (none) else (if ((t209 == t213 && (t210 == t214)) != ((wrap64 ((Int.tmod (wrap64 (a0)) 2147483648) * (wrap64 (1 + (Int.tmod (wrap64 (a3)) 1073741824))))) == (wrap64 ((Int.tmod (wrap64 (a2)) 2147483648) * (wrap64 (1 + (Int.tmod (wrap64 (a1)) 1073741824))))))) = true then (none) else ((shapesearchlaw01_awake.f kj6).bind fun t218 => (some t218))))) else ((shapesearchlaw01_awake.f kj6).bind fun t219 => (some t219))) else ((shapesearchlaw01_awake.f kj6).bind fun t220 => (some t220))) = some r := by rw [if_neg (show ¬ (false = true) by decide)] at H; exact H
        clear H
        have H := H1
        clear H1
        by_cases c17 : a0 < 2147483648
        · rw [if_pos c17] at H
          have c17b0 : decide (a0 < 2147483648) = true := decide_eq_true c17
          clear c17
          by_cases c18 : a2 < 2147483648
          · rw [if_pos c18] at H
            have c18b0 : decide (a2 < 2147483648) = true := decide_eq_true c18
            clear c18
            replace H := Option.bind_eq_some_iff.mp H
            obtain ⟨t217, A190, H⟩ := H
            replace H : (if (t217 != (decide ((wrap64 ((Int.tmod (wrap64 (a0)) 2147483648) * (wrap64 (1 + (Int.tmod (wrap64 (a3)) 1073741824))))) < (wrap64 ((Int.tmod (wrap64 (a2)) 2147483648) * (wrap64 (1 + (Int.tmod (wrap64 (a1)) 1073741824)))))))) = true then (none) else (if ((t209 == t213 && (t210 == t214)) != ((wrap64 ((Int.tmod (wrap64 (a0)) 2147483648) * (wrap64 (1 + (Int.tmod (wrap64 (a3)) 1073741824))))) == (wrap64 ((Int.tmod (wrap64 (a2)) 2147483648) * (wrap64 (1 + (Int.tmod (wrap64 (a1)) 1073741824))))))) = true then (none) else ((shapesearchlaw01_awake.f kj6).bind fun t218 => (some t218)))) = some r := H
            have A19 := Aside0.mk A190
            clear A190
            by_cases c20 : (t217 != (decide ((wrap64 ((Int.tmod (wrap64 (a0)) 2147483648) * (wrap64 (1 + (Int.tmod (wrap64 (a3)) 1073741824))))) < (wrap64 ((Int.tmod (wrap64 (a2)) 2147483648) * (wrap64 (1 + (Int.tmod (wrap64 (a1)) 1073741824)))))))) = true
            · rw [if_pos c20] at H
              exact absurd H (by simp)
            · rw [if_neg c20] at H
              have c20b0 : (t217 != (decide ((wrap64 ((Int.tmod (wrap64 (a0)) 2147483648) * (wrap64 (1 + (Int.tmod (wrap64 (a3)) 1073741824))))) < (wrap64 ((Int.tmod (wrap64 (a2)) 2147483648) * (wrap64 (1 + (Int.tmod (wrap64 (a1)) 1073741824)))))))) = false := by simpa using c20
              (try (have c20b1 : decide (t217 = (decide ((wrap64 ((Int.tmod (wrap64 (a0)) 2147483648) * (wrap64 (1 + (Int.tmod (wrap64 (a3)) 1073741824))))) < (wrap64 ((Int.tmod (wrap64 (a2)) 2147483648) * (wrap64 (1 + (Int.tmod (wrap64 (a1)) 1073741824)))))))) = true := by simpa using c20))
              (try (have c20b2 : (t217 == (decide ((wrap64 ((Int.tmod (wrap64 (a0)) 2147483648) * (wrap64 (1 + (Int.tmod (wrap64 (a3)) 1073741824))))) < (wrap64 ((Int.tmod (wrap64 (a2)) 2147483648) * (wrap64 (1 + (Int.tmod (wrap64 (a1)) 1073741824)))))))) = true := by simpa using c20))
              clear c20
              by_cases c21 : ((t209 == t213 && (t210 == t214)) != ((wrap64 ((Int.tmod (wrap64 (a0)) 2147483648) * (wrap64 (1 + (Int.tmod (wrap64 (a3)) 1073741824))))) == (wrap64 ((Int.tmod (wrap64 (a2)) 2147483648) * (wrap64 (1 + (Int.tmod (wrap64 (a1)) 1073741824))))))) = true
              · rw [if_pos c21] at H
                exact absurd H (by simp)
              · rw [if_neg c21] at H
                have c21b0 : ((t209 == t213 && (t210 == t214)) != ((wrap64 ((Int.tmod (wrap64 (a0)) 2147483648) * (wrap64 (1 + (Int.tmod (wrap64 (a3)) 1073741824))))) == (wrap64 ((Int.tmod (wrap64 (a2)) 2147483648) * (wrap64 (1 + (Int.tmod (wrap64 (a1)) 1073741824))))))) = false := by simpa using c21
                (try (have c21b1 : decide ((t209 == t213 && (t210 == t214)) = ((wrap64 ((Int.tmod (wrap64 (a0)) 2147483648) * (wrap64 (1 + (Int.tmod (wrap64 (a3)) 1073741824))))) == (wrap64 ((Int.tmod (wrap64 (a2)) 2147483648) * (wrap64 (1 + (Int.tmod (wrap64 (a1)) 1073741824))))))) = true := by simpa using c21))
                (try (have c21b2 : ((t209 == t213 && (t210 == t214)) == ((wrap64 ((Int.tmod (wrap64 (a0)) 2147483648) * (wrap64 (1 + (Int.tmod (wrap64 (a3)) 1073741824))))) == (wrap64 ((Int.tmod (wrap64 (a2)) 2147483648) * (wrap64 (1 + (Int.tmod (wrap64 (a1)) 1073741824))))))) = true := by simpa using c21))
                clear c21
                replace H := Option.bind_eq_some_iff.mp H
                obtain ⟨t218, A220, H⟩ := H
                replace H : (some t218) = some r := H
                have A22 := Aside0.mk A220
                clear A220
                obtain rfl := Option.some.inj H
                have hnb23 := NB212_216.out
                have hnc23 := NB216_212.out
                have hcz24_0 : wc.cell? ⟨gb212, 0, none⟩ = some (.int .i64 t209) := (blk_cell BK212.out 0).trans rfl
                have hcz24_1 : wc.cell? ⟨gb212, 1, none⟩ = some (.int .i64 t210) := (blk_cell BK212.out 1).trans rfl
                have hfz24_0 := blk_frozen BK212.out 0
                have hfz24_1 := blk_frozen BK212.out 1
                have hcz25_0 : wc.cell? ⟨gb216, 0, none⟩ = some (.int .i64 t213) := (blk_cell BK216.out 0).trans rfl
                have hcz25_1 : wc.cell? ⟨gb216, 1, none⟩ = some (.int .i64 t214) := (blk_cell BK216.out 1).trans rfl
                have hfz25_0 := blk_frozen BK216.out 0
                have hfz25_1 := blk_frozen BK216.out 1
                go_wp2_with (first | (go_at_call 17; (with_reducible refine (ratio_Less.calls kj6 t209 t210 t213 t214 t217 _ A19.out).mono ?_); rintro e w26 ⟨rfl, hb⟩; have n0_ := Aside0.mk (blk_below (g := gb212) (o := .cells #[.int .i64 t209, .int .i64 t210] 24 (0, 0)) (by (with_reducible repeat (first | refine blk_drewN ?_ _ | refine blk_drew ?_ | refine blk_alloc ?_ _)); exact BK212.out) hb); have n1_ := Aside0.mk (blk_below (g := gb216) (o := .cells #[.int .i64 t213, .int .i64 t214] 24 (0, 0)) (by (with_reducible repeat (first | refine blk_drewN ?_ _ | refine blk_drew ?_ | refine blk_alloc ?_ _)); exact BK216.out) hb); have n2_ := Aside0.mk (below_step (by repeat (first | (with_reducible first | exact HB.out | apply below_alloc | apply pw_below_drewN | apply below_drew1 | refine below_set ?_ GE212.out | refine below_set ?_ GE216.out) | exact HB.out)) hb); clear BK212; clear BK216; clear HB; have BK212 := n0_; have BK216 := n1_; have HB := n2_; clear n0_ n1_ n2_; (try clear hb); (try clear hb2); (try clear hk); (try clear hi); have hcz27_0 : w26.cell? ⟨gb212, 0, none⟩ = some (.int .i64 t209) := (blk_cell BK212.out 0).trans rfl; have hcz27_1 : w26.cell? ⟨gb212, 1, none⟩ = some (.int .i64 t210) := (blk_cell BK212.out 1).trans rfl; have hfz27_0 := blk_frozen BK212.out 0; have hfz27_1 := blk_frozen BK212.out 1; have hcz28_0 : w26.cell? ⟨gb216, 0, none⟩ = some (.int .i64 t213) := (blk_cell BK216.out 0).trans rfl; have hcz28_1 : w26.cell? ⟨gb216, 1, none⟩ = some (.int .i64 t214) := (blk_cell BK216.out 1).trans rfl; have hfz28_0 := blk_frozen BK216.out 0; have hfz28_1 := blk_frozen BK216.out 1) | ((with_reducible refine gate_callee (f := 13) rfl ?_); refine goesL_ (some 81) rfl rfl Tryd.func13 (by kernel_rfl) rfl #[] rfl (by (try simp only [List.map_toArray, List.map_cons, List.map_nil]); first | done | rfl | (simp only [List.length_drop, List.length_take]; rfl)) ?_; (with_reducible refine (shapesearchlaw01_awake.calls kj6  t218 _ A22.out).mono ?_); rintro e w29 ⟨rfl, hb⟩; refine ⟨_, rfl, ?_⟩; have n0_ := Aside0.mk (blk_below (g := gb212) (o := .cells #[.int .i64 t209, .int .i64 t210] 24 (0, 0)) (by (with_reducible repeat (first | refine blk_drewN ?_ _ | refine blk_drew ?_ | refine blk_alloc ?_ _)); exact BK212.out) hb); have n1_ := Aside0.mk (blk_below (g := gb216) (o := .cells #[.int .i64 t213, .int .i64 t214] 24 (0, 0)) (by (with_reducible repeat (first | refine blk_drewN ?_ _ | refine blk_drew ?_ | refine blk_alloc ?_ _)); exact BK216.out) hb); have n2_ := Aside0.mk (below_step (by repeat (first | (with_reducible first | exact HB.out | apply below_alloc | apply pw_below_drewN | apply below_drew1 | refine below_set ?_ GE212.out | refine below_set ?_ GE216.out) | exact HB.out)) hb); clear BK212; clear BK216; clear HB; have BK212 := n0_; have BK216 := n1_; have HB := n2_; clear n0_ n1_ n2_; (try clear hb); (try clear hb2); (try clear hk); (try clear hi)))
                go_ret
                exact ⟨by first | rfl | (simp [errW_none, errW_some] <;> rfl) | (simp [*, errW_none, errW_some] <;> rfl), by repeat (first | (with_reducible first | exact HB.out | apply below_alloc | apply pw_below_drewN | apply below_drew1 | refine below_set ?_ GE212.out | refine below_set ?_ GE216.out) | exact HB.out)⟩
          · rw [if_neg c18] at H
            have c18b0 : decide (a2 < 2147483648) = false := decide_eq_false c18
            clear c18
            replace H := Option.bind_eq_some_iff.mp H
            obtain ⟨t219, A300, H⟩ := H
            replace H : (some t219) = some r := H
            have A30 := Aside0.mk A300
            clear A300
            obtain rfl := Option.some.inj H
            go_wp2_with (first | ((with_reducible refine gate_callee (f := 13) rfl ?_); refine goesL_ (some 81) rfl rfl Tryd.func13 (by kernel_rfl) rfl #[] rfl (by (try simp only [List.map_toArray, List.map_cons, List.map_nil]); first | done | rfl | (simp only [List.length_drop, List.length_take]; rfl)) ?_; (with_reducible refine (shapesearchlaw01_awake.calls kj6  t219 _ A30.out).mono ?_); rintro e w31 ⟨rfl, hb⟩; refine ⟨_, rfl, ?_⟩; have n0_ := Aside0.mk (blk_below (g := gb212) (o := .cells #[.int .i64 t209, .int .i64 t210] 24 (0, 0)) (by (with_reducible repeat (first | refine blk_drewN ?_ _ | refine blk_drew ?_ | refine blk_alloc ?_ _)); exact BK212.out) hb); have n1_ := Aside0.mk (blk_below (g := gb216) (o := .cells #[.int .i64 t213, .int .i64 t214] 24 (0, 0)) (by (with_reducible repeat (first | refine blk_drewN ?_ _ | refine blk_drew ?_ | refine blk_alloc ?_ _)); exact BK216.out) hb); have n2_ := Aside0.mk (below_step (by repeat (first | (with_reducible first | exact HB.out | apply below_alloc | apply pw_below_drewN | apply below_drew1 | refine below_set ?_ GE212.out | refine below_set ?_ GE216.out) | exact HB.out)) hb); clear BK212; clear BK216; clear HB; have BK212 := n0_; have BK216 := n1_; have HB := n2_; clear n0_ n1_ n2_; (try clear hb); (try clear hb2); (try clear hk); (try clear hi)))
            go_ret
            exact ⟨by first | rfl | (simp [errW_none, errW_some] <;> rfl) | (simp [*, errW_none, errW_some] <;> rfl), by repeat (first | (with_reducible first | exact HB.out | apply below_alloc | apply pw_below_drewN | apply below_drew1 | refine below_set ?_ GE212.out | refine below_set ?_ GE216.out) | exact HB.out)⟩
        · rw [if_neg c17] at H
          have c17b0 : decide (a0 < 2147483648) = false := decide_eq_false c17
          clear c17
          replace H := Option.bind_eq_some_iff.mp H
          obtain ⟨t220, A320, H⟩ := H
          replace H : (some t220) = some r := H
          have A32 := Aside0.mk A320
          clear A320
          obtain rfl := Option.some.inj H
          go_wp2_with (first | ((with_reducible refine gate_callee (f := 13) rfl ?_); refine goesL_ (some 81) rfl rfl Tryd.func13 (by kernel_rfl) rfl #[] rfl (by (try simp only [List.map_toArray, List.map_cons, List.map_nil]); first | done | rfl | (simp only [List.length_drop, List.length_take]; rfl)) ?_; (with_reducible refine (shapesearchlaw01_awake.calls kj6  t220 _ A32.out).mono ?_); rintro e w33 ⟨rfl, hb⟩; refine ⟨_, rfl, ?_⟩; have n0_ := Aside0.mk (blk_below (g := gb212) (o := .cells #[.int .i64 t209, .int .i64 t210] 24 (0, 0)) (by (with_reducible repeat (first | refine blk_drewN ?_ _ | refine blk_drew ?_ | refine blk_alloc ?_ _)); exact BK212.out) hb); have n1_ := Aside0.mk (blk_below (g := gb216) (o := .cells #[.int .i64 t213, .int .i64 t214] 24 (0, 0)) (by (with_reducible repeat (first | refine blk_drewN ?_ _ | refine blk_drew ?_ | refine blk_alloc ?_ _)); exact BK216.out) hb); have n2_ := Aside0.mk (below_step (by repeat (first | (with_reducible first | exact HB.out | apply below_alloc | apply pw_below_drewN | apply below_drew1 | refine below_set ?_ GE212.out | refine below_set ?_ GE216.out) | exact HB.out)) hb); clear BK212; clear BK216; clear HB; have BK212 := n0_; have BK216 := n1_; have HB := n2_; clear n0_ n1_ n2_; (try clear hb); (try clear hb2); (try clear hk); (try clear hi)))
          go_ret
          exact ⟨by first | rfl | (simp [errW_none, errW_some] <;> rfl) | (simp [*, errW_none, errW_some] <;> rfl), by repeat (first | (with_reducible first | exact HB.out | apply below_alloc | apply pw_below_drewN | apply below_drew1 | refine below_set ?_ GE212.out | refine below_set ?_ GE216.out) | exact HB.out)⟩

/-- THE ONE PURE STATEMENT of shapesearchlaw01_RatioCompares: yours. -/
def shapesearchlaw01_RatioCompares.Pure : Prop := ∀ (a0 : Int) (a1 : Int) (a2 : Int) (a3 : Int), (Lit.int .u32 a0).wf = true → (Lit.int .u32 a1).wf = true → (Lit.int .u32 a2).wf = true → (Lit.int .u32 a3).wf = true → ∃ k, shapesearchlaw01_RatioCompares.f k a0 a1 a2 a3 = some true
theorem shapesearchlaw01_RatioCompares.walk (P : shapesearchlaw01_RatioCompares.Pure) (a0 : Int) (a1 : Int) (a2 : Int) (a3 : Int) (w : World) (w0 : (Lit.int .u32 a0).wf = true) (w1 : (Lit.int .u32 a1).wf = true) (w2 : (Lit.int .u32 a2).wf = true) (w3 : (Lit.int .u32 a3).wf = true) :
    Calls Tryd.prog 5 #[.int .u32 a0, .int .u32 a1, .int .u32 a2, .int .u32 a3] w fun e w' => e = .returned (.bool true) ∧ Below w.heap.size w w' := by
  obtain ⟨k, h⟩ := P a0 a1 a2 a3 w0 w1 w2 w3
  refine (shapesearchlaw01_RatioCompares.calls k a0 a1 a2 a3 true w h).mono ?_
  rintro e w' ⟨rfl, hd⟩
  exact ⟨rfl, hd⟩

end Go.Proofs.YtdfdecpplnjdcaaDoor.Hp
