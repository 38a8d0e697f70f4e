-- Written by wip/tools/hprint.py of this session, over the kit's print with hand-made contracts; Lean checks it.
import Derived.Test.YtdfdecpplnjdcaaDoorHx0
import Derived.Test.YtdfdecpplnjdcaaDoorHx3
import Derived.Test.YtdfdecpplnjdcaaDoorHx7
import Derived.Test.YtdfdecpplnjdcaaDoorHx8
import Derived.Test.YtdfdecpplnjdcaaDoorHx9
import Derived.Test.YtdfdecpplnjdcaaDoorHx11
import Derived.Test.YtdfdecpplnjdcaaDoorHx13
import Derived.Test.YtdfdecpplnjdcaaDoorHx17
namespace Go.Proofs.YtdfdecpplnjdcaaDoor.Hp
open Go.RowKit Go.Proofs.YtdfdecpplnjdcaaDoorW.PrintWords Go.Proofs.YtdfdecpplnjdcaaDoorW.PrintLast Go.Proofs.YtdfdecpplnjdcaaDoorW.PrintMore
attribute [local go_sem] max2_int min2_int max_two min_two max_three min_three max_four min_four   -- for this text's walks alone
attribute [local go_sem] i64_w
set_option linter.unusedVariables false
set_option linter.unusedSimpArgs false

/-! ### shapesearchlaw01_RatioRounds: function 7 -/
def shapesearchlaw01_RatioRounds.j0 : Nat → Int → Bool → Int → Int → Option (Bool)
  | 0, _, _, _, _ => none
  | k + 1, x6, x51, x279000, x279001 => if x51 = true then (none) else ((ratio_Make.f k x6 1).bind fun bt286 => (if bt286.2.2 = 0 then ((ratio_Less.f k bt286.1 bt286.2.1 x279000 x279001).bind fun t290 => (if t290 = true then (none) else ((shapesearchlaw01_awake.f k).bind fun t291 => (some t291)))) else ((shapesearchlaw01_awake.f k).bind fun t292 => (some t292))))
def shapesearchlaw01_RatioRounds.f (k : Nat) (l0 : List Int) : Option (Bool) := (shapesearchkeep_New.f l0).bind fun bt272 => ((shapesearchkeep_Src_Ratio.f k bt272.1 bt272.2).bind fun bt275 => ((ratio_Floor.f k bt275.1 bt275.2.1).bind fun t279 => ((ratio_Ceil.f k bt275.1 bt275.2.1).bind fun t280 => ((ratio_Make.f k t279 1).bind fun bt281 => (if bt281.2.2 = 0 then ((ratio_Less.f k bt275.1 bt275.2.1 bt281.1 bt281.2.1).bind fun t285 => (if t285 = true then (shapesearchlaw01_RatioRounds.j0 k t280 true bt275.1 bt275.2.1) else (if ((t279 == t280) != (bt275.2.1 == 1)) = true then (shapesearchlaw01_RatioRounds.j0 k t280 true bt275.1 bt275.2.1) else (if (wrap64 (t280 - t279)) = 0 then (shapesearchlaw01_RatioRounds.j0 k t280 false bt275.1 bt275.2.1) else (shapesearchlaw01_RatioRounds.j0 k t280 ((wrap64 (t280 - t279)) != 1) bt275.1 bt275.2.1))))) else (shapesearchlaw01_RatioRounds.j0 k t280 true bt275.1 bt275.2.1))))))
theorem shapesearchlaw01_RatioRounds.mono_l : ∀ k, (∀ y0 y1 y2 y3, LeO (shapesearchlaw01_RatioRounds.j0 k y0 y1 y2 y3) (shapesearchlaw01_RatioRounds.j0 (k + 1) y0 y1 y2 y3))
  | 0 => fun _ _ _ _ r h => by simp [shapesearchlaw01_RatioRounds.j0] at h
  | k + 1 => by
    have ih0 := shapesearchlaw01_RatioRounds.mono_l k
    · intro y0 y1 y2 y3
      unfold shapesearchlaw01_RatioRounds.j0
      repeat' first
      | (with_reducible exact ih0 _ _ _ _)
      | (with_reducible exact ratio_Ceil.mono _ _ _)
      | (with_reducible exact ratio_Floor.mono _ _ _)
      | (with_reducible exact ratio_Less.mono _ _ _ _ _)
      | (with_reducible exact ratio_Make.mono _ _ _)
      | (with_reducible exact shapesearchkeep_Src_Ratio.mono _ _ _)
      | (with_reducible exact shapesearchlaw01_awake.mono _)
      | (with_reducible exact LeO.refl _)
      | (with_reducible exact LeO.none _)
      | (with_reducible refine LeO.ite ?_ ?_)
      | (with_reducible refine LeO.bind ?_ (fun _ => ?_))
      | exact ih0 _ _ _ _
      | exact ratio_Ceil.mono _ _ _
      | exact ratio_Floor.mono _ _ _
      | exact ratio_Less.mono _ _ _ _ _
      | exact ratio_Make.mono _ _ _
      | exact shapesearchkeep_Src_Ratio.mono _ _ _
      | exact shapesearchlaw01_awake.mono _
      | exact LeO.none _
      | refine LeO.ite ?_ ?_
      | refine LeO.bind ?_ (fun _ => ?_)
theorem shapesearchlaw01_RatioRounds.mono : ∀ a0 k, LeO (shapesearchlaw01_RatioRounds.f k a0) (shapesearchlaw01_RatioRounds.f (k + 1) a0) := by
  intro a0 k
  have ih0 := shapesearchlaw01_RatioRounds.mono_l k
  unfold shapesearchlaw01_RatioRounds.f
  repeat' first
      | (with_reducible exact ih0 _ _ _ _)
      | (with_reducible exact ratio_Ceil.mono _ _ _)
      | (with_reducible exact ratio_Floor.mono _ _ _)
      | (with_reducible exact ratio_Less.mono _ _ _ _ _)
      | (with_reducible exact ratio_Make.mono _ _ _)
      | (with_reducible exact shapesearchkeep_Src_Ratio.mono _ _ _)
      | (with_reducible exact shapesearchlaw01_awake.mono _)
      | (with_reducible exact LeO.refl _)
      | (with_reducible exact LeO.none _)
      | (with_reducible refine LeO.ite ?_ ?_)
      | (with_reducible refine LeO.bind ?_ (fun _ => ?_))
      | exact ih0 _ _ _ _
      | exact ratio_Ceil.mono _ _ _
      | exact ratio_Floor.mono _ _ _
      | exact ratio_Less.mono _ _ _ _ _
      | exact ratio_Make.mono _ _ _
      | exact shapesearchkeep_Src_Ratio.mono _ _ _
      | exact shapesearchlaw01_awake.mono _
      | exact LeO.none _
      | refine LeO.ite ?_ ?_
      | refine LeO.bind ?_ (fun _ => ?_)
set_option maxHeartbeats 8000000 in
set_option maxRecDepth 100000 in
theorem shapesearchlaw01_RatioRounds.calls (k : Nat) (A0 : Option Addr) (c0 : Nat) (l0 : List Int) (r : Bool) (w : World) (hr0 : Kd.C (Kd.int .i64) w A0 l0.length l0) (hc0 : l0.length ≤ c0) (h : shapesearchlaw01_RatioRounds.f k l0 = some r) :
    Calls Tryd.prog 7 #[.slice A0 l0.length c0] w fun e w' => e = .returned (.bool r) ∧ Below w.heap.size w w' := by
  have hu24 := Tryd.underlying24
  have HR0 := Aside0.mk hr0
  have HC0 := Aside0.mk hc0
  clear hr0 hc0
  have HB := Aside0.mk (Below.refl w.heap.size w)
  have H : ((shapesearchkeep_New.f l0).bind fun bt272 => ((shapesearchkeep_Src_Ratio.f k bt272.1 bt272.2).bind fun bt275 => ((ratio_Floor.f k bt275.1 bt275.2.1).bind fun t279 => ((ratio_Ceil.f k bt275.1 bt275.2.1).bind fun t280 => ((ratio_Make.f k t279 1).bind fun bt281 => (if bt281.2.2 = 0 then ((ratio_Less.f k bt275.1 bt275.2.1 bt281.1 bt281.2.1).bind fun t285 => (if t285 = true then (shapesearchlaw01_RatioRounds.j0 k t280 true bt275.1 bt275.2.1) else (if ((t279 == t280) != (bt275.2.1 == 1)) = true then (shapesearchlaw01_RatioRounds.j0 k t280 true bt275.1 bt275.2.1) else (if (wrap64 (t280 - t279)) = 0 then (shapesearchlaw01_RatioRounds.j0 k t280 false bt275.1 bt275.2.1) else (shapesearchlaw01_RatioRounds.j0 k t280 ((wrap64 (t280 - t279)) != 1) bt275.1 bt275.2.1))))) else (shapesearchlaw01_RatioRounds.j0 k t280 true bt275.1 bt275.2.1))))))) = some r := h
  clear h
  replace H := Option.bind_eq_some_iff.mp H
  obtain ⟨⟨t272, t273⟩, A20, H⟩ := H
  replace H : ((shapesearchkeep_Src_Ratio.f k t272 t273).bind fun bt275 => ((ratio_Floor.f k bt275.1 bt275.2.1).bind fun t279 => ((ratio_Ceil.f k bt275.1 bt275.2.1).bind fun t280 => ((ratio_Make.f k t279 1).bind fun bt281 => (if bt281.2.2 = 0 then ((ratio_Less.f k bt275.1 bt275.2.1 bt281.1 bt281.2.1).bind fun t285 => (if t285 = true then (shapesearchlaw01_RatioRounds.j0 k t280 true bt275.1 bt275.2.1) else (if ((t279 == t280) != (bt275.2.1 == 1)) = true then (shapesearchlaw01_RatioRounds.j0 k t280 true bt275.1 bt275.2.1) else (if (wrap64 (t280 - t279)) = 0 then (shapesearchlaw01_RatioRounds.j0 k t280 false bt275.1 bt275.2.1) else (shapesearchlaw01_RatioRounds.j0 k t280 ((wrap64 (t280 - t279)) != 1) bt275.1 bt275.2.1))))) else (shapesearchlaw01_RatioRounds.j0 k t280 true bt275.1 bt275.2.1)))))) = some r := H
  have A2 := Aside0.mk A20
  clear A20
  replace H := Option.bind_eq_some_iff.mp H
  obtain ⟨⟨t275, t276, t277⟩, A30, H⟩ := H
  replace H : ((ratio_Floor.f k t275 t276).bind fun t279 => ((ratio_Ceil.f k t275 t276).bind fun t280 => ((ratio_Make.f k t279 1).bind fun bt281 => (if bt281.2.2 = 0 then ((ratio_Less.f k t275 t276 bt281.1 bt281.2.1).bind fun t285 => (if t285 = true then (shapesearchlaw01_RatioRounds.j0 k t280 true t275 t276) else (if ((t279 == t280) != (t276 == 1)) = true then (shapesearchlaw01_RatioRounds.j0 k t280 true t275 t276) else (if (wrap64 (t280 - t279)) = 0 then (shapesearchlaw01_RatioRounds.j0 k t280 false t275 t276) else (shapesearchlaw01_RatioRounds.j0 k t280 ((wrap64 (t280 - t279)) != 1) t275 t276))))) else (shapesearchlaw01_RatioRounds.j0 k t280 true t275 t276))))) = some r := H
  have A3 := Aside0.mk A30
  clear A30
  replace H := Option.bind_eq_some_iff.mp H
  obtain ⟨t279, A40, H⟩ := H
  replace H : ((ratio_Ceil.f k t275 t276).bind fun t280 => ((ratio_Make.f k t279 1).bind fun bt281 => (if bt281.2.2 = 0 then ((ratio_Less.f k t275 t276 bt281.1 bt281.2.1).bind fun t285 => (if t285 = true then (shapesearchlaw01_RatioRounds.j0 k t280 true t275 t276) else (if ((t279 == t280) != (t276 == 1)) = true then (shapesearchlaw01_RatioRounds.j0 k t280 true t275 t276) else (if (wrap64 (t280 - t279)) = 0 then (shapesearchlaw01_RatioRounds.j0 k t280 false t275 t276) else (shapesearchlaw01_RatioRounds.j0 k t280 ((wrap64 (t280 - t279)) != 1) t275 t276))))) else (shapesearchlaw01_RatioRounds.j0 k t280 true t275 t276)))) = some r := H
  have A4 := Aside0.mk A40
  clear A40
  replace H := Option.bind_eq_some_iff.mp H
  obtain ⟨t280, A50, H⟩ := H
  replace H : ((ratio_Make.f k t279 1).bind fun bt281 => (if bt281.2.2 = 0 then ((ratio_Less.f k t275 t276 bt281.1 bt281.2.1).bind fun t285 => (if t285 = true then (shapesearchlaw01_RatioRounds.j0 k t280 true t275 t276) else (if ((t279 == t280) != (t276 == 1)) = true then (shapesearchlaw01_RatioRounds.j0 k t280 true t275 t276) else (if (wrap64 (t280 - t279)) = 0 then (shapesearchlaw01_RatioRounds.j0 k t280 false t275 t276) else (shapesearchlaw01_RatioRounds.j0 k t280 ((wrap64 (t280 - t279)) != 1) t275 t276))))) else (shapesearchlaw01_RatioRounds.j0 k t280 true t275 t276))) = some r := H
  have A5 := Aside0.mk A50
  clear A50
  replace H := Option.bind_eq_some_iff.mp H
  obtain ⟨⟨t281, t282, t283⟩, A60, H⟩ := H
  replace H : (if t283 = 0 then ((ratio_Less.f k t275 t276 t281 t282).bind fun t285 => (if t285 = true then (shapesearchlaw01_RatioRounds.j0 k t280 true t275 t276) else (if ((t279 == t280) != (t276 == 1)) = true then (shapesearchlaw01_RatioRounds.j0 k t280 true t275 t276) else (if (wrap64 (t280 - t279)) = 0 then (shapesearchlaw01_RatioRounds.j0 k t280 false t275 t276) else (shapesearchlaw01_RatioRounds.j0 k t280 ((wrap64 (t280 - t279)) != 1) t275 t276))))) else (shapesearchlaw01_RatioRounds.j0 k t280 true t275 t276)) = some r := H
  have A6 := Aside0.mk A60
  clear A60
  have HC7 := Aside0.mk H
  clear H
  go_enter Tryd.func7, Tryd.ntmps7
  try go_wp2_with (first | ((with_reducible refine gate_callee (f := 14) rfl ?_); refine goesL_ (some 12) rfl rfl Tryd.func14 (by kernel_rfl) rfl #[.slice A0 l0.length c0] rfl (by (try simp only [List.map_toArray, List.map_cons, List.map_nil]); first | done | rfl | (simp only [List.length_drop, List.length_take]; rfl)) ?_; (with_reducible refine (shapesearchkeep_New.calls _ _ l0 t272 t273 w _ ?side1 ?side2 ?side3 A2.out).mono ?_); (case side1 => repeat (first | (with_reducible first | exact HB.out | apply below_alloc | apply pw_below_drewN | apply below_drew1) | exact HB.out)); (case side2 => exact HR0.out); (case side3 => exact HC0.out); rintro e w8 ⟨g274, rfl, hi, hb, hb2⟩; refine ⟨_, rfl, ?_⟩; have n0_ := Aside0.mk (hb); have n1_ := Aside0.mk (hi); clear HB; have HB := n0_; have HI274 := n1_; clear n0_ n1_; (try clear hb); (try clear hb2); (try clear hk); (try clear hi)) | ((with_reducible refine gate_callee (f := 15) rfl ?_); refine goesL_ (some 14) rfl rfl Tryd.func15 (by kernel_rfl) rfl #[.pointer (some ⟨g274, 0, none⟩)] rfl (by (try simp only [List.map_toArray, List.map_cons, List.map_nil]); first | done | rfl | (simp only [List.length_drop, List.length_take]; rfl)) ?_; (with_reducible refine (shapesearchkeep_Src_Ratio.calls k g274 t272 t273 t275 t276 t277 w _ ?side1 ?side2 A3.out).mono ?_); (case side1 => repeat (first | (with_reducible first | exact HI274.out | apply IsS54.alloc | apply IsS54.drewN | apply IsS54.drew | apply IsS54.set_1) | exact HI274.out)); (case side2 => repeat (first | (with_reducible first | exact HB.out | apply below_alloc | apply pw_below_drewN | apply below_drew1 | refine below_set ?_ (IsS54.ge HI274.out)) | exact HB.out)); rintro e w9 ⟨rfl, hi, hb, hk⟩; refine ⟨_, rfl, ?_⟩; have n0_ := Aside0.mk (hb); have n1_ := Aside0.mk (hi); clear HB; clear HI274; have HB := n0_; have HI274 := n1_; clear n0_ n1_; (try clear hb); (try clear hb2); (try clear hk); (try clear hi)) | ((with_reducible refine gate_dst (N := 4) rfl ?_); refine box_event ?hg (N := 4) ?hd (cs := #[.int .i64 0, .int .i64 0]) (t := 24) ?hr ?_; (case hd => rfl); (case hg => rfl); (case hr => first | (go_simp; done) | (go_simp; rfl)); intro gb278 hg w10 hbox hb; have n0_ := Aside0.mk (IsS54.below (by repeat (first | (with_reducible first | exact HI274.out | apply IsS54.alloc | apply IsS54.drewN | apply IsS54.drew | apply IsS54.set_1) | exact HI274.out)) hb); have n1_ := Aside0.mk (below_step (by repeat (first | (with_reducible first | exact HB.out | apply below_alloc | apply pw_below_drewN | apply below_drew1 | refine below_set ?_ (IsS54.ge HI274.out)) | exact HB.out)) hb); have n2_ := Aside0.mk (hbox); have n3_ := Aside0.mk ((by rw [hg]; exact (below_size (by repeat (first | (with_reducible first | exact HB.out | apply below_alloc | apply pw_below_drewN | apply below_drew1 | refine below_set ?_ (IsS54.ge HI274.out)) | exact HB.out))) : w.heap.size ≤ gb278)); have n4_ := Aside0.mk ((by rw [hg]; exact (below_size (by repeat (first | (with_reducible first | exact HB.out | apply below_alloc | apply pw_below_drewN | apply below_drew1 | refine below_set ?_ (IsS54.ge HI274.out)) | exact HB.out))) : w.heap.size ≤ gb278)); have n5_ := Aside0.mk ((by rw [hg]; exact Nat.ne_of_lt (IsS54.lt (show IsS54 w _ g274 t272 t277 from by repeat (first | (with_reducible first | exact HI274.out | apply IsS54.alloc | apply IsS54.drewN | apply IsS54.drew | apply IsS54.set_1) | exact HI274.out))) : g274 ≠ gb278)); have n6_ := Aside0.mk ((by rw [hg]; exact Nat.ne_of_gt (IsS54.lt (show IsS54 w _ g274 t272 t277 from by repeat (first | (with_reducible first | exact HI274.out | apply IsS54.alloc | apply IsS54.drewN | apply IsS54.drew | apply IsS54.set_1) | exact HI274.out))) : gb278 ≠ g274)); clear HI274; clear HB; have HI274 := n0_; have HB := n1_; have BK278 := n2_; have GW278 := n3_; have GE278 := n4_; have NB274_278 := n5_; have NB278_274 := n6_; clear n0_ n1_ n2_ n3_ n4_ n5_ n6_; clear hb hbox hg; have hnb11 := NB278_274.out; have hnc11 := NB274_278.out; have hcz12_0 : w10.cell? ⟨gb278, 0, none⟩ = some (.int .i64 0) := (blk_cell BK278.out 0).trans rfl; have hcz12_1 : w10.cell? ⟨gb278, 1, none⟩ = some (.int .i64 0) := (blk_cell BK278.out 1).trans rfl; have hfz12_0 := blk_frozen BK278.out 0; have hfz12_1 := blk_frozen BK278.out 1))
  have n0_ : Aside0 (((w10.setCell ⟨gb278, 0, none⟩ (.int .i64 t275)).setCell ⟨gb278, 1, none⟩ (.int .i64 t276)).heap[gb278]? = some (.cells #[.int .i64 t275, .int .i64 t276] 24 (0, 0))) := ⟨by (with_reducible repeat (first | refine blk_drewN ?_ _ | refine blk_drew ?_ | refine blk_alloc ?_ _)); refine blk_put (cs := #[.int .i64 t275, .int .i64 0]) ?_ 1 _ rfl; (with_reducible repeat (first | refine blk_drewN ?_ _ | refine blk_drew ?_ | refine blk_alloc ?_ _)); refine blk_put (cs := #[.int .i64 0, .int .i64 0]) ?_ 0 _ rfl; (with_reducible repeat (first | refine blk_drewN ?_ _ | refine blk_drew ?_ | refine blk_alloc ?_ _)); exact BK278.out⟩
  have n1_ : Aside0 (IsS54 w ((w10.setCell ⟨gb278, 0, none⟩ (.int .i64 t275)).setCell ⟨gb278, 1, none⟩ (.int .i64 t276)) g274 t272 t277) := ⟨by repeat (first | (with_reducible first | exact HI274.out | apply IsS54.alloc | apply IsS54.drewN | apply IsS54.drew | apply IsS54.set_1 | refine IsS54.far ?_ NB274_278.out _) | exact HI274.out)⟩
  have n2_ : Aside0 (Below w.heap.size w ((w10.setCell ⟨gb278, 0, none⟩ (.int .i64 t275)).setCell ⟨gb278, 1, none⟩ (.int .i64 t276))) := ⟨by repeat (first | (with_reducible first | exact HB.out | apply below_alloc | apply pw_below_drewN | apply below_drew1 | refine below_set ?_ (IsS54.ge HI274.out) | refine below_set ?_ GE278.out) | exact HB.out)⟩
  (try clear BK278)
  (try clear HI274)
  (try clear HB)
  generalize ((w10.setCell ⟨gb278, 0, none⟩ (.int .i64 t275)).setCell ⟨gb278, 1, none⟩ (.int .i64 t276)) = w13 at n0_ n1_ n2_ ⊢
  have BK278 := n0_
  have HI274 := n1_
  have HB := n2_
  clear n0_ n1_ n2_
  have n0_ := Aside0.mk (blk_drew BK278.out)
  have n1_ := Aside0.mk (IsS54.drew HI274.out)
  have n2_ := Aside0.mk (below_drew1 HB.out)
  clear BK278
  clear HI274
  clear HB
  have BK278 := n0_
  have HI274 := n1_
  have HB := n2_
  clear n0_ n1_ n2_
  refine start_ (n := 6) (S := fun w' => w'.cell? ⟨gb278, 0, none⟩ = some (.int .i64 t275) ∧ w'.cell? ⟨gb278, 1, none⟩ = some (.int .i64 t276)) (ds := []) #[false, false, false, false, false, false] (by kernel_rfl) rfl rfl ⟨(blk_cell BK278.out 0).trans rfl, (blk_cell BK278.out 1).trans rfl⟩ (fun hHeld => ?_)
  generalize w13.drew = w14 at BK278 HI274 HB hHeld ⊢
  refine take_ (i := 0) (N := some 15) (v := ?_) (a' := ?_) #[true, false, false, false, false, false] rfl rfl (by kernel_rfl) (fun _ _ _ h => h) (Or.inl ⟨by rfl, ?_⟩) hHeld ?_ ?_
  rotate_left
  · rintro w' ⟨s0, s1⟩
    go_simp
    with_reducible rfl
  rotate_left
  · simp only [Act.put, List.setIfInBounds_toArray, List.set_cons_zero, List.set_cons_succ, i64_w, i32_w]
    rfl
  refine take_ (i := 2) (N := some 17) (v := ?_) (a' := ?_) #[true, false, true, false, false, false] rfl rfl (by kernel_rfl) (fun _ _ _ h => h) (Or.inl ⟨by rfl, ?_⟩) hHeld ?_ ?_
  rotate_left
  · rintro w' ⟨s0, s1⟩
    go_simp
    with_reducible rfl
  rotate_left
  · simp only [Act.put, List.setIfInBounds_toArray, List.set_cons_zero, List.set_cons_succ, i64_w, i32_w]
    rfl
  refine one_ (i := 1) (N := some 16) #[true, true, true, false, false, false] rfl rfl (by kernel_rfl) (by decide) (fun K hK => ?_)
  refine goes_ Tryd.func19 (by kernel_rfl) rfl #[.agg #[.int .i64 t275, .int .i64 t276]] (by rfl) rfl rfl (by (try simp only [List.map_toArray, List.map_cons, List.map_nil]); first | done | rfl | (simp only [List.length_drop, List.length_take]; rfl)) ?_
  with_reducible refine (ratio_Floor.calls k t275 t276 t279 _ A4.out).mono ?_
  rintro e w15 ⟨rfl, hb⟩
  refine ⟨_, rfl, ?_⟩
  have n0_ := Aside0.mk (IsS54.below (by repeat (first | (with_reducible first | exact HI274.out | apply IsS54.alloc | apply IsS54.drewN | apply IsS54.drew | apply IsS54.set_1 | refine IsS54.far ?_ NB274_278.out _) | exact HI274.out)) hb)
  have n1_ := Aside0.mk (blk_below (g := gb278) (o := .cells #[.int .i64 t275, .int .i64 t276] 24 (0, 0)) (by (with_reducible repeat (first | refine blk_drewN ?_ _ | refine blk_drew ?_ | refine blk_alloc ?_ _)); exact BK278.out) hb)
  have n2_ := Aside0.mk (below_step (by repeat (first | (with_reducible first | exact HB.out | apply below_alloc | apply pw_below_drewN | apply below_drew1 | refine below_set ?_ (IsS54.ge HI274.out) | refine below_set ?_ GE278.out) | exact HB.out)) hb)
  clear HI274
  clear BK278
  clear HB
  have HI274 := n0_
  have BK278 := n1_
  have HB := n2_
  clear n0_ n1_ n2_
  (try clear hb)
  (try clear hb2)
  (try clear hk)
  (try clear hi)
  refine hK.out _ _ ⟨(blk_cell BK278.out 0).trans rfl, (blk_cell BK278.out 1).trans rfl⟩ (fun hHeld => ?_)
  clear hK K
  refine norm_ (a' := ?_) ?_ ?_
  rotate_left
  · show Act.put _ (some 16) _ = _
    simp only [Act.put, List.setIfInBounds_toArray, List.set_cons_zero, List.set_cons_succ, i64_w, i32_w]
    rfl
  refine one_ (i := 3) (N := some 18) #[true, true, true, true, false, false] rfl rfl (by kernel_rfl) (by decide) (fun K hK => ?_)
  refine goes_ Tryd.func20 (by kernel_rfl) rfl #[.agg #[.int .i64 t275, .int .i64 t276]] (by rfl) rfl rfl (by (try simp only [List.map_toArray, List.map_cons, List.map_nil]); first | done | rfl | (simp only [List.length_drop, List.length_take]; rfl)) ?_
  with_reducible refine (ratio_Ceil.calls k t275 t276 t280 _ A5.out).mono ?_
  rintro e w16 ⟨rfl, hb⟩
  refine ⟨_, rfl, ?_⟩
  have n0_ := Aside0.mk (IsS54.below (by repeat (first | (with_reducible first | exact HI274.out | apply IsS54.alloc | apply IsS54.drewN | apply IsS54.drew | apply IsS54.set_1 | refine IsS54.far ?_ NB274_278.out _) | exact HI274.out)) hb)
  have n1_ := Aside0.mk (blk_below (g := gb278) (o := .cells #[.int .i64 t275, .int .i64 t276] 24 (0, 0)) (by (with_reducible repeat (first | refine blk_drewN ?_ _ | refine blk_drew ?_ | refine blk_alloc ?_ _)); exact BK278.out) hb)
  have n2_ := Aside0.mk (below_step (by repeat (first | (with_reducible first | exact HB.out | apply below_alloc | apply pw_below_drewN | apply below_drew1 | refine below_set ?_ (IsS54.ge HI274.out) | refine below_set ?_ GE278.out) | exact HB.out)) hb)
  clear HI274
  clear BK278
  clear HB
  have HI274 := n0_
  have BK278 := n1_
  have HB := n2_
  clear n0_ n1_ n2_
  (try clear hb)
  (try clear hb2)
  (try clear hk)
  (try clear hi)
  refine hK.out _ _ ⟨(blk_cell BK278.out 0).trans rfl, (blk_cell BK278.out 1).trans rfl⟩ (fun hHeld => ?_)
  clear hK K
  refine norm_ (a' := ?_) ?_ ?_
  rotate_left
  · show Act.put _ (some 18) _ = _
    simp only [Act.put, List.setIfInBounds_toArray, List.set_cons_zero, List.set_cons_succ, i64_w, i32_w]
    rfl
  refine pure_ (i := 4) (N := some 5) (v := ?_) (a' := ?_) #[true, true, true, true, true, false] rfl rfl (by kernel_rfl) (fun _ _ _ h => h) (Or.inl ⟨by rfl, ?_⟩) ?_ ?_
  rotate_left
  · intro w'
    go_simp
    with_reducible rfl
  rotate_left
  · simp only [Act.put, List.setIfInBounds_toArray, List.set_cons_zero, List.set_cons_succ, i64_w, i32_w]
    rfl
  refine pure_ (i := 5) (N := some 6) (v := ?_) (a' := ?_) #[true, true, true, true, true, true] rfl rfl (by kernel_rfl) (fun _ _ _ h => h) (Or.inl ⟨by rfl, ?_⟩) ?_ ?_
  rotate_left
  · intro w'
    go_simp
    with_reducible rfl
  rotate_left
  · simp only [Act.put, List.setIfInBounds_toArray, List.set_cons_zero, List.set_cons_succ, i64_w, i32_w]
    rfl
  refine done_ (by kernel_rfl) ?_
  go_upto_region 5 with (first | ((with_reducible refine gate_callee (f := 11) rfl ?_); refine goesL_ (some 21) rfl rfl Tryd.func11 (by kernel_rfl) rfl #[.int .i64 t279, .int .i64 1] rfl (by (try simp only [List.map_toArray, List.map_cons, List.map_nil]); first | done | rfl | (simp only [List.length_drop, List.length_take]; rfl)) ?_; (with_reducible refine (ratio_Make.calls k t279 1 t281 t282 t283 _ A6.out).mono ?_); rintro e w17 ⟨rfl, hb⟩; refine ⟨_, rfl, ?_⟩; have n0_ := Aside0.mk (IsS54.below (by repeat (first | (with_reducible first | exact HI274.out | apply IsS54.alloc | apply IsS54.drewN | apply IsS54.drew | apply IsS54.set_1 | refine IsS54.far ?_ NB274_278.out _) | exact HI274.out)) hb); have n1_ := Aside0.mk (blk_below (g := gb278) (o := .cells #[.int .i64 t275, .int .i64 t276] 24 (0, 0)) (by (with_reducible repeat (first | refine blk_drewN ?_ _ | refine blk_drew ?_ | refine blk_alloc ?_ _)); exact BK278.out) hb); have n2_ := Aside0.mk (below_step (by repeat (first | (with_reducible first | exact HB.out | apply below_alloc | apply pw_below_drewN | apply below_drew1 | refine below_set ?_ (IsS54.ge HI274.out) | refine below_set ?_ GE278.out) | exact HB.out)) hb); clear HI274; clear BK278; clear HB; have HI274 := n0_; have BK278 := n1_; have HB := n2_; clear n0_ n1_ n2_; (try clear hb); (try clear hb2); (try clear hk); (try clear hi)) | ((with_reducible refine gate_dst (N := 7) rfl ?_); refine box_event ?hg (N := 7) ?hd (cs := #[.int .i64 0, .int .i64 0]) (t := 24) ?hr ?_; (case hd => rfl); (case hg => rfl); (case hr => first | (go_simp; done) | (go_simp; rfl)); intro gb284 hg w18 hbox hb; have n0_ := Aside0.mk (IsS54.below (by repeat (first | (with_reducible first | exact HI274.out | apply IsS54.alloc | apply IsS54.drewN | apply IsS54.drew | apply IsS54.set_1 | refine IsS54.far ?_ NB274_278.out _) | exact HI274.out)) hb); have n1_ := Aside0.mk (blk_below (g := gb278) (o := .cells #[.int .i64 t275, .int .i64 t276] 24 (0, 0)) (by (with_reducible repeat (first | refine blk_drewN ?_ _ | refine blk_drew ?_ | refine blk_alloc ?_ _)); exact BK278.out) hb); have n2_ := Aside0.mk (below_step (by repeat (first | (with_reducible first | exact HB.out | apply below_alloc | apply pw_below_drewN | apply below_drew1 | refine below_set ?_ (IsS54.ge HI274.out) | refine below_set ?_ GE278.out) | exact HB.out)) hb); have n3_ := Aside0.mk (hbox); have n4_ := Aside0.mk ((by rw [hg]; exact (below_size (by repeat (first | (with_reducible first | exact HB.out | apply below_alloc | apply pw_below_drewN | apply below_drew1 | refine below_set ?_ (IsS54.ge HI274.out) | refine below_set ?_ GE278.out) | exact HB.out))) : w.heap.size ≤ gb284)); have n5_ := Aside0.mk ((by rw [hg]; exact (below_size (by repeat (first | (with_reducible first | exact HB.out | apply below_alloc | apply pw_below_drewN | apply below_drew1 | refine below_set ?_ (IsS54.ge HI274.out) | refine below_set ?_ GE278.out) | exact HB.out))) : w.heap.size ≤ gb284)); have n6_ := Aside0.mk ((by rw [hg]; exact Nat.ne_of_lt (blk_lt (g := gb278) (o := .cells #[.int .i64 t275, .int .i64 t276] 24 (0, 0)) (by (with_reducible repeat (first | refine blk_drewN ?_ _ | refine blk_drew ?_ | refine blk_alloc ?_ _)); exact BK278.out)) : gb278 ≠ gb284)); have n7_ := Aside0.mk ((by rw [hg]; exact Nat.ne_of_gt (blk_lt (g := gb278) (o := .cells #[.int .i64 t275, .int .i64 t276] 24 (0, 0)) (by (with_reducible repeat (first | refine blk_drewN ?_ _ | refine blk_drew ?_ | refine blk_alloc ?_ _)); exact BK278.out)) : gb284 ≠ gb278)); have n8_ := Aside0.mk ((by rw [hg]; exact Nat.ne_of_lt (IsS54.lt (show IsS54 w _ g274 t272 t277 from by repeat (first | (with_reducible first | exact HI274.out | apply IsS54.alloc | apply IsS54.drewN | apply IsS54.drew | apply IsS54.set_1 | refine IsS54.far ?_ NB274_278.out _) | exact HI274.out))) : g274 ≠ gb284)); have n9_ := Aside0.mk ((by rw [hg]; exact Nat.ne_of_gt (IsS54.lt (show IsS54 w _ g274 t272 t277 from by repeat (first | (with_reducible first | exact HI274.out | apply IsS54.alloc | apply IsS54.drewN | apply IsS54.drew | apply IsS54.set_1 | refine IsS54.far ?_ NB274_278.out _) | exact HI274.out))) : gb284 ≠ g274)); clear HI274; clear BK278; clear HB; have HI274 := n0_; have BK278 := n1_; have HB := n2_; have BK284 := n3_; have GW284 := n4_; have GE284 := n5_; have NB278_284 := n6_; have NB284_278 := n7_; have NB274_284 := n8_; have NB284_274 := n9_; clear n0_ n1_ n2_ n3_ n4_ n5_ n6_ n7_ n8_ n9_; clear hb hbox hg; have hnb19 := NB284_278.out; have hnc19 := NB278_284.out; have hnb20 := NB284_274.out; have hnc20 := NB274_284.out; have hcz21_0 : w18.cell? ⟨gb284, 0, none⟩ = some (.int .i64 0) := (blk_cell BK284.out 0).trans rfl; have hcz21_1 : w18.cell? ⟨gb284, 1, none⟩ = some (.int .i64 0) := (blk_cell BK284.out 1).trans rfl; have hfz21_0 := blk_frozen BK284.out 0; have hfz21_1 := blk_frozen BK284.out 1))
  (try simp only [Act.put, List.setIfInBounds_toArray, List.set_cons_zero, List.set_cons_succ])
  go_cut [51] (fun v51 wc => ∃ (kq : Nat) (x51_6 : Bool), v51 = .bool x51_6 ∧ Aside0 (shapesearchlaw01_RatioRounds.j0 kq t280 x51_6 t275 t276 = some r) ∧ Aside0 (kq ≤ k) ∧ Aside0 (wc.heap[gb278]? = some (.cells #[.int .i64 t275, .int .i64 t276] 24 (0, 0))) ∧ Aside0 (wc.heap[gb284]? = some (.cells #[.int .i64 t281, .int .i64 t282] 24 (0, 0))) ∧ Aside0 (Below w.heap.size w wc))
  case first =>
    have H := HC7.out
    clear HC7
    by_cases c22 : t283 = 0
    · rw [if_pos c22] at H
      have c22b0 : (t283 == 0) = true := beq_iff_eq.mpr c22
      have c22b1 : (t283 != 0) = false := bne_eq_false_iff_eq.mpr c22
      clear c22
      (first | rw [c22b0] | (simp only [i64_w, i32_w]; rw [c22b0]) | rw [c22b1] | skip)
      replace H := Option.bind_eq_some_iff.mp H
      obtain ⟨t285, A230, H⟩ := H
      replace H : (if t285 = true then (shapesearchlaw01_RatioRounds.j0 k t280 true t275 t276) else (if ((t279 == t280) != (t276 == 1)) = true then (shapesearchlaw01_RatioRounds.j0 k t280 true t275 t276) else (if (wrap64 (t280 - t279)) = 0 then (shapesearchlaw01_RatioRounds.j0 k t280 false t275 t276) else (shapesearchlaw01_RatioRounds.j0 k t280 ((wrap64 (t280 - t279)) != 1) t275 t276)))) = some r := H
      have A23 := Aside0.mk A230
      clear A230
      by_cases c24 : t285 = true
      · subst c24
        have H1 : (shapesearchlaw01_RatioRounds.j0 k t280 true t275 t276) = some r := by rw [if_pos rfl] at H; exact H
        clear H
        have H := H1
        clear H1
        have H' := Aside0.mk H
        clear H
        have hnb25 := NB278_284.out
        have hnc25 := NB284_278.out
        have hnb26 := NB278_274.out
        have hnc26 := NB274_278.out
        have hcz27_0 : w18.cell? ⟨gb278, 0, none⟩ = some (.int .i64 t275) := (blk_cell BK278.out 0).trans rfl
        have hcz27_1 : w18.cell? ⟨gb278, 1, none⟩ = some (.int .i64 t276) := (blk_cell BK278.out 1).trans rfl
        have hfz27_0 := blk_frozen BK278.out 0
        have hfz27_1 := blk_frozen BK278.out 1
        have hnb28 := NB284_274.out
        have hnc28 := NB274_284.out
        have hcz29_0 : w18.cell? ⟨gb284, 0, none⟩ = some (.int .i64 0) := (blk_cell BK284.out 0).trans rfl
        have hcz29_1 : w18.cell? ⟨gb284, 1, none⟩ = some (.int .i64 0) := (blk_cell BK284.out 1).trans rfl
        have hfz29_0 := blk_frozen BK284.out 0
        have hfz29_1 := blk_frozen BK284.out 1
        go_wp2_with (first | (go_at_call 17; (with_reducible refine (ratio_Less.calls k t275 t276 t281 t282 true _ A23.out).mono ?_); rintro e w30 ⟨rfl, hb⟩; have n0_ := Aside0.mk (IsS54.below (show IsS54 w ((w18.setCell ⟨gb284, 0, none⟩ (.int .i64 t281)).setCell ⟨gb284, 1, none⟩ (.int .i64 t282)) g274 t272 t277 from by repeat (first | (with_reducible first | exact HI274.out | apply IsS54.alloc | apply IsS54.drewN | apply IsS54.drew | apply IsS54.set_1 | refine IsS54.far ?_ NB274_278.out _ | refine IsS54.far ?_ NB274_284.out _) | exact HI274.out)) hb); have n1_ := Aside0.mk (blk_below (g := gb278) (o := .cells #[.int .i64 t275, .int .i64 t276] 24 (0, 0)) (by (with_reducible repeat (first | refine blk_drewN ?_ _ | refine blk_drew ?_ | refine blk_alloc ?_ _)); refine blk_far ?_ NB278_284.out _; (with_reducible repeat (first | refine blk_drewN ?_ _ | refine blk_drew ?_ | refine blk_alloc ?_ _)); refine blk_far ?_ NB278_284.out _; (with_reducible repeat (first | refine blk_drewN ?_ _ | refine blk_drew ?_ | refine blk_alloc ?_ _)); exact BK278.out) hb); have n2_ := Aside0.mk (blk_below (g := gb284) (o := .cells #[.int .i64 t281, .int .i64 t282] 24 (0, 0)) (by (with_reducible repeat (first | refine blk_drewN ?_ _ | refine blk_drew ?_ | refine blk_alloc ?_ _)); refine blk_put (cs := #[.int .i64 t281, .int .i64 0]) ?_ 1 _ rfl; (with_reducible repeat (first | refine blk_drewN ?_ _ | refine blk_drew ?_ | refine blk_alloc ?_ _)); refine blk_put (cs := #[.int .i64 0, .int .i64 0]) ?_ 0 _ rfl; (with_reducible repeat (first | refine blk_drewN ?_ _ | refine blk_drew ?_ | refine blk_alloc ?_ _)); exact BK284.out) hb); have n3_ := Aside0.mk (below_step (by repeat (first | (with_reducible first | exact HB.out | apply below_alloc | apply pw_below_drewN | apply below_drew1 | refine below_set ?_ (IsS54.ge HI274.out) | refine below_set ?_ GE278.out | refine below_set ?_ GE284.out) | exact HB.out)) hb); clear HI274; clear BK278; clear BK284; clear HB; have HI274 := n0_; have BK278 := n1_; have BK284 := n2_; have HB := n3_; clear n0_ n1_ n2_ n3_; (try clear hb); (try clear hb2); (try clear hk); (try clear hi)))
        go_meet
        case rel => exact ⟨_, (true), (by first | rfl | (simp; done) | (simp [*]; done)), H', ⟨by first | omega | exact Nat.le_refl _⟩, ⟨by (with_reducible repeat (first | refine blk_drewN ?_ _ | refine blk_drew ?_ | refine blk_alloc ?_ _)); exact BK278.out⟩, ⟨by (with_reducible repeat (first | refine blk_drewN ?_ _ | refine blk_drew ?_ | refine blk_alloc ?_ _)); exact BK284.out⟩, ⟨by repeat (first | (with_reducible first | exact HB.out | apply below_alloc | apply pw_below_drewN | apply below_drew1 | refine below_set ?_ (IsS54.ge HI274.out) | refine below_set ?_ GE278.out | refine below_set ?_ GE284.out) | exact HB.out)⟩⟩
      · replace c24 := Bool.eq_false_iff.mpr c24
        subst c24
        have H1 : (if ((t279 == t280) != (t276 == 1)) = true then (shapesearchlaw01_RatioRounds.j0 k t280 true t275 t276) else (if (wrap64 (t280 - t279)) = 0 then (shapesearchlaw01_RatioRounds.j0 k t280 false t275 t276) else (shapesearchlaw01_RatioRounds.j0 k t280 ((wrap64 (t280 - t279)) != 1) t275 t276))) = some r := by rw [if_neg (show ¬ (false = true) by decide)] at H; exact H
        clear H
        have H := H1
        clear H1
        by_cases c31 : ((t279 == t280) != (t276 == 1)) = true
        · rw [if_pos c31] at H
          have c31b0 : ((t279 == t280) != (t276 == 1)) = true := c31
          (try (have c31b1 : decide ((t279 == t280) = (t276 == 1)) = false := by simpa using c31))
          (try (have c31b2 : ((t279 == t280) == (t276 == 1)) = false := by simpa using c31))
          (try (have c31b3 : ¬ ((t279 == t280) = (t276 == 1)) := by simpa using c31))
          clear c31
          have H' := Aside0.mk H
          clear H
          have hnb32 := NB278_284.out
          have hnc32 := NB284_278.out
          have hnb33 := NB278_274.out
          have hnc33 := NB274_278.out
          have hcz34_0 : w18.cell? ⟨gb278, 0, none⟩ = some (.int .i64 t275) := (blk_cell BK278.out 0).trans rfl
          have hcz34_1 : w18.cell? ⟨gb278, 1, none⟩ = some (.int .i64 t276) := (blk_cell BK278.out 1).trans rfl
          have hfz34_0 := blk_frozen BK278.out 0
          have hfz34_1 := blk_frozen BK278.out 1
          have hnb35 := NB284_274.out
          have hnc35 := NB274_284.out
          have hcz36_0 : w18.cell? ⟨gb284, 0, none⟩ = some (.int .i64 0) := (blk_cell BK284.out 0).trans rfl
          have hcz36_1 : w18.cell? ⟨gb284, 1, none⟩ = some (.int .i64 0) := (blk_cell BK284.out 1).trans rfl
          have hfz36_0 := blk_frozen BK284.out 0
          have hfz36_1 := blk_frozen BK284.out 1
          go_wp2_with (first | (go_at_call 17; (with_reducible refine (ratio_Less.calls k t275 t276 t281 t282 false _ A23.out).mono ?_); rintro e w37 ⟨rfl, hb⟩; have n0_ := Aside0.mk (IsS54.below (show IsS54 w ((w18.setCell ⟨gb284, 0, none⟩ (.int .i64 t281)).setCell ⟨gb284, 1, none⟩ (.int .i64 t282)) g274 t272 t277 from by repeat (first | (with_reducible first | exact HI274.out | apply IsS54.alloc | apply IsS54.drewN | apply IsS54.drew | apply IsS54.set_1 | refine IsS54.far ?_ NB274_278.out _ | refine IsS54.far ?_ NB274_284.out _) | exact HI274.out)) hb); have n1_ := Aside0.mk (blk_below (g := gb278) (o := .cells #[.int .i64 t275, .int .i64 t276] 24 (0, 0)) (by (with_reducible repeat (first | refine blk_drewN ?_ _ | refine blk_drew ?_ | refine blk_alloc ?_ _)); refine blk_far ?_ NB278_284.out _; (with_reducible repeat (first | refine blk_drewN ?_ _ | refine blk_drew ?_ | refine blk_alloc ?_ _)); refine blk_far ?_ NB278_284.out _; (with_reducible repeat (first | refine blk_drewN ?_ _ | refine blk_drew ?_ | refine blk_alloc ?_ _)); exact BK278.out) hb); have n2_ := Aside0.mk (blk_below (g := gb284) (o := .cells #[.int .i64 t281, .int .i64 t282] 24 (0, 0)) (by (with_reducible repeat (first | refine blk_drewN ?_ _ | refine blk_drew ?_ | refine blk_alloc ?_ _)); refine blk_put (cs := #[.int .i64 t281, .int .i64 0]) ?_ 1 _ rfl; (with_reducible repeat (first | refine blk_drewN ?_ _ | refine blk_drew ?_ | refine blk_alloc ?_ _)); refine blk_put (cs := #[.int .i64 0, .int .i64 0]) ?_ 0 _ rfl; (with_reducible repeat (first | refine blk_drewN ?_ _ | refine blk_drew ?_ | refine blk_alloc ?_ _)); exact BK284.out) hb); have n3_ := Aside0.mk (below_step (by repeat (first | (with_reducible first | exact HB.out | apply below_alloc | apply pw_below_drewN | apply below_drew1 | refine below_set ?_ (IsS54.ge HI274.out) | refine below_set ?_ GE278.out | refine below_set ?_ GE284.out) | exact HB.out)) hb); clear HI274; clear BK278; clear BK284; clear HB; have HI274 := n0_; have BK278 := n1_; have BK284 := n2_; have HB := n3_; clear n0_ n1_ n2_ n3_; (try clear hb); (try clear hb2); (try clear hk); (try clear hi); have hcz38_0 : w37.cell? ⟨gb278, 0, none⟩ = some (.int .i64 t275) := (blk_cell BK278.out 0).trans rfl; have hcz38_1 : w37.cell? ⟨gb278, 1, none⟩ = some (.int .i64 t276) := (blk_cell BK278.out 1).trans rfl; have hfz38_0 := blk_frozen BK278.out 0; have hfz38_1 := blk_frozen BK278.out 1))
          go_meet
          case rel => exact ⟨_, (true), (by first | rfl | (simp; done) | (simp [*]; done)), H', ⟨by first | omega | exact Nat.le_refl _⟩, ⟨by (with_reducible repeat (first | refine blk_drewN ?_ _ | refine blk_drew ?_ | refine blk_alloc ?_ _)); exact BK278.out⟩, ⟨by (with_reducible repeat (first | refine blk_drewN ?_ _ | refine blk_drew ?_ | refine blk_alloc ?_ _)); exact BK284.out⟩, ⟨by repeat (first | (with_reducible first | exact HB.out | apply below_alloc | apply pw_below_drewN | apply below_drew1 | refine below_set ?_ (IsS54.ge HI274.out) | refine below_set ?_ GE278.out | refine below_set ?_ GE284.out) | exact HB.out)⟩⟩
        · rw [if_neg c31] at H
          have c31b0 : ((t279 == t280) != (t276 == 1)) = false := by simpa using c31
          (try (have c31b1 : decide ((t279 == t280) = (t276 == 1)) = true := by simpa using c31))
          (try (have c31b2 : ((t279 == t280) == (t276 == 1)) = true := by simpa using c31))
          clear c31
          by_cases c39 : (wrap64 (t280 - t279)) = 0
          · rw [if_pos c39] at H
            have c39b0 : ((wrap64 (t280 - t279)) == 0) = true := beq_iff_eq.mpr c39
            have c39b1 : ((wrap64 (t280 - t279)) != 0) = false := bne_eq_false_iff_eq.mpr c39
            clear c39
            have H' := Aside0.mk H
            clear H
            have hnb40 := NB278_284.out
            have hnc40 := NB284_278.out
            have hnb41 := NB278_274.out
            have hnc41 := NB274_278.out
            have hcz42_0 : w18.cell? ⟨gb278, 0, none⟩ = some (.int .i64 t275) := (blk_cell BK278.out 0).trans rfl
            have hcz42_1 : w18.cell? ⟨gb278, 1, none⟩ = some (.int .i64 t276) := (blk_cell BK278.out 1).trans rfl
            have hfz42_0 := blk_frozen BK278.out 0
            have hfz42_1 := blk_frozen BK278.out 1
            have hnb43 := NB284_274.out
            have hnc43 := NB274_284.out
            have hcz44_0 : w18.cell? ⟨gb284, 0, none⟩ = some (.int .i64 0) := (blk_cell BK284.out 0).trans rfl
            have hcz44_1 : w18.cell? ⟨gb284, 1, none⟩ = some (.int .i64 0) := (blk_cell BK284.out 1).trans rfl
            have hfz44_0 := blk_frozen BK284.out 0
            have hfz44_1 := blk_frozen BK284.out 1
            go_wp2_with (first | (go_at_call 17; (with_reducible refine (ratio_Less.calls k t275 t276 t281 t282 false _ A23.out).mono ?_); rintro e w45 ⟨rfl, hb⟩; have n0_ := Aside0.mk (IsS54.below (show IsS54 w ((w18.setCell ⟨gb284, 0, none⟩ (.int .i64 t281)).setCell ⟨gb284, 1, none⟩ (.int .i64 t282)) g274 t272 t277 from by repeat (first | (with_reducible first | exact HI274.out | apply IsS54.alloc | apply IsS54.drewN | apply IsS54.drew | apply IsS54.set_1 | refine IsS54.far ?_ NB274_278.out _ | refine IsS54.far ?_ NB274_284.out _) | exact HI274.out)) hb); have n1_ := Aside0.mk (blk_below (g := gb278) (o := .cells #[.int .i64 t275, .int .i64 t276] 24 (0, 0)) (by (with_reducible repeat (first | refine blk_drewN ?_ _ | refine blk_drew ?_ | refine blk_alloc ?_ _)); refine blk_far ?_ NB278_284.out _; (with_reducible repeat (first | refine blk_drewN ?_ _ | refine blk_drew ?_ | refine blk_alloc ?_ _)); refine blk_far ?_ NB278_284.out _; (with_reducible repeat (first | refine blk_drewN ?_ _ | refine blk_drew ?_ | refine blk_alloc ?_ _)); exact BK278.out) hb); have n2_ := Aside0.mk (blk_below (g := gb284) (o := .cells #[.int .i64 t281, .int .i64 t282] 24 (0, 0)) (by (with_reducible repeat (first | refine blk_drewN ?_ _ | refine blk_drew ?_ | refine blk_alloc ?_ _)); refine blk_put (cs := #[.int .i64 t281, .int .i64 0]) ?_ 1 _ rfl; (with_reducible repeat (first | refine blk_drewN ?_ _ | refine blk_drew ?_ | refine blk_alloc ?_ _)); refine blk_put (cs := #[.int .i64 0, .int .i64 0]) ?_ 0 _ rfl; (with_reducible repeat (first | refine blk_drewN ?_ _ | refine blk_drew ?_ | refine blk_alloc ?_ _)); exact BK284.out) hb); have n3_ := Aside0.mk (below_step (by repeat (first | (with_reducible first | exact HB.out | apply below_alloc | apply pw_below_drewN | apply below_drew1 | refine below_set ?_ (IsS54.ge HI274.out) | refine below_set ?_ GE278.out | refine below_set ?_ GE284.out) | exact HB.out)) hb); clear HI274; clear BK278; clear BK284; clear HB; have HI274 := n0_; have BK278 := n1_; have BK284 := n2_; have HB := n3_; clear n0_ n1_ n2_ n3_; (try clear hb); (try clear hb2); (try clear hk); (try clear hi); have hcz46_0 : w45.cell? ⟨gb278, 0, none⟩ = some (.int .i64 t275) := (blk_cell BK278.out 0).trans rfl; have hcz46_1 : w45.cell? ⟨gb278, 1, none⟩ = some (.int .i64 t276) := (blk_cell BK278.out 1).trans rfl; have hfz46_0 := blk_frozen BK278.out 0; have hfz46_1 := blk_frozen BK278.out 1))
            go_meet
            case rel => exact ⟨_, (false), (by first | rfl | (simp; done) | (simp [*]; done)), H', ⟨by first | omega | exact Nat.le_refl _⟩, ⟨by (with_reducible repeat (first | refine blk_drewN ?_ _ | refine blk_drew ?_ | refine blk_alloc ?_ _)); exact BK278.out⟩, ⟨by (with_reducible repeat (first | refine blk_drewN ?_ _ | refine blk_drew ?_ | refine blk_alloc ?_ _)); exact BK284.out⟩, ⟨by repeat (first | (with_reducible first | exact HB.out | apply below_alloc | apply pw_below_drewN | apply below_drew1 | refine below_set ?_ (IsS54.ge HI274.out) | refine below_set ?_ GE278.out | refine below_set ?_ GE284.out) | exact HB.out)⟩⟩
          · rw [if_neg c39] at H
            have c39b0 : ((wrap64 (t280 - t279)) == 0) = false := beq_eq_false_iff_ne.mpr c39
            have c39b1 : ((wrap64 (t280 - t279)) != 0) = true := bne_iff_ne.mpr c39
            have H' := Aside0.mk H
            clear H
            have hnb47 := NB278_284.out
            have hnc47 := NB284_278.out
            have hnb48 := NB278_274.out
            have hnc48 := NB274_278.out
            have hcz49_0 : w18.cell? ⟨gb278, 0, none⟩ = some (.int .i64 t275) := (blk_cell BK278.out 0).trans rfl
            have hcz49_1 : w18.cell? ⟨gb278, 1, none⟩ = some (.int .i64 t276) := (blk_cell BK278.out 1).trans rfl
            have hfz49_0 := blk_frozen BK278.out 0
            have hfz49_1 := blk_frozen BK278.out 1
            have hnb50 := NB284_274.out
            have hnc50 := NB274_284.out
            have hcz51_0 : w18.cell? ⟨gb284, 0, none⟩ = some (.int .i64 0) := (blk_cell BK284.out 0).trans rfl
            have hcz51_1 : w18.cell? ⟨gb284, 1, none⟩ = some (.int .i64 0) := (blk_cell BK284.out 1).trans rfl
            have hfz51_0 := blk_frozen BK284.out 0
            have hfz51_1 := blk_frozen BK284.out 1
            go_wp2_with (first | (go_at_call 17; (with_reducible refine (ratio_Less.calls k t275 t276 t281 t282 false _ A23.out).mono ?_); rintro e w52 ⟨rfl, hb⟩; have n0_ := Aside0.mk (IsS54.below (show IsS54 w ((w18.setCell ⟨gb284, 0, none⟩ (.int .i64 t281)).setCell ⟨gb284, 1, none⟩ (.int .i64 t282)) g274 t272 t277 from by repeat (first | (with_reducible first | exact HI274.out | apply IsS54.alloc | apply IsS54.drewN | apply IsS54.drew | apply IsS54.set_1 | refine IsS54.far ?_ NB274_278.out _ | refine IsS54.far ?_ NB274_284.out _) | exact HI274.out)) hb); have n1_ := Aside0.mk (blk_below (g := gb278) (o := .cells #[.int .i64 t275, .int .i64 t276] 24 (0, 0)) (by (with_reducible repeat (first | refine blk_drewN ?_ _ | refine blk_drew ?_ | refine blk_alloc ?_ _)); refine blk_far ?_ NB278_284.out _; (with_reducible repeat (first | refine blk_drewN ?_ _ | refine blk_drew ?_ | refine blk_alloc ?_ _)); refine blk_far ?_ NB278_284.out _; (with_reducible repeat (first | refine blk_drewN ?_ _ | refine blk_drew ?_ | refine blk_alloc ?_ _)); exact BK278.out) hb); have n2_ := Aside0.mk (blk_below (g := gb284) (o := .cells #[.int .i64 t281, .int .i64 t282] 24 (0, 0)) (by (with_reducible repeat (first | refine blk_drewN ?_ _ | refine blk_drew ?_ | refine blk_alloc ?_ _)); refine blk_put (cs := #[.int .i64 t281, .int .i64 0]) ?_ 1 _ rfl; (with_reducible repeat (first | refine blk_drewN ?_ _ | refine blk_drew ?_ | refine blk_alloc ?_ _)); refine blk_put (cs := #[.int .i64 0, .int .i64 0]) ?_ 0 _ rfl; (with_reducible repeat (first | refine blk_drewN ?_ _ | refine blk_drew ?_ | refine blk_alloc ?_ _)); exact BK284.out) hb); have n3_ := Aside0.mk (below_step (by repeat (first | (with_reducible first | exact HB.out | apply below_alloc | apply pw_below_drewN | apply below_drew1 | refine below_set ?_ (IsS54.ge HI274.out) | refine below_set ?_ GE278.out | refine below_set ?_ GE284.out) | exact HB.out)) hb); clear HI274; clear BK278; clear BK284; clear HB; have HI274 := n0_; have BK278 := n1_; have BK284 := n2_; have HB := n3_; clear n0_ n1_ n2_ n3_; (try clear hb); (try clear hb2); (try clear hk); (try clear hi); have hcz53_0 : w52.cell? ⟨gb278, 0, none⟩ = some (.int .i64 t275) := (blk_cell BK278.out 0).trans rfl; have hcz53_1 : w52.cell? ⟨gb278, 1, none⟩ = some (.int .i64 t276) := (blk_cell BK278.out 1).trans rfl; have hfz53_0 := blk_frozen BK278.out 0; have hfz53_1 := blk_frozen BK278.out 1))
            go_meet
            case rel => exact ⟨_, (((wrap64 (t280 - t279)) != 1)), (by first | rfl | (simp; done) | (simp [*]; done)), H', ⟨by first | omega | exact Nat.le_refl _⟩, ⟨by (with_reducible repeat (first | refine blk_drewN ?_ _ | refine blk_drew ?_ | refine blk_alloc ?_ _)); exact BK278.out⟩, ⟨by (with_reducible repeat (first | refine blk_drewN ?_ _ | refine blk_drew ?_ | refine blk_alloc ?_ _)); exact BK284.out⟩, ⟨by repeat (first | (with_reducible first | exact HB.out | apply below_alloc | apply pw_below_drewN | apply below_drew1 | refine below_set ?_ (IsS54.ge HI274.out) | refine below_set ?_ GE278.out | refine below_set ?_ GE284.out) | exact HB.out)⟩⟩
    · rw [if_neg c22] at H
      have c22b0 : (t283 == 0) = false := beq_eq_false_iff_ne.mpr c22
      have c22b1 : (t283 != 0) = true := bne_iff_ne.mpr c22
      (first | rw [c22b0] | (simp only [i64_w, i32_w]; rw [c22b0]) | rw [c22b1] | skip)
      have H' := Aside0.mk H
      clear H
      go_wp2
      go_meet
      case rel => exact ⟨_, (true), (by first | rfl | (simp; done) | (simp [*]; done)), H', ⟨by first | omega | exact Nat.le_refl _⟩, ⟨by (with_reducible repeat (first | refine blk_drewN ?_ _ | refine blk_drew ?_ | refine blk_alloc ?_ _)); refine blk_far ?_ NB278_284.out _; (with_reducible repeat (first | refine blk_drewN ?_ _ | refine blk_drew ?_ | refine blk_alloc ?_ _)); refine blk_far ?_ NB278_284.out _; (with_reducible repeat (first | refine blk_drewN ?_ _ | refine blk_drew ?_ | refine blk_alloc ?_ _)); exact BK278.out⟩, ⟨by (with_reducible repeat (first | refine blk_drewN ?_ _ | refine blk_drew ?_ | refine blk_alloc ?_ _)); refine blk_put (cs := #[.int .i64 t281, .int .i64 0]) ?_ 1 _ rfl; (with_reducible repeat (first | refine blk_drewN ?_ _ | refine blk_drew ?_ | refine blk_alloc ?_ _)); refine blk_put (cs := #[.int .i64 0, .int .i64 0]) ?_ 0 _ rfl; (with_reducible repeat (first | refine blk_drewN ?_ _ | refine blk_drew ?_ | refine blk_alloc ?_ _)); exact BK284.out⟩, ⟨by repeat (first | (with_reducible first | exact HB.out | apply below_alloc | apply pw_below_drewN | apply below_drew1 | refine below_set ?_ (IsS54.ge HI274.out) | refine below_set ?_ GE278.out | refine below_set ?_ GE284.out) | exact HB.out)⟩⟩
  case rest =>
    clear HC7
    try clear c1
    try clear c2
    try clear p2
    try clear c3
    try clear c4
    try clear c5
    try clear p6
    try clear c7
    try clear c11
    try clear c14
    try clear c15
    try clear c19
    try clear c20
    try clear c22
    try clear c22b0
    try clear c22b1
    try clear c24
    try clear c25
    try clear c26
    try clear c28
    try clear c31
    try clear c31b0
    try clear c31b1
    try clear c31b2
    try clear c32
    try clear c33
    try clear c35
    try clear c39
    try clear c39b0
    try clear c39b1
    try clear c40
    try clear c41
    try clear c43
    try clear c47
    try clear c48
    try clear c50
    try clear hcz12_0
    try clear hcz12_1
    try clear hcz21_0
    try clear hcz21_1
    try clear hcz27_0
    try clear hcz27_1
    try clear hcz29_0
    try clear hcz29_1
    try clear hcz34_0
    try clear hcz34_1
    try clear hcz36_0
    try clear hcz36_1
    try clear hcz38_0
    try clear hcz38_1
    try clear hcz42_0
    try clear hcz42_1
    try clear hcz44_0
    try clear hcz44_1
    try clear hcz46_0
    try clear hcz46_1
    try clear hcz49_0
    try clear hcz49_1
    try clear hcz51_0
    try clear hcz51_1
    try clear hcz53_0
    try clear hcz53_1
    try clear hfz12_0
    try clear hfz12_1
    try clear hfz21_0
    try clear hfz21_1
    try clear hfz27_0
    try clear hfz27_1
    try clear hfz29_0
    try clear hfz29_1
    try clear hfz34_0
    try clear hfz34_1
    try clear hfz36_0
    try clear hfz36_1
    try clear hfz38_0
    try clear hfz38_1
    try clear hfz42_0
    try clear hfz42_1
    try clear hfz44_0
    try clear hfz44_1
    try clear hfz46_0
    try clear hfz46_1
    try clear hfz49_0
    try clear hfz49_1
    try clear hfz51_0
    try clear hfz51_1
    try clear hfz53_0
    try clear hfz53_1
    obtain ⟨kq, x51_6, rfl, HA, HJ6, BK278, BK284, HB⟩ := hcut
    cases kq with
    | zero => exact absurd HA.out (by simp [shapesearchlaw01_RatioRounds.j0])
    | succ kj6 =>
      have H := HA.out
      clear HA
      simp only [shapesearchlaw01_RatioRounds.j0] at H
      by_cases c54 : x51_6 = true
      · subst c54
        have H1 : (none) = some r := by rw [if_pos rfl] at H; exact H
        clear H
        have H := H1
        clear H1
        exact absurd H (by simp)
      · replace c54 := Bool.eq_false_iff.mpr c54
        subst c54
        have H1 : ((ratio_Make.f kj6 t280 1).bind fun bt286 => (if bt286.2.2 = 0 then ((ratio_Less.f kj6 bt286.1 bt286.2.1 t275 t276).bind fun t290 => (if t290 = true then (none) else ((shapesearchlaw01_awake.f kj6).bind fun t291 => (some t291)))) else ((shapesearchlaw01_awake.f kj6).bind fun t292 => (some t292)))) = some r := by rw [if_neg (show ¬ (false = true) by decide)] at H; exact H
        clear H
        have H := H1
        clear H1
        replace H := Option.bind_eq_some_iff.mp H
        obtain ⟨⟨t286, t287, t288⟩, A550, H⟩ := H
        replace H : (if t288 = 0 then ((ratio_Less.f kj6 t286 t287 t275 t276).bind fun t290 => (if t290 = true then (none) else ((shapesearchlaw01_awake.f kj6).bind fun t291 => (some t291)))) else ((shapesearchlaw01_awake.f kj6).bind fun t292 => (some t292))) = some r := H
        have A55 := Aside0.mk A550
        clear A550
        by_cases c56 : t288 = 0
        · rw [if_pos c56] at H
          have c56b0 : (t288 == 0) = true := beq_iff_eq.mpr c56
          have c56b1 : (t288 != 0) = false := bne_eq_false_iff_eq.mpr c56
          clear c56
          replace H := Option.bind_eq_some_iff.mp H
          obtain ⟨t290, A570, H⟩ := H
          replace H : (if t290 = true then (none) else ((shapesearchlaw01_awake.f kj6).bind fun t291 => (some t291))) = some r := H
          have A57 := Aside0.mk A570
          clear A570
          by_cases c58 : t290 = true
          · subst c58
            have H1 : (none) = some r := by rw [if_pos rfl] at H; exact H
            clear H
            have H := H1
            clear H1
            exact absurd H (by simp)
          · replace c58 := Bool.eq_false_iff.mpr c58
            subst c58
            have H1 : ((shapesearchlaw01_awake.f kj6).bind fun t291 => (some t291)) = some r := by rw [if_neg (show ¬ (false = true) by decide)] at H; exact H
            clear H
            have H := H1
            clear H1
            replace H := Option.bind_eq_some_iff.mp H
            obtain ⟨t291, A590, H⟩ := H
            replace H : (some t291) = some r := H
            have A59 := Aside0.mk A590
            clear A590
            obtain rfl := Option.some.inj H
            go_wp2_with (first | ((with_reducible refine gate_callee (f := 11) rfl ?_); refine goesL_ (some 54) rfl rfl Tryd.func11 (by kernel_rfl) rfl #[.int .i64 t280, .int .i64 1] rfl (by (try simp only [List.map_toArray, List.map_cons, List.map_nil]); first | done | rfl | (simp only [List.length_drop, List.length_take]; rfl)) ?_; (with_reducible refine (ratio_Make.calls kj6 t280 1 t286 t287 t288 _ A55.out).mono ?_); rintro e w60 ⟨rfl, hb⟩; refine ⟨_, rfl, ?_⟩; have n0_ := Aside0.mk (blk_below (g := gb278) (o := .cells #[.int .i64 t275, .int .i64 t276] 24 (0, 0)) (by (with_reducible repeat (first | refine blk_drewN ?_ _ | refine blk_drew ?_ | refine blk_alloc ?_ _)); exact BK278.out) hb); have n1_ := Aside0.mk (blk_below (g := gb284) (o := .cells #[.int .i64 t281, .int .i64 t282] 24 (0, 0)) (by (with_reducible repeat (first | refine blk_drewN ?_ _ | refine blk_drew ?_ | refine blk_alloc ?_ _)); exact BK284.out) hb); have n2_ := Aside0.mk (below_step (by repeat (first | (with_reducible first | exact HB.out | apply below_alloc | apply pw_below_drewN | apply below_drew1 | refine below_set ?_ GE278.out | refine below_set ?_ GE284.out) | exact HB.out)) hb); clear BK278; clear BK284; clear HB; have BK278 := n0_; have BK284 := n1_; have HB := n2_; clear n0_ n1_ n2_; (try clear hb); (try clear hb2); (try clear hk); (try clear hi)) | ((with_reducible refine gate_dst (N := 9) rfl ?_); refine box_event ?hg (N := 9) ?hd (cs := #[.int .i64 0, .int .i64 0]) (t := 24) ?hr ?_; (case hd => rfl); (case hg => rfl); (case hr => first | (go_simp; done) | (go_simp; rfl)); intro gb289 hg w61 hbox hb; have n0_ := Aside0.mk (blk_below (g := gb278) (o := .cells #[.int .i64 t275, .int .i64 t276] 24 (0, 0)) (by (with_reducible repeat (first | refine blk_drewN ?_ _ | refine blk_drew ?_ | refine blk_alloc ?_ _)); exact BK278.out) hb); have n1_ := Aside0.mk (blk_below (g := gb284) (o := .cells #[.int .i64 t281, .int .i64 t282] 24 (0, 0)) (by (with_reducible repeat (first | refine blk_drewN ?_ _ | refine blk_drew ?_ | refine blk_alloc ?_ _)); exact BK284.out) hb); have n2_ := Aside0.mk (below_step (by repeat (first | (with_reducible first | exact HB.out | apply below_alloc | apply pw_below_drewN | apply below_drew1 | refine below_set ?_ GE278.out | refine below_set ?_ GE284.out) | exact HB.out)) hb); have n3_ := Aside0.mk (hbox); have n4_ := Aside0.mk ((by rw [hg]; exact (below_size (by repeat (first | (with_reducible first | exact HB.out | apply below_alloc | apply pw_below_drewN | apply below_drew1 | refine below_set ?_ GE278.out | refine below_set ?_ GE284.out) | exact HB.out))) : w.heap.size ≤ gb289)); have n5_ := Aside0.mk ((by rw [hg]; exact (below_size (by repeat (first | (with_reducible first | exact HB.out | apply below_alloc | apply pw_below_drewN | apply below_drew1 | refine below_set ?_ GE278.out | refine below_set ?_ GE284.out) | exact HB.out))) : w.heap.size ≤ gb289)); have n6_ := Aside0.mk ((by rw [hg]; exact Nat.ne_of_lt (blk_lt (g := gb278) (o := .cells #[.int .i64 t275, .int .i64 t276] 24 (0, 0)) (by (with_reducible repeat (first | refine blk_drewN ?_ _ | refine blk_drew ?_ | refine blk_alloc ?_ _)); exact BK278.out)) : gb278 ≠ gb289)); have n7_ := Aside0.mk ((by rw [hg]; exact Nat.ne_of_gt (blk_lt (g := gb278) (o := .cells #[.int .i64 t275, .int .i64 t276] 24 (0, 0)) (by (with_reducible repeat (first | refine blk_drewN ?_ _ | refine blk_drew ?_ | refine blk_alloc ?_ _)); exact BK278.out)) : gb289 ≠ gb278)); have n8_ := Aside0.mk ((by rw [hg]; exact Nat.ne_of_lt (blk_lt (g := gb284) (o := .cells #[.int .i64 t281, .int .i64 t282] 24 (0, 0)) (by (with_reducible repeat (first | refine blk_drewN ?_ _ | refine blk_drew ?_ | refine blk_alloc ?_ _)); exact BK284.out)) : gb284 ≠ gb289)); have n9_ := Aside0.mk ((by rw [hg]; exact Nat.ne_of_gt (blk_lt (g := gb284) (o := .cells #[.int .i64 t281, .int .i64 t282] 24 (0, 0)) (by (with_reducible repeat (first | refine blk_drewN ?_ _ | refine blk_drew ?_ | refine blk_alloc ?_ _)); exact BK284.out)) : gb289 ≠ gb284)); clear BK278; clear BK284; clear HB; have BK278 := n0_; have BK284 := n1_; have HB := n2_; have BK289 := n3_; have GW289 := n4_; have GE289 := n5_; have NB278_289 := n6_; have NB289_278 := n7_; have NB284_289 := n8_; have NB289_284 := n9_; clear n0_ n1_ n2_ n3_ n4_ n5_ n6_ n7_ n8_ n9_; clear hb hbox hg; have hnb62 := NB289_278.out; have hnc62 := NB278_289.out; have hnb63 := NB289_284.out; have hnc63 := NB284_289.out; have hcz64_0 : w61.cell? ⟨gb289, 0, none⟩ = some (.int .i64 0) := (blk_cell BK289.out 0).trans rfl; have hcz64_1 : w61.cell? ⟨gb289, 1, none⟩ = some (.int .i64 0) := (blk_cell BK289.out 1).trans rfl; have hfz64_0 := blk_frozen BK289.out 0; have hfz64_1 := blk_frozen BK289.out 1; have hnb65 := NB278_284.out; have hnc65 := NB284_278.out; have hcz66_0 : w61.cell? ⟨gb278, 0, none⟩ = some (.int .i64 t275) := (blk_cell BK278.out 0).trans rfl; have hcz66_1 : w61.cell? ⟨gb278, 1, none⟩ = some (.int .i64 t276) := (blk_cell BK278.out 1).trans rfl; have hfz66_0 := blk_frozen BK278.out 0; have hfz66_1 := blk_frozen BK278.out 1) | (go_at_call 17; (with_reducible refine (ratio_Less.calls kj6 t286 t287 t275 t276 false _ A57.out).mono ?_); rintro e w67 ⟨rfl, hb⟩; have n0_ := Aside0.mk (blk_below (g := gb278) (o := .cells #[.int .i64 t275, .int .i64 t276] 24 (0, 0)) (by (with_reducible repeat (first | refine blk_drewN ?_ _ | refine blk_drew ?_ | refine blk_alloc ?_ _)); refine blk_far ?_ NB278_289.out _; (with_reducible repeat (first | refine blk_drewN ?_ _ | refine blk_drew ?_ | refine blk_alloc ?_ _)); refine blk_far ?_ NB278_289.out _; (with_reducible repeat (first | refine blk_drewN ?_ _ | refine blk_drew ?_ | refine blk_alloc ?_ _)); exact BK278.out) hb); have n1_ := Aside0.mk (blk_below (g := gb284) (o := .cells #[.int .i64 t281, .int .i64 t282] 24 (0, 0)) (by (with_reducible repeat (first | refine blk_drewN ?_ _ | refine blk_drew ?_ | refine blk_alloc ?_ _)); refine blk_far ?_ NB284_289.out _; (with_reducible repeat (first | refine blk_drewN ?_ _ | refine blk_drew ?_ | refine blk_alloc ?_ _)); refine blk_far ?_ NB284_289.out _; (with_reducible repeat (first | refine blk_drewN ?_ _ | refine blk_drew ?_ | refine blk_alloc ?_ _)); exact BK284.out) hb); have n2_ := Aside0.mk (blk_below (g := gb289) (o := .cells #[.int .i64 t286, .int .i64 t287] 24 (0, 0)) (by (with_reducible repeat (first | refine blk_drewN ?_ _ | refine blk_drew ?_ | refine blk_alloc ?_ _)); refine blk_put (cs := #[.int .i64 t286, .int .i64 0]) ?_ 1 _ rfl; (with_reducible repeat (first | refine blk_drewN ?_ _ | refine blk_drew ?_ | refine blk_alloc ?_ _)); refine blk_put (cs := #[.int .i64 0, .int .i64 0]) ?_ 0 _ rfl; (with_reducible repeat (first | refine blk_drewN ?_ _ | refine blk_drew ?_ | refine blk_alloc ?_ _)); exact BK289.out) hb); have n3_ := Aside0.mk (below_step (by repeat (first | (with_reducible first | exact HB.out | apply below_alloc | apply pw_below_drewN | apply below_drew1 | refine below_set ?_ GE278.out | refine below_set ?_ GE284.out | refine below_set ?_ GE289.out) | exact HB.out)) hb); clear BK278; clear BK284; clear BK289; clear HB; have BK278 := n0_; have BK284 := n1_; have BK289 := n2_; have HB := n3_; clear n0_ n1_ n2_ n3_; (try clear hb); (try clear hb2); (try clear hk); (try clear hi)) | (go_at_call 13; (with_reducible refine (shapesearchlaw01_awake.calls kj6  t291 _ A59.out).mono ?_); rintro e w68 ⟨rfl, hb⟩; have n0_ := Aside0.mk (blk_below (g := gb278) (o := .cells #[.int .i64 t275, .int .i64 t276] 24 (0, 0)) (by (with_reducible repeat (first | refine blk_drewN ?_ _ | refine blk_drew ?_ | refine blk_alloc ?_ _)); exact BK278.out) hb); have n1_ := Aside0.mk (blk_below (g := gb284) (o := .cells #[.int .i64 t281, .int .i64 t282] 24 (0, 0)) (by (with_reducible repeat (first | refine blk_drewN ?_ _ | refine blk_drew ?_ | refine blk_alloc ?_ _)); exact BK284.out) hb); have n2_ := Aside0.mk (blk_below (g := gb289) (o := .cells #[.int .i64 t286, .int .i64 t287] 24 (0, 0)) (by (with_reducible repeat (first | refine blk_drewN ?_ _ | refine blk_drew ?_ | refine blk_alloc ?_ _)); exact BK289.out) hb); have n3_ := Aside0.mk (below_step (by repeat (first | (with_reducible first | exact HB.out | apply below_alloc | apply pw_below_drewN | apply below_drew1 | refine below_set ?_ GE278.out | refine below_set ?_ GE284.out | refine below_set ?_ GE289.out) | exact HB.out)) hb); clear BK278; clear BK284; clear BK289; clear HB; have BK278 := n0_; have BK284 := n1_; have BK289 := n2_; have HB := n3_; clear n0_ n1_ n2_ n3_; (try clear hb); (try clear hb2); (try clear hk); (try clear hi)))
            go_ret
            exact ⟨by first | rfl | (simp [errW_none, errW_some] <;> rfl) | (simp [*, errW_none, errW_some] <;> rfl), by repeat (first | (with_reducible first | exact HB.out | apply below_alloc | apply pw_below_drewN | apply below_drew1 | refine below_set ?_ GE278.out | refine below_set ?_ GE284.out | refine below_set ?_ GE289.out) | exact HB.out)⟩
        · rw [if_neg c56] at H
          have c56b0 : (t288 == 0) = false := beq_eq_false_iff_ne.mpr c56
          have c56b1 : (t288 != 0) = true := bne_iff_ne.mpr c56
          replace H := Option.bind_eq_some_iff.mp H
          obtain ⟨t292, A690, H⟩ := H
          replace H : (some t292) = some r := H
          have A69 := Aside0.mk A690
          clear A690
          obtain rfl := Option.some.inj H
          go_wp2_with (first | ((with_reducible refine gate_callee (f := 11) rfl ?_); refine goesL_ (some 54) rfl rfl Tryd.func11 (by kernel_rfl) rfl #[.int .i64 t280, .int .i64 1] rfl (by (try simp only [List.map_toArray, List.map_cons, List.map_nil]); first | done | rfl | (simp only [List.length_drop, List.length_take]; rfl)) ?_; (with_reducible refine (ratio_Make.calls kj6 t280 1 t286 t287 t288 _ A55.out).mono ?_); rintro e w70 ⟨rfl, hb⟩; refine ⟨_, rfl, ?_⟩; have n0_ := Aside0.mk (blk_below (g := gb278) (o := .cells #[.int .i64 t275, .int .i64 t276] 24 (0, 0)) (by (with_reducible repeat (first | refine blk_drewN ?_ _ | refine blk_drew ?_ | refine blk_alloc ?_ _)); exact BK278.out) hb); have n1_ := Aside0.mk (blk_below (g := gb284) (o := .cells #[.int .i64 t281, .int .i64 t282] 24 (0, 0)) (by (with_reducible repeat (first | refine blk_drewN ?_ _ | refine blk_drew ?_ | refine blk_alloc ?_ _)); exact BK284.out) hb); have n2_ := Aside0.mk (below_step (by repeat (first | (with_reducible first | exact HB.out | apply below_alloc | apply pw_below_drewN | apply below_drew1 | refine below_set ?_ GE278.out | refine below_set ?_ GE284.out) | exact HB.out)) hb); clear BK278; clear BK284; clear HB; have BK278 := n0_; have BK284 := n1_; have HB := n2_; clear n0_ n1_ n2_; (try clear hb); (try clear hb2); (try clear hk); (try clear hi)) | ((with_reducible refine gate_dst (N := 9) rfl ?_); refine box_event ?hg (N := 9) ?hd (cs := #[.int .i64 0, .int .i64 0]) (t := 24) ?hr ?_; (case hd => rfl); (case hg => rfl); (case hr => first | (go_simp; done) | (go_simp; rfl)); intro gb289 hg w71 hbox hb; have n0_ := Aside0.mk (blk_below (g := gb278) (o := .cells #[.int .i64 t275, .int .i64 t276] 24 (0, 0)) (by (with_reducible repeat (first | refine blk_drewN ?_ _ | refine blk_drew ?_ | refine blk_alloc ?_ _)); exact BK278.out) hb); have n1_ := Aside0.mk (blk_below (g := gb284) (o := .cells #[.int .i64 t281, .int .i64 t282] 24 (0, 0)) (by (with_reducible repeat (first | refine blk_drewN ?_ _ | refine blk_drew ?_ | refine blk_alloc ?_ _)); exact BK284.out) hb); have n2_ := Aside0.mk (below_step (by repeat (first | (with_reducible first | exact HB.out | apply below_alloc | apply pw_below_drewN | apply below_drew1 | refine below_set ?_ GE278.out | refine below_set ?_ GE284.out) | exact HB.out)) hb); have n3_ := Aside0.mk (hbox); have n4_ := Aside0.mk ((by rw [hg]; exact (below_size (by repeat (first | (with_reducible first | exact HB.out | apply below_alloc | apply pw_below_drewN | apply below_drew1 | refine below_set ?_ GE278.out | refine below_set ?_ GE284.out) | exact HB.out))) : w.heap.size ≤ gb289)); have n5_ := Aside0.mk ((by rw [hg]; exact (below_size (by repeat (first | (with_reducible first | exact HB.out | apply below_alloc | apply pw_below_drewN | apply below_drew1 | refine below_set ?_ GE278.out | refine below_set ?_ GE284.out) | exact HB.out))) : w.heap.size ≤ gb289)); have n6_ := Aside0.mk ((by rw [hg]; exact Nat.ne_of_lt (blk_lt (g := gb278) (o := .cells #[.int .i64 t275, .int .i64 t276] 24 (0, 0)) (by (with_reducible repeat (first | refine blk_drewN ?_ _ | refine blk_drew ?_ | refine blk_alloc ?_ _)); exact BK278.out)) : gb278 ≠ gb289)); have n7_ := Aside0.mk ((by rw [hg]; exact Nat.ne_of_gt (blk_lt (g := gb278) (o := .cells #[.int .i64 t275, .int .i64 t276] 24 (0, 0)) (by (with_reducible repeat (first | refine blk_drewN ?_ _ | refine blk_drew ?_ | refine blk_alloc ?_ _)); exact BK278.out)) : gb289 ≠ gb278)); have n8_ := Aside0.mk ((by rw [hg]; exact Nat.ne_of_lt (blk_lt (g := gb284) (o := .cells #[.int .i64 t281, .int .i64 t282] 24 (0, 0)) (by (with_reducible repeat (first | refine blk_drewN ?_ _ | refine blk_drew ?_ | refine blk_alloc ?_ _)); exact BK284.out)) : gb284 ≠ gb289)); have n9_ := Aside0.mk ((by rw [hg]; exact Nat.ne_of_gt (blk_lt (g := gb284) (o := .cells #[.int .i64 t281, .int .i64 t282] 24 (0, 0)) (by (with_reducible repeat (first | refine blk_drewN ?_ _ | refine blk_drew ?_ | refine blk_alloc ?_ _)); exact BK284.out)) : gb289 ≠ gb284)); clear BK278; clear BK284; clear HB; have BK278 := n0_; have BK284 := n1_; have HB := n2_; have BK289 := n3_; have GW289 := n4_; have GE289 := n5_; have NB278_289 := n6_; have NB289_278 := n7_; have NB284_289 := n8_; have NB289_284 := n9_; clear n0_ n1_ n2_ n3_ n4_ n5_ n6_ n7_ n8_ n9_; clear hb hbox hg; have hnb72 := NB289_278.out; have hnc72 := NB278_289.out; have hnb73 := NB289_284.out; have hnc73 := NB284_289.out; have hcz74_0 : w71.cell? ⟨gb289, 0, none⟩ = some (.int .i64 0) := (blk_cell BK289.out 0).trans rfl; have hcz74_1 : w71.cell? ⟨gb289, 1, none⟩ = some (.int .i64 0) := (blk_cell BK289.out 1).trans rfl; have hfz74_0 := blk_frozen BK289.out 0; have hfz74_1 := blk_frozen BK289.out 1) | (go_at_call 13; (with_reducible refine (shapesearchlaw01_awake.calls kj6  t292 _ A69.out).mono ?_); rintro e w75 ⟨rfl, hb⟩; have n0_ := Aside0.mk (blk_below (g := gb278) (o := .cells #[.int .i64 t275, .int .i64 t276] 24 (0, 0)) (by (with_reducible repeat (first | refine blk_drewN ?_ _ | refine blk_drew ?_ | refine blk_alloc ?_ _)); refine blk_far ?_ NB278_289.out _; (with_reducible repeat (first | refine blk_drewN ?_ _ | refine blk_drew ?_ | refine blk_alloc ?_ _)); refine blk_far ?_ NB278_289.out _; (with_reducible repeat (first | refine blk_drewN ?_ _ | refine blk_drew ?_ | refine blk_alloc ?_ _)); exact BK278.out) hb); have n1_ := Aside0.mk (blk_below (g := gb284) (o := .cells #[.int .i64 t281, .int .i64 t282] 24 (0, 0)) (by (with_reducible repeat (first | refine blk_drewN ?_ _ | refine blk_drew ?_ | refine blk_alloc ?_ _)); refine blk_far ?_ NB284_289.out _; (with_reducible repeat (first | refine blk_drewN ?_ _ | refine blk_drew ?_ | refine blk_alloc ?_ _)); refine blk_far ?_ NB284_289.out _; (with_reducible repeat (first | refine blk_drewN ?_ _ | refine blk_drew ?_ | refine blk_alloc ?_ _)); exact BK284.out) hb); have n2_ := Aside0.mk (blk_below (g := gb289) (o := .cells #[.int .i64 t286, .int .i64 t287] 24 (0, 0)) (by (with_reducible repeat (first | refine blk_drewN ?_ _ | refine blk_drew ?_ | refine blk_alloc ?_ _)); refine blk_put (cs := #[.int .i64 t286, .int .i64 0]) ?_ 1 _ rfl; (with_reducible repeat (first | refine blk_drewN ?_ _ | refine blk_drew ?_ | refine blk_alloc ?_ _)); refine blk_put (cs := #[.int .i64 0, .int .i64 0]) ?_ 0 _ rfl; (with_reducible repeat (first | refine blk_drewN ?_ _ | refine blk_drew ?_ | refine blk_alloc ?_ _)); exact BK289.out) hb); have n3_ := Aside0.mk (below_step (by repeat (first | (with_reducible first | exact HB.out | apply below_alloc | apply pw_below_drewN | apply below_drew1 | refine below_set ?_ GE278.out | refine below_set ?_ GE284.out | refine below_set ?_ GE289.out) | exact HB.out)) hb); clear BK278; clear BK284; clear BK289; clear HB; have BK278 := n0_; have BK284 := n1_; have BK289 := n2_; have HB := n3_; clear n0_ n1_ n2_ n3_; (try clear hb); (try clear hb2); (try clear hk); (try clear hi)))
          go_ret
          exact ⟨by first | rfl | (simp [errW_none, errW_some] <;> rfl) | (simp [*, errW_none, errW_some] <;> rfl), by repeat (first | (with_reducible first | exact HB.out | apply below_alloc | apply pw_below_drewN | apply below_drew1 | refine below_set ?_ GE278.out | refine below_set ?_ GE284.out | refine below_set ?_ GE289.out) | exact HB.out)⟩

/-- THE ONE PURE STATEMENT of shapesearchlaw01_RatioRounds: yours. -/
def shapesearchlaw01_RatioRounds.Pure : Prop := ∀ (l0 : List Int), l0.length ≤ maxLen → l0.length * 8 ≤ 140737488351232 → (∀ x ∈ l0, (Lit.int .i64 x).wf = true) → ∃ k, shapesearchlaw01_RatioRounds.f k l0 = some true
theorem shapesearchlaw01_RatioRounds.walk (P : shapesearchlaw01_RatioRounds.Pure) (a0 : Option Addr) (len0 cap0 : Nat) (z0 : List Int) (w : World) (w0 : (a0 = none ∧ len0 = 0 ∧ cap0 = 0 ∧ z0 = []) ∨ ∃ x, a0 = some x ∧ len0 ≤ cap0 ∧ cap0 ≤ maxLen ∧ z0.length = cap0 ∧ (∀ i, i < z0.length → w.cell? (x.add i) = some (.int .i64 (z0.getD i 0))) ∧ ∀ n ∈ z0, (Lit.int .i64 n).wf = true) (y0 : len0 * 8 ≤ 140737488351232) :
    Calls Tryd.prog 7 #[.slice a0 len0 cap0] w fun e w' => e = .returned (.bool true) ∧ Below w.heap.size w w' := by
  obtain ⟨l0, rfl, hr0, hm0, hw0, hc0⟩ := ReadsInt.ofRowC w0
  obtain ⟨k, h⟩ := P l0 hm0 y0 hw0
  refine (shapesearchlaw01_RatioRounds.calls k _ _ l0 true w (Kd.C_of_reads (d := (0 : Int)) (h1 := fun _ => rfl) hr0) hc0 h).mono ?_
  rintro e w' ⟨rfl, hd⟩
  exact ⟨rfl, hd⟩

end Go.Proofs.YtdfdecpplnjdcaaDoor.Hp
