/- The windows of a series. -/
import Derived.Test.YtefcciajemkicaaVg0
import Derived.Test.YtefcciajemkicaaVBase
import Derived.Test.YtefcciajemkicaaVEuc
import Derived.Test.YtefcciajemkicaaVMv
import Derived.Test.YtefcciajemkicaaVDeck
set_option linter.unusedVariables false
set_option linter.unusedSimpArgs false
namespace Go.Proofs.Ytefcciajemkicaa.V
open Go.VI
def wn (l : List Int) (m i : Nat) : List Int := (l.take (i + m)).drop i
def okw (l : List Int) (m i : Nat) : Bool := !decide ((1073741824 : Int) ∈ wn l m i)
def cnt (l : List Int) (m : Nat) : Nat := l.length + 1 - m
def ws (l : List Int) (m : Nat) : List Bool := (List.range (cnt l m)).map (okw l m)
theorem ws_len (l : List Int) (m : Nat) : (ws l m).length = cnt l m := by simp [ws]
theorem ws_get (l : List Int) (m : Nat) {i : Nat} (h : i < cnt l m) : (ws l m).getD i false = okw l m i := by
  rw [List.getD_eq_getElem?_getD, ws, List.getElem?_map, List.getElem?_range h]; rfl
theorem wn_len {l : List Int} {m i : Nat} (hm : 1 ≤ m) (h : i < cnt l m) : (wn l m i).length = m := by
  unfold cnt at h; unfold wn; rw [List.length_drop, List.length_take]; omega
theorem Wn_win {l : List Int} (hl : Sv l) {m i : Nat} (hm : 2 ≤ m ∧ m ≤ 32) (h : i < cnt l m) (hw : okw l m i = true) : Wn (wn l m i) := by
  have e := wn_len (by omega) h
  refine ⟨by omega, by omega, fun v hv => ?_⟩
  have hne : v ≠ (1073741824 : Int) := by
    rintro rfl
    unfold okw at hw
    rw [dt hv] at hw; cases hw
  rcases hl v (List.mem_of_mem_take (List.mem_of_mem_drop hv)) with h | h
  · exact absurd h hne
  · exact h
theorem index_loop (s : List Int) (v : Int) (hs : s.length ≤ 100000) : ∀ (k i : Nat), i + k = s.length →
    Ok (slices_Index.L0 ((s, v, (s.length : Int), (i : Int), ()), ())) (fun r => (r = Sum.inl ((), ()) ∧ v ∉ s.drop i) ∨ ∃ j : Int, 0 ≤ j ∧ r = Sum.inr (Sum.inl ((j, ()), ())) ∧ v ∈ s.drop i) := by
  intro k
  induction k with
  | zero =>
    intro i h
    rw [slices_Index.L0_eq, slices_Index.f0, df (by omega)]
    exact .some (.inl ⟨rfl, by rw [drop_nil' (by omega)]; exact List.not_mem_nil⟩)
  | succ k ih =>
    intro i h
    rw [slices_Index.L0_eq, slices_Index.f0, dt (by omega), dt (by omega), Int.toNat_natCast, drop_cons (by omega)]
    simp only [cond_true]
    by_cases c : v = s.getD i 0
    · rw [bt c]
      exact .some (.inr ⟨i, by omega, rfl, by rw [c]; exact List.mem_cons_self ..⟩)
    · rw [bf c, w64 (by omega), show (i : Int) + 1 = ((i + 1 : Nat) : Int) by omega]
      refine .bind (ih (i + 1) (by omega)) fun r hr => .some ?_
      rcases hr with ⟨e, hn⟩ | ⟨j, h0, e, hn⟩
      · exact .inl ⟨e, fun hm => (List.mem_cons.1 hm).elim c hn⟩
      · exact .inr ⟨j, h0, e, List.mem_cons_of_mem _ hn⟩
theorem contains_ok (s : List Int) (v : Int) (hs : s.length ≤ 100000) : slices_Contains.F ((s, v, ()), ()) = some ((decide (v ∈ s), ()), ()) := by
  refine Ok.eq ?_
  rw [slices_Contains.F_eq, slices_Contains.f, slices_Index.F_eq, slices_Index.f]
  obtain ⟨r, e, hr⟩ := index_loop s v hs s.length 0 (by omega)
  rw [show slices_Index.L0 ((s, (v, ((s.length : Int), ((0 : Int), ())))), ()) = _ from e]
  rw [List.drop_zero] at hr
  rcases hr with ⟨rfl, hn⟩ | ⟨j, h0, rfl, hn⟩
  · simp only [Option.bind_some, Sum.elim_inl]
    exact .some (by rw [df hn]; rfl)
  · simp only [Option.bind_some, Sum.elim_inl, Sum.elim_inr]
    exact .some (by rw [dt hn, dt h0])
theorem none_loop (s : List Int) (hv : Sv s) (hs : s.length ≤ 100000) : ∀ (k i : Nat), i + k = s.length → slices_IndexFunc.L0 ((s, (), (s.length : Int), (i : Int), ()), ()) = some (Sum.inl ((), ())) := by
  intro k
  induction k with
  | zero => intro i h; rw [slices_IndexFunc.L0_eq, slices_IndexFunc.f0, df (by omega)]; rfl
  | succ k ih =>
    intro i h
    have hs1 : profile_Windows_1.F ((s.getD i 0, ()), ()) = some ((false, ()), ()) := by
      rw [profile_Windows_1.F_eq, profile_Windows_1.f, profile_Sample.F_eq, profile_Sample.f]
      rcases hv _ (getD_mem (l := s) (i := i) (d := 0) (by omega)) with e | e
      · rw [bt e]; rfl
      · rw [bf (by omega), dt (by omega), dt (by omega)]; rfl
    rw [slices_IndexFunc.L0_eq, slices_IndexFunc.f0, dt (by omega), dt (by omega), Int.toNat_natCast, hs1, w64 (by omega), show (i : Int) + 1 = ((i + 1 : Nat) : Int) by omega]
    simp only [cond_true, cond_false, Option.bind_some]
    rw [show slices_IndexFunc.L0 ((s, ((), ((s.length : Int), (((i + 1 : Nat) : Int), ())))), ()) = _ from ih (i + 1) (by omega)]
    rfl
theorem cfunc_ok (s : List Int) (hv : Sv s) (hs : s.length ≤ 100000) : slices_ContainsFunc.F ((s, (), ()), ()) = some ((false, ()), ()) := by
  rw [slices_ContainsFunc.F_eq, slices_ContainsFunc.f, slices_IndexFunc.F_eq, slices_IndexFunc.f, show slices_IndexFunc.L0 ((s, ((), ((s.length : Int), ((0 : Int), ())))), ()) = _ from none_loop s hv hs s.length 0 (by omega)]
  rfl
theorem windows_loop (l : List Int) (hl : l.length ≤ 2000) (m : Nat) (hm : 2 ≤ m ∧ m ≤ 32) : ∀ (k i : Nat) (o : List Bool), i + k = cnt l m → o.length = cnt l m → (∀ c, c < i → o.getD c false = okw l m c) →
    profile_Windows.L0 ((l, (m : Int), (), ((cnt l m : Nat) : Int), (i : Int), ()), (o, ())) = some (Sum.inl (((), ()), (ws l m, ()))) := by
  intro k
  induction k with
  | zero =>
    intro i o h ho h2
    have : o = ws l m := list_ext_getD false (by rw [ho, ws_len]) fun c hc => by rw [h2 c (by omega), ws_get _ _ (by omega)]
    rw [profile_Windows.L0_eq, profile_Windows.f0, df (by omega), this]; rfl
  | succ k ih =>
    intro i o h ho h2
    have hc : i + m ≤ l.length := by unfold cnt at h; omega
    rw [profile_Windows.L0_eq, profile_Windows.f0, dt (by omega), dt (by omega : (0 : Int) ≤ (i : Int)), w64 (n := (i : Int) + m) (by omega), dt (by omega : (i : Int) ≤ (i : Int) + m), dt (by omega : (i : Int) + m ≤ (l.length : Int)), Int.toNat_natCast, show ((i : Int) + (m : Int)).toNat = i + m by omega]
    simp only [cond_true]
    rw [show slices_Contains.F (((l.take (i + m)).drop i, ((1073741824 : Int), ())), ()) = _ from contains_ok (wn l m i) (1073741824 : Int) (by rw [wn_len (by omega) (by omega)]; omega)]
    simp only [Option.bind_some]
    rw [dt (by omega), w64 (n := (i : Int) + 1) (by omega), show (i : Int) + 1 = ((i + 1 : Nat) : Int) by omega]
    simp only [cond_true]
    rw [show profile_Windows.L0 ((l, ((m : Int), ((), (((cnt l m : Nat) : Int), (((i + 1 : Nat) : Int), ()))))), (o.set i (!decide ((1073741824 : Int) ∈ wn l m i)), ())) = _ from ih (i + 1) (o.set i (!decide ((1073741824 : Int) ∈ wn l m i))) (by omega) (by rw [List.length_set, ho]) fun c hc => by
      rw [getD_set (by omega)]
      by_cases e : c = i
      · rw [if_pos e, e]; rfl
      · rw [if_neg e, h2 c (by omega)]]
    rfl
theorem windows_ok (l : List Int) (hv : Sv l) (hl : l.length ≤ 2000) (m : Nat) (hm : 2 ≤ m ∧ m ≤ 32) : profile_Windows.F ((l, (m : Int), ()), ()) = some (((), 0, ()), (ws l m, ())) := by
  have hn : mx 0 ((l.length : Int) + 1 - m) = ((cnt l m : Nat) : Int) := by
    have := mx_ge 0 ((l.length : Int) + 1 - m)
    unfold cnt; omega
  have hc : cnt l m ≤ 2001 := by unfold cnt; omega
  have hlen : profile_Length.F (((m : Int), ()), ()) = some ((true, ()), ()) := by rw [profile_Length.F_eq, profile_Length.f, dt (by omega), dt (by omega)]; rfl
  rw [profile_Windows.F_eq, profile_Windows.f, df (by omega), cfunc_ok l hv (by omega), hlen]
  simp only [cond_false, Option.bind_some, Bool.not_true]
  rw [w64 (n := (l.length : Int) + 1) (by omega), w64 (n := (l.length : Int) + 1 - m) (by omega), hn, dt trivial, dt (by omega : (0 : Int) ≤ ((cnt l m : Nat) : Int)), dt (by omega : (((1 : Nat) : Nat) : Int) * ((cnt l m : Nat) : Int) ≤ 281474976710656), Int.toNat_natCast, List.length_replicate]
  simp only [cond_true, Bool.and_self]
  rw [show profile_Windows.L0 ((l, ((m : Int), ((), (((cnt l m : Nat) : Int), ((0 : Int), ()))))), (List.replicate (cnt l m) false, ())) = _ from windows_loop l hl m hm (cnt l m) 0 (List.replicate (cnt l m) false) (by omega) (List.length_replicate ..) fun c hc => by omega]
  rfl
end Go.Proofs.Ytefcciajemkicaa.V
