/- The law UnitAnswers, as plain mathematics. -/
import Derived.Test.YthbphpmiandmbaaDoorVg4
import Derived.Test.YthbphpmiandmbaaDoorVBase
import Derived.Test.YthbphpmiandmbaaDoorVKeep
import Derived.Test.YthbphpmiandmbaaDoorVUnit
import Derived.Test.YthbphpmiandmbaaDoorVMade
import Derived.Test.YthbphpmiandmbaaDoorVDec
import Derived.Test.YthbphpmiandmbaaDoorVParse
import Derived.Test.YthbphpmiandmbaaDoorVParse2
import Derived.Test.YthbphpmiandmbaaDoorVParse3
import Derived.Test.YthbphpmiandmbaaDoorVParse4
import Derived.Test.YthbphpmiandmbaaDoorVFmt
import Derived.Test.YthbphpmiandmbaaDoorVRound
import Derived.Test.YthbphpmiandmbaaDoorVRound2
import Derived.Test.YthbphpmiandmbaaDoorVRound3
import Derived.Test.YthbphpmiandmbaaDoorVRound4
import Derived.Test.YthbphpmiandmbaaDoorVRef4
import Derived.Test.YthbphpmiandmbaaDoorVRef5
import Derived.Test.YthbphpmiandmbaaDoorVRef6
import Derived.Test.YthbphpmiandmbaaDoorVRef7
import Derived.Test.YthbphpmiandmbaaDoorVRef8
set_option linter.unusedVariables false
namespace Go.Proofs.YthbphpmiandmbaaDoor.V
open Go.VI Go.Lib
theorem texts_loop (x y : Int × Int) (u v w : ByteArray × Int × Int × Int) (l : List ByteArray) (hl : l.length ≤ 1000) (h : ∀ t ∈ l, t.size ≤ 1000) : ∀ (k i : Nat), i + k = l.length →
    law04_UnitAnswers.L1 (((), (), (), (), (), (), (l.length : Int), (i : Int), ()), ((x.1, x.2, ()), (u.1, u.2.1, u.2.2.1, u.2.2.2, ()), (y.1, y.2, ()), (v.1, v.2.1, v.2.2.1, v.2.2.2, ()), (w.1, w.2.1, w.2.2.1, w.2.2.2, ()), l, ())) =
      some (Sum.inl (((), (), (), (), (), ()), ((x.1, x.2, ()), (u.1, u.2.1, u.2.2.1, u.2.2.2, ()), (y.1, y.2, ()), (v.1, v.2.1, v.2.2.1, v.2.2.2, ()), (w.1, w.2.1, w.2.2.1, w.2.2.2, ()), ())))
  | 0, i, hi => by
    rw [law04_UnitAnswers.L1_eq, law04_UnitAnswers.f1, df (by omega)]; rfl
  | k + 1, i, hi => by
    have ih := texts_loop x y u v w l hl h k (i + 1) (by omega)
    have hm : l.getD i (ByteArray.mk #[]) ∈ l := getD_mem (by omega)
    obtain ⟨a, b, e, h1, h2⟩ := parse_same _ (h _ hm)
    rw [law04_UnitAnswers.L1_eq, law04_UnitAnswers.f1, dt (by omega : (i : Int) < (l.length : Int)), dt (by omega : (0 : Int) ≤ (i : Int)), show ((i : Int)).toNat = i by omega, h1, h2, bind_self, w64 (n := (i : Int) + 1) (by omega), show (i : Int) + 1 = ((i + 1 : Nat) : Int) by omega]
    simp only [cond_true, Option.bind_some]
    rw [bt rfl, bt rfl, nt rfl]
    exact ih
theorem units_loop (u v w : ByteArray × Int × Int × Int) (d : Int × Int) (o4 : List (Int × Int)) (p q : Int) (l : List (ByteArray × (Int × (Int × Int)))) (hl : l.length ≤ 1000) (h : ∀ t ∈ l, t.1.size ≤ 1000) : ∀ (k i : Nat), i + k = l.length →
    law04_UnitAnswers.L3 (((), (), (), (), (), p, q, (), (l.length : Int), (i : Int), ()), ((u.1, u.2.1, u.2.2.1, u.2.2.2, ()), (v.1, v.2.1, v.2.2.1, v.2.2.2, ()), (w.1, w.2.1, w.2.2.1, w.2.2.2, ()), (d.1, d.2, ()), o4, l, ())) =
      some (Sum.inl (((), (), (), (), p, q, ()), ((u.1, u.2.1, u.2.2.1, u.2.2.2, ()), (v.1, v.2.1, v.2.2.1, v.2.2.2, ()), (w.1, w.2.1, w.2.2.1, w.2.2.2, ()), o4, ())))
  | 0, i, hi => by
    rw [law04_UnitAnswers.L3_eq, law04_UnitAnswers.f3, df (by omega)]; rfl
  | k + 1, i, hi => by
    have ih := units_loop u v w d o4 p q l hl h k (i + 1) (by omega)
    have hm : l.getD i ((ByteArray.mk #[]), ((0:Int), ((0:Int), (0:Int)))) ∈ l := getD_mem (by omega)
    have hz := h _ hm
    rw [law04_UnitAnswers.L3_eq, law04_UnitAnswers.f3, dt (by omega : (i : Int) < (l.length : Int)), dt (by omega : (0 : Int) ≤ (i : Int)), show ((i : Int)).toNat = i by omega]
    simp only [cond_true]
    generalize l.getD i ((ByteArray.mk #[]), ((0:Int), ((0:Int), (0:Int)))) = z at hz
    obtain ⟨n, e, h1, h2⟩ := convert_same d.1 d.2 z.1 z.2.1 z.2.2.1 z.2.2.2 hz
    obtain ⟨b, k1, k2, _⟩ := valid_same z.1 z.2.1 z.2.2.1 z.2.2.2 hz
    rw [h1, h2]
    simp only [Option.bind_some]
    rw [law04_UnitAnswers.L4_eq, law04_UnitAnswers.f4, nt rfl, nt rfl, k1, k2]
    simp only [cond_false, Option.bind_some, Sum.elim_inl]
    rw [bind_self, w64 (n := (i : Int) + 1) (by omega), show (i : Int) + 1 = ((i + 1 : Nat) : Int) by omega, show (b == b) = true from beq_self_eq_true b]
    exact ih
theorem decimals_loop (u v w : ByteArray × Int × Int × Int) (hu : u.1.size ≤ 1000) (hv : v.1.size ≤ 1000) (hw : w.1.size ≤ 1000) (l : List (Int × Int)) (hl : l.length ≤ 1000) : ∀ (k i : Nat), i + k = l.length →
    law04_UnitAnswers.L2 (((), (), (), (), (l.length : Int), (i : Int), ()), ((u.1, u.2.1, u.2.2.1, u.2.2.2, ()), (v.1, v.2.1, v.2.2.1, v.2.2.2, ()), (w.1, w.2.1, w.2.2.1, w.2.2.2, ()), l, ())) = some (Sum.inl ((), ()))
  | 0, i, hi => by
    rw [law04_UnitAnswers.L2_eq, law04_UnitAnswers.f2, df (by omega)]; rfl
  | k + 1, i, hi => by
    have ih := decimals_loop u v w hu hv hw l hl k (i + 1) (by omega)
    rw [law04_UnitAnswers.L2_eq, law04_UnitAnswers.f2, dt (by omega : (i : Int) < (l.length : Int)), dt (by omega : (0 : Int) ≤ (i : Int)), show ((i : Int)).toNat = i by omega]
    simp only [cond_true]
    generalize l.getD i ((0:Int), (0:Int)) = d
    obtain ⟨t, _, h1, h2⟩ := format_same d.1 d.2
    rw [h1, h2]
    simp only [Option.bind_some]
    have key := units_loop u v w d l (l.length : Int) (i : Int) [(u.1, (u.2.1, (u.2.2.1, u.2.2.2))), (v.1, (v.2.1, (v.2.2.1, v.2.2.2))), (w.1, (w.2.1, (w.2.2.1, w.2.2.2)))] (by simp) (by
      intro z hz
      simp only [List.mem_cons, List.not_mem_nil, or_false] at hz
      rcases hz with rfl | rfl | rfl <;> assumption) 3 0 rfl
    rw [show ((bs t).toList == (bs t).toList) = true from beq_self_eq_true _]
    simp only [Bool.not_true, cond_false]
    rw [show ((0 : Nat) : Int) = 0 from rfl] at key
    rw [key]
    simp only [Option.bind_some, Sum.elim_inl]
    rw [bind_self, w64 (n := (i : Int) + 1) (by omega), show (i : Int) + 1 = ((i + 1 : Nat) : Int) by omega]
    exact ih
theorem names_short {nm : ByteArray} (h : nm ∈ Names) : nm.size ≤ 12 := by
  simp only [Names, List.mem_cons, List.not_mem_nil, or_false] at h
  rcases h with rfl | rfl | rfl | rfl | rfl | rfl <;> decide
theorem UnitAnswers_pure (s : ByteArray) (x : Int × Int) (u : ByteArray × Int × Int × Int) (l : List Int) (h : ∀ x ∈ l, I64 x) :
    law04_UnitAnswers.F ((s, (x.1, x.2, ()), (u.1, u.2.1, u.2.2.1, u.2.2.2, ()), l, ()), ()) = some ((true, ()), ()) := by
  refine Ok.eq ?_
  rw [law04_UnitAnswers.F_eq, law04_UnitAnswers.f, law04_UnitAnswers.L0_eq, law04_UnitAnswers.f0]
  have aw : ∀ (Q : ((Bool × Unit) × Unit) → Prop), Q ((true, ()), ()) → Ok ((law04_awake.F ((), ())).bind fun y => some ((y.1.1, ()), ())) Q := by
    intro Q hQ
    rw [awake_ok]; exact .some hQ
  by_cases c1 : (s.size : Int) > 60
  · rw [dt c1]; exact aw _ rfl
  · rw [df c1]
    simp only [cond_false, Option.bind_some, Sum.elim_inl]
    by_cases c2 : (u.1.size : Int) > 60
    · rw [dt c2]; exact aw _ rfl
    · rw [df c2]
      simp only [cond_false]
      refine .bind (made_ok l h) ?_
      rintro ⟨⟨⟨d, p, _⟩, ⟨nm, m, a, v, _⟩, _⟩, _⟩ ⟨⟨hn, _⟩, hd, hp⟩
      dsimp only at hd hp hn ⊢
      obtain ⟨t, ht, _, h2⟩ := format_same d p
      have hnm := names_short hn
      rw [h2]
      simp only [Option.bind_some]
      rw [show (ByteArray.mk #[(45:UInt8)]) = bs [45] from rfl, show (ByteArray.mk #[(48:UInt8)]) = bs [48] from rfl, show (ByteArray.mk #[(46:UInt8), (53:UInt8)]) = bs [46, 53] from rfl, append_mk2, append_mk2, append_mk2, append_mk2]
      have hsz : ∀ (q : List UInt8), q.length ≤ 10 → (bs q).size + (bs t).size ≤ 9223372036854775807 ∧ (bs t).size + (bs q).size ≤ 9223372036854775807 := fun q hq => by rw [size_mk, size_mk]; omega
      rw [dt (hsz [45] (by simp)).1, dt (hsz [48] (by simp)).2, dt (hsz [46, 53] (by simp)).2, dt (hsz [48] (by simp)).1]
      simp only [cond_true]
      have key := texts_loop x (d, p) u (nm, m, a, v) (u.1, m, a, u.2.2.2) [s, bs t, bs ([45] ++ t), bs (t ++ [48]), bs (t ++ [46, 53]), bs ([48] ++ t)] (by simp) (by
        intro z hz
        simp only [List.mem_cons, List.not_mem_nil, or_false] at hz
        rcases hz with rfl | rfl | rfl | rfl | rfl | rfl
        · omega
        all_goals (rw [size_mk]; first | omega | (simp only [List.length_append, List.length_cons, List.length_nil]; omega))) 6 0 rfl
      rw [show ((0 : Nat) : Int) = 0 from rfl] at key
      rw [key]
      simp only [Option.bind_some, Sum.elim_inl]
      have key2 := decimals_loop u (nm, m, a, v) (u.1, m, a, u.2.2.2) (by omega) (by show nm.size ≤ 1000; omega) (by show u.1.size ≤ 1000; omega) [(x.1, x.2), (d, p), (d, x.2)] (by simp) 3 0 rfl
      rw [show ((0 : Nat) : Int) = 0 from rfl] at key2
      rw [key2]
      exact aw _ rfl
theorem UnitAnswers_true (x : law04_UnitAnswers.sh.X) (h : dsWf law04_UnitAnswers.sh.ds x.1) : law04_UnitAnswers.F x = some ((true, ()), ()) := by
  obtain ⟨⟨s, ⟨x1, x2, _⟩, ⟨u1, u2, u3, u4, _⟩, l, _⟩, _⟩ := x
  obtain ⟨_, _, _, h1, _⟩ := h
  exact UnitAnswers_pure s (x1, x2) (u1, u2, u3, u4) l (wf_ints h1)
end Go.Proofs.YthbphpmiandmbaaDoor.V
