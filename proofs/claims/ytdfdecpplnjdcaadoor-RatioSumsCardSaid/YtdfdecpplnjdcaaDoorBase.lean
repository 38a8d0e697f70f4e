/- Plain lemmas on whole numbers, lists and rounds, used by the laws' pure statements. -/
import Derived.Test.YtdfdecpplnjdcaaDoorWMore
namespace Go.Proofs.YtdfdecpplnjdcaaDoor.Base
open Go.RowKit Go.Proofs.YtdfdecpplnjdcaaDoorW.PrintWords Go.Proofs.YtdfdecpplnjdcaaDoorW.PrintLast Go.Proofs.YtdfdecpplnjdcaaDoorW.PrintMore

theorem w64 {n : Int} (h0 : -9223372036854775808 ≤ n) (h1 : n ≤ 9223372036854775807) : wrap64 n = n := by
  unfold wrap64; omega

theorem wf_i64 {x : Int} (h : (Lit.int .i64 x).wf = true) : -9223372036854775808 ≤ x ∧ x ≤ 9223372036854775807 := by
  simp only [Lit.wf, IntKind.min, IntKind.max, IntKind.signed, IntKind.bits, Bool.and_eq_true, decide_eq_true_eq, if_true] at h
  omega
theorem wf_u8 {x : Int} (h : (Lit.int .u8 x).wf = true) : 0 ≤ x ∧ x ≤ 255 := by
  simp [Lit.wf, IntKind.min, IntKind.max, IntKind.signed, IntKind.bits] at h
  omega
theorem wf_i8 {x : Int} (h : (Lit.int .i8 x).wf = true) : -128 ≤ x ∧ x ≤ 127 := by
  simp [Lit.wf, IntKind.min, IntKind.max, IntKind.signed, IntKind.bits] at h
  omega

theorem tmod_pos {a b : Int} (hb : 0 < b) : -b < Int.tmod a b ∧ Int.tmod a b < b := by
  have h1 := Int.tmod_lt_of_pos a hb
  have h2 := Int.lt_tmod_of_pos a hb
  omega
theorem tmod_nonneg' {a b : Int} (ha : 0 ≤ a) (hb : 0 < b) : 0 ≤ Int.tmod a b ∧ Int.tmod a b < b :=
  ⟨Int.tmod_nonneg _ ha, Int.tmod_lt_of_pos a hb⟩

theorem succ_of {k K : Nat} (h : K + 1 ≤ k) : ∃ m, k = m + 1 ∧ K ≤ m := ⟨k - 1, by omega, by omega⟩

theorem rd_mem {l : List Int} {i : Int} (h0 : 0 ≤ i) (h1 : i < (l.length : Int)) : rd l i ∈ l := by
  unfold rd
  have : i.toNat < l.length := by omega
  rw [List.getD_eq_getElem?_getD, List.getElem?_eq_getElem this]
  exact List.getElem_mem this
theorem rd_nat (l : List Int) (i : Nat) : rd l (i : Int) = l.getD i 0 := by unfold rd; rw [Int.toNat_natCast]
theorem getD_mem {l : List Int} {i : Nat} (h : i < l.length) : l.getD i 0 ∈ l := by
  rw [List.getD_eq_getElem?_getD, List.getElem?_eq_getElem h]; exact List.getElem_mem h
theorem getD_append_lt {α : Type} {l r : List α} {i : Nat} {d : α} (h : i < l.length) : (l ++ r).getD i d = l.getD i d := by
  rw [List.getD_eq_getElem?_getD, List.getD_eq_getElem?_getD, List.getElem?_append_left h]
theorem getD_append_eq {α : Type} {l r : List α} {i : Nat} {d : α} (h : i = l.length) : (l ++ r).getD i d = r.getD 0 d := by
  subst h; rw [List.getD_eq_getElem?_getD, List.getD_eq_getElem?_getD, List.getElem?_append_right (Nat.le_refl _), Nat.sub_self]
theorem rd_append_lt {l r : List Int} {i : Int} (h0 : 0 ≤ i) (h : i < (l.length : Int)) : rd (l ++ r) i = rd l i := by
  unfold rd; exact getD_append_lt (by omega)
theorem rd_append_eq {l : List Int} {x : Int} {i : Int} (h : i = (l.length : Int)) : rd (l ++ [x]) i = x := by
  unfold rd; rw [getD_append_eq (by omega)]; rfl

/-- The sum of f over the first n numbers. -/
def sumTo (f : Int → Int) (l : List Int) : Nat → Int
  | 0 => 0
  | n + 1 => sumTo f l n + f (l.getD n 0)
theorem sumTo_bounds {f : Int → Int} {l : List Int} {lo hi : Int} (h : ∀ x ∈ l, lo ≤ f x ∧ f x ≤ hi) : ∀ n, n ≤ l.length → lo * n ≤ sumTo f l n ∧ sumTo f l n ≤ hi * n := by
  intro n
  induction n with
  | zero => intro _; simp [sumTo]
  | succ n ih =>
    intro hn
    have h1 := ih (by omega)
    have h2 := h _ (getD_mem (l := l) (i := n) (by omega))
    simp only [sumTo]
    have e1 : lo * ((n + 1 : Nat) : Int) = lo * n + lo := by rw [show ((n + 1 : Nat) : Int) = (n : Int) + 1 from by omega, Int.mul_add, Int.mul_one]
    have e2 : hi * ((n + 1 : Nat) : Int) = hi * n + hi := by rw [show ((n + 1 : Nat) : Int) = (n : Int) + 1 from by omega, Int.mul_add, Int.mul_one]
    rw [e1, e2]; omega
theorem sq_bounds {x : Int} {b : Int} (h0 : -b ≤ x) (h1 : x ≤ b) : 0 ≤ x * x ∧ x * x ≤ b * b := by
  constructor
  · rcases Int.le_total 0 x with h | h
    · exact Int.mul_nonneg h h
    · have := Int.mul_nonneg (show 0 ≤ -x by omega) (show 0 ≤ -x by omega)
      rwa [Int.neg_mul_neg] at this
  · have : 0 ≤ (b - x) * (b + x) := Int.mul_nonneg (by omega) (by omega)
    have e : (b - x) * (b + x) = b * b - x * x := by
      rw [Int.sub_mul, Int.mul_add, Int.mul_add, Int.mul_comm x b]; omega
    omega

theorem sq_nonneg (x : Int) : 0 ≤ x * x := by
  rcases Int.le_total 0 x with h | h
  · exact Int.mul_nonneg h h
  · have := Int.mul_nonneg (show 0 ≤ -x by omega) (show 0 ≤ -x by omega)
    rwa [Int.neg_mul_neg] at this
theorem getD_cut {l : List Int} {a b n : Nat} (h : a + n < b) : ((l.take b).drop a).getD n 0 = l.getD (a + n) 0 := by
  rw [List.getD_eq_getElem?_getD, List.getD_eq_getElem?_getD, List.getElem?_drop, List.getElem?_take, if_pos h]
theorem sumTo_cut (f : Int → Int) (l : List Int) (a b : Nat) : ∀ n, a + n ≤ b → sumTo f ((l.take b).drop a) n = sumTo f l (a + n) - sumTo f l a := by
  intro n
  induction n with
  | zero => intro _; simp [sumTo]
  | succ n ih =>
    intro h
    have e : sumTo f l (a + (n + 1)) = sumTo f l (a + n) + f (l.getD (a + n) 0) := rfl
    rw [e, sumTo, ih (by omega), getD_cut (by omega)]; omega

/-- All numbers are samples. -/
def Smp (l : List Int) : Prop := ∀ x ∈ l, -1000 ≤ x ∧ x ≤ 1000
theorem Smp.get {l : List Int} (h : Smp l) {i : Nat} (hi : i < l.length) : -1000 ≤ l.getD i 0 ∧ l.getD i 0 ≤ 1000 := h _ (getD_mem hi)
theorem Smp.rd {l : List Int} (h : Smp l) {i : Int} (h0 : 0 ≤ i) (hi : i < (l.length : Int)) : -1000 ≤ _root_.Go.Proofs.YtdfdecpplnjdcaaDoorW.PrintWords.rd l i ∧ _root_.Go.Proofs.YtdfdecpplnjdcaaDoorW.PrintWords.rd l i ≤ 1000 := h _ (rd_mem h0 hi)
theorem Smp.sq {l : List Int} (h : Smp l) {x : Int} (hx : x ∈ l) : 0 ≤ x * x ∧ x * x ≤ 1000000 := by
  have := sq_bounds (x := x) (b := 1000) (by have := h x hx; omega) (by have := h x hx; omega); omega

theorem mx_eq (a b : Int) : mx a b = if a < b then b else a := rfl
theorem mn_eq (a b : Int) : mn a b = if b < a then b else a := rfl

theorem floor_of_tdiv {n d : Int} (hd : 0 < d) : (if Int.tmod n d < 0 then Int.tdiv n d - 1 else Int.tdiv n d) = n / d := by
  have h := Int.tmod_add_mul_tdiv n d
  have hb := tmod_pos (a := n) hd
  split
  · have := (Int.ediv_emod_unique (a := n) (b := d) (r := Int.tmod n d + d) (q := Int.tdiv n d - 1) hd).2 ⟨by rw [Int.mul_sub, Int.mul_one]; omega, by omega, by omega⟩
    exact this.1.symm
  · have := (Int.ediv_emod_unique (a := n) (b := d) (r := Int.tmod n d) (q := Int.tdiv n d) hd).2 ⟨by omega, by omega, by omega⟩
    exact this.1.symm
theorem mul_abs {a b A B : Int} (h0 : -A ≤ a) (h1 : a ≤ A) (h2 : 0 ≤ b) (h3 : b ≤ B) (hA : 0 ≤ A) : -(A * B) ≤ a * b ∧ a * b ≤ A * B := by
  have e1 : a * b ≤ A * b := Int.mul_le_mul_of_nonneg_right h1 h2
  have e2 : A * b ≤ A * B := Int.mul_le_mul_of_nonneg_left h3 hA
  have e3 : -A * b ≤ a * b := Int.mul_le_mul_of_nonneg_right h0 h2
  have e4 : -A * b = -(A * b) := Int.neg_mul ..
  omega
theorem mul_bd' {a b A B : Int} (ha0 : 0 ≤ a) (ha : a ≤ A) (hb0 : 0 ≤ b) (hb : b ≤ B) : 0 ≤ a * b ∧ a * b ≤ A * B :=
  ⟨Int.mul_nonneg ha0 hb0, Int.mul_le_mul ha hb hb0 (by omega)⟩
theorem Ev.k {α : Type} {g : Nat → Option α} {r : α} (h : Ev g r) : ∃ K, ∀ k, K ≤ k → g k = some r := h

end Go.Proofs.YtdfdecpplnjdcaaDoor.Base
