/- The window package: sums of beginnings, stats of a part, the variance; of samples alone. -/
import Derived.Test.YtknkiogjibpooaaHx5
import Derived.Test.YtknkiogjibpooaaHx6
import Derived.Test.YtknkiogjibpooaaHx7
import Derived.Test.YtknkiogjibpooaaHx8
import Derived.Test.YtknkiogjibpooaaHx9
import Derived.Test.YtknkiogjibpooaaHx10
import Derived.Test.YtknkiogjibpooaaHx12
import Derived.Test.YtknkiogjibpooaaBase
namespace Go.Proofs.Ytknkiogjibpooaa.Win
open Go.RowKit Go.Proofs.Ytknkiogjibpooaa.Hp Go.Proofs.YtknkiogjibpooaaW.PrintWords Go.Proofs.YtknkiogjibpooaaW.PrintLast Go.Proofs.YtknkiogjibpooaaW.PrintMore
open Go.Proofs.Ytknkiogjibpooaa.Base

def idf (x : Int) : Int := x
def sqf (x : Int) : Int := x * x
/-- S and Q are the sums of l's beginnings, and of their squares. -/
def Sums (l S Q : List Int) : Prop := S.length = l.length + 1 ∧ Q.length = l.length + 1 ∧ (∀ j, j ≤ l.length → S.getD j 0 = sumTo idf l j) ∧ (∀ j, j ≤ l.length → Q.getD j 0 = sumTo sqf l j)

theorem sum_bd {l : List Int} (hs : Smp l) {n : Nat} (hn : n ≤ l.length) : -1000 * (n : Int) ≤ sumTo idf l n ∧ sumTo idf l n ≤ 1000 * (n : Int) :=
  sumTo_bounds (f := idf) (fun x hx => hs x hx) n hn
theorem sq_bd {l : List Int} (hs : Smp l) {n : Nat} (hn : n ≤ l.length) : 0 * (n : Int) ≤ sumTo sqf l n ∧ sumTo sqf l n ≤ 1000000 * (n : Int) :=
  sumTo_bounds (f := sqf) (fun _ hx => hs.sq hx) n hn

theorem fold1_loop (l : List Int) (hs : Smp l) (hl : l.length ≤ 2000) : ∀ (d : Nat) (acc : List Int) (i : Nat), l.length - i = d → i ≤ l.length → acc.length = i + 1 → (∀ j, j ≤ i → acc.getD j 0 = sumTo idf l j) →
    ∃ S, (S.length = l.length + 1 ∧ ∀ j, j ≤ l.length → S.getD j 0 = sumTo idf l j) ∧ ∃ K, ∀ k, K ≤ k → window_fold_int_window_Of_1.l0 k acc l (l.length : Int) (i : Int) = some S := by
  intro d
  induction d with
  | zero =>
    intro acc i hd hi ha h
    obtain rfl : i = l.length := by omega
    refine ⟨acc, ⟨ha, h⟩, 1, fun k hk => ?_⟩
    obtain ⟨k, rfl, hk'⟩ := succ_of hk
    simp only [window_fold_int_window_Of_1.l0]; rw [if_neg (by omega)]
  | succ d ih =>
    intro acc i hd hi ha h
    have hilt : i < l.length := by omega
    have hb := sum_bd hs (n := i) (by omega)
    have hg := hs.get hilt
    have e1 : wrap64 ((acc.length : Int) - 1) = (i : Int) := by rw [w64 (by omega) (by omega)]; omega
    have e2 : rd acc (i : Int) = sumTo idf l i := by rw [rd_nat]; exact h i (Nat.le_refl _)
    have e3 : window_Of_1.f (sumTo idf l i) (rd l (i : Int)) = some (sumTo idf l (i + 1)) := by
      unfold window_Of_1.f; rw [rd_nat, w64 (by omega) (by omega)]; rfl
    obtain ⟨S, hS, K, hK⟩ := ih (acc ++ [sumTo idf l (i + 1)]) (i + 1) (by omega) (by omega) (by simp [ha]) (by
      intro j hj
      rcases Nat.lt_or_ge j (i + 1) with c | c
      · rw [getD_append_lt (by omega)]; exact h j (by omega)
      · obtain rfl : j = i + 1 := by omega
        rw [getD_append_eq (by omega)]; rfl)
    refine ⟨S, hS, K + 1, fun k hk => ?_⟩
    obtain ⟨k, rfl, hk'⟩ := succ_of hk
    simp only [window_fold_int_window_Of_1.l0]
    rw [if_pos (by omega), if_pos (by omega), if_pos (by omega), e1, if_pos (by omega), if_pos (by omega), e2, e3]; simp only [Option.bind_some]
    rw [if_pos (by omega), w64 (by omega) (by omega)]; exact hK k hk'

theorem fold2_loop (l : List Int) (hs : Smp l) (hl : l.length ≤ 2000) : ∀ (d : Nat) (acc : List Int) (i : Nat), l.length - i = d → i ≤ l.length → acc.length = i + 1 → (∀ j, j ≤ i → acc.getD j 0 = sumTo sqf l j) →
    ∃ S, (S.length = l.length + 1 ∧ ∀ j, j ≤ l.length → S.getD j 0 = sumTo sqf l j) ∧ ∃ K, ∀ k, K ≤ k → window_fold_int_window_Of_2.l0 k acc l (l.length : Int) (i : Int) = some S := by
  intro d
  induction d with
  | zero =>
    intro acc i hd hi ha h
    obtain rfl : i = l.length := by omega
    refine ⟨acc, ⟨ha, h⟩, 1, fun k hk => ?_⟩
    obtain ⟨k, rfl, hk'⟩ := succ_of hk
    simp only [window_fold_int_window_Of_2.l0]; rw [if_neg (by omega)]
  | succ d ih =>
    intro acc i hd hi ha h
    have hilt : i < l.length := by omega
    have hb := sq_bd hs (n := i) (by omega)
    have hg := hs.sq (getD_mem hilt)
    have e1 : wrap64 ((acc.length : Int) - 1) = (i : Int) := by rw [w64 (by omega) (by omega)]; omega
    have e2 : rd acc (i : Int) = sumTo sqf l i := by rw [rd_nat]; exact h i (Nat.le_refl _)
    have e3 : window_Of_2.f (sumTo sqf l i) (rd l (i : Int)) = some (sumTo sqf l (i + 1)) := by
      unfold window_Of_2.f; rw [rd_nat, w64 (n := l.getD i 0 * l.getD i 0) (by omega) (by omega), w64 (by omega) (by omega)]; rfl
    obtain ⟨S, hS, K, hK⟩ := ih (acc ++ [sumTo sqf l (i + 1)]) (i + 1) (by omega) (by omega) (by simp [ha]) (by
      intro j hj
      rcases Nat.lt_or_ge j (i + 1) with c | c
      · rw [getD_append_lt (by omega)]; exact h j (by omega)
      · obtain rfl : j = i + 1 := by omega
        rw [getD_append_eq (by omega)]; rfl)
    refine ⟨S, hS, K + 1, fun k hk => ?_⟩
    obtain ⟨k, rfl, hk'⟩ := succ_of hk
    simp only [window_fold_int_window_Of_2.l0]
    rw [if_pos (by omega), if_pos (by omega), if_pos (by omega), e1, if_pos (by omega), if_pos (by omega), e2, e3]; simp only [Option.bind_some]
    rw [if_pos (by omega), w64 (by omega) (by omega)]; exact hK k hk'

theorem sample_ok {x : Int} (h0 : -1000 ≤ x) (h1 : x ≤ 1000) : window_sample.f x = some true := by
  unfold window_sample.f; rw [if_pos (by omega), decide_eq_true h1]

theorem of_ok (l : List Int) (hs : Smp l) (hl : l.length ≤ 2000) : ∃ S Q, (∃ K, ∀ k, K ≤ k → window_Of.f k l = some (S, Q, 0)) ∧ Sums l S Q := by
  obtain ⟨S, ⟨hS1, hS2⟩, K1, hK1⟩ := fold1_loop l hs hl l.length [0] 0 (by omega) (by omega) rfl (by intro j hj; obtain rfl : j = 0 := (by omega); rfl)
  obtain ⟨Q, ⟨hQ1, hQ2⟩, K2, hK2⟩ := fold2_loop l hs hl l.length [0] 0 (by omega) (by omega) rfl (by intro j hj; obtain rfl : j = 0 := (by omega); rfl)
  have loop : ∀ (d : Nat) (i : Nat), l.length - i = d → i ≤ l.length → ∃ K, ∀ k, K ≤ k → window_Of.l0 k l l (l.length : Int) (i : Int) = some (S, Q, 0) := by
    intro d
    induction d with
    | zero =>
      intro i hd hi
      refine ⟨K1 + K2 + 1, fun k hk => ?_⟩
      obtain ⟨k, rfl, hk'⟩ := succ_of hk
      simp only [window_Of.l0]; rw [if_neg (by omega)]
      unfold window_fold_int_window_Of_1.f window_fold_int_window_Of_2.f
      have h1 := hK1 k (by omega); have h2 := hK2 k (by omega)
      rw [Int.natCast_zero] at h1 h2
      rw [h1]; simp only [Option.bind_some]; rw [h2]; rfl
    | succ d ih =>
      intro i hd hi
      obtain ⟨K, hK⟩ := ih (i + 1) (by omega) (by omega)
      refine ⟨K + 1, fun k hk => ?_⟩
      obtain ⟨k, rfl, hk'⟩ := succ_of hk
      have hr := hs.rd (i := (i : Int)) (by omega) (by omega)
      simp only [window_Of.l0]; rw [if_pos (by omega), if_pos (by omega), if_pos (by omega), sample_ok hr.1 hr.2]; simp only [Option.bind_some]
      rw [if_pos (by trivial), w64 (by omega) (by omega)]; exact hK k hk'
  obtain ⟨K, hK⟩ := loop l.length 0 (by omega) (by omega)
  refine ⟨S, Q, ⟨K, fun k hk => ?_⟩, hS1, hQ1, hS2, hQ2⟩
  show window_Of.f k l = _
  unfold window_Of.f; rw [if_neg (by omega)]; exact hK k hk

theorem Sums.s {l S Q : List Int} (h : Sums l S Q) {i : Int} (h0 : 0 ≤ i) (h1 : i ≤ (l.length : Int)) : rd S i = sumTo idf l i.toNat := by
  unfold rd; exact h.2.2.1 _ (by omega)
theorem Sums.q {l S Q : List Int} (h : Sums l S Q) {i : Int} (h0 : 0 ≤ i) (h1 : i ≤ (l.length : Int)) : rd Q i = sumTo sqf l i.toNat := by
  unfold rd; exact h.2.2.2 _ (by omega)

theorem valid_ok {l S Q : List Int} (h : Sums l S Q) (hs : Smp l) (hl : l.length ≤ 2000) : (∃ K, ∀ k, K ≤ k → window_valid.f k S Q = some true) := by
  have hS := h.1
  have hQ := h.2.1
  have loop : ∀ (d : Nat) (i : Nat), l.length - i = d → i ≤ l.length → ∃ K, ∀ k, K ≤ k → window_valid.l0 k (S.length : Int) ((i : Int) + 1) S Q = some true := by
    intro d
    induction d with
    | zero =>
      intro i hd hi
      refine ⟨1, fun k hk => ?_⟩
      obtain ⟨k, rfl, hk'⟩ := succ_of hk
      simp only [window_valid.l0]; rw [if_neg (by omega)]
    | succ d ih =>
      intro i hd hi
      obtain ⟨K, hK⟩ := ih (i + 1) (by omega) (by omega)
      refine ⟨K + 1, fun k hk => ?_⟩
      obtain ⟨k, rfl, hk'⟩ := succ_of hk
      have hilt : i < l.length := by omega
      have hg := hs.get hilt
      have hg2 := hs.sq (getD_mem hilt)
      have e1 : wrap64 ((i : Int) + 1 - 1) = (i : Int) := by rw [w64 (by omega) (by omega)]; omega
      have a1 : rd S ((i : Int) + 1) = sumTo idf l i + l.getD i 0 := by rw [h.s (by omega) (by omega), show ((i : Int) + 1).toNat = i + 1 from by omega]; rfl
      have a2 : rd S (i : Int) = sumTo idf l i := by rw [h.s (by omega) (by omega), Int.toNat_natCast]
      have b1 : rd Q ((i : Int) + 1) = sumTo sqf l i + l.getD i 0 * l.getD i 0 := by rw [h.q (by omega) (by omega), show ((i : Int) + 1).toNat = i + 1 from by omega]; rfl
      have b2 : rd Q (i : Int) = sumTo sqf l i := by rw [h.q (by omega) (by omega), Int.toNat_natCast]
      have v1 : wrap64 (sumTo idf l i + l.getD i 0 - sumTo idf l i) = l.getD i 0 := by rw [show sumTo idf l i + l.getD i 0 - sumTo idf l i = l.getD i 0 from by omega]; exact w64 (by omega) (by omega)
      have v2 : wrap64 (sumTo sqf l i + l.getD i 0 * l.getD i 0 - sumTo sqf l i) = l.getD i 0 * l.getD i 0 := by rw [show sumTo sqf l i + l.getD i 0 * l.getD i 0 - sumTo sqf l i = l.getD i 0 * l.getD i 0 from by omega]; exact w64 (by omega) (by omega)
      simp only [window_valid.l0]
      rw [e1, a1, a2, b1, b2, v1, v2, w64 (n := l.getD i 0 * l.getD i 0) (by omega) (by omega), w64 (n := (i : Int) + 1 + 1) (by omega) (by omega)]
      rw [if_pos (by omega), if_pos (by omega), if_pos (by omega), if_pos (by omega), if_pos (by omega), sample_ok hg.1 hg.2]; simp only [Option.bind_some]
      rw [if_pos (by trivial), if_pos (by omega), if_pos (by omega), if_pos (by trivial)]
      exact hK k hk'
  obtain ⟨K, hK⟩ := loop l.length 0 (by omega) (by omega)
  refine ⟨K + 1, fun k hk => ?_⟩
  obtain ⟨k, rfl, hk'⟩ := succ_of hk
  show window_valid.f (k + 1) S Q = _
  unfold window_valid.f
  have z1 : rd S 0 = 0 := h.s (i := 0) (by omega) (by omega)
  have z2 : rd Q 0 = 0 := h.q (i := 0) (by omega) (by omega)
  rw [if_pos (by omega), if_neg (by omega), if_neg (by omega), if_pos (by omega), if_pos z1, if_pos (by omega), z2]
  simp only [window_valid.j0]
  rw [if_neg (by simp)]
  have := hK k hk'
  rw [Int.natCast_zero] at this
  exact this

theorem between_ok {l S Q : List Int} (h : Sums l S Q) (hs : Smp l) (hl : l.length ≤ 2000) {i m : Int} (h0 : 0 ≤ i) (h1 : 1 ≤ m) (h2 : i + m ≤ (l.length : Int)) :
    window_between.f S Q i m = some (m, sumTo idf l (i + m).toNat - sumTo idf l i.toNat, sumTo sqf l (i + m).toNat - sumTo sqf l i.toNat) := by
  have hS := h.1
  have hQ := h.2.1
  have b1 := sum_bd hs (n := (i + m).toNat) (by omega)
  have b2 := sum_bd hs (n := i.toNat) (by omega)
  have b3 := sq_bd hs (n := (i + m).toNat) (by omega)
  have b4 := sq_bd hs (n := i.toNat) (by omega)
  unfold window_between.f
  rw [w64 (n := i + m) (by omega) (by omega), if_pos (by omega), if_pos (by omega), if_pos (by omega), if_pos (by omega), if_pos (by omega), if_pos (by omega)]
  rw [h.s (by omega) h2, h.s h0 (by omega), h.q (by omega) h2, h.q h0 (by omega), w64 (by omega) (by omega), w64 (by omega) (by omega)]

theorem stats_ok {l S Q : List Int} (h : Sums l S Q) (hs : Smp l) (hl : l.length ≤ 2000) {i m : Int} (h0 : 0 ≤ i) (h1 : 1 ≤ m) (h2 : i + m ≤ (l.length : Int)) :
    ∃ K, ∀ k, K ≤ k → window_Stats.f k S Q i m = some (m, sumTo idf l (i + m).toNat - sumTo idf l i.toNat, sumTo sqf l (i + m).toNat - sumTo sqf l i.toNat, 0) := by
  obtain ⟨K, hK⟩ := valid_ok h hs hl
  have hS := h.1
  refine ⟨K, fun k hk => ?_⟩
  show window_Stats.f k S Q i m = _
  unfold window_Stats.f
  rw [hK k hk]; simp only [Option.bind_some]
  rw [if_pos (by trivial), if_neg (by omega), if_neg (by omega), w64 (n := (S.length : Int) - 1) (by omega) (by omega), if_neg (by omega), w64 (by omega) (by omega), if_neg (by omega), between_ok h hs hl h0 h1 h2]
  rfl

/-- The bounds of products that the variance multiplies. -/
theorem mul_bd {a b A B : Int} (ha0 : 0 ≤ a) (ha : a ≤ A) (hb0 : 0 ≤ b) (hb : b ≤ B) : 0 ≤ a * b ∧ a * b ≤ A * B :=
  ⟨Int.mul_nonneg ha0 hb0, Int.mul_le_mul ha hb hb0 (by omega)⟩

theorem variance_ok {n s q : Int} (h1 : 1 ≤ n) (h2 : n ≤ 2000) (h3 : -1000 * n ≤ s) (h4 : s ≤ 1000 * n) (h5 : 0 ≤ q) (h6 : q ≤ 1000000 * n) : window_Variance.f n s q = some (mx 0 (n * q - s * s)) := by
  have p1 := mul_bd (a := n) (b := q) (A := 2000) (B := 2000000000) (by omega) (by omega) (by omega) (by omega)
  have p2 := sq_bounds (x := s) (b := 2000000) (by omega) (by omega)
  unfold window_Variance.f
  rw [if_neg (by omega), if_neg (by omega), w64 (n := (-1000) * n) (by omega) (by omega), if_neg (by omega), w64 (n := 1000 * n) (by omega) (by omega), if_neg (by omega), if_neg (by omega), w64 (n := 1000000 * n) (by omega) (by omega), if_neg (by omega)]
  rw [w64 (n := n * q) (by omega) (by omega), w64 (n := s * s) (by omega) (by omega), w64 (by omega) (by omega)]

theorem awake_ok : (∃ K, ∀ k, K ≤ k → shapesearchlaw11_awake.f k = some true) := by
  refine Ev.of (fun k => shapesearchlaw11_awake.mono k) (k := 12) ?_
  decide +kernel

/-- The sum of the squares of the differences between x and the first n numbers. -/
def rowSum (x : Int) (l : List Int) : Nat → Int
  | 0 => 0
  | n + 1 => rowSum x l n + (x - l.getD n 0) * (x - l.getD n 0)
/-- The sum over all pairs of the first n numbers. -/
def pairSum (l : List Int) : Nat → Int
  | 0 => 0
  | n + 1 => pairSum l n + rowSum (l.getD n 0) l n
theorem rowSum_eq (x : Int) (l : List Int) (n : Nat) : rowSum x l n = (n : Int) * (x * x) - 2 * x * sumTo idf l n + sumTo sqf l n := by
  induction n with
  | zero => simp [rowSum, sumTo]
  | succ n ih =>
    simp only [rowSum, sumTo, ih, idf, sqf]
    have : ((n + 1 : Nat) : Int) = (n : Int) + 1 := by omega
    rw [this]; grind
theorem pairSum_eq (l : List Int) (n : Nat) : pairSum l n = (n : Int) * sumTo sqf l n - sumTo idf l n * sumTo idf l n := by
  induction n with
  | zero => simp [pairSum, sumTo]
  | succ n ih =>
    simp only [pairSum, ih, rowSum_eq, sumTo, idf, sqf]
    have : ((n + 1 : Nat) : Int) = (n : Int) + 1 := by omega
    rw [this]; grind
theorem rowSum_nonneg (x : Int) (l : List Int) (n : Nat) : 0 ≤ rowSum x l n := by
  induction n with
  | zero => simp [rowSum]
  | succ n ih => simp only [rowSum]; have := sq_nonneg (x - l.getD n 0); omega
theorem pairSum_nonneg (l : List Int) (n : Nat) : 0 ≤ pairSum l n := by
  induction n with
  | zero => simp [pairSum]
  | succ n ih => simp only [pairSum]; have := rowSum_nonneg (l.getD n 0) l n; omega

end Go.Proofs.Ytknkiogjibpooaa.Win
