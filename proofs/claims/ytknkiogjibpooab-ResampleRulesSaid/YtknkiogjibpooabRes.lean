/- The resample package: what a regular list of readings has at a time, by each rule. -/
import Derived.Test.YtknkiogjibpooabHx3
import Derived.Test.YtknkiogjibpooabHx4
import Derived.Test.YtknkiogjibpooabHx5
import Derived.Test.YtknkiogjibpooabHx6
import Derived.Test.YtknkiogjibpooabHx7
import Derived.Test.YtknkiogjibpooabHx8
import Derived.Test.YtknkiogjibpooabHx17
import Derived.Test.YtknkiogjibpooabBase
namespace Go.Proofs.Ytknkiogjibpooab.Res
open Go.RowKit Go.Proofs.Ytknkiogjibpooab.Hp Go.Proofs.YtknkiogjibpooabW.PrintWords Go.Proofs.YtknkiogjibpooabW.PrintLast Go.Proofs.YtknkiogjibpooabW.PrintMore
open Go.Proofs.Ytknkiogjibpooab.Base

/-- The time and the value of reading i. -/
def T (l : List S29) (i : Int) : Int := (rd_T29 l i).f0
def V (l : List S29) (i : Int) : Int := (rd_T29 l i).f1
theorem T_def (l : List S29) (i : Int) : (rd_T29 l i).f0 = T l i := rfl
theorem V_def (l : List S29) (i : Int) : (rd_T29 l i).f1 = V l i := rfl

structure Reg (l : List S29) : Prop where
  len : l.length ≤ 2000
  rng : ∀ i : Int, 0 ≤ i → i < (l.length : Int) → 0 ≤ T l i ∧ T l i ≤ 1099511627776 ∧ -1000 ≤ V l i ∧ V l i ≤ 1000
  asc : ∀ i : Int, 0 ≤ i → i + 1 < (l.length : Int) → T l i < T l (i + 1)

theorem Reg.lt {l : List S29} (h : Reg l) : ∀ (d : Nat) (i : Int), 0 ≤ i → i + d + 1 < (l.length : Int) → T l i < T l (i + d + 1) := by
  intro d
  induction d with
  | zero => intro i h0 h1; have := h.asc i h0 (by omega); simpa using this
  | succ d ih =>
    intro i h0 h1
    have a := ih i h0 (by omega)
    have b := h.asc (i + d + 1) (by omega) (by omega)
    rw [show i + ((d + 1 : Nat) : Int) + 1 = i + d + 1 + 1 from by omega]; omega
theorem Reg.lt' {l : List S29} (h : Reg l) {i j : Int} (h0 : 0 ≤ i) (h1 : i < j) (h2 : j < (l.length : Int)) : T l i < T l j := by
  have := h.lt (j - i - 1).toNat i h0 (by omega)
  rwa [show i + ((j - i - 1).toNat : Int) + 1 = j from by omega] at this

theorem check_ok {l : List S29} (h : Reg l) : ∃ K, ∀ k, K ≤ k → resample_check.f k l = some 0 := by
  have hl := h.len
  have loop1 : ∀ (d : Nat) (i : Int), (l.length : Int) - i ≤ d → 0 ≤ i → ∃ K, ∀ k, K ≤ k → resample_check.l1 k l ((l.length : Int) - 1) i = some 0 := by
    intro d
    induction d with
    | zero =>
      intro i hd h0
      refine ⟨1, fun k hk => ?_⟩
      obtain ⟨k, rfl, hk'⟩ := succ_of hk
      simp only [resample_check.l1]; rw [if_neg (by omega)]
    | succ d ih =>
      intro i hd h0
      by_cases c : i < (l.length : Int) - 1
      · obtain ⟨K, hK⟩ := ih (i + 1) (by omega) (by omega)
        have a := h.asc i h0 (by omega)
        refine ⟨K + 1, fun k hk => ?_⟩
        obtain ⟨k, rfl, hk'⟩ := succ_of hk
        simp only [resample_check.l1]
        rw [w64 (n := i + 1) (by omega) (by omega), if_pos c, if_pos h0, if_pos (by omega), if_pos (by omega), if_pos (by omega), T_def, T_def, if_neg (by omega)]
        exact hK k hk'
      · refine ⟨1, fun k hk => ?_⟩
        obtain ⟨k, rfl, hk'⟩ := succ_of hk
        simp only [resample_check.l1]; rw [if_neg c]
  obtain ⟨K1, hK1⟩ := loop1 l.length 0 (by omega) (by omega)
  have loop0 : ∀ (d : Nat) (i : Int), (l.length : Int) - i ≤ d → 0 ≤ i → ∃ K, ∀ k, K ≤ k → resample_check.l0 k l l (l.length : Int) i = some 0 := by
    intro d
    induction d with
    | zero =>
      intro i hd h0
      refine ⟨K1 + 1, fun k hk => ?_⟩
      obtain ⟨k, rfl, hk'⟩ := succ_of hk
      simp only [resample_check.l0]; rw [if_neg (by omega), w64 (by omega) (by omega)]; exact hK1 k hk'
    | succ d ih =>
      intro i hd h0
      by_cases c : i < (l.length : Int)
      · obtain ⟨K, hK⟩ := ih (i + 1) (by omega) (by omega)
        have a := h.rng i h0 c
        refine ⟨K + 1, fun k hk => ?_⟩
        obtain ⟨k, rfl, hk'⟩ := succ_of hk
        simp only [resample_check.l0]
        rw [if_pos c, if_pos h0, if_pos c, T_def, V_def, if_neg (by omega), if_neg (by omega), if_neg (by omega), if_neg (by omega), w64 (n := i + 1) (by omega) (by omega)]
        exact hK k hk'
      · refine ⟨K1 + 1, fun k hk => ?_⟩
        obtain ⟨k, rfl, hk'⟩ := succ_of hk
        simp only [resample_check.l0]; rw [if_neg c, w64 (by omega) (by omega)]; exact hK1 k hk'
  obtain ⟨K, hK⟩ := loop0 l.length 0 (by omega) (by omega)
  refine ⟨K, fun k hk => ?_⟩
  unfold resample_check.f; rw [if_neg (by omega)]; exact hK k hk

/-- A grid in range. -/
structure Grid (from_ step count rule reach : Int) : Prop where
  f0 : 0 ≤ from_
  f1 : from_ ≤ 1099511627776
  s0 : 1 ≤ step
  s1 : step ≤ 1099511627776
  c0 : 0 ≤ count
  c1 : count ≤ 2000
  r0 : 1 ≤ rule
  r1 : rule ≤ 3
  h0 : 0 ≤ reach
  h1 : reach ≤ 1099511627776
  last : 0 < count → from_ + (count - 1) * step ≤ 1099511627776

theorem valid_ok {a b c d e : Int} (h : Grid a b c d e) : ∃ K, ∀ k, K ≤ k → resample_Valid.f k a b c d e = some true := by
  obtain ⟨f0, f1, s0, s1, c0, c1, r0, r1, h0, h1, last⟩ := h
  refine ⟨1, fun k hk => ?_⟩
  obtain ⟨k, rfl, hk'⟩ := succ_of hk
  unfold resample_Valid.f
  rw [if_neg (by omega), if_neg (by omega), if_neg (by omega), if_neg (by omega), if_neg (by omega), decide_eq_false (by omega)]
  simp only [resample_Valid.j0]
  rw [if_neg (by simp)]
  by_cases hc : c > 0
  · have hl := last hc
    have hp := Int.mul_nonneg (a := c - 1) (b := b) (by omega) (by omega)
    rw [if_pos hc, w64 (n := c - 1) (by omega) (by omega), w64 (n := (c - 1) * b) (by omega) (by omega), w64 (n := a + (c - 1) * b) (by omega) (by omega), if_neg (by omega), if_pos (by omega), if_pos (by omega), if_pos (by omega), decide_eq_true h1]
  · rw [if_neg hc, if_pos (by omega), if_pos (by omega), if_pos (by omega), decide_eq_true h1]

theorem cmp_ok (a b t : Int) : resample_neighbours_1.f a b t = some (if a < t then -1 else if a > t then 1 else 0) := by
  unfold resample_neighbours_1.f cmp_Compare_int.f cmp_isNaN_int.f
  simp only [bne_self_eq_false, Option.bind_some]
  rw [if_neg (by simp), if_neg (by simp)]
  split
  · rfl
  · split <;> rfl

/-- c is the place of a time: all readings before it are earlier, and none from it on is. -/
def Pos (l : List S29) (t c : Int) : Prop := 0 ≤ c ∧ c ≤ (l.length : Int) ∧ (∀ a, 0 ≤ a → a < c → T l a < t) ∧ ∀ a, c ≤ a → a < (l.length : Int) → t ≤ T l a
theorem Pos.unique {l : List S29} {t c c' : Int} (h : Pos l t c) (h' : Pos l t c') : c = c' := by
  obtain ⟨a0, a1, a2, a3⟩ := h
  obtain ⟨b0, b1, b2, b3⟩ := h'
  rcases Int.lt_trichotomy c c' with e | e | e
  · have := b2 c a0 e; have := a3 c (Int.le_refl _) (by omega); omega
  · exact e
  · have := a2 c' b0 e; have := b3 c' (Int.le_refl _) (by omega); omega

theorem u64_in {n : Int} (h0 : 0 ≤ n) (h1 : n ≤ 9223372036854775807) : IntKind.u64.wrap n = n := by rw [IntKind.wrap_u64]; omega

theorem bs_loop {l : List S29} (h : Reg l) (t : Int) : ∀ (d : Nat) (i j : Int), j - i ≤ d → 0 ≤ i → i ≤ j → j ≤ (l.length : Int) → (∀ a, 0 ≤ a → a < i → T l a < t) → (∀ a, j ≤ a → a < (l.length : Int) → t ≤ T l a) →
    ∃ c, Pos l t c ∧ ∃ K, ∀ k, K ≤ k → api_Reading_int_resample_neighbours_1.l0 k l t (l.length : Int) i j = some (c, decide (c < (l.length : Int) ∧ T l c = t)) := by
  have hl := h.len
  intro d
  induction d with
  | zero =>
    intro i j hd h0 h1 h2 ha hb
    obtain rfl : i = j := by omega
    refine ⟨i, ⟨h0, h2, ha, hb⟩, 1, fun k hk => ?_⟩
    obtain ⟨k, rfl, hk'⟩ := succ_of hk
    simp only [api_Reading_int_resample_neighbours_1.l0]
    rw [if_neg (by omega)]
    by_cases c : i < (l.length : Int)
    · have := hb i (Int.le_refl _) c
      rw [if_pos c, if_pos h0, if_pos c, cmp_ok, T_def]; simp only [Option.bind_some]
      by_cases e : T l i = t
      · rw [if_neg (by omega), if_neg (by omega), decide_eq_true ⟨c, e⟩]; rfl
      · rw [if_neg (by omega), if_pos (by omega), decide_eq_false (fun z => e z.2)]; rfl
    · rw [if_neg c, decide_eq_false (fun z => c z.1)]
  | succ d ih =>
    intro i j hd h0 h1 h2 ha hb
    by_cases c : i < j
    · have em : wrap64 ((IntKind.u64.wrap (wrap64 (i + j))) / 2) = (i + j) / 2 := by
        rw [w64 (n := i + j) (by omega) (by omega), u64_in (by omega) (by omega), w64 (by omega) (by omega)]
      obtain ⟨m, hm⟩ : ∃ m, m = (i + j) / 2 := ⟨_, rfl⟩
      rw [← hm] at em
      have hm0 : i ≤ m ∧ m < j := by omega
      by_cases e : T l m < t
      · obtain ⟨c', hc', K, hK⟩ := ih (m + 1) j (by omega) (by omega) (by omega) h2 (fun a a0 a1 => by
          rcases Int.lt_or_le a m with z | z
          · exact Int.lt_trans (h.lt' a0 z (by omega)) e
          · obtain rfl : a = m := (by omega)
            exact e) hb
        refine ⟨c', hc', K + 1, fun k hk => ?_⟩
        obtain ⟨k, rfl, hk'⟩ := succ_of hk
        simp only [api_Reading_int_resample_neighbours_1.l0]
        rw [if_pos c, em, if_pos (by omega), if_pos (by omega), cmp_ok, T_def, if_pos e]; simp only [Option.bind_some]
        rw [if_pos (by omega), w64 (n := m + 1) (by omega) (by omega)]
        exact hK k hk'
      · obtain ⟨c', hc', K, hK⟩ := ih i m (by omega) h0 (by omega) (by omega) ha (fun a a0 a1 => by
          rcases Int.lt_or_le m a with z | z
          · have := h.lt' (by omega) z a1; omega
          · obtain rfl : a = m := (by omega)
            omega)
        refine ⟨c', hc', K + 1, fun k hk => ?_⟩
        obtain ⟨k, rfl, hk'⟩ := succ_of hk
        simp only [api_Reading_int_resample_neighbours_1.l0]
        rw [if_pos c, em, if_pos (by omega), if_pos (by omega), cmp_ok, T_def, if_neg e]; simp only [Option.bind_some]
        rw [if_neg (by split <;> omega)]
        exact hK k hk'
    · exact ih i j (by omega) h0 h1 h2 ha hb

/-- The last reading at or before a time. -/
def ix (l : List S29) (t c : Int) : Int := if c < (l.length : Int) ∧ T l c = t then c else c - 1

theorem nb_ok {l : List S29} (h : Reg l) (t : Int) : ∃ c, Pos l t c ∧ ∃ K, ∀ k, K ≤ k → resample_neighbours.f k l t = some (ix l t c, c) := by
  have hl := h.len
  obtain ⟨c, hc, K, hK⟩ := bs_loop h t l.length 0 (l.length : Int) (by omega) (by omega) (by omega) (by omega) (fun a _ _ => by omega) (fun a _ _ => by omega)
  have h0 := hc.1
  have h1 := hc.2.1
  refine ⟨c, hc, K, fun k hk => ?_⟩
  unfold resample_neighbours.f api_Reading_int_resample_neighbours_1.f ix
  rw [hK k hk]; simp only [Option.bind_some]
  by_cases e : c < (l.length : Int) ∧ T l c = t
  · rw [if_pos (decide_eq_true e), if_pos e]
  · rw [decide_eq_false e, if_neg (by simp), if_neg e, w64 (by omega) (by omega)]

theorem half_ok {a b : Int} (h0 : -2200000000000000 ≤ a) (h1 : a ≤ 2200000000000000) (hb : 0 < b) (hb2 : b ≤ 1099511627776) : resample_half.f a b = some ((2 * a + b) / (2 * b)) := by
  have f := floor_of_tdiv (n := 2 * a + b) (d := 2 * b) (by omega)
  have q0 : -9000000000000000 ≤ Int.tdiv (2 * a + b) (2 * b) ∧ Int.tdiv (2 * a + b) (2 * b) ≤ 9000000000000000 := by
    have h := Int.tmod_add_mul_tdiv (2 * a + b) (2 * b)
    have hb3 := tmod_pos (a := 2 * a + b) (b := 2 * b) (by omega)
    rcases Int.le_total 0 (Int.tdiv (2 * a + b) (2 * b)) with z | z
    · have := Int.mul_le_mul_of_nonneg_right (show 1 ≤ 2 * b by omega) z
      omega
    · have := Int.mul_le_mul_of_nonpos_right (show 1 ≤ 2 * b by omega) z
      omega
  unfold resample_half.f
  rw [w64 (n := 2 * b) (by omega) (by omega), w64 (n := 2 * a) (by omega) (by omega), w64 (n := 2 * a + b) (by omega) (by omega), w64 (n := Int.tdiv (2 * a + b) (2 * b)) (by omega) (by omega), w64 (n := Int.tdiv (2 * a + b) (2 * b) - 1) (by omega) (by omega), if_neg (by omega)]
  rw [← f]; split <;> rfl

def b1 (l : List S29) (reach t i : Int) : Bool := decide (0 ≤ i) && decide (t - T l i ≤ reach)
def b2 (l : List S29) (reach t c : Int) : Bool := decide (c < (l.length : Int)) && decide (T l c - t ≤ reach)
def line (l : List S29) (t i c : Int) : Int := (2 * (V l i * (T l c - t) + V l c * (t - T l i)) + (T l c - T l i)) / (2 * (T l c - T l i))
/-- The value at a time, out of the two flags. -/
def val (l : List S29) (rule t i c : Int) (p q : Bool) : Int × Bool :=
  if rule = 1 then (if p then (V l i, true) else (0, false))
  else if rule = 2 then (if (p && (!q || decide (t - T l i ≤ T l c - t))) then (V l i, true) else if q then (V l c, true) else (0, false))
  else if (p && q) then (if i = c then (V l i, true) else (line l t i c, true)) else (0, false)

theorem value_ok {l : List S29} (h : Reg l) {t c : Int} (hc : Pos l t c) (h0 : 0 ≤ t) (h1 : t ≤ 1099511627776) {rule reach a b n : Int} (r0 : 1 ≤ rule) (r1 : rule ≤ 3) :
    ∃ K, ∀ k, K ≤ k → resample_value.f k l a b n rule reach t = some (val l rule t (ix l t c) c (b1 l reach t (ix l t c)) (b2 l reach t c)) := by
  have hl := h.len
  obtain ⟨c', hc', K, hK⟩ := nb_ok h t
  obtain rfl := hc.unique hc'
  obtain ⟨p0, p1, p2, p3⟩ := hc
  have hi : ix l t c = c ∧ c < (l.length : Int) ∧ T l c = t ∨ ix l t c = c - 1 ∧ ¬ (c < (l.length : Int) ∧ T l c = t) := by
    unfold ix
    by_cases e : c < (l.length : Int) ∧ T l c = t
    · rw [if_pos e]; exact .inl ⟨rfl, e⟩
    · rw [if_neg e]; exact .inr ⟨rfl, e⟩
  obtain ⟨i, hie⟩ : ∃ i, i = ix l t c := ⟨_, rfl⟩
  rw [← hie] at hi hK ⊢
  have il : i < (l.length : Int) := by omega
  have i0 : -1 ≤ i := by omega
  have ti : 0 ≤ i → 0 ≤ T l i ∧ T l i ≤ t ∧ -1000 ≤ V l i ∧ V l i ≤ 1000 := by
    intro z
    have r := h.rng i z il
    rcases hi with hi | hi
    · rw [hi.1] at r ⊢; omega
    · have := p2 i z (by omega); omega
  have tc : c < (l.length : Int) → t ≤ T l c ∧ T l c ≤ 1099511627776 ∧ -1000 ≤ V l c ∧ V l c ≤ 1000 := by
    intro z
    have r := h.rng c p0 z
    have := p3 c (Int.le_refl _) z; omega
  clear p2 p3
  obtain ⟨q, hq⟩ : ∃ q, q = b2 l reach t c := ⟨_, rfl⟩
  obtain ⟨p, hp⟩ : ∃ p, p = b1 l reach t i := ⟨_, rfl⟩
  have pt : p = true → 0 ≤ i := by intro z; rw [hp] at z; unfold b1 at z; simp at z; exact z.1
  have qt : q = true → c < (l.length : Int) := by intro z; rw [hq] at z; unfold b2 at z; simp at z; exact z.1
  -- behind both flags
  have j2 : ∀ (u : Bool) k, (u = true → 0 ≤ i) → resample_value.j2 (k + 1) l i c q u = some (if u then (V l i, true) else if q then (V l c, true) else (0, false)) := by
    intro u k hu
    simp only [resample_value.j2]
    cases u with
    | true => rw [if_pos (by trivial), if_pos (hu rfl), if_pos il]; rfl
    | false =>
      rw [if_neg (by simp)]
      cases hqq : q with
      | true => rw [if_pos (by trivial), if_pos p0, if_pos (qt hqq)]; rfl
      | false => rw [if_neg (by simp)]; rfl
  have j3 : ∀ (u : Bool) k, (u = false → 0 ≤ i ∧ c < (l.length : Int)) → resample_value.j3 (k + 1) l t i c u = some (if u then (0, false) else if i = c then (V l i, true) else (line l t i c, true)) := by
    intro u k hu
    simp only [resample_value.j3]
    cases u with
    | true => rw [if_pos (by trivial)]; rfl
    | false =>
      obtain ⟨z1, z2⟩ := hu rfl
      have a1 := ti z1
      have a2 := tc z2
      rw [if_neg (by simp), if_pos z1, if_pos il, if_pos p0, if_pos z2]
      by_cases e : i = c
      · rw [if_pos e]; simp only [if_pos e]; rfl
      · have st : T l i < T l c := h.lt' z1 (by omega) z2
        have m1 := mul_abs (a := V l i) (b := T l c - t) (A := 1000) (B := 1099511627776) (by omega) (by omega) (by omega) (by omega) (by omega)
        have m2 := mul_abs (a := V l c) (b := t - T l i) (A := 1000) (B := 1099511627776) (by omega) (by omega) (by omega) (by omega) (by omega)
        rw [if_neg e]
        simp only [T_def, V_def]
        rw [w64 (n := T l c - t) (by omega) (by omega), w64 (n := t - T l i) (by omega) (by omega), w64 (n := T l c - T l i) (by omega) (by omega), w64 (n := V l i * (T l c - t)) (by omega) (by omega), w64 (n := V l c * (t - T l i)) (by omega) (by omega), w64 (n := V l i * (T l c - t) + V l c * (t - T l i)) (by omega) (by omega)]
        rw [half_ok (by omega) (by omega) (by omega) (by omega)]; simp only [Option.bind_some, if_neg e]; rfl
  have j1 : ∀ k, resample_value.j1 (k + 2) l t i c p q a b n rule reach = some (val l rule t i c p q) := by
    intro k
    simp only [resample_value.j1, val]
    by_cases c1 : rule = 1
    · rw [if_pos c1, if_pos c1]
      cases hpp : p with
      | true => rw [if_pos (by trivial), if_pos (pt hpp), if_pos il]; rfl
      | false => rw [if_neg (by simp)]; rfl
    · rw [if_neg c1, if_neg c1]
      by_cases c2 : rule = 2
      · rw [if_pos c2, if_pos c2]
        cases hpp : p with
        | true =>
          have z1 := pt hpp
          have a1 := ti z1
          rw [if_pos (by trivial)]
          cases hqq : q with
          | true =>
            have z2 := qt hqq
            have a2 := tc z2
            have := j2 (decide (t - T l i ≤ T l c - t)) k (fun _ => z1)
            rw [hqq] at this
            rw [if_pos (by trivial), if_pos z1, if_pos il, if_pos p0, if_pos z2, T_def, T_def, w64 (n := t - T l i) (by omega) (by omega), w64 (n := T l c - t) (by omega) (by omega), this]
            simp
          | false =>
            have := j2 true k (fun _ => z1)
            rw [hqq] at this
            rw [if_neg (by simp), this]; simp
        | false =>
          have := j2 false k (fun z => by cases z)
          rw [if_neg (by simp), this]; simp
      · rw [if_neg c2, if_neg c2, if_pos (by omega)]
        cases hpp : p with
        | true =>
          rw [if_pos (by trivial), j3 (!q) k (fun z => ⟨pt hpp, qt (by simpa using z)⟩)]
          cases q <;> simp
        | false =>
          rw [if_neg (by simp), j3 true k (fun z => by cases z)]; simp
  have j0 : ∀ k, resample_value.j0 (k + 3) l t i c p a b n rule reach = some (val l rule t i c p q) := by
    intro k
    simp only [resample_value.j0]
    by_cases z : c < (l.length : Int)
    · have a2 := tc z
      rw [if_pos z, if_pos p0, T_def, w64 (n := T l c - t) (by omega) (by omega)]
      have e : decide (T l c - t ≤ reach) = q := by rw [hq]; unfold b2; rw [decide_eq_true z]; rfl
      rw [e]; exact j1 k
    · have e : false = q := by rw [hq]; unfold b2; rw [decide_eq_false z]; rfl
      rw [if_neg z, e]; exact j1 k
  refine ⟨K + 3, fun k hk => ?_⟩
  obtain ⟨k, rfl⟩ : ∃ m, k = m + 3 := ⟨k - 3, by omega⟩
  unfold resample_value.f
  rw [hK _ (by omega)]; simp only [Option.bind_some]
  by_cases z : 0 ≤ i
  · have a1 := ti z
    have e : decide (t - T l i ≤ reach) = p := by rw [hp]; unfold b1; rw [decide_eq_true z]; rfl
    rw [if_pos (by omega), if_pos z, if_pos il, T_def, w64 (n := t - T l i) (by omega) (by omega), e, j0 k, hp, hq]
  · have e : false = p := by rw [hp]; unfold b1; rw [decide_eq_false z]; rfl
    rw [if_neg (by omega), e, j0 k, hp, hq]

/-- The value of a regular list at a time, by a rule and a reach. -/
theorem at_ok {l : List S29} (h : Reg l) {t c : Int} (hc : Pos l t c) (h0 : 0 ≤ t) (h1 : t ≤ 1099511627776) {rule reach a b n : Int} (g : Grid a b n rule reach) :
    ∃ K, ∀ k, K ≤ k → resample_At.f k l a b n rule reach t = some (val l rule t (ix l t c) c (b1 l reach t (ix l t c)) (b2 l reach t c)) := by
  obtain ⟨K1, hK1⟩ := check_ok h
  obtain ⟨K2, hK2⟩ := valid_ok g
  obtain ⟨K3, hK3⟩ := value_ok h hc h0 h1 (a := a) (b := b) (n := n) g.r0 g.r1
  refine ⟨K1 + K2 + K3, fun k hk => ?_⟩
  unfold resample_At.f
  rw [hK1 _ (by omega)]; simp only [Option.bind_some]
  rw [if_pos (by trivial), hK2 _ (by omega)]; simp only [Option.bind_some]
  rw [if_pos (by trivial), if_neg (by omega), if_neg (by omega), hK3 _ (by omega)]; rfl
theorem pos_ex {l : List S29} (h : Reg l) (t : Int) : ∃ c, Pos l t c := by obtain ⟨c, hc, _⟩ := nb_ok h t; exact ⟨c, hc⟩

end Go.Proofs.Ytknkiogjibpooab.Res
