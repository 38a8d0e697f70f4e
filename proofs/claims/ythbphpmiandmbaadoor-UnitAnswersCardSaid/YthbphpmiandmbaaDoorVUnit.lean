/- Units: the conversion, and the chapter's examples. -/
import Derived.Test.YthbphpmiandmbaaDoorVg1
import Derived.Test.YthbphpmiandmbaaDoorVBase
set_option linter.unusedVariables false
set_option maxRecDepth 100000
namespace Go.Proofs.YthbphpmiandmbaaDoor.V
open Go Go.VI

/-- A loop that the kernel runs. -/
theorem loop_it {E : Env} {live : List Nat} {outs : List (Nat × List Nat)} {lp : Bool} {body : IR} {sh : Sh} {es : List (Ex × Sh)} {step : (sh.X → Option (sumX es)) → sh.X → Option (sumX es)}
    (H : ∀ L x, (roundK E sh live outs lp body es L x).run _ some = step L x) (k : Nat) {x : sh.X} {y : sumX es} (h : iter step k x = some y) : loop step x = some y := by
  have he : step = fun L x => (roundK E sh live outs lp body es L x).run _ some := funext fun L => funext fun x => (H L x).symm
  subst he
  exact (loop_iff (round_tail E sh live outs lp body es)).2 ⟨k, h⟩

def NmC : ByteArray := .mk #[99]
def NmRaw : ByteArray := .mk #[114, 97, 119]
def NmAl : ByteArray := .mk #[97, 98, 99, 100, 101, 102, 103, 104, 105, 106, 107, 108]
def NmU : ByteArray := .mk #[117]
def NmF : ByteArray := .mk #[102]
def NmA : ByteArray := .mk #[97]
def Names : List ByteArray := [NmC, NmRaw, NmAl, NmU, NmF, NmA]

theorem valid_name {nm : ByteArray} (h : nm ∈ Names) (m a d : Int) :
    unit_Valid.L0 (((), ()), ((nm, m, a, d, ()), ())) = some (Sum.inl (((), false, ()), ((nm, m, a, d, ()), ()))) ∧
    unit_Valid.L1 (((), ((((ByteArray.size nm) : Nat) : Int), ((0:Int), ()))), ((nm, m, a, d, ()), ())) = some (Sum.inl (((), ()), ((nm, m, a, d, ()), ()))) := by
  simp only [Names, List.mem_cons, List.not_mem_nil, or_false] at h
  rcases h with rfl | rfl | rfl | rfl | rfl | rfl <;>
    exact ⟨by kernel_rfl, loop_it (E := (unit_Valid.E unit_Valid.L0 unit_Valid.L1 unit_Valid.L2)) (sh := unit_Valid.s1) (es := unit_Valid.x1) (lp := true) (H := fun L x => unit_Valid.eq1 unit_Valid.L0 unit_Valid.L1 unit_Valid.L2 L x) 14 (by kernel_rfl)⟩

theorem valid_ok {nm : ByteArray} (h : nm ∈ Names) {m a d : Int} (hm : 1 ≤ m ∧ m ≤ 1000000) (ha : -1000000000 ≤ a ∧ a ≤ 1000000000) (hd : 1 ≤ d ∧ d ≤ 1000000) :
    unit_Valid.F (((nm, m, a, d, ()), ()), ()) = some ((true, ()), ()) := by
  obtain ⟨h0, h1⟩ := valid_name h m a d
  rw [unit_Valid.F_eq, unit_Valid.f, h0]
  simp only [Option.bind_some, Sum.elim_inl, cond_false]
  rw [h1]
  simp only [Option.bind_some, Sum.elim_inl]
  rw [unit_Valid.L2_eq, unit_Valid.f2, dt (by omega : m ≥ 1), dt (by omega : m ≤ 1000000), dt (by omega : a ≥ -1000000000), dt (by omega : a ≤ 1000000000), dt (by omega : d ≥ 1), dt (by omega : d ≤ 1000000)]
  rfl

theorem half_ok {a b : Int} (ha : -2000000000000000000 ≤ a ∧ a ≤ 2000000000000000000) (hb : 1 ≤ b ∧ b ≤ 1000000000000000000) :
    unit_half.F ((a, b, ()), ()) = some (((2 * a + b) / (2 * b), ()), ()) := by
  have hf := floor_of_tdiv (n := 2 * a + b) (d := 2 * b) (by omega)
  have hr := tdiv_abs (n := 2 * a + b) (d := 2 * b) (by omega)
  rw [unit_half.F_eq, unit_half.f, w64 (n := 2 * b) (by omega), w64 (n := 2 * a) (by omega), w64 (n := 2 * a + b) (by omega)]
  rw [df (by omega : ¬ (2 * b = 0))]
  simp only [Bool.not_false, cond_true]
  have hq : -9000000000000000000 ≤ Int.tdiv (2 * a + b) (2 * b) ∧ Int.tdiv (2 * a + b) (2 * b) ≤ 9000000000000000000 := by
    rcases Int.le_total 0 (2 * a + b) with c | c
    · have := hr.1 c; omega
    · have := hr.2 c; omega
  rw [w64 (n := Int.tdiv (2 * a + b) (2 * b)) (by omega), w64 (n := Int.tdiv (2 * a + b) (2 * b) - 1) (by omega), ← hf]
  by_cases c : Int.tmod (2 * a + b) (2 * b) < 0
  · rw [dt c, if_pos c]; rfl
  · rw [df c, if_neg c]; rfl

/-- What a number comes to. -/
def sample (a b : Int) : Int := (2 * a + b) / (2 * b)
theorem sample_iff {a b n : Int} (hb : 0 < b) : sample a b = n ↔ 2 * b * n ≤ 2 * a + b ∧ 2 * a + b < 2 * b * n + 2 * b := by
  unfold sample
  have h1 := Int.mul_ediv_add_emod (2 * a + b) (2 * b)
  have h2 := Int.emod_nonneg (2 * a + b) (by omega : 2 * b ≠ 0)
  have h3 := Int.emod_lt_of_pos (2 * a + b) (by omega : 0 < 2 * b)
  constructor
  · rintro rfl; omega
  · intro h
    have := (Int.ediv_emod_unique (a := 2 * a + b) (b := 2 * b) (r := 2 * a + b - 2 * b * n) (q := n) (by omega)).2 ⟨by omega, by omega, by omega⟩
    exact this.1
theorem sample_spec {a b : Int} (hb : 0 < b) : 2 * b * sample a b ≤ 2 * a + b ∧ 2 * a + b < 2 * b * sample a b + 2 * b := (sample_iff hb).1 rfl

theorem conv_ok {nm : ByteArray} (h : nm ∈ Names) {d p T m a v : Int} (hd : -1000000000 ≤ d ∧ d ≤ 1000000000) (hp : 0 ≤ p ∧ p ≤ 6)
    (hT : List.getD [(1:Int), 10, 100, 1000, 10000, 100000, 1000000] (Int.toNat p) 0 = T)
    (hm : 1 ≤ m ∧ m ≤ 1000000) (ha : -1000000000 ≤ a ∧ a ≤ 1000000000) (hv : 1 ≤ v ∧ v ≤ 1000000) :
    unit_Convert.F (((d, p, ()), (nm, m, a, v, ()), ()), ()) =
      some (if -1000 ≤ sample (d * m + a * T) (v * T) ∧ sample (d * m + a * T) (v * T) ≤ 1000 then (sample (d * m + a * T) (v * T), 0, ()) else (0, 12, ()), ()) := by
  have hT1 : 1 ≤ T ∧ T ≤ 1000000 := by
    obtain ⟨n, rfl⟩ := Int.eq_ofNat_of_zero_le hp.1
    have : n ≤ 6 := by omega
    subst hT
    match n, this with
    | 0, _ | 1, _ | 2, _ | 3, _ | 4, _ | 5, _ | 6, _ => decide
    | n + 7, h => omega
  have b1 := mul_abs (a := d) (b := m) (A := 1000000000) (B := 1000000) hd.1 hd.2 (by omega) hm.2 (by omega)
  have b2 := mul_abs (a := a) (b := T) (A := 1000000000) (B := 1000000) ha.1 ha.2 (by omega) hT1.2 (by omega)
  have b3 := mul_bd (a := v) (b := T) (A := 1000000) (B := 1000000) (by omega) hv.2 (by omega) hT1.2
  have b4 : 1 ≤ v * T := by have := Int.mul_le_mul (a := 1) (b := 1) (c := v) (d := T) hv.1 hT1.1 (by omega) (by omega); omega
  have hpr : unit_proper.F (((d, p, ()), ()), ()) = some ((true, ()), ()) := by
    rw [unit_proper.F_eq, unit_proper.f, dt (by omega : d ≥ -1000000000), dt (by omega : d ≤ 1000000000), dt (by omega : p ≥ 0), dt (by omega : p ≤ 6)]; rfl
  rw [unit_Convert.F_eq, unit_Convert.f, hpr]
  simp only [Option.bind_some, Bool.not_true, cond_false]
  rw [valid_ok h hm ha hv]
  simp only [Option.bind_some, Bool.not_true, cond_false]
  rw [dt (by omega : 0 ≤ p), dt (by omega : p < (((7:Nat) : Nat) : Int)), hT]
  simp only [cond_true]
  rw [w64 (n := d * m) (by omega), w64 (n := a * T) (by omega), w64 (n := v * T) (by omega), w64 (n := d * m + a * T) (by omega), half_ok (by omega) (by omega)]
  simp only [Option.bind_some]
  show (bif decide (sample (d * m + a * T) (v * T) < -1000) then _ else bif decide (sample (d * m + a * T) (v * T) > 1000) then _ else _) = _
  by_cases c1 : sample (d * m + a * T) (v * T) < -1000
  · rw [dt c1, if_neg (by omega)]; rfl
  · by_cases c2 : sample (d * m + a * T) (v * T) > 1000
    · rw [df c1, dt c2, if_neg (by omega)]; rfl
    · rw [df c1, df c2, if_pos (by omega)]; rfl

/-! The examples. -/
theorem digits_12 : unit_digits.F ((ByteArray.mk #[49, 50], ()), ()) = some ((true, ()), ()) := by
  have h : unit_digits.L0 ((ByteArray.mk #[49, 50], (2, (0, ()))), ()) = some (Sum.inl ((ByteArray.mk #[49, 50], ()), ())) := loop_it (E := (unit_digits.E unit_class.F unit_digits.L0)) (sh := unit_digits.s0) (es := unit_digits.x0) (lp := true) (H := fun L x => unit_digits.eq0 unit_class.F unit_digits.L0 L x) 5 (by kernel_rfl)
  rw [unit_digits.F_eq, unit_digits.f, show ((((ByteArray.size (ByteArray.mk #[49, 50])) : Nat) : Int)) = 2 from rfl, h]; show _ = (_ : Option _); kernel_rfl
theorem digits_50 : unit_digits.F ((ByteArray.mk #[53, 48], ()), ()) = some ((true, ()), ()) := by
  have h : unit_digits.L0 ((ByteArray.mk #[53, 48], (2, (0, ()))), ()) = some (Sum.inl ((ByteArray.mk #[53, 48], ()), ())) := loop_it (E := (unit_digits.E unit_class.F unit_digits.L0)) (sh := unit_digits.s0) (es := unit_digits.x0) (lp := true) (H := fun L x => unit_digits.eq0 unit_class.F unit_digits.L0 L x) 5 (by kernel_rfl)
  rw [unit_digits.F_eq, unit_digits.f, show ((((ByteArray.size (ByteArray.mk #[53, 48])) : Nat) : Int)) = 2 from rfl, h]; show _ = (_ : Option _); kernel_rfl
theorem trim_1250 : strings_TrimLeft.F ((ByteArray.mk #[49, 50, 53, 48], ByteArray.mk #[48], ()), ()) = some ((ByteArray.mk #[49, 50, 53, 48], ()), ()) := by
  have h : strings_trimLeftByte.L0 ((ByteArray.mk #[49, 50, 53, 48], (48, ())), ()) = some (Sum.inl ((ByteArray.mk #[49, 50, 53, 48], ()), ())) := loop_it (E := (strings_trimLeftByte.E strings_trimLeftByte.L0)) (sh := strings_trimLeftByte.s0) (es := strings_trimLeftByte.x0) (lp := true) (H := fun L x => strings_trimLeftByte.eq0 strings_trimLeftByte.L0 L x) 3 (by kernel_rfl)
  have h' : strings_trimLeftByte.F ((ByteArray.mk #[49, 50, 53, 48], (48, ())), ()) = some ((ByteArray.mk #[49, 50, 53, 48], ()), ()) := by
    rw [strings_trimLeftByte.F_eq, strings_trimLeftByte.f, h]; rfl
  have e : strings_TrimLeft.F ((ByteArray.mk #[49, 50, 53, 48], ByteArray.mk #[48], ()), ()) = (strings_trimLeftByte.F ((ByteArray.mk #[49, 50, 53, 48], (48, ())), ())).bind fun y7 => some ((y7.1.1, ()), ()) := by kernel_rfl
  rw [e, h']; rfl
theorem parse_ex : unit_Parse.F ((ByteArray.mk #[45, 49, 50, 46, 53, 48], ()), ()) = some (((-1250, 2, ()), 0, ()), ()) := by
  have c1 : strings_CutPrefix.F ((ByteArray.mk #[45, 49, 50, 46, 53, 48], (ByteArray.mk #[45], ())), ()) = some ((ByteArray.mk #[49, 50, 46, 53, 48], true, ()), ()) := by kernel_rfl
  have c2 : strings_Cut.F ((ByteArray.mk #[49, 50, 46, 53, 48], (ByteArray.mk #[46], ())), ()) = some ((ByteArray.mk #[49, 50], ByteArray.mk #[53, 48], true, ()), ()) := by kernel_rfl
  have c3 : unit_Parse.L0 (((), (true, (ByteArray.mk #[49, 50], (ByteArray.mk #[53, 48], (true, ()))))), ((0, (0, ())), ())) = some (Sum.inl (((), (true, (ByteArray.mk #[49, 50], (ByteArray.mk #[53, 48], (false, ()))))), ((0, (0, ())), ()))) := by
    rw [unit_Parse.L0_eq, unit_Parse.f0, digits_12, digits_50]; kernel_rfl
  have c4 : unit_Parse.L2 (((), (true, (ByteArray.mk #[53, 48], (ByteArray.mk #[49, 50, 53, 48], (0, (4, (0, ()))))))), ((0, (0, ())), ())) = some (Sum.inl (((), (true, (ByteArray.mk #[53, 48], (1250, ())))), ((0, (0, ())), ()))) :=
    loop_it (E := (unit_Parse.E strings_CutPrefix.F strings_Cut.F unit_digits.F strings_TrimLeft.F unit_Parse.L0 unit_Parse.L1 unit_Parse.L2)) (sh := unit_Parse.s2) (es := unit_Parse.x2) (lp := true) (H := fun L x => unit_Parse.eq2 strings_CutPrefix.F strings_Cut.F unit_digits.F strings_TrimLeft.F unit_Parse.L0 unit_Parse.L1 unit_Parse.L2 L x) 6 (by kernel_rfl)
  rw [unit_Parse.F_eq, unit_Parse.f, c1]
  simp only [Option.bind_some]
  rw [c2]
  simp only [Option.bind_some]
  rw [c3]
  simp only [Option.bind_some, Sum.elim_inl, cond_false]
  rw [dt (by decide)]
  simp only [cond_true]
  rw [show (ByteArray.mk #[49, 50] ++ ByteArray.mk #[53, 48]) = ByteArray.mk #[49, 50, 53, 48] from by kernel_rfl, trim_1250]
  simp only [Option.bind_some]
  rw [unit_Parse.L1_eq, show unit_Parse.f1 true (ByteArray.mk #[53, 48]) (ByteArray.mk #[49, 50, 53, 48]) 0 0 = some (Sum.inl (((), (true, (ByteArray.mk #[53, 48], (ByteArray.mk #[49, 50, 53, 48], (false, ()))))), ((0, (0, ())), ()))) from by kernel_rfl]
  simp only [Option.bind_some, Sum.elim_inl, cond_false]
  rw [show ((((ByteArray.size (ByteArray.mk #[49, 50, 53, 48])) : Nat) : Int)) = 4 from rfl, c4]
  show _ = (_ : Option _)
  kernel_rfl
theorem awake_ok : law04_awake.F ((), ()) = some ((true, ()), ()) := by
  have e1 := conv_ok (nm := NmRaw) (by simp [Names]) (d := -25) (p := 1) (T := 10) (m := 1) (a := 0) (v := 1) (by omega) (by omega) rfl (by omega) (by omega) (by omega)
  have e2 := conv_ok (nm := NmF) (by simp [Names]) (d := 366) (p := 1) (T := 10) (m := 9) (a := 160) (v := 5) (by omega) (by omega) rfl (by omega) (by omega) (by omega)
  rw [law04_awake.F_eq, law04_awake.f, parse_ex]
  simp only [Option.bind_some]
  rw [law04_raw.F_eq, law04_raw.f]
  simp only [Option.bind_some]
  rw [show (unit_Convert.F ((((-(25:Int)), ((1:Int), ())), ((ByteArray.mk #[(114:UInt8), (97:UInt8), (119:UInt8)], ((1:Int), ((0:Int), ((1:Int), ())))), ())), ())) = some ((-2, 0, ()), ()) from e1]
  simp only [Option.bind_some]
  rw [show (unit_Convert.F ((((366:Int), ((1:Int), ())), (((ByteArray.mk #[(102:UInt8)]), ((9:Int), ((160:Int), ((5:Int), ())))), ())), ())) = some ((98, 0, ()), ()) from e2]
  simp only [Option.bind_some]
  rw [law04_awake.L0_eq]
  show _ = (_ : Option _)
  kernel_rfl
end Go.Proofs.YthbphpmiandmbaaDoor.V
