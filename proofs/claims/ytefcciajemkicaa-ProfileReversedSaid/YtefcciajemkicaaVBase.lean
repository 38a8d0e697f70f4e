/- Plain lemmas on whole numbers, lists and answers that may fail. -/
import Derived.Test.YtefcciajemkicaaVg0
import Derived.IntWalk
set_option linter.unusedVariables false
namespace Go.Proofs.Ytefcciajemkicaa.V
open Go.VI

/-- A computation answers, with what is asked of the answer. -/
def Ok {α : Type} (o : Option α) (Q : α → Prop) : Prop := ∃ a, o = some a ∧ Q a
theorem Ok.some {α : Type} {a : α} {Q : α → Prop} (h : Q a) : Ok (Option.some a) Q := ⟨a, rfl, h⟩
theorem Ok.bind {α β : Type} {o : Option α} {f : α → Option β} {P : α → Prop} {Q : β → Prop} (h : Ok o P) (k : ∀ a, P a → Ok (f a) Q) : Ok (o.bind f) Q := by
  obtain ⟨a, rfl, ha⟩ := h
  exact k a ha
theorem Ok.mono {α : Type} {o : Option α} {P Q : α → Prop} (h : Ok o P) (k : ∀ a, P a → Q a) : Ok o Q := by
  obtain ⟨a, e, ha⟩ := h
  exact ⟨a, e, k a ha⟩
theorem Ok.guard {α : Type} {p : Prop} [Decidable p] {o : Option α} {Q : α → Prop} (hp : p) (h : Ok o Q) : Ok (bif decide p then o else none) Q := by
  rw [decide_eq_true hp]; exact h
theorem Ok.cond {α : Type} {p : Prop} [Decidable p] {o o' : Option α} {Q : α → Prop} (h : p → Ok o Q) (h' : ¬ p → Ok o' Q) : Ok (bif decide p then o else o') Q := by
  by_cases c : p
  · rw [decide_eq_true c]; exact h c
  · rw [decide_eq_false c]; exact h' c
theorem Ok.bool {α : Type} {b : Bool} {o o' : Option α} {Q : α → Prop} (h : b = true → Ok o Q) (h' : b = false → Ok o' Q) : Ok (bif b then o else o') Q := by
  cases b
  · exact h' rfl
  · exact h rfl
theorem Ok.eq {α : Type} {o : Option α} {a : α} (h : Ok o (· = a)) : o = Option.some a := by
  obtain ⟨b, e, rfl⟩ := h; exact e
theorem Ok.of_eq {α : Type} {o : Option α} {a : α} {Q : α → Prop} (e : o = Option.some a) (h : Q a) : Ok o Q := ⟨a, e, h⟩

/-- A number of the machine. -/
def I64 (x : Int) : Prop := -9223372036854775808 ≤ x ∧ x ≤ 9223372036854775807
theorem w64 {n : Int} (h : -9223372036854775808 ≤ n ∧ n ≤ 9223372036854775807) : Go.IntKind.wrap .i64 n = n := Go.IntWalk.i64_in n h
theorem wrap_I64 (n : Int) : I64 (Go.IntKind.wrap .i64 n) := by
  rw [Go.IntWalk.i64_left]; unfold Go.RowKit.wrap64 I64; omega
theorem wf_i64 {x : Int} (h : Wf (.int .i64) x) : I64 x := by
  simp [Wf, Go.IntKind.min, Go.IntKind.max, Go.IntKind.signed, Go.IntKind.bits] at h
  unfold I64; omega
theorem wf_u8 {x : Int} (h : Wf (.int .u8) x) : 0 ≤ x ∧ x ≤ 255 := by
  simp [Wf, Go.IntKind.min, Go.IntKind.max, Go.IntKind.signed, Go.IntKind.bits] at h
  omega
theorem wf_u16 {x : Int} (h : Wf (.int .u16) x) : 0 ≤ x ∧ x ≤ 65535 := by
  simp [Wf, Go.IntKind.min, Go.IntKind.max, Go.IntKind.signed, Go.IntKind.bits] at h
  omega
theorem wf_i8 {x : Int} (h : Wf (.int .i8) x) : -128 ≤ x ∧ x ≤ 127 := by
  simp [Wf, Go.IntKind.min, Go.IntKind.max, Go.IntKind.signed, Go.IntKind.bits] at h
  omega
theorem wf_i16 {x : Int} (h : Wf (.int .i16) x) : -32768 ≤ x ∧ x ≤ 32767 := by
  simp [Wf, Go.IntKind.min, Go.IntKind.max, Go.IntKind.signed, Go.IntKind.bits] at h
  omega
theorem wf_ints {l : List Int} (h : Wf (.list (.int .i64)) l) : ∀ x ∈ l, I64 x := fun x hx => wf_i64 (h.2 x hx)

theorem dt {p : Prop} [Decidable p] (h : p) : decide p = true := decide_eq_true h
theorem df {p : Prop} [Decidable p] (h : ¬ p) : decide p = false := decide_eq_false h
theorem bt {a b : Int} (h : a = b) : (a == b) = true := by simp [h]
theorem bf {a b : Int} (h : a ≠ b) : (a == b) = false := by simp [h]
theorem nt {a b : Int} (h : a = b) : (a != b) = false := by simp [h]
theorem nf {a b : Int} (h : a ≠ b) : (a != b) = true := by simp [h]
theorem tmod_pos {a b : Int} (hb : 0 < b) : -b < Int.tmod a b ∧ Int.tmod a b < b := by
  have h1 := Int.tmod_lt_of_pos a hb
  have h2 := Int.lt_tmod_of_pos a hb
  omega
theorem tmod_nonneg' {a b : Int} (ha : 0 ≤ a) (hb : 0 < b) : 0 ≤ Int.tmod a b ∧ Int.tmod a b < b :=
  ⟨Int.tmod_nonneg _ ha, Int.tmod_lt_of_pos a hb⟩
theorem getD_mem {α : Type} {l : List α} {i : Nat} {d : α} (h : i < l.length) : l.getD i d ∈ l := by
  rw [List.getD_eq_getElem?_getD, List.getElem?_eq_getElem h]; exact List.getElem_mem h
theorem getD_int {α : Type} {l : List α} {i : Int} {d : α} (h0 : 0 ≤ i) (h : i < (l.length : Int)) : l.getD i.toNat d ∈ l := getD_mem (by omega)
theorem getD_append_lt {α : Type} {l r : List α} {i : Nat} {d : α} (h : i < l.length) : (l ++ r).getD i d = l.getD i d := by
  rw [List.getD_eq_getElem?_getD, List.getD_eq_getElem?_getD, List.getElem?_append_left h]
theorem getD_append_eq {α : Type} {l r : List α} {i : Nat} {d : α} (h : i = l.length) : (l ++ r).getD i d = r.getD 0 d := by
  subst h; rw [List.getD_eq_getElem?_getD, List.getD_eq_getElem?_getD, List.getElem?_append_right (Nat.le_refl _), Nat.sub_self]
theorem getD_cut {α : Type} {l : List α} {a b n : Nat} {d : α} (h : a + n < b) : ((l.take b).drop a).getD n d = l.getD (a + n) d := by
  rw [List.getD_eq_getElem?_getD, List.getD_eq_getElem?_getD, List.getElem?_drop, List.getElem?_take, if_pos h]
theorem getD_set {α : Type} {l : List α} {i j : Nat} {v d : α} (h : i < l.length) : (l.set i v).getD j d = if j = i then v else l.getD j d := by
  rw [List.getD_eq_getElem?_getD, List.getD_eq_getElem?_getD, List.getElem?_set]
  by_cases e : i = j
  · subst e; simp [h]
  · rw [if_neg e, if_neg (fun h => e h.symm)]
theorem list_ext_getD {α : Type} {l r : List α} (d : α) (hl : l.length = r.length) (h : ∀ i, i < l.length → l.getD i d = r.getD i d) : l = r := by
  apply List.ext_getElem hl
  intro i h1 h2
  have := h i h1
  rw [List.getD_eq_getElem?_getD, List.getD_eq_getElem?_getD, List.getElem?_eq_getElem h1, List.getElem?_eq_getElem h2] at this
  simpa using this
theorem sq_nonneg (x : Int) : 0 ≤ x * x := by
  rcases Int.le_total 0 x with h | h
  · exact Int.mul_nonneg h h
  · have := Int.mul_nonneg (show 0 ≤ -x by omega) (show 0 ≤ -x by omega)
    rwa [Int.neg_mul_neg] at this
theorem sq_bounds {x : Int} {b : Int} (h0 : -b ≤ x) (h1 : x ≤ b) : 0 ≤ x * x ∧ x * x ≤ b * b := by
  refine ⟨sq_nonneg x, ?_⟩
  have : 0 ≤ (b - x) * (b + x) := Int.mul_nonneg (by omega) (by omega)
  have e : (b - x) * (b + x) = b * b - x * x := by
    rw [Int.sub_mul, Int.mul_add, Int.mul_add, Int.mul_comm x b]; omega
  omega
theorem mul_abs {a b A B : Int} (h0 : -A ≤ a) (h1 : a ≤ A) (h2 : 0 ≤ b) (h3 : b ≤ B) (hA : 0 ≤ A) : -(A * B) ≤ a * b ∧ a * b ≤ A * B := by
  have e1 : a * b ≤ A * b := Int.mul_le_mul_of_nonneg_right h1 h2
  have e2 : A * b ≤ A * B := Int.mul_le_mul_of_nonneg_left h3 hA
  have e3 : -A * b ≤ a * b := Int.mul_le_mul_of_nonneg_right h0 h2
  have e4 : -A * b = -(A * b) := Int.neg_mul ..
  omega
theorem mul_abs2 {a b A B : Int} (h0 : -A ≤ a) (h1 : a ≤ A) (h2 : -B ≤ b) (h3 : b ≤ B) (hA : 0 ≤ A) : -(A * B) ≤ a * b ∧ a * b ≤ A * B := by
  rcases Int.le_total 0 b with h | h
  · exact mul_abs h0 h1 h h3 hA
  · have := mul_abs h0 h1 (b := -b) (by omega) (show -b ≤ B by omega) hA
    rw [Int.mul_neg] at this; omega
theorem mul_bd {a b A B : Int} (ha0 : 0 ≤ a) (ha : a ≤ A) (hb0 : 0 ≤ b) (hb : b ≤ B) : 0 ≤ a * b ∧ a * b ≤ A * B :=
  ⟨Int.mul_nonneg ha0 hb0, Int.mul_le_mul ha hb hb0 (by omega)⟩
theorem floor_of_tdiv {n d : Int} (hd : 0 < d) : (if Int.tmod n d < 0 then Int.tdiv n d - 1 else Int.tdiv n d) = n / d := by
  have h := Int.tmod_add_mul_tdiv n d
  have hb := tmod_pos (a := n) hd
  split
  · have := (Int.ediv_emod_unique (a := n) (b := d) (r := Int.tmod n d + d) (q := Int.tdiv n d - 1) hd).2 ⟨by rw [Int.mul_sub, Int.mul_one]; omega, by omega, by omega⟩
    exact this.1.symm
  · have := (Int.ediv_emod_unique (a := n) (b := d) (r := Int.tmod n d) (q := Int.tdiv n d) hd).2 ⟨by omega, by omega, by omega⟩
    exact this.1.symm
theorem tdiv_abs {n d : Int} (hd : 0 < d) : (0 ≤ n → 0 ≤ Int.tdiv n d ∧ Int.tdiv n d ≤ n) ∧ (n ≤ 0 → n ≤ Int.tdiv n d ∧ Int.tdiv n d ≤ 0) := by
  have pos : ∀ m : Int, 0 ≤ m → 0 ≤ Int.tdiv m d ∧ Int.tdiv m d ≤ m := fun m hm => by
    rw [Int.tdiv_eq_ediv_of_nonneg hm]
    exact ⟨Int.ediv_nonneg hm (by omega), Int.ediv_le_self d hm⟩
  refine ⟨pos n, fun hn => ?_⟩
  have h := pos (-n) (by omega)
  rw [Int.neg_tdiv] at h
  omega
theorem mn_le (a b : Int) : mn a b ≤ a ∧ mn a b ≤ b ∧ (mn a b = a ∨ mn a b = b) := by unfold mn; split <;> omega
theorem mx_ge (a b : Int) : a ≤ mx a b ∧ b ≤ mx a b ∧ (mx a b = a ∨ mx a b = b) := by unfold mx; split <;> omega
end Go.Proofs.Ytefcciajemkicaa.V
