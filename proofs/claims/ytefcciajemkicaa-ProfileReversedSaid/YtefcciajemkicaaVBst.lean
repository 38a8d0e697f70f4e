/- The nearest of some neighbours. -/
import Derived.Test.YtefcciajemkicaaVg0
import Derived.Test.YtefcciajemkicaaVBase
import Derived.Test.YtefcciajemkicaaVGcd
set_option linter.unusedVariables false
set_option linter.unusedSimpArgs false
namespace Go.Proofs.Ytefcciajemkicaa.V
open Go.VI
/-- One ratio is less than another one. -/
def rlt (u v : Int × Int) : Prop := u.1 * v.2 < v.1 * u.2
instance (u v : Int × Int) : Decidable (rlt u v) := by unfold rlt; infer_instance
theorem rlt_irr (u : Int × Int) : ¬ rlt u u := Int.lt_irrefl _
theorem rlt_trans {u v w : Int × Int} (hu : VR u.1 u.2) (hv : VR v.1 v.2) (hw : VR w.1 w.2) (h : rlt u v) (k : rlt v w) : rlt u w := by
  have u1 := hu.1.2.2.1
  have v1 := hv.1.2.2.1
  have w1 := hw.1.2.2.1
  unfold rlt at *
  have h1 : u.1 * v.2 * w.2 < v.1 * u.2 * w.2 := Int.mul_lt_mul_of_pos_right h (by omega)
  have h2 : v.1 * w.2 * u.2 < w.1 * v.2 * u.2 := Int.mul_lt_mul_of_pos_right k (by omega)
  have e1 : v.1 * u.2 * w.2 = v.1 * w.2 * u.2 := by grind
  have e2 : u.1 * v.2 * w.2 = u.1 * w.2 * v.2 := by grind
  have e3 : w.1 * v.2 * u.2 = w.1 * u.2 * v.2 := by grind
  have h3 : u.1 * w.2 * v.2 < w.1 * u.2 * v.2 := by omega
  exact Int.lt_of_mul_lt_mul_right h3 (by omega)
theorem vr_inj {u v : Int × Int} (hu : VR u.1 u.2) (hv : VR v.1 v.2) (h : u.1 * v.2 = v.1 * u.2) : u = v := by
  obtain ⟨a, b⟩ := u
  obtain ⟨c, d⟩ := v
  obtain ⟨⟨a0, a1, b0, b1⟩, hg⟩ := hu
  obtain ⟨⟨c0, c1, d0, d1⟩, hk⟩ := hv
  simp only at *
  obtain ⟨a, rfl⟩ : ∃ m : Nat, a = m := ⟨a.toNat, by omega⟩
  obtain ⟨b, rfl⟩ : ∃ m : Nat, b = m := ⟨b.toNat, by omega⟩
  obtain ⟨c, rfl⟩ : ∃ m : Nat, c = m := ⟨c.toNat, by omega⟩
  obtain ⟨d, rfl⟩ : ∃ m : Nat, d = m := ⟨d.toNat, by omega⟩
  simp only [Int.toNat_natCast] at hg hk
  have h : a * d = c * b := by exact_mod_cast h
  have k1 : b ∣ d := by
    have : b ∣ a * d := ⟨c, by rw [h, Nat.mul_comm]⟩
    exact Nat.Coprime.dvd_of_dvd_mul_left (show Nat.Coprime b a by rw [Nat.coprime_comm]; exact hg) this
  have k2 : d ∣ b := by
    have : d ∣ c * b := ⟨a, by rw [← h, Nat.mul_comm]⟩
    exact Nat.Coprime.dvd_of_dvd_mul_left (show Nat.Coprime d c by rw [Nat.coprime_comm]; exact hk) this
  have e : b = d := Nat.dvd_antisymm k1 k2
  subst e
  have : a = c := Nat.eq_of_mul_eq_mul_right (by omega) h
  rw [this]
theorem rlt_tri {u v : Int × Int} (hu : VR u.1 u.2) (hv : VR v.1 v.2) : rlt u v ∨ u = v ∨ rlt v u := by
  unfold rlt
  rcases Int.lt_trichotomy (u.1 * v.2) (v.1 * u.2) with h | h | h
  · exact .inl h
  · exact .inr (.inl (vr_inj hu hv h))
  · exact .inr (.inr h)
/-- One neighbour comes before another one. -/
def nearer (a b : Int × Int × Int) : Bool := decide (a.1 ≥ 0) && (decide (b.1 < 0) || (decide (rlt a.2 b.2) || (!decide (rlt b.2 a.2) && decide (a.1 < b.1))))
def Pre (D : Nat → Int × Int) (i j : Nat) : Prop := rlt (D i) (D j) ∨ (D i = D j ∧ i ≤ j)
/-- The nearest of a set: the least distance, the first of those. -/
def Bst (S : Nat → Prop) (D : Nat → Int × Int) (r : Int × Int × Int) : Prop := (r = (-1, 0, 1) ∧ ∀ j, ¬ S j) ∨ ∃ j : Nat, S j ∧ r = ((j : Int), D j) ∧ ∀ i, S i → Pre D j i
section
variable {S T : Nat → Prop} {D E : Nat → Int × Int} {r t : Int × Int × Int}
theorem Pre.trans {i j k : Nat} (hi : VR (D i).1 (D i).2) (hj : VR (D j).1 (D j).2) (hk : VR (D k).1 (D k).2) (h : Pre D i j) (h' : Pre D j k) : Pre D i k := by
  rcases h with h | ⟨e, h⟩ <;> rcases h' with h' | ⟨e', h'⟩
  · exact .inl (rlt_trans hi hj hk h h')
  · exact .inl (e' ▸ h)
  · exact .inl (e ▸ h')
  · exact .inr ⟨e.trans e', by omega⟩
theorem Bst.none (h : ∀ j, ¬ S j) : Bst S D (-1, 0, 1) := .inl ⟨rfl, h⟩
theorem Bst.single (x : Nat) : Bst (· = x) D ((x : Int), D x) := .inr ⟨x, rfl, rfl, fun i hi => by rw [hi]; exact .inr ⟨rfl, Nat.le_refl _⟩⟩
theorem Bst.congr (h : Bst S D r) (hs : ∀ j, S j ↔ T j) (hd : ∀ j, S j → D j = E j) : Bst T E r := by
  rcases h with ⟨rfl, h⟩ | ⟨j, hj, rfl, h⟩
  · exact .inl ⟨rfl, fun j hj => h j ((hs j).2 hj)⟩
  · refine .inr ⟨j, (hs j).1 hj, by rw [hd j hj], fun i hi => ?_⟩
    have hi' := (hs i).2 hi
    have := h i hi'
    unfold Pre at *
    rw [← hd j hj, ← hd i hi']; exact this
theorem Bst.vr (h : Bst S D r) (hv : ∀ j, S j → VR (D j).1 (D j).2) : VR r.2.1 r.2.2 := by
  rcases h with ⟨rfl, h⟩ | ⟨j, hj, rfl, h⟩
  · exact ⟨⟨by decide, by decide, by decide, by decide⟩, rfl⟩
  · exact hv j hj
theorem Bst.at (h : Bst S D r) : -1 ≤ r.1 ∧ (0 ≤ r.1 → S r.1.toNat ∧ r.2 = D r.1.toNat) := by
  rcases h with ⟨rfl, h⟩ | ⟨j, hj, rfl, h⟩
  · exact ⟨by simp, fun h => by simp at h⟩
  · exact ⟨by simp only; omega, fun _ => by simpa using hj⟩
theorem Bst.join (h : Bst S D r) (k : Bst T D t) (hv : ∀ j, S j ∨ T j → VR (D j).1 (D j).2) : Bst (fun j => S j ∨ T j) D (if nearer t r then t else r) := by
  rcases k with ⟨rfl, k⟩ | ⟨j2, hj2, rfl, k⟩
  · have : nearer (-1, 0, 1) r = false := by unfold nearer; simp
    rw [this]
    exact h.congr (fun j => ⟨.inl, fun h => h.elim id fun h => absurd h (k j)⟩) fun _ _ => rfl
  · have v2 := hv j2 (.inr hj2)
    rcases h with ⟨rfl, h⟩ | ⟨j1, hj1, rfl, h⟩
    · have : nearer ((j2 : Int), D j2) (-1, 0, 1) = true := by unfold nearer; simp
      rw [this]
      exact .inr ⟨j2, .inr hj2, rfl, fun i hi => hi.elim (fun hi => absurd hi (h i)) (k i)⟩
    · have v1 := hv j1 (.inl hj1)
      by_cases c : nearer ((j2 : Int), D j2) ((j1 : Int), D j1) = true
      · rw [if_pos c]
        have hp : Pre D j2 j1 := by
          unfold nearer at c
          simp only [Bool.and_eq_true, Bool.or_eq_true, decide_eq_true_eq, Bool.not_eq_true', decide_eq_false_iff_not] at c
          rcases c.2 with c | c | ⟨c, c'⟩
          · omega
          · exact .inl c
          · rcases rlt_tri v2 v1 with e | e | e
            · exact .inl e
            · exact .inr ⟨e, by omega⟩
            · exact absurd e c
        refine .inr ⟨j2, .inr hj2, rfl, fun i hi => ?_⟩
        rcases hi with hi | hi
        · exact hp.trans v2 v1 (hv i (.inl hi)) (h i hi)
        · exact k i hi
      · rw [if_neg c]
        have hp : Pre D j1 j2 := by
          unfold nearer at c
          simp only [Bool.and_eq_true, Bool.or_eq_true, decide_eq_true_eq, Bool.not_eq_true', decide_eq_false_iff_not, not_and, not_or, Decidable.not_not] at c
          have c := c (by omega)
          rcases rlt_tri v1 v2 with e | e | e
          · exact .inl e
          · refine .inr ⟨e, ?_⟩
            have := c.2.2 (by rw [e]; exact rlt_irr _)
            omega
          · exact absurd e c.2.1
        refine .inr ⟨j1, .inl hj1, rfl, fun i hi => ?_⟩
        rcases hi with hi | hi
        · exact h i hi
        · exact hp.trans v1 v2 (hv i (.inr hi)) (k i hi)
theorem Bst.ins (h : Bst S D r) (x : Nat) (hv : ∀ j, S j ∨ j = x → VR (D j).1 (D j).2) : Bst (fun j => S j ∨ j = x) D (if nearer ((x : Int), D x) r then ((x : Int), D x) else r) := h.join (.single x) hv
/-- Two sets whose distances are the same have the same least distance. -/
theorem Bst.map (h : Bst S D r) (k : Bst T E t) (f g : Nat → Nat) (hf : ∀ j, S j → T (f j) ∧ E (f j) = D j) (hg : ∀ j, T j → S (g j) ∧ D (g j) = E j) (hv : ∀ j, S j → VR (D j).1 (D j).2) : r.2 = t.2 ∧ (r.1 < 0 ↔ t.1 < 0) := by
  rcases h with ⟨rfl, h⟩ | ⟨j, hj, rfl, h⟩
  · rcases k with ⟨rfl, k⟩ | ⟨j2, hj2, rfl, k⟩
    · exact ⟨rfl, Iff.rfl⟩
    · exact absurd (hg j2 hj2).1 (h _)
  · rcases k with ⟨rfl, k⟩ | ⟨j2, hj2, rfl, k⟩
    · exact absurd (hf j hj).1 (k _)
    · have e : D j = E j2 := by
        have h1 := h _ (hg j2 hj2).1
        have h2 := k _ (hf j hj).1
        unfold Pre at h1 h2
        rw [(hg j2 hj2).2] at h1
        rw [(hf j hj).2] at h2
        have v1 := hv j hj
        have v2 := hv _ (hg j2 hj2).1
        rw [(hg j2 hj2).2] at v2
        rcases h1 with h1 | ⟨h1, _⟩
        · rcases h2 with h2 | ⟨h2, _⟩
          · exact absurd (rlt_trans v1 v2 v1 h1 h2) (rlt_irr _)
          · exact h2.symm
        · exact h1
      exact ⟨e, by simp only; omega⟩
theorem Bst.unique (h : Bst S D r) (k : Bst T E t) (hs : ∀ j, S j ↔ T j) (hd : ∀ j, S j → D j = E j) (hv : ∀ j, S j → VR (D j).1 (D j).2) : r = t := by
  have kk := k.congr (fun j => (hs j).symm) fun j hj => (hd j ((hs j).2 hj)).symm
  rcases h with ⟨rfl, h⟩ | ⟨j, hj, rfl, h⟩
  · rcases kk with ⟨rfl, kk⟩ | ⟨j2, hj2, rfl, kk⟩
    · rfl
    · exact absurd hj2 (h _)
  · rcases kk with ⟨rfl, kk⟩ | ⟨j2, hj2, rfl, kk⟩
    · exact absurd hj (kk _)
    · have h1 := h j2 hj2
      have h2 := kk j hj
      have v1 := hv j hj
      have v2 := hv j2 hj2
      rcases h1 with h1 | ⟨h1, l1⟩
      · rcases h2 with h2 | ⟨h2, _⟩
        · exact absurd (rlt_trans v1 v2 v1 h1 h2) (rlt_irr _)
        · rw [h2] at h1; exact absurd h1 (rlt_irr _)
      · rcases h2 with h2 | ⟨h2, l2⟩
        · rw [h1] at h2; exact absurd h2 (rlt_irr _)
        · obtain rfl : j = j2 := by omega
          rfl
end
end Go.Proofs.Ytefcciajemkicaa.V
