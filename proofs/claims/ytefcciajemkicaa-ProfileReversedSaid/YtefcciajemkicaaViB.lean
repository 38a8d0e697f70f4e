/- A value semantics of the machine's code, and its proof. -/
import Derived.Laws.AppendOwnNone
import Derived.Laws.BytesArg
import Derived.Test.YtefcciajemkicaaViA
set_option linter.unusedVariables false
set_option linter.unusedSimpArgs false
namespace Go.VI
open Go
section
variable {F : Fx} {α : Nat → Value} {ok : Nat → Prop} {h h' : Heap} {w : World} {s : List D} {a : Act} {E : Env} {d : D}
 {dst : Option Tmp} {ty : TypeId} {pos : String} {aft : Array Edge} {gd : Option (Nat × Bool)}
theorem op_unOp {op : UnOp} {t : TypeId} {x : Operand} (C : Core F α ok h w) (S : SR w α ok h s a) (hop : (opK E ⟨dst, .unOp op t x, ty, pos, aft, gd⟩ ⟨s, h⟩).gives (d, h')) : Done F ⟨dst, .unOp op t x, ty, pos, aft, gd⟩ a α ok h w d h' := by
 simp only [opK, NM.gives_bind, NM.gives_opt] at hop
 obtain ⟨l, hl, hop⟩ := hop
 have hr := oL_ok S hl
 split at hop
 ·rename_i k n
  change Int at n
  simp only [NM.gives_pure, Prod.mk.injEq] at hop
  obtain ⟨rfl, rfl⟩ := hop
  simp only [LR, Rep, List.cons.injEq, and_true] at hr
  exact Done.of C (v := .int k (k.wrap (0 - n))) (by simp [execOp, hr, Op.unary, Op.intArith]) rfl
 ·rename_i b
  simp only [NM.gives_pure, Prod.mk.injEq] at hop
  obtain ⟨rfl, rfl⟩ := hop
  simp only [LR, Rep, List.cons.injEq, and_true] at hr
  exact Done.of C (v := .bool (!b)) (by simp [execOp, hr, Op.unary]) rfl
 ·exact absurd hop NM.gives_fail
theorem op_extract {x : Operand} {i : Nat} (C : Core F α ok h w) (S : SR w α ok h s a) (hop : (opK E ⟨dst, .extract x i, ty, pos, aft, gd⟩ ⟨s, h⟩).gives (d, h')) : Done F ⟨dst, .extract x i, ty, pos, aft, gd⟩ a α ok h w d h' := by
 simp only [opK, NM.gives_bind, NM.gives_opt] at hop
 obtain ⟨dv, hd, hop⟩ := hop
 have hr := operand_ok S hd
 split at hop
 ·rename_i ds
  simp only [NM.gives_bind, NM.gives_opt, NM.gives_pure, Prod.mk.injEq] at hop
  obtain ⟨⟨b, ls⟩, hb, d0, hm, rfl, rfl⟩ := hop
  obtain ⟨vs, hv, hF⟩ := hr
  obtain ⟨v, hvi, hp⟩ := F2.get hF hb
  have hvi' : vs[i]? = some v := by simpa using hvi
  refine Done.of C (v := v) (by simp [execOp, hv, Instr.extract, hvi']) ?_
  cases b with
  | true =>
   simp only [mkD, NM.gives_pure] at hm; subst hm
   obtain ⟨cs, rfl, hl⟩ := hp
   exact ⟨cs, rfl, hl⟩
  | false =>
   obtain ⟨l, rfl, hl⟩ := hp
   simp only [mkD, NM.gives_pure] at hm; subst hm
   exact hl
 ·exact absurd hop NM.gives_fail
theorem op_makeFunc {fn : Fn} {first captured : Array Operand} (C : Core F α ok h w) (S : SR w α ok h s a) (hop : (opK E ⟨dst, .makeFunc fn first captured, ty, pos, aft, gd⟩ ⟨s, h⟩).gives (d, h')) : Done F ⟨dst, .makeFunc fn first captured, ty, pos, aft, gd⟩ a α ok h w d h' := by
 unfold opK at hop
 cases fn with
 | func f =>
  simp only [NM.gives_bind, NM.gives_opt, NM.gives_guard, NM.gives_pure, Prod.mk.injEq] at hop
  obtain ⟨h1, cs, hcs, rfl, rfl⟩ := hop
  have h1 : first = #[] := by simpa using Nat.eq_of_beq_eq_true h1
  subst h1
  have hF : ∀ (xs : List Operand) (cs : List (Nat × Nat)), (xs.mapM fun x => (oL s x).bind fun | .ptr o 0 j => some (o, j) | _ => none) = some cs → F2 (fun (p : Nat × Nat) u => PtrR α h p.1 0 p.2 u) cs (xs.map a.eval) := by
   intro xs
   induction xs with
   | nil => intro cs hc; simp at hc; subst hc; trivial
   | cons x xs ih =>
    intro cs hc
    rw [List.mapM_cons] at hc
    simp only [Option.bind_eq_bind, Option.bind_eq_some_iff, Option.pure_def, Option.some.injEq] at hc
    obtain ⟨p, hp, ps, hps, rfl⟩ := hc
    obtain ⟨l, hl, hp⟩ := hp
    have hr := oL_ok S hl
    split at hp
    ·simp at hp; subst hp; exact ⟨hr, ih ps hps⟩
    ·cases hp
  refine Done.of C (v := .func (.func f) #[] (captured.map a.eval)) (by simp [execOp, Instr.makeFunc]) ⟨_, rfl, ?_⟩
  have := hF _ _ hcs
  simpa using this
 | _ => exact absurd hop NM.gives_fail
theorem op_fieldAddr {t : TypeId} {x : Operand} {fi : Nat} (hT : tbOk F.P E.T = true) (C : Core F α ok h w) (S : SR w α ok h s a) (hop : (opK E ⟨dst, .fieldAddr t x fi, ty, pos, aft, gd⟩ ⟨s, h⟩).gives (d, h')) : Done F ⟨dst, .fieldAddr t x fi, ty, pos, aft, gd⟩ a α ok h w d h' := by
 simp only [opK, NM.gives_bind, NM.gives_opt] at hop
 obtain ⟨ti, hti, l, hl, hop⟩ := hop
 have hr := oL_ok S hl
 split at hop
 ·rename_i fs heq
  simp only [NM.gives_bind, NM.gives_opt, NM.gives_guard] at hop
  obtain ⟨⟨off, ft⟩, hfa, tf, htf, hsz, hop⟩ := hop
  obtain ⟨FF, hu, hfe⟩ := (tb_get hT hti).struct heq
  obtain ⟨f, hf, rfl, rfl⟩ := fieldsEq_get hfe hfa
  have hf' : FF[fi]? = some f := by simpa using hf
  have hsz := Nat.le_of_ble_eq_true hsz
  have hrun : ∀ g o, a.eval x = .pointer (some ⟨g, o, none⟩) → (execOp a.eval ⟨dst, .fieldAddr t x fi, ty, pos, aft, gd⟩).run F.P w = .ok (.value (.pointer (some ⟨g, o + f.offset, none⟩))) w := by
   intro g o hv
   simp [execOp, Instr.fieldAt, run_underlying hu, hf', hv, Instr.sureAddr, fieldPlace, run_size (tb_get hT htf), show ¬ tf.size = 0 by omega, Addr.add_lit]
  split at hop
  ·rename_i o i j
   simp only [NM.gives_pure, Prod.mk.injEq] at hop
   obtain ⟨rfl, rfl⟩ := hop
   simp only [LR] at hr
   obtain ⟨⟨g, o', hv⟩, hr⟩ := hr
   refine Done.of C (hrun g _ hv) ⟨⟨_, _, rfl⟩, ?_⟩
   cases hh : h o with
   | none => rw [hh] at hr; exact hr.elim
   | gone => trivial
   | box ls =>
    rw [hh] at hr
    obtain ⟨rfl, g2, o2, hα, hv2⟩ := hr
    rw [hv] at hv2; simp at hv2; obtain ⟨rfl, rfl⟩ := hv2
    exact ⟨rfl, _, o2, hα, by rw [Nat.add_assoc]⟩
   | row e c l =>
    rw [hh] at hr
    obtain ⟨hi, g2, o2, n, k, hα, hv2⟩ := hr
    rw [hv] at hv2; simp at hv2; obtain ⟨rfl, rfl⟩ := hv2
    exact ⟨hi, _, o2, n, k, hα, by simp [Nat.add_assoc]⟩
   | ice c l =>
    rw [hh] at hr
    obtain ⟨hi, g2, o2, n, k, hα, hv2⟩ := hr
    rw [hv] at hv2; simp at hv2; obtain ⟨rfl, rfl⟩ := hv2
    exact ⟨hi, _, o2, n, k, hα, by simp [Nat.add_assoc]⟩
   | lock c l =>
    rw [hh] at hr
    obtain ⟨hi, g2, o2, n, k, hα, hv2⟩ := hr
    rw [hv] at hv2; simp at hv2; obtain ⟨rfl, rfl⟩ := hv2
    exact ⟨hi, _, o2, n, k, hα, by simp [Nat.add_assoc]⟩
   | grid e d n q ll =>
    rw [hh] at hr
    obtain ⟨hi, g2, o2, m, k, hα, hv2⟩ := hr
    rw [hv] at hv2; simp at hv2; obtain ⟨rfl, rfl⟩ := hv2
    exact ⟨hi, _, o2, m, k, hα, by simp [Nat.add_assoc]⟩
  ·rename_i c y j
   simp only [NM.gives_pure, Prod.mk.injEq] at hop
   obtain ⟨rfl, rfl⟩ := hop
   simp only [LR] at hr
   obtain ⟨g, o', cs, hv, hr⟩ := hr
   refine Done.of C (hrun g _ hv) ?_
   simp only [DR, LR]
   exact ⟨g, o', cs, by rw [Nat.add_assoc], hr⟩
  ·exact absurd hop NM.gives_fail
 ·exact absurd hop NM.gives_fail
theorem op_field {t : TypeId} {x : Operand} {fi : Nat} (hT : tbOk F.P E.T = true) (C : Core F α ok h w) (S : SR w α ok h s a) (hop : (opK E ⟨dst, .field t x fi, ty, pos, aft, gd⟩ ⟨s, h⟩).gives (d, h')) : Done F ⟨dst, .field t x fi, ty, pos, aft, gd⟩ a α ok h w d h' := by
 simp only [opK, NM.gives_bind, NM.gives_opt] at hop
 obtain ⟨ti, hti, dv, hd, hop⟩ := hop
 have hr := operand_ok S hd
 split at hop
 ·rename_i fs ls heq
  simp only [NM.gives_bind, NM.gives_opt, NM.gives_guard, NM.gives_pure, Prod.mk.injEq, Bool.and_eq_true] at hop
  obtain ⟨⟨off, ft⟩, hfa, tf, htf, ⟨hsz, hle⟩, d0, hm, rfl, rfl⟩ := hop
  obtain ⟨FF, hu, hfe⟩ := (tb_get hT hti).struct heq
  obtain ⟨f, hf, rfl, rfl⟩ := fieldsEq_get hfe hfa
  have hf' : FF[fi]? = some f := by simpa using hf
  obtain ⟨cs, hv, hls⟩ := hr
  obtain ⟨v, hrun, h1, h2⟩ := run_part (w := w) (tb_get hT htf) hls (Nat.le_of_ble_eq_true hsz) (Nat.le_of_ble_eq_true hle)
  have hrun : (part f.type cs f.offset).run F.P w = .ok v w := by simpa using hrun
  exact Done.of C (v := v) (by simp [execOp, Instr.field, run_underlying hu, hf', hv, asAgg, hrun]) (part_D hls hm h1 h2)
 ·exact absurd hop NM.gives_fail
end
end Go.VI
namespace Go.VI
open Go
theorem flatP_ok {w : World} {α : Nat → Value} {ok : Nat → Prop} {h : Heap} {o i j m g o' : Nat} {l' : L} (hf : (flatP h o i j m).gives l') (hr : PtrR α h o i j (.pointer (some ⟨g, o', none⟩))) :
  LR w α ok h l' (.pointer (some ⟨g, o' + m, none⟩)) := by
 obtain ⟨_, hr⟩ := hr
 unfold flatP at hf
 split at hf
 ·rename_i e k zs hh
  simp only [NM.gives_guard, NM.gives_pure] at hf
  obtain ⟨hj, hlt, rfl⟩ := hf
  have hj := Nat.eq_of_beq_eq_true hj
  subst hj
  have hlt : i + m < List.length (α := (TC.int k).α) zs := by have := of_decide_eq_true hlt; omega
  rw [hh] at hr
  obtain ⟨hi, g2, o2, n, kk, hα, hv2⟩ := hr
  simp only [LR, PtrR, hh]
  simp only [TC.size, Value.pointer.injEq, Option.some.injEq, Addr.mk.injEq, Nat.mul_one, Nat.add_zero, and_true] at hv2 ⊢
  obtain ⟨rfl, rfl⟩ := hv2
  exact ⟨⟨_, _, rfl, rfl⟩, hlt, _, o2, n, kk, hα, by simp [Nat.add_assoc]⟩
 ·rename_i hne
  rw [NM.gives_pure] at hf; subst hf
  refine ⟨⟨_, _, rfl⟩, ?_⟩
  cases hh : h o with
  | none => rw [hh] at hr; exact hr.elim
  | gone => trivial
  | box ls =>
   rw [hh] at hr
   obtain ⟨rfl, g2, o2, hα, hv2⟩ := hr
   simp at hv2; obtain ⟨rfl, rfl⟩ := hv2
   exact ⟨rfl, _, o2, hα, by rw [Nat.add_assoc]⟩
  | row e c l =>
   rw [hh] at hr
   obtain ⟨hi, g2, o2, n, k, hα, hv2⟩ := hr
   simp at hv2; obtain ⟨rfl, rfl⟩ := hv2
   exact ⟨hi, _, o2, n, k, hα, by simp [Nat.add_assoc]⟩
  | ice c l =>
   rw [hh] at hr
   obtain ⟨hi, g2, o2, n, k, hα, hv2⟩ := hr
   simp at hv2; obtain ⟨rfl, rfl⟩ := hv2
   exact ⟨hi, _, o2, n, k, hα, by simp [Nat.add_assoc]⟩
  | lock c l =>
   rw [hh] at hr
   obtain ⟨hi, g2, o2, n, k, hα, hv2⟩ := hr
   simp at hv2; obtain ⟨rfl, rfl⟩ := hv2
   exact ⟨hi, _, o2, n, k, hα, by simp [Nat.add_assoc]⟩
  | grid e d n q ll =>
   rw [hh] at hr
   obtain ⟨hi, g2, o2, m', k, hα, hv2⟩ := hr
   simp at hv2; obtain ⟨rfl, rfl⟩ := hv2
   exact ⟨hi, _, o2, m', k, hα, by simp [Nat.add_assoc]⟩
section
variable {F : Fx} {α : Nat → Value} {ok : Nat → Prop} {h h' : Heap} {w : World} {s : List D} {a : Act} {E : Env} {d : D}
 {dst : Option Tmp} {ty : TypeId} {pos : String} {aft : Array Edge} {gd : Option (Nat × Bool)}
theorem run_indexAt_slice {P : Program} {t e : TypeId} {te : TI} (hu : P.underlying t = some (.slice e)) (he : TIok P e te) {g off n c : Nat} {k : IntKind} {i : Int} (h0 : 0 ≤ i) (hi : i < (n : Int)) :
  (Instr.indexAt t (.slice (some ⟨g, off, none⟩) n c) (.int k i)).run P w = .ok (.pointer (some ⟨g, off + i.toNat * te.size, none⟩)) w := by
 simp [Instr.indexAt, asIntOf, run_underlying hu, h0, hi, run_size he, Addr.add_lit]
def TabHas (tabs : List (Nat × Obj)) (g : Nat) (k : IntKind) (zs : List Int) : Prop := ∃ cs t fr, (g, Obj.cells cs t fr) ∈ tabs ∧ cs.toList = zs.map (Value.int k)
theorem op_indexAddr {t : TypeId} {x y : Operand} (hG : ∀ g k zs, E.G g = some (k, zs) → TabHas F.tabs g k zs) (hT : tbOk F.P E.T = true) (C : Core F α ok h w) (S : SR w α ok h s a) (hop : (opK E ⟨dst, .indexAddr t x y, ty, pos, aft, gd⟩ ⟨s, h⟩).gives (d, h')) : Done F ⟨dst, .indexAddr t x y, ty, pos, aft, gd⟩ a α ok h w d h' := by
 simp only [opK, NM.gives_bind, NM.gives_opt] at hop
 obtain ⟨ti, hti, l, hl, n, hn, hop⟩ := hop
 have hr := oL_ok S hl
 obtain ⟨k, hy⟩ := oI_ok S hn
 split at hop
 ·rename_i e heq
  simp only [NM.gives_bind, NM.gives_opt, NM.gives_pure, Prod.mk.injEq] at hop
  obtain ⟨te, hte, l', hi, rfl, rfl⟩ := hop
  have hu := (tb_get hT hti).slice heq
  have he := tb_get hT hte
  have hrun : ∀ g off m c, a.eval x = .slice (some ⟨g, off, none⟩) m c → 0 ≤ n → n < (m : Int) → (execOp a.eval ⟨dst, .indexAddr t x y, ty, pos, aft, gd⟩).run F.P w = .ok (.value (.pointer (some ⟨g, off + n.toNat * te.size, none⟩))) w := by
   intro g off m c hx h0 h1
   simp [execOp, hx, hy, run_indexAt_slice hu he h0 h1]
  unfold indexL at hi
  split at hi
  ·rename_i c l
   simp only [NM.gives_guard, NM.gives_pure] at hi
   obtain ⟨hs, h0, h1, rfl⟩ := hi
   have hs := Nat.eq_of_beq_eq_true hs
   have h0 : (0 : Int) ≤ n := of_decide_eq_true h0
   have h1 : n < (List.length (α := c.α) l : Int) := of_decide_eq_true h1
   have hr0 := hr
   simp only [LR, Rep] at hr
   obtain ⟨A, m, cap, hv, hm, _, _, _, hx⟩ := hr
   simp at hv
   obtain ⟨g, off, rfl, hg, hc⟩ := hx (by omega)
   have hlt : n.toNat < List.length (α := c.α) l := by omega
   obtain ⟨ci, hrep, hcell⟩ := hc n.toNat _ (List.getElem?_eq_getElem hlt)
   refine Done.of C (hrun g off m cap hv h0 (by omega)) ?_
   refine ⟨g, off + n.toNat * c.size, ci, by rw [hs]; rfl, hg, ?_, fun j u hj => hcell j u hj⟩
   have : List.getD (α := c.α) l n.toNat c.dflt = l[n.toNat] := by simp [List.getD, List.getElem?_eq_getElem hlt]
   rw [this]; exact hrep
  ·rename_i o
   simp only [LR] at hr
   obtain ⟨hone, hr⟩ := hr
   split at hi
   ·rename_i e' c l hh
    simp only [NM.gives_guard, NM.gives_pure] at hi
    obtain ⟨hs, h0, h1, rfl⟩ := hi
    have hs := Nat.eq_of_beq_eq_true hs
    have h0 : (0 : Int) ≤ n := of_decide_eq_true h0
    have h1 : n < (List.length (α := c.α) l : Int) := of_decide_eq_true h1
    have hob := C.ob o
    rw [hh] at hr hob
    obtain ⟨xs, how, _⟩ := hob
    rcases how.2 with ⟨hv, hz⟩ | ⟨g, cap, cur, hv, _⟩
    ·omega
    ·refine Done.of C (hrun g 0 _ cap (hr.trans hv) h0 h1) ?_
     simp only [DR, LR, PtrR, hh]
     exact ⟨⟨_, _, rfl⟩, by omega, g, 0, _, cap, hv, by rw [hs, Nat.add_zero]⟩
   ·rename_i c l hh
    simp only [NM.gives_guard, NM.gives_pure] at hi
    obtain ⟨hs, h0, h1, rfl⟩ := hi
    have hs := Nat.eq_of_beq_eq_true hs
    have h0 : (0 : Int) ≤ n := of_decide_eq_true h0
    have h1 : n < (List.length (α := c.α) l : Int) := of_decide_eq_true h1
    have hob := C.ob o
    rw [hh] at hr hob
    simp only [ObR, Rep] at hob
    obtain ⟨A, m, cap, hv, hm, _, _, _, hx⟩ := hob
    simp at hv
    obtain ⟨g, off, rfl, hg, hc⟩ := hx (by omega)
    refine Done.of C (hrun g off m cap (hr.trans hv) h0 (by omega)) ?_
    simp only [DR, LR, PtrR, hh]
    exact ⟨⟨_, _, rfl⟩, by omega, g, off, m, cap, hv, by rw [hs, Nat.add_zero]⟩
   ·exact absurd hi NM.gives_fail
  ·rename_i o lo up
   simp only [LR] at hr
   obtain ⟨hone, hr⟩ := hr
   split at hi
   ·rename_i e' c l hh
    simp only [NM.gives_guard, NM.gives_pure] at hi
    obtain ⟨hs, h0, h1, rfl⟩ := hi
    have hs := Nat.eq_of_beq_eq_true hs
    have h0 : (0 : Int) ≤ n := of_decide_eq_true h0
    have h1 : n < ((up - lo : Nat) : Int) := of_decide_eq_true h1
    rw [hh] at hr
    obtain ⟨k1, k2, B, cap, hv, _, _, _, k3⟩ := hr
    obtain ⟨g, off, m, kk, hα, rfl⟩ := k3 (by omega)
    refine Done.of C (hrun g _ _ cap hv h0 h1) ?_
    simp only [DR, LR, PtrR, hh]
    exact ⟨⟨_, _, rfl⟩, by omega, g, off, m, kk, hα, by rw [hs, Nat.add_mul, Nat.add_zero, Nat.add_assoc]⟩
   ·rename_i c l hh
    simp only [NM.gives_guard, NM.gives_pure] at hi
    obtain ⟨hs, h0, h1, rfl⟩ := hi
    have hs := Nat.eq_of_beq_eq_true hs
    have h0 : (0 : Int) ≤ n := of_decide_eq_true h0
    have h1 : n < ((up - lo : Nat) : Int) := of_decide_eq_true h1
    rw [hh] at hr
    obtain ⟨k1, k2, B, cap, hv, _, _, _, k3⟩ := hr
    obtain ⟨g, off, m, kk, hα, rfl⟩ := k3 (by omega)
    refine Done.of C (hrun g _ _ cap hv h0 h1) ?_
    simp only [DR, LR, PtrR, hh]
    exact ⟨⟨_, _, rfl⟩, by omega, g, off, m, kk, hα, by rw [hs, Nat.add_mul, Nat.add_zero, Nat.add_assoc]⟩
   ·exact absurd hi NM.gives_fail
  ·exact absurd hi NM.gives_fail
 ·rename_i kk e heq
  simp only [NM.gives_bind, NM.gives_opt] at hop
  obtain ⟨te, hte, hop⟩ := hop
  have hu := (tb_get hT hti).arr heq
  have he := tb_get hT hte
  split at hop
  ·rename_i o i j
   simp only [NM.gives_guard, NM.gives_bind, NM.gives_pure, Prod.mk.injEq] at hop
   obtain ⟨h0, h1, l', hf, rfl, rfl⟩ := hop
   have h0 : (0 : Int) ≤ n := of_decide_eq_true h0
   have h1 : n < (kk : Int) := of_decide_eq_true h1
   have hr' := hr
   simp only [LR] at hr
   obtain ⟨⟨g, o', hv⟩, hr⟩ := hr
   have hrun : (execOp a.eval ⟨dst, .indexAddr t x y, ty, pos, aft, gd⟩).run F.P w = .ok (.value (.pointer (some ⟨g, o' + n.toNat * te.size, none⟩))) w := by
    simp [execOp, hv, hy, Instr.indexAt, asIntOf, run_underlying hu, Instr.sureAddr, h0, h1, run_size he, Addr.add_lit]
   rw [hv] at hr'
   exact Done.of C hrun (flatP_ok (w := w) (ok := ok) hf hr')
  ·rename_i g
   simp only [NM.gives_bind, NM.gives_opt, NM.gives_guard, NM.gives_pure, Prod.mk.injEq, Bool.and_eq_true] at hop
   obtain ⟨⟨k', zs⟩, hgg, ⟨hs1, hk⟩, h0, h1, rfl, rfl⟩ := hop
   have hs1 := Nat.eq_of_beq_eq_true hs1
   have hk := Nat.eq_of_beq_eq_true hk
   have h0 : (0 : Int) ≤ n := of_decide_eq_true h0
   have h1 : n < (kk : Int) := of_decide_eq_true h1
   simp only at hk
   simp only [LR] at hr
   obtain ⟨cs, tt, fr, hmem, hcs⟩ := hG _ _ _ hgg
   obtain ⟨hheap, hok⟩ := C.tab _ hmem
   have hrun : (execOp a.eval ⟨dst, .indexAddr t x y, ty, pos, aft, gd⟩).run F.P w = .ok (.value (.pointer (some ⟨g, 0 + n.toNat * te.size, none⟩))) w := by
    simp [execOp, hr, hy, Instr.indexAt, asIntOf, run_underlying hu, Instr.sureAddr, h0, h1, run_size he, Addr.add_lit]
   have hlt : n.toNat < zs.length := by omega
   have hcell : cs[n.toNat]? = some (.int k' (zs.getD n.toNat 0)) := by
    rw [← Array.getElem?_toList, hcs, List.getElem?_map, List.getD_eq_getElem?_getD, List.getElem?_eq_getElem hlt]; rfl
   refine Done.of C hrun ⟨g, n.toNat, [.int k' (zs.getD n.toNat 0)], by rw [hs1]; simp, hok, rfl, fun i u hi => ?_⟩
   cases i with
   | zero =>
    simp at hi; subst hi
    unfold World.cell?
    simp only [Nat.add_zero] at hheap ⊢
    rw [hheap]
    simpa using hcell
   | succ i => simp at hi
  ·exact absurd hop NM.gives_fail
 ·exact absurd hop NM.gives_fail
theorem atK_gives {Z : Type} {n : Int} {k : Nat → NM Z} {z : Z} : ∀ {f i : Nat}, (atK n k f i).gives z → ∃ j : Nat, n = (j : Int) ∧ (k j).gives z
 | 0, i, hg => absurd hg NM.gives_fail
 | f + 1, i, hg => by
  simp only [atK, NM.gives_cond, beq_iff_eq] at hg
  rcases hg with ⟨h, hg⟩ | ⟨_, hg⟩
  ·exact ⟨i, h, hg⟩
  ·exact atK_gives hg
theorem op_index {t : TypeId} {x y : Operand} (hT : tbOk F.P E.T = true) (C : Core F α ok h w) (S : SR w α ok h s a) (hop : (opK E ⟨dst, .index t x y, ty, pos, aft, gd⟩ ⟨s, h⟩).gives (d, h')) : Done F ⟨dst, .index t x y, ty, pos, aft, gd⟩ a α ok h w d h' := by
 simp only [opK, NM.gives_bind, NM.gives_opt] at hop
 obtain ⟨ti, hti, n, hn, hop⟩ := hop
 obtain ⟨k, hy⟩ := oI_ok S hn
 split at hop
 ·rename_i heq
  have hu := (tb_get hT hti).str heq
  simp only [NM.gives_bind, NM.gives_opt] at hop
  obtain ⟨l, hl, hop⟩ := hop
  have hr := oL_ok S hl
  split at hop
  ·rename_i b
   change ByteArray at b
   simp only [NM.gives_guard, NM.gives_pure, Prod.mk.injEq] at hop
   obtain ⟨h0, h1, rfl, rfl⟩ := hop
   have h0 : (0 : Int) ≤ n := of_decide_eq_true h0
   have h1 : n < (b.size : Int) := of_decide_eq_true h1
   simp only [LR, Rep, List.cons.injEq, and_true] at hr
   have hlt : n.toNat < b.size := by omega
   have hb : b[n.toNat]? = some (b.data.getD n.toNat 0) := by
    have hlt' : n.toNat < b.data.size := hlt
    show (if h : n.toNat < b.size then some (b.data[n.toNat]'hlt') else none) = _
    rw [dif_pos hlt, Array.getD, dif_pos hlt']
    rfl
   exact Done.of C (v := .int .u8 ((b.data.getD n.toNat 0).toNat : Int)) (by simp only [execOp, hr, hy, Instr.index, asIntOf, Sem.run_bind, Sem.run_pure, Result.andThen_ok, run_underlying hu, if_pos h0, hb]) rfl
  ·exact absurd hop NM.gives_fail
 ·rename_i m e heq
  have hu := (tb_get hT hti).arr heq
  simp only [NM.gives_bind, NM.gives_opt] at hop
  obtain ⟨te, hte, dv, hd, hop⟩ := hop
  have hr := operand_ok S hd
  split at hop
  ·rename_i ls
   simp only [NM.gives_guard] at hop
   obtain ⟨h0, h1, hop⟩ := hop
   obtain ⟨j, hj, hop2⟩ := atK_gives hop
   clear hop
   subst hj
   have hop := hop2
   clear hop2
   simp only [NM.gives_guard, NM.gives_bind, NM.gives_pure, Prod.mk.injEq, Bool.and_eq_true] at hop
   obtain ⟨⟨hsz, hle⟩, d0, hm, rfl, rfl⟩ := hop
   have h0 : (0 : Int) ≤ (j : Int) := of_decide_eq_true h0
   have h1 : (j : Int) < (m : Int) := of_decide_eq_true h1
   obtain ⟨cs, hv, hls⟩ := hr
   obtain ⟨v, hrun, q1, q2⟩ := run_part (w := w) (tb_get hT hte) hls (Nat.le_of_ble_eq_true hsz) (Nat.le_of_ble_eq_true hle)
   have hrun : (part e cs ((j : Int).toNat * te.size)).run F.P w = .ok v w := by simpa using hrun
   exact Done.of C (v := v) (by simp only [execOp, hv, hy, Instr.index, asIntOf, Sem.run_bind, Sem.run_pure, Result.andThen_ok, run_underlying hu, if_pos (And.intro h0 h1), run_size (tb_get hT hte), hrun]) (part_D hls hm q1 q2)
  ·exact absurd hop NM.gives_fail
 ·exact absurd hop NM.gives_fail
end
end Go.VI
namespace Go.VI
open Go
section
variable {F : Fx} {α : Nat → Value} {ok : Nat → Prop} {h h' : Heap} {w : World} {s : List D} {a : Act} {E : Env} {d : D}
 {dst : Option Tmp} {ty : TypeId} {pos : String} {aft : Array Edge} {gd : Option (Nat × Bool)}
theorem bounds_ok {n : Int} {lo hi : Option Int} {k : Int → Int → NM L} {l : L} (hb : (bounds n lo hi k).gives l) (hn : 0 ≤ n) :
  (k (lo.getD 0) (hi.getD n)).gives l ∧ 0 ≤ lo.getD 0 ∧ lo.getD 0 ≤ hi.getD n ∧ hi.getD n ≤ n := by
 unfold bounds at hb
 cases lo with
 | none =>
  cases hi with
  | none => exact ⟨hb, by simp, by simpa using hn, by simp⟩
  | some b =>
   simp only [NM.gives_guard] at hb
   obtain ⟨h1, h2, hb⟩ := hb
   have h1 : (0 : Int) ≤ b := of_decide_eq_true h1
   have h2 : b ≤ n := of_decide_eq_true h2
   exact ⟨hb, by simp, h1, h2⟩
 | some x =>
  cases hi with
  | none =>
   simp only [NM.gives_guard] at hb
   obtain ⟨h1, h2, hb⟩ := hb
   have h1 : (0 : Int) ≤ x := of_decide_eq_true h1
   have h2 : x ≤ n := of_decide_eq_true h2
   exact ⟨hb, h1, h2, by simp⟩
  | some b =>
   simp only [NM.gives_guard] at hb
   obtain ⟨h1, h2, h3, hb⟩ := hb
   have h1 : (0 : Int) ≤ x := of_decide_eq_true h1
   have h2 : x ≤ b := of_decide_eq_true h2
   have h3 : b ≤ n := of_decide_eq_true h3
   exact ⟨hb, h1, h2, h3⟩
theorem run_sliceBounds {P : Program} {isS : Bool} {len cap : Nat} {lo hi : Option Int} {vlo vhi : Option Value} (hlo : ∀ x, lo = some x → ∃ k, vlo = some (.int k x)) (hlo' : lo = none → vlo = none)
  (hhi : ∀ x, hi = some x → ∃ k, vhi = some (.int k x)) (hhi' : hi = none → vhi = none) (h1 : 0 ≤ lo.getD 0) (h2 : lo.getD 0 ≤ hi.getD (len : Int)) (h3 : hi.getD (len : Int) ≤ (len : Int)) (hc : len ≤ cap) :
  (Instr.sliceBounds isS len cap vlo vhi none).run P w = .ok ((lo.getD 0).toNat, (hi.getD (len : Int)).toNat, cap) w := by
 cases lo with
 | none =>
  obtain rfl := hlo' rfl
  cases hi with
  | none => obtain rfl := hhi' rfl; simp [Instr.sliceBounds]
  | some b =>
   obtain ⟨k, rfl⟩ := hhi b rfl
   simp at h2 h3
   cases isS <;> simp [Instr.sliceBounds, Instr.sliceBound, asIntOf, h2, show b ≤ (cap : Int) by omega]
 | some x =>
  obtain ⟨k, rfl⟩ := hlo x rfl
  cases hi with
  | none =>
   obtain rfl := hhi' rfl
   simp at h1 h2
   simp [Instr.sliceBounds, Instr.sliceBound, asIntOf, h1, h2]
  | some b =>
   obtain ⟨k', rfl⟩ := hhi b rfl
   simp at h1 h2 h3
   have h4 : (x : Int) ≤ (b.toNat : Int) := by omega
   cases isS <;> simp [Instr.sliceBounds, Instr.sliceBound, asIntOf, h1, h4, show b ≤ (cap : Int) by omega, show 0 ≤ b by omega]
   all_goals (intro h5; omega)
theorem run_slice {P : Program} {t e : TypeId} {te : TI} (hu : P.underlying t = some (.slice e)) (he : TIok P e te) {A : Option Addr} {n cap : Nat} {lo hi : Option Int} {vlo vhi : Option Value}
  (hlo : ∀ x, lo = some x → ∃ k, vlo = some (.int k x)) (hlo' : lo = none → vlo = none) (hhi : ∀ x, hi = some x → ∃ k, vhi = some (.int k x)) (hhi' : hi = none → vhi = none)
  (h1 : 0 ≤ lo.getD 0) (h2 : lo.getD 0 ≤ hi.getD (n : Int)) (h3 : hi.getD (n : Int) ≤ (n : Int)) (hc : n ≤ cap) (hm : cap ≤ maxLen) (hA : A = none → cap = 0) :
  ∃ B cap', (Instr.slice t (.slice A n cap) vlo vhi none).run P w = .ok (.slice B ((hi.getD (n : Int)).toNat - (lo.getD 0).toNat) cap') w ∧ (hi.getD (n : Int)).toNat - (lo.getD 0).toNat ≤ cap' ∧ cap' ≤ maxLen ∧ (B = none → cap' = 0) ∧
   ((lo.getD 0).toNat < (hi.getD (n : Int)).toNat → ∀ g off, A = some ⟨g, off, none⟩ → B = some ⟨g, off + (lo.getD 0).toNat * te.size, none⟩) := by
 have hb := run_sliceBounds (P := P) (w := w) (isS := true) hlo hlo' hhi hhi' h1 h2 h3 hc
 refine ⟨if cap = (lo.getD 0).toNat then A else A.map (·.add ((lo.getD 0).toNat * te.size)), cap - (lo.getD 0).toNat, ?_, by omega, by omega, fun hB => ?_, fun hlt g off hg => ?_⟩
 ·simp [Instr.slice, run_underlying hu, hb, run_size he]
 ·split at hB
  ·omega
  ·cases A with
   | none => rw [hA rfl]; omega
   | some x => cases hB
 ·rw [if_neg (by omega), hg]
  simp [Addr.add_lit]
theorem SubR.trans {a v v' : Value} {size n lo hi p q : Nat} (k : SubR a size n lo hi v) (k' : SubR v size (hi - lo) p q v') : SubR a size n (lo + p) (lo + q) v' := by
 obtain ⟨h1, h2, B, cap, rfl, h3, h4, h5, h6⟩ := k
 obtain ⟨h7, h8, B', cap', rfl, h9, h10, h11, h12⟩ := k'
 refine ⟨by omega, by omega, B', cap', by congr 1; omega, by omega, h10, h11, fun hlt => ?_⟩
 obtain ⟨g, off, m, k, hv, hB'⟩ := h12 (by omega)
 simp at hv; obtain ⟨rfl, rfl, rfl⟩ := hv
 obtain ⟨g2, off2, m2, k2, ha, hB⟩ := h6 (by omega)
 simp at hB; obtain ⟨rfl, rfl⟩ := hB
 exact ⟨g, off2, m2, k2, ha, by rw [hB', Nat.add_mul, Nat.add_assoc]⟩
theorem oOpt_ok (S : SR w α ok h s a) {x : Option Operand} {n : Option Int} (hx : oOpt s x = some n) : (∀ y, n = some y → ∃ k, x.map a.eval = some (.int k y)) ∧ (n = none → x.map a.eval = none) := by
 cases x with
 | none => simp [oOpt] at hx; subst hx; simp
 | some x =>
  simp only [oOpt, Option.map_eq_some_iff] at hx
  obtain ⟨m, hm, rfl⟩ := hx
  obtain ⟨k, hk⟩ := oI_ok S hm
  exact ⟨fun y hy => ⟨k, by simp at hy; subst hy; simp [hk]⟩, fun h => by cases h⟩
theorem op_slice {t : TypeId} {x : Operand} {lo hi mx : Option Operand} (hT : tbOk F.P E.T = true)
  (C : Core F α ok h w) (S : SR w α ok h s a) (hop : (opK E ⟨dst, .slice t x lo hi mx, ty, pos, aft, gd⟩ ⟨s, h⟩).gives (d, h')) : Done F ⟨dst, .slice t x lo hi mx, ty, pos, aft, gd⟩ a α ok h w d h' := by
 simp only [opK, NM.gives_bind, NM.gives_opt, NM.gives_guard] at hop
 obtain ⟨ti, hti, l, hl, lo', hlo, hi', hhi, hmx, hop⟩ := hop
 have hmx : mx = none := by cases mx <;> simp at hmx; rfl
 subst hmx
 have hr := oL_ok S hl
 obtain ⟨k1, k2⟩ := oOpt_ok S hlo
 obtain ⟨k3, k4⟩ := oOpt_ok S hhi
 split at hop
 ·rename_i heq
  simp only [NM.gives_bind, NM.gives_pure, Prod.mk.injEq] at hop
  obtain ⟨l', hs, rfl, rfl⟩ := hop
  have hu := (tb_get hT hti).str heq
  unfold sliceS at hs
  split at hs
  ·rename_i b
   change ByteArray at b
   obtain ⟨hb, h1, h2, h3⟩ := bounds_ok hs (by omega)
   rw [NM.gives_pure] at hb; subst hb
   simp only [LR, Rep, List.cons.injEq, and_true] at hr
   have hbd := run_sliceBounds (P := F.P) (w := w) (isS := false) k1 k2 k3 k4 h1 h2 h3 (Nat.le_refl _)
   exact Done.of C (v := .string (b.extract (lo'.getD 0).toNat (hi'.getD (b.size : Int)).toNat)) (by simp [execOp, hr, Instr.sliceAt, Instr.slice, run_underlying hu, hbd]) rfl
  ·exact absurd hs NM.gives_fail
 ·rename_i e heq
  simp only [NM.gives_bind, NM.gives_opt, NM.gives_pure, Prod.mk.injEq] at hop
  obtain ⟨te, hte, l', hs, rfl, rfl⟩ := hop
  have hu := (tb_get hT hti).slice heq
  have he := tb_get hT hte
  unfold sliceL at hs
  split at hs
  ·rename_i c l
   rw [NM.gives_guard] at hs
   obtain ⟨hsz, hs⟩ := hs
   have hsz := Nat.eq_of_beq_eq_true hsz
   obtain ⟨hb, h1, h2, h3⟩ := bounds_ok hs (by omega)
   rw [NM.gives_pure] at hb; subst hb
   have hr0 := hr
   simp only [LR, Rep] at hr
   obtain ⟨A, n, cap, hv, hn, hc, hm, hA, hx⟩ := hr
   simp at hv; subst hn
   obtain ⟨B, cap', hrun, q1, q2, q3, q4⟩ := run_slice (w := w) hu he k1 k2 k3 k4 h1 h2 h3 hc hm hA
   refine Done.of C (v := .slice B ((hi'.getD (List.length (α := c.α) l : Int)).toNat - (lo'.getD 0).toNat) cap') (by simp [execOp, hv, Instr.sliceAt, run_underlying hu, hrun]) ?_
   refine sub_rep hr0 (v := .slice B ((hi'.getD (List.length (α := c.α) l : Int)).toNat - (lo'.getD 0).toNat) cap') ⟨by omega, by omega, B, cap', rfl, q1, q2, q3, fun hlt => ?_⟩
   have : A ≠ none := fun h => by have := hA h; omega
   obtain ⟨g, off, rfl, _⟩ := hx (by omega)
   exact ⟨g, off, _, cap, hv, by rw [hsz]; exact q4 hlt g off rfl⟩
  ·rename_i o
   simp only [LR] at hr
   obtain ⟨hone, hr⟩ := hr
   split at hs
   ·rename_i e' c l hh
    rw [NM.gives_guard] at hs
    obtain ⟨hsz, hs⟩ := hs
    have hsz := Nat.eq_of_beq_eq_true hsz
    obtain ⟨hb, h1, h2, h3⟩ := bounds_ok hs (by omega)
    rw [NM.gives_pure] at hb; subst hb
    have hob := C.ob o
    rw [hh] at hr hob
    have hrep := row_rep (ok' := fun b => ok b ∨ blk (α o) = some b) hob (fun b hb => .inl hb) (fun g hg => .inr hg)
    simp only [Rep] at hrep
    obtain ⟨A, n, cap, hv, hn, hc, hm, hA, hx⟩ := hrep
    simp at hv; subst hn
    obtain ⟨B, cap', hrun, q1, q2, q3, q4⟩ := run_slice (w := w) hu he k1 k2 k3 k4 h1 h2 h3 hc hm hA
    refine Done.of C (v := .slice B ((hi'.getD (List.length (α := c.α) l : Int)).toNat - (lo'.getD 0).toNat) cap') (by simp [execOp, hr, hv, Instr.sliceAt, run_underlying hu, hrun]) ?_
    simp only [DR, LR, hh]
    refine ⟨rfl, by omega, by omega, B, cap', rfl, q1, q2, q3, fun hlt => ?_⟩
    obtain ⟨g, off, rfl, _⟩ := hx (by omega)
    exact ⟨g, off, _, cap, hv, by rw [hsz]; exact q4 hlt g off rfl⟩
   ·rename_i c l hh
    rw [NM.gives_guard] at hs
    obtain ⟨hsz, hs⟩ := hs
    have hsz := Nat.eq_of_beq_eq_true hsz
    obtain ⟨hb, h1, h2, h3⟩ := bounds_ok hs (by omega)
    rw [NM.gives_pure] at hb; subst hb
    have hob := C.ob o
    rw [hh] at hr hob
    simp only [ObR, Rep] at hob
    obtain ⟨A, n, cap, hv, hn, hc, hm, hA, hx⟩ := hob
    simp at hv; subst hn
    obtain ⟨B, cap', hrun, q1, q2, q3, q4⟩ := run_slice (w := w) hu he k1 k2 k3 k4 h1 h2 h3 hc hm hA
    refine Done.of C (v := .slice B ((hi'.getD (List.length (α := c.α) l : Int)).toNat - (lo'.getD 0).toNat) cap') (by simp [execOp, hr, hv, Instr.sliceAt, run_underlying hu, hrun]) ?_
    simp only [DR, LR, hh]
    refine ⟨rfl, by omega, by omega, B, cap', rfl, q1, q2, q3, fun hlt => ?_⟩
    obtain ⟨g, off, rfl, _⟩ := hx (by omega)
    exact ⟨g, off, _, cap, hv, by rw [hsz]; exact q4 hlt g off rfl⟩
   ·exact absurd hs NM.gives_fail
  ·rename_i o p q
   simp only [LR] at hr
   obtain ⟨hone, hr⟩ := hr
   have key : ∀ (c : TC) (l : List c.α), SubR (α o) c.size l.length p q (a.eval x) → c.size = te.size → 0 ≤ lo'.getD 0 → lo'.getD 0 ≤ hi'.getD ((q - p : Nat) : Int) → hi'.getD ((q - p : Nat) : Int) ≤ ((q - p : Nat) : Int) →
     ∃ v, (Instr.slice t (a.eval x) (lo.map a.eval) (hi.map a.eval) none).run F.P w = .ok v w ∧ v.oneCell' = true ∧ SubR (α o) c.size l.length (p + (lo'.getD 0).toNat) (p + (hi'.getD ((q - p : Nat) : Int)).toNat) v := by
    intro c l hsub hsz h1 h2 h3
    have hsub0 := hsub
    obtain ⟨s1, s2, B0, cap0, hv, s3, s4, s5, s6⟩ := hsub
    obtain ⟨B, cap', hrun, q1, q2, q3, q4⟩ := run_slice (w := w) hu he k1 k2 k3 k4 h1 h2 h3 s3 s4 s5
    refine ⟨_, by rw [hv]; exact hrun, rfl, hsub0.trans (v' := .slice B ((hi'.getD ((q - p : Nat) : Int)).toNat - (lo'.getD 0).toNat) cap') ⟨by omega, by omega, B, cap', rfl, q1, q2, q3, fun hlt => ?_⟩⟩
    obtain ⟨g, off, m, k, ha, hB⟩ := s6 (by omega)
    exact ⟨g, _, _, _, by rw [hv, hB], by rw [hsz]; rw [hsz] at hB; exact q4 hlt g _ hB⟩
   split at hs
   ·rename_i e' c l hh
    rw [NM.gives_guard] at hs
    obtain ⟨hsz, hs⟩ := hs
    have hsz := Nat.eq_of_beq_eq_true hsz
    obtain ⟨hb, h1, h2, h3⟩ := bounds_ok hs (by omega)
    rw [NM.gives_pure] at hb; subst hb
    rw [hh] at hr
    obtain ⟨v, hrun, hv1, hsub⟩ := key c l hr hsz h1 h2 h3
    refine Done.of C (v := v) (by simp [execOp, Instr.sliceAt, run_underlying hu, hrun]) ?_
    simp only [DR, LR, hh]
    exact ⟨hv1, hsub⟩
   ·rename_i c l hh
    rw [NM.gives_guard] at hs
    obtain ⟨hsz, hs⟩ := hs
    have hsz := Nat.eq_of_beq_eq_true hsz
    obtain ⟨hb, h1, h2, h3⟩ := bounds_ok hs (by omega)
    rw [NM.gives_pure] at hb; subst hb
    rw [hh] at hr
    obtain ⟨v, hrun, hv1, hsub⟩ := key c l hr hsz h1 h2 h3
    refine Done.of C (v := v) (by simp [execOp, Instr.sliceAt, run_underlying hu, hrun]) ?_
    simp only [DR, LR, hh]
    exact ⟨hv1, hsub⟩
   ·exact absurd hs NM.gives_fail
  ·obtain ⟨hb, h1, h2, h3⟩ := bounds_ok hs (by omega)
   rw [NM.gives_pure] at hb; subst hb
   simp only [LR] at hr
   have h3' : hi'.getD ((0 : Nat) : Int) ≤ ((0 : Nat) : Int) := h3
   have hbd := run_sliceBounds (P := F.P) (w := w) (isS := true) (len := 0) (cap := 0) k1 k2 k3 k4 h1 h2 h3' (Nat.le_refl _)
   have e1 : (lo'.getD 0).toNat = 0 := by omega
   have e2 : (hi'.getD ((0 : Nat) : Int)).toNat = 0 := by omega
   refine Done.of C (v := .slice none 0 0) ?_ rfl
   simp [execOp, hr, Instr.sliceAt, Instr.slice, run_underlying hu, hbd, run_size he, e1, e2]
   exact h3
  ·exact absurd hs NM.gives_fail
 ·exact absurd hop NM.gives_fail
/-! ### builtins -/
theorem lenL_ok {P : Program} (C : Core F α ok h w) {l : L} {v : Value} {n : Int} {t ty e : TypeId} (hl : (lenL h l).gives n) (hr : LR w α ok h l v) (hu : P.underlying t = some (.slice e)) :
  (Builtin.len_ #[t] ty #[v]).run P w = .ok (goInt n) w := by
 unfold lenL at hl
 split at hl
 ·rename_i c l
  rw [NM.gives_pure] at hl; subst hl
  simp only [LR, Rep] at hr
  obtain ⟨A, m, cap, hv, hm, _⟩ := hr
  simp at hv; subst hv; subst hm
  simp [Builtin.len_, run_underlying hu]
 ·rename_i o
  simp only [LR] at hr
  obtain ⟨hone, hr⟩ := hr
  split at hl
  ·rename_i e' c l hh
   rw [NM.gives_pure] at hl; subst hl
   have hob := C.ob o
   rw [hh] at hr hob
   obtain ⟨xs, how, _⟩ := hob
   rcases how.2 with ⟨hv, hz⟩ | ⟨g, cap, cur, hv, _⟩
   ·rw [hr, hv, hz]; simp [Builtin.len_, run_underlying hu]
   ·rw [hr, hv]; simp [Builtin.len_, run_underlying hu]
  ·rename_i c l hh
   rw [NM.gives_pure] at hl; subst hl
   have hob := C.ob o
   rw [hh] at hr hob
   simp only [ObR, Rep] at hob
   obtain ⟨A, m, cap, hv, hm, _⟩ := hob
   simp at hv; subst hm
   rw [hr, hv]; simp [Builtin.len_, run_underlying hu]
  ·exact absurd hl NM.gives_fail
 ·rename_i o lo hi
  simp only [LR] at hr
  obtain ⟨hone, hr⟩ := hr
  split at hl
  ·rename_i e' c l hh
   rw [NM.gives_pure] at hl; subst hl
   rw [hh] at hr
   obtain ⟨_, _, B, cap, rfl, _⟩ := hr
   simp [Builtin.len_, run_underlying hu]
  ·rename_i c l hh
   rw [NM.gives_pure] at hl; subst hl
   rw [hh] at hr
   obtain ⟨_, _, B, cap, rfl, _⟩ := hr
   simp [Builtin.len_, run_underlying hu]
  ·exact absurd hl NM.gives_fail
 ·rw [NM.gives_pure] at hl; subst hl
  simp only [LR] at hr; subst hr
  simp [Builtin.len_, run_underlying hu]
 ·exact absurd hl NM.gives_fail
theorem op_len {x : Operand} {t : TypeId} {args : Array Operand} {ts : Array TypeId} (ha : args = #[x]) (ht : ts = #[t]) (hT : tbOk F.P E.T = true) (C : Core F α ok h w) (S : SR w α ok h s a)
  (hop : (opK E ⟨dst, .call ⟨.builtin .len, args, ts⟩, ty, pos, aft, gd⟩ ⟨s, h⟩).gives (d, h')) : Done F ⟨dst, .call ⟨.builtin .len, args, ts⟩, ty, pos, aft, gd⟩ a α ok h w d h' := by
 subst ha; subst ht
 simp only [opK, NM.gives_bind, NM.gives_opt, NM.gives_pure, Prod.mk.injEq] at hop
 obtain ⟨ti, hti, l, hl, n, hn, rfl, rfl⟩ := hop
 have hr := oL_ok S hl
 split at hn
 ·rename_i b heq
  rw [NM.gives_pure] at hn; subst hn
  simp only [LR, Rep, List.cons.injEq, and_true] at hr
  have hu := (tb_get hT hti).str heq
  exact Done.of C (v := goInt (ByteArray.size b)) (by simp [execOp, resolve, invoke, builtin, hr, Builtin.len_, run_underlying hu]) rfl
 ·exact absurd hn NM.gives_fail
 ·rename_i e l heq hns
  have hu := (tb_get hT hti).slice heq
  have := lenL_ok (P := F.P) (t := t) (ty := ty) C hn hr hu
  exact Done.of C (v := goInt n) (by simp [execOp, resolve, invoke, builtin, this]) rfl
 ·exact absurd hn NM.gives_fail
theorem op_min2 {x y : Operand} {args : Array Operand} {ts : Array TypeId} (ha : args = #[x, y]) (C : Core F α ok h w) (S : SR w α ok h s a)
  (hop : (opK E ⟨dst, .call ⟨.builtin .min, args, ts⟩, ty, pos, aft, gd⟩ ⟨s, h⟩).gives (d, h')) : Done F ⟨dst, .call ⟨.builtin .min, args, ts⟩, ty, pos, aft, gd⟩ a α ok h w d h' := by
 subst ha
 simp only [opK, NM.gives_bind, NM.gives_opt, NM.gives_pure, Prod.mk.injEq] at hop
 obtain ⟨⟨k, p⟩, hp, ⟨k', q⟩, hq, rfl, rfl⟩ := hop
 have := oInt_ok S hp; have := oInt_ok S hq
 exact Done.of C (v := .int k (mn p q)) (by simp [execOp, resolve, invoke, builtin, *, run_min_int2, mn]) rfl
theorem op_max2 {x y : Operand} {args : Array Operand} {ts : Array TypeId} (ha : args = #[x, y]) (C : Core F α ok h w) (S : SR w α ok h s a)
  (hop : (opK E ⟨dst, .call ⟨.builtin .max, args, ts⟩, ty, pos, aft, gd⟩ ⟨s, h⟩).gives (d, h')) : Done F ⟨dst, .call ⟨.builtin .max, args, ts⟩, ty, pos, aft, gd⟩ a α ok h w d h' := by
 subst ha
 simp only [opK, NM.gives_bind, NM.gives_opt, NM.gives_pure, Prod.mk.injEq] at hop
 obtain ⟨⟨k, p⟩, hp, ⟨k', q⟩, hq, rfl, rfl⟩ := hop
 have := oInt_ok S hp; have := oInt_ok S hq
 exact Done.of C (v := .int k (mx p q)) (by simp [execOp, resolve, invoke, builtin, *, run_max_int2, mx]) rfl
theorem op_min3 {x y z : Operand} {args : Array Operand} {ts : Array TypeId} (ha : args = #[x, y, z]) (C : Core F α ok h w) (S : SR w α ok h s a)
  (hop : (opK E ⟨dst, .call ⟨.builtin .min, args, ts⟩, ty, pos, aft, gd⟩ ⟨s, h⟩).gives (d, h')) : Done F ⟨dst, .call ⟨.builtin .min, args, ts⟩, ty, pos, aft, gd⟩ a α ok h w d h' := by
 subst ha
 simp only [opK, NM.gives_bind, NM.gives_opt, NM.gives_pure, Prod.mk.injEq] at hop
 obtain ⟨⟨k, p⟩, hp, ⟨k', q⟩, hq, ⟨k2, r⟩, hr, rfl, rfl⟩ := hop
 have := oInt_ok S hp; have := oInt_ok S hq; have := oInt_ok S hr
 exact Done.of C (v := .int k (mn (mn p q) r)) (by simp [execOp, resolve, invoke, builtin, *, Builtin.min_, Builtin.min2, mn]; rfl) rfl
theorem op_max3 {x y z : Operand} {args : Array Operand} {ts : Array TypeId} (ha : args = #[x, y, z]) (C : Core F α ok h w) (S : SR w α ok h s a)
  (hop : (opK E ⟨dst, .call ⟨.builtin .max, args, ts⟩, ty, pos, aft, gd⟩ ⟨s, h⟩).gives (d, h')) : Done F ⟨dst, .call ⟨.builtin .max, args, ts⟩, ty, pos, aft, gd⟩ a α ok h w d h' := by
 subst ha
 simp only [opK, NM.gives_bind, NM.gives_opt, NM.gives_pure, Prod.mk.injEq] at hop
 obtain ⟨⟨k, p⟩, hp, ⟨k', q⟩, hq, ⟨k2, r⟩, hr, rfl, rfl⟩ := hop
 have := oInt_ok S hp; have := oInt_ok S hq; have := oInt_ok S hr
 exact Done.of C (v := .int k (mx (mx p q) r)) (by simp [execOp, resolve, invoke, builtin, *, Builtin.max_, Builtin.max2, mx]) rfl
end
end Go.VI
namespace Go.VI
open Go
section
variable {F : Fx} {α : Nat → Value} {ok : Nat → Prop} {h h' : Heap} {w : World} {s : List D} {a : Act} {E : Env} {d : D}
 {dst : Option Tmp} {ty : TypeId} {pos : String} {aft : Array Edge} {gd : Option (Nat × Bool)}
theorem newOb_ok {id : Nat} {b : Ob} (hn : (newOb h id b).gives h') : h id = .none ∧ h' = upd h id b := by
 unfold newOb at hn
 split at hn
 ·rename_i hh; rw [NM.gives_pure] at hn; exact ⟨hh, hn.symm⟩
 ·exact absurd hn NM.gives_fail
theorem idOf_ge {m n : Nat} (hm : m ≤ 100) : m ≤ idOf n := by unfold idOf; omega
theorem new_box (C : Core F α ok h w) (hm : F.m ≤ 100) {id : Nat} (hid : F.m ≤ id) (hnone : h id = .none) {t : TypeId} {ls : List L} {vs : List Value} (hls : LsR w α ok h ls vs) :
  Core F (setA α id (.pointer (some ⟨w.heap.size, 0, none⟩))) ok (upd h id (.box ls)) (w.alloc (.cells vs.toArray t)) ∧
   Stay w α ok h (w.alloc (.cells vs.toArray t)) (setA α id (.pointer (some ⟨w.heap.size, 0, none⟩))) ok (upd h id (.box ls)) := by
 have hB : ∀ k, k < w.heap.size → (w.alloc (.cells vs.toArray t)).heap[k]? = w.heap[k]? := fun k hk => heap_alloc_old w _ k hk
 have s : Stay w α ok h (w.alloc (.cells vs.toArray t)) (setA α id (.pointer (some ⟨w.heap.size, 0, none⟩))) ok (upd h id (.box ls)) :=
  C.newS hnone hB
 refine C.new hnone hid hB (by simp) rfl rfl rfl (fun g hg => by simp [blk] at hg; omega) (by simp) ?_
 exact ⟨w.heap.size, 0, vs.toArray, t, by simp, heap_alloc_new w _, vs, hls.stay s, fun j v hj => by simpa using hj⟩
theorem op_alloc {t : TypeId} (hT : tbOk F.P E.T = true) (hm : F.m ≤ 100) (C : Core F α ok h w) (hop : (opK E ⟨dst, .alloc t, ty, pos, aft, gd⟩ ⟨s, h⟩).gives (d, h')) : Done F ⟨dst, .alloc t, ty, pos, aft, gd⟩ a α ok h w d h' := by
 simp only [opK, NM.gives_bind, NM.gives_opt, NM.gives_pure, Prod.mk.injEq] at hop
 obtain ⟨ti, hti, dd, hdd, h1, hn, rfl, rfl⟩ := hop
 obtain ⟨hnone, rfl⟩ := newOb_ok hn
 obtain ⟨i, z, hi, hs, hb, hz, hzl, hc⟩ := (tb_get hT hti).info
 have hls : LsR w α ok h (match ti.code with | some c => zleaves c | none => List.replicate ti.size .undef) z.cells.toList := by
  split
  ·rename_i c hcode
   exact (zEq_ok (hc c hcode).2).2
  ·rw [← hzl]
   refine F2.of_get (by simp) fun i l v h1 h2 => ?_
   have := List.mem_of_getElem? h1
   rw [List.mem_replicate] at this
   rw [this.2]; trivial
 obtain ⟨C', s'⟩ := new_box C hm (idOf_ge hm) hnone (t := t) hls
 refine ⟨_, .pointer (some ⟨w.heap.size, 0, none⟩), _, _, _, ?_, .inl rfl, C', s', ?_⟩
 ·simp [execOp, Instr.alloc, zeroValue, typeInfo, hi, hz, newVar, newRow]
 ·simp only [DR, LR, PtrR, upd_same]
  exact ⟨⟨_, _, rfl⟩, trivial, w.heap.size, 0, by simp, rfl⟩
theorem op_box {t : TypeId} {x : Operand} (hm : F.m ≤ 100) (C : Core F α ok h w) (S : SR w α ok h s a) (hop : (opK E ⟨dst, .box t x, ty, pos, aft, gd⟩ ⟨s, h⟩).gives (d, h')) : Done F ⟨dst, .box t x, ty, pos, aft, gd⟩ a α ok h w d h' := by
 simp only [opK, NM.gives_bind, NM.gives_opt, NM.gives_guard, NM.gives_pure, Prod.mk.injEq, Bool.and_eq_true] at hop
 obtain ⟨dv, hd, dd, hdd, ⟨hg1, hg2⟩, h1, hn, rfl, rfl⟩ := hop
 obtain ⟨hnone, rfl⟩ := newOb_ok hn
 have hls := DR.cells hg2 (by rintro ds rfl; simp at hg1) (operand_ok S hd)
 obtain ⟨C', s'⟩ := new_box C hm (idOf_ge hm) hnone (t := t) hls
 refine ⟨_, .pointer (some ⟨w.heap.size, 0, none⟩), _, _, _, ?_, .inl rfl, C', s', ?_⟩
 ·simp [execOp, Instr.box, newVar, newRow]
 ·simp only [DR, LR, PtrR, upd_same]
  exact ⟨⟨_, _, rfl⟩, trivial, w.heap.size, 0, by simp, rfl⟩
theorem new_row (C : Core F α ok h w) {id : Nat} (hid : F.m ≤ id) (hnone : h id = .none) {e : TypeId} {c : TC} {l : List c.α} {xs : List Value} (hr : Rows w ok c l xs) (hmax : l.length ≤ maxLen) :
  Core F (setA α id (.slice (some ⟨w.heap.size, 0, none⟩) l.length l.length)) ok (upd h id (.row e c l)) (w.alloc (.cells xs.toArray e)) ∧
   Stay w α ok h (w.alloc (.cells xs.toArray e)) (setA α id (.slice (some ⟨w.heap.size, 0, none⟩) l.length l.length)) ok (upd h id (.row e c l)) := by
 have hB : ∀ k, k < w.heap.size → (w.alloc (.cells xs.toArray e)).heap[k]? = w.heap[k]? := fun k hk => heap_alloc_old w _ k hk
 refine C.new hnone hid hB (by simp) rfl rfl rfl (fun g hg => by simp [blk] at hg; omega) (by simp) ?_
 refine ⟨xs, ⟨hr.length, .inr ⟨w.heap.size, l.length, xs.toArray, by simp, Nat.zero_le _, heap_alloc_new w _, Nat.le_refl _, hmax, by simp [hr.length], ?_⟩⟩, hr.mono fun b hb => ⟨hb, hB b (C.okb b hb).1⟩⟩
 rw [← hr.length]; simp
theorem rows_replicate (n : Nat) {c : TC} {x : c.α} {cs : List Value} (hx : Rep w ok c x cs) : Rows w ok c (List.replicate n x) (List.replicate n cs).flatten := by
 induction n with
 | zero => rfl
 | succ n ih => exact ⟨cs, _, by simp [List.replicate_succ], hx, ih⟩
theorem madeCells_eq (z : Array Value) (n : Nat) : (madeCells z (n * z.size)).toList = (List.replicate n z.toList).flatten := by
 rcases Nat.eq_zero_or_pos z.size with h0 | h0
 ·have : z = #[] := by simpa using h0
  subst this
  simp [madeCells]
 ·apply List.ext_getElem?
  intro i
  have e1 : (List.replicate n z.toList).flatten.length = n * z.size := by simp
  by_cases hi : i < n * z.size
  ·have hq : i / z.size < n := (Nat.div_lt_iff_lt_mul h0).2 hi
   have hr : i % z.size < z.size := Nat.mod_lt _ h0
   have : (List.replicate n z.toList).flatten[i]? = z.toList[i % z.size]? := by
    have key : ∀ (m i : Nat), i < m * z.size → (List.replicate m z.toList).flatten[i]? = z.toList[i % z.size]? := by
     intro m
     induction m with
     | zero => intro i hi; omega
     | succ m ih =>
      intro i hi
      rw [List.replicate_succ, List.flatten_cons, List.getElem?_append]
      split
      ·rename_i h; rw [Nat.mod_eq_of_lt (by simpa using h)]
      ·rename_i h
       have h : z.size ≤ i := by simpa using h
       rw [ih _ (by simp; rw [Nat.add_mul] at hi; omega)]
       simp only [Array.length_toList]
       rw [← Nat.mod_eq_sub_mod h]
    exact key n i hi
   rw [this]
   simp [madeCells, hi, hr]
  ·have e2 : (madeCells z (n * z.size)).toList.length = n * z.size := by simp [madeCells]
   rw [List.getElem?_eq_none (by omega), List.getElem?_eq_none (by omega)]
theorem op_makeSlice {t : TypeId} {x y : Operand} (hT : tbOk F.P E.T = true) (hm : F.m ≤ 100) (C : Core F α ok h w) (S : SR w α ok h s a) (hop : (opK E ⟨dst, .makeSlice t x y, ty, pos, aft, gd⟩ ⟨s, h⟩).gives (d, h')) : Done F ⟨dst, .makeSlice t x y, ty, pos, aft, gd⟩ a α ok h w d h' := by
 simp only [opK, NM.gives_bind, NM.gives_opt] at hop
 obtain ⟨ti, hti, hop⟩ := hop
 split at hop
 ·rename_i e heq
  simp only [NM.gives_bind, NM.gives_opt, NM.gives_guard, NM.gives_pure, Prod.mk.injEq, Bool.and_eq_true] at hop
  obtain ⟨te, hte, c, hc, dd, hdd, n, hn, n', hn', h1, h0, ⟨hb, hb1⟩, hh, hnew, rfl, rfl⟩ := hop
  have h1 := of_decide_eq_true h1
  subst h1
  have h0 : (0 : Int) ≤ n := of_decide_eq_true h0
  have hb : (te.bytes : Int) * n ≤ 281474976710656 := of_decide_eq_true hb
  have hb1 := Nat.le_of_ble_eq_true hb1
  obtain ⟨hnone, rfl⟩ := newOb_ok hnew
  have hu := (tb_get hT hti).slice heq
  obtain ⟨i, z, hi, hs, hbi, hz, hzl, hcd⟩ := (tb_get hT hte).info
  obtain ⟨k, hx⟩ := oI_ok S hn
  obtain ⟨k', hy⟩ := oI_ok S hn'
  have hnb : n ≤ 281474976710656 := by
   have : (1 : Int) * n ≤ (te.bytes : Int) * n := Int.mul_le_mul_of_nonneg_right (by omega) h0
   omega
  have hrun := run_make (P := F.P) w t e i z hu hi hz k k' n n h0 (Int.le_refl _) (by rw [hbi]; exact hb) (by omega)
  have hrep := (zEq_ok (w := w) (α := α) (ok := ok) (h := h) (hcd c hc).2).1
  have hsz : i.size = z.cells.size := by rw [hs, ← hzl]; simp
  have hrow := rows_replicate n.toNat hrep
  rw [hsz] at hrun
  have hmc : madeCells z.cells (n.toNat * z.cells.size) = ((List.replicate n.toNat z.cells.toList).flatten).toArray := by
   apply Array.ext'; rw [madeCells_eq]
  rw [hmc] at hrun
  obtain ⟨C', s'⟩ := new_row C (idOf_ge (n := dd) hm) hnone (e := e) hrow (by simp [maxLen]; omega)
  refine ⟨_, .slice (some ⟨w.heap.size, 0, none⟩) n.toNat n.toNat, _, _, _, ?_, .inl rfl, C', s', ?_⟩
  ·simp [execOp, hx, hy, hrun]
  ·simp [DR, LR, upd_same, setA_same, Value.oneCell']
 ·exact absurd hop NM.gives_fail
end
end Go.VI
namespace Go.VI
open Go
section
variable {F : Fx} {α : Nat → Value} {ok : Nat → Prop} {h h' : Heap} {w : World} {s : List D} {a : Act} {E : Env} {d : D}
 {dst : Option Tmp} {ty : TypeId} {pos : String} {aft : Array Edge} {gd : Option (Nat × Bool)}
def SrcR (w : World) (ok : Nat → Prop) (c : TC) (ys : List c.α) (v : Value) : Prop :=
 ∃ A m cap, v = .slice A m cap ∧ m = ys.length ∧ m ≤ cap ∧ cap ≤ maxLen ∧ (A = none → cap = 0) ∧ ∃ news, Rows w ok c ys news ∧ (∀ ad, A = some ad → ∀ (j : Nat) u, news[j]? = some u → w.cell? (ad.add j) = some u)
theorem rows_of_cells {c : TC} {g : Nat} : ∀ {l : List c.α} {off : Nat}, (∀ (i : Nat) x, l[i]? = some x → ∃ ci, Rep w ok c x ci ∧ ∀ (j : Nat) v, ci[j]? = some v → w.cell? ⟨g, off + i * c.size + j, none⟩ = some v) →
  ∃ cs, Rows w ok c l cs ∧ ∀ (j : Nat) v, cs[j]? = some v → w.cell? ⟨g, off + j, none⟩ = some v
 | [], off, _ => ⟨[], rfl, fun j v h => by simp at h⟩
 | x :: l, off, hc => by
  obtain ⟨ci, hr, h1⟩ := hc 0 x rfl
  obtain ⟨cs, hrs, h2⟩ := rows_of_cells (l := l) (off := off + c.size) (fun i y hy => by
   obtain ⟨cj, hrj, h3⟩ := hc (i + 1) y (by simpa using hy)
   exact ⟨cj, hrj, fun j v hj => by rw [show off + c.size + i * c.size + j = off + (i + 1) * c.size + j by rw [Nat.add_mul]; omega]; exact h3 j v hj⟩)
  refine ⟨ci ++ cs, ⟨ci, cs, rfl, hr, hrs⟩, fun j v hj => ?_⟩
  rw [List.getElem?_append] at hj
  split at hj
  ·have := h1 j v hj; rw [Nat.zero_mul, Nat.add_zero] at this; exact this
  ·rename_i hlt
   have := h2 _ v hj
   rw [hr.length] at this hlt
   rw [show off + c.size + (j - c.size) = off + j by omega] at this; exact this
theorem rep_src {c : TC} {l : List c.α} {v : Value} (k : Rep w ok (.list c) l [v]) : SrcR w ok c l v := by
 simp only [Rep] at k
 obtain ⟨A, m, cap, hv, hm, hc, hmx, hA, hx⟩ := k
 simp at hv
 by_cases h0 : m = 0
 ·have : l = [] := List.eq_nil_of_length_eq_zero (by omega)
  subst this
  exact ⟨A, m, cap, hv, hm, hc, hmx, hA, [], rfl, fun _ _ _ _ h => by simp at h⟩
 ·obtain ⟨g, off, rfl, hg, hcell⟩ := hx h0
  obtain ⟨cs, hr, hcs⟩ := rows_of_cells hcell
  exact ⟨_, m, cap, hv, hm, hc, hmx, hA, cs, hr, fun ad had j u hj => by simp at had; subst had; rw [Addr.add_lit]; exact hcs j u hj⟩
theorem row_src {o : Nat} {e : TypeId} {c : TC} {l : List c.α} (k : ObR w α ok h o (.row e c l)) : SrcR w ok c l (α o) := by
 obtain ⟨xs, how, hr⟩ := k
 rcases how.2 with ⟨hv, hz⟩ | ⟨g, cap, cur, hv, _, hh, hnc, hcm, hcs, ht⟩
 ·have : l = [] := List.eq_nil_of_length_eq_zero hz
  subst this
  exact ⟨none, 0, 0, hv, rfl, Nat.le_refl _, by simp [maxLen], fun _ => rfl, [], rfl, fun _ h => by cases h⟩
 ·refine ⟨some ⟨g, 0, none⟩, _, cap, hv, rfl, hnc, hcm, by simp, xs, hr, fun ad had j u hj => ?_⟩
  simp at had; subst had
  rw [Addr.add_lit, cell_of_row w g _ cur e (0, 0) hh, Nat.zero_add]
  rw [← ht, List.getElem?_take] at hj
  split at hj
  ·simpa using hj
  ·cases hj
theorem sub_src {c : TC} {l : List c.α} {a v : Value} {lo hi : Nat} (k : SrcR w ok c l a) (s : SubR a c.size l.length lo hi v) : SrcR w ok c ((l.take hi).drop lo) v := by
 obtain ⟨h1, h2, B, cap, rfl, h3, h4, h5, h6⟩ := s
 obtain ⟨A, m, cap', ha, hm, hc, hmx, hA, news, hr, hcell⟩ := k
 refine ⟨B, hi - lo, cap, rfl, by simp; omega, h3, h4, h5, (news.take (hi * c.size)).drop (lo * c.size), (hr.take hi).drop lo, fun ad had j u hj => ?_⟩
 rw [List.getElem?_drop, List.getElem?_take] at hj
 split at hj
 ·rename_i hlt
  have hlt' : lo < hi := by
   rcases Nat.lt_or_ge lo hi with h | h
   ·exact h
   ·have : hi * c.size ≤ lo * c.size := Nat.mul_le_mul_right _ h; omega
  obtain ⟨g, off, m', k', hAe, hB⟩ := h6 hlt'
  rw [ha] at hAe; simp at hAe; obtain ⟨rfl, rfl, rfl⟩ := hAe
  rw [hB] at had; simp at had; subst had
  have := hcell _ rfl _ u hj
  rw [Addr.add_lit] at this ⊢
  rw [show off + lo * c.size + j = off + (lo * c.size + j) by omega]; exact this
 ·cases hj
theorem rowOf_ok (C : Core F α ok h w) {c : TC} {l : L} {ys : List c.α} {v : Value} (hl : rowOf h c l = some ys) (k : LR w α ok h l v) : SrcR w ok c ys v := by
 unfold rowOf at hl
 split at hl
 ·simp at hl; subst hl
  simp only [LR] at k; subst k
  exact ⟨none, 0, 0, rfl, rfl, Nat.le_refl _, by simp [maxLen], fun _ => rfl, [], rfl, fun _ h => by cases h⟩
 ·rename_i hnn
  rw [Option.bind_eq_some_iff] at hl
  obtain ⟨l', hl1, hl2⟩ := hl
  unfold lend0 at hl1
  split at hl1
  ·rename_i o
   simp only [LR] at k
   split at hl1
   ·rename_i e c' x hb
    simp at hl1; subst hl1
    simp only [unL] at hl2
    split at hl2
    ·rename_i he; simp at he; subst he; simp at hl2; subst hl2
     have hob := C.ob o; rw [hb] at hob k
     rw [k.2]; exact row_src hob
    ·cases hl2
   ·rename_i c' x hb
    simp at hl1; subst hl1
    simp only [unL] at hl2
    split at hl2
    ·rename_i he; simp at he; subst he; simp at hl2; subst hl2
     have hob := C.ob o; rw [hb] at hob k
     rw [k.2]; exact rep_src hob
    ·cases hl2
   ·cases hl1
  ·rename_i o lo hi
   simp only [LR] at k
   split at hl1
   ·rename_i e c' x hb
    simp at hl1; subst hl1
    simp only [unL] at hl2
    split at hl2
    ·rename_i he; simp at he; subst he; simp at hl2; subst hl2
     have hob := C.ob o; rw [hb] at hob k
     exact sub_src (row_src hob) k.2
    ·cases hl2
   ·rename_i c' x hb
    simp at hl1; subst hl1
    simp only [unL] at hl2
    split at hl2
    ·rename_i he; simp at he; subst he; simp at hl2; subst hl2
     have hob := C.ob o; rw [hb] at hob k
     exact sub_src (rep_src hob) k.2
    ·cases hl2
   ·cases hl1
  ·simp at hl1; subst hl1
   exact rep_src (unL_ok hl2 k)
theorem owns_blk {base : Nat} {e : TypeId} {size n : Nat} {v : Value} {xs : List Value} (ho : w.ownsRow base e size v n xs) : v.ownBlock = blk v := by
 rcases ho.2 with ⟨rfl, _⟩ | ⟨g, cap, cur, rfl, _⟩ <;> rfl
theorem run_append_src {P : Program} {t e : TypeId} {te : TI} {c : TC} (hu : P.underlying t = some (.slice e)) (he : TIok P e te) (hc : te.code = some c) {v : Value} {n : Nat} {xs : List Value} (hown : w.ownsRow 0 e c.size v n xs)
  {ys : List c.α} {vy : Value} (hy : SrcR w ok c ys vy) (hb : (n + ys.length) * te.bytes ≤ 140737488355328) (hb1 : 1 ≤ te.bytes) (ty : TypeId) :
  ∃ v' w' news, (Builtin.append_ #[t, t] ty #[v, vy]).run P w = .ok v' w' ∧ Rows w ok c ys news ∧ w'.ownsRow 0 e c.size v' (n + ys.length) (xs ++ news) ∧ w.grownBy w' v.ownBlock ∧ ∀ g, blk v' = some g → w.heap.size ≤ g ∨ blk v = some g := by
 obtain ⟨i, z, hi, hs, hbi, hz, hzl, hcd⟩ := he.info
 have hcs := (hcd c hc).1
 obtain ⟨A, m, cap, rfl, rfl, hmc, hcm, hA, news, hr, hcell⟩ := hy
 cases A with
 | none =>
  have h0 : cap = 0 := hA rfl
  have h1 : ys.length = 0 := by omega
  have : ys = [] := List.eq_nil_of_length_eq_zero h1
  subst this
  simp only [Rows] at hr; subst hr; subst h0
  have hrun := run_append_owned_none (P := P) (w := w) 0 t ty e i c.size hu hi v n xs hown
  exact ⟨v, w, [], hrun, rfl, by simpa using hown, ⟨rfl, rfl, rfl, Nat.le_refl _, fun _ _ _ => rfl⟩, fun g hg => .inr hg⟩
 | some ad =>
  have hsz : i.size = c.size := by rw [hs, hcs]
  have hnl : n + ys.length ≤ maxLen := by
   have : (n + ys.length) * 1 ≤ (n + ys.length) * te.bytes := Nat.mul_le_mul_left _ hb1
   simp [maxLen]; omega
  have hzs : z.cells.size = c.size := by rw [hcs, ← hzl]; simp
  rcases hown.2 with ⟨rfl, rfl⟩ | ⟨g0, cap0, cur, rfl, hb0, hg0, hnc, hcm0, hcs0, ht0⟩
  ·have hx : xs = [] := List.eq_nil_of_length_eq_zero (by simpa using hown.1)
   subst hx
   obtain ⟨v', w', hrun, h2, h3, _⟩ := run_append_own (P := P) w w.heap.size t ty e i z c.size te.bytes hu hi hz hsz hbi hzs (size_pos c) _ 0 [] (World.ownsRow_nil w w.heap.size e c.size) ad ys.length cap news hr.length (hcell ad rfl) hr.one hnl hb (Nat.le_refl _)
   refine ⟨v', w', news, hrun, hr, ⟨h2.1, h2.2.imp id ?_⟩, h3, fun g hg => ?_⟩
   ·rintro ⟨g, cap1, cur1, hv, hbg, r⟩; exact ⟨g, cap1, cur1, hv, Nat.zero_le _, r⟩
   ·rcases h2.2 with ⟨rfl, _⟩ | ⟨g1, cap1, cur1, rfl, hbg, _⟩
    ·simp [blk] at hg
    ·simp [blk] at hg; subst hg; exact .inl hbg
  ·obtain ⟨v', w', hrun, h2, h3, _⟩ := run_append_own (P := P) w 0 t ty e i z c.size te.bytes hu hi hz hsz hbi hzs (size_pos c) _ n xs hown ad ys.length cap news hr.length (hcell ad rfl) hr.one hnl hb (Nat.zero_le _)
   refine ⟨v', w', news, hrun, hr, h2, h3, fun g hg => ?_⟩
   by_cases hroom : n + ys.length ≤ cap0
   ·have hnews := hr.length
    have hfit : n * i.size + news.length ≤ cur.size := by rw [hnews, hcs0, hsz, ← Nat.add_mul]; exact Nat.mul_le_mul_right _ hroom
    have h5 := run_append_room (P := P) w t ty e i hu hi g0 n cap0 cur hg0 ad ys.length cap news (by rw [hnews, hsz]) (hcell ad rfl) hr.one hroom hfit
    rw [hrun] at h5
    simp only [Result.ok.injEq] at h5
    rw [h5.1] at hg
    exact .inr hg
   ·have holds : ∀ (j : Nat) u, xs[j]? = some u → w.cell? ((⟨g0, 0, none⟩ : Addr).add j) = some u := hown.cells (g := g0) rfl
    have h5 := run_append_grow (P := P) w t ty e i z hu hi hz ⟨g0, 0, none⟩ n cap0 xs (by rw [hown.1, hsz]) holds ad ys.length cap news (by rw [hr.length, hsz]) (hcell ad rfl) (by omega) (by simp only [maxLen] at hnl; omega) (growslice_fits (by omega) (by rw [hbi]; exact hb))
    rw [hrun] at h5
    simp only [Result.ok.injEq] at h5
    rw [h5.1] at hg
    simp [blk] at hg
    exact .inl (by omega)
theorem op_append {x y : Operand} {t : TypeId} {args : Array Operand} {ts : Array TypeId} {u : TypeId} (ha : args = #[x, y]) (ht : ts = #[t, u]) (hT : tbOk F.P E.T = true) (hm : F.m ≤ 100) (C : Core F α ok h w) (S : SR w α ok h s a)
  (hop : (opK E ⟨dst, .call ⟨.builtin .append, args, ts⟩, ty, pos, aft, gd⟩ ⟨s, h⟩).gives (d, h')) : Done F ⟨dst, .call ⟨.builtin .append, args, ts⟩, ty, pos, aft, gd⟩ a α ok h w d h' := by
 subst ha; subst ht
 simp only [opK, NM.gives_guard, NM.gives_bind, NM.gives_opt] at hop
 obtain ⟨htu, ti, hti, hop⟩ := hop
 have htu := Nat.eq_of_beq_eq_true htu
 subst htu
 split at hop
 ·rename_i e heq
  simp only [NM.gives_bind, NM.gives_opt, NM.gives_guard, NM.gives_pure, Prod.mk.injEq] at hop
  obtain ⟨te, hte, c, hc, dd, hdd, l, hl, ly, hly, hb1, ⟨l', h1⟩, happ, rfl, rfl⟩ := hop
  have hb1 := Nat.le_of_ble_eq_true hb1
  have hu := (tb_get hT hti).slice heq
  have he := tb_get hT hte
  have hx := oL_ok S hl
  have hy := oL_ok S hly
  unfold appendL at happ
  split at happ
  ·simp only [NM.gives_bind, NM.gives_opt, NM.gives_guard, NM.gives_pure, Prod.mk.injEq] at happ
   obtain ⟨ys, hys, hbb, h2, hn, rfl, rfl⟩ := happ
   have hbb := of_decide_eq_true hbb
   obtain ⟨hnone, rfl⟩ := newOb_ok hn
   simp only [LR] at hx
   obtain ⟨v', w', news, hrun, hr, hown, hg, hvb⟩ := run_append_src hu he hc (World.ownsRow_nil w 0 e c.size) (rowOf_ok C hys hy) (by simpa using hbb) hb1 ty
   have hB : ∀ k, k < w.heap.size → w'.heap[k]? = w.heap[k]? := fun k hk => hg.block k hk (by simp [Value.ownBlock])
   rw [List.nil_append, Nat.zero_add] at hown
   have hv : ∀ g, blk v' = some g → w.heap.size ≤ g := fun g hg => (hvb g hg).resolve_right (by simp [blk])
   obtain ⟨C', s'⟩ := C.new (id := idOf dd) (w' := w') (v := v') (b := .row e c ys) hnone (idOf_ge hm) hB hg.size hg.os hg.tape hg.output hv (by simp) ⟨news, by rw [setA_same]; exact hown, hr.mono fun b hb => ⟨hb, hB b (C.okb b hb).1⟩⟩
   refine ⟨_, v', _, _, _, ?_, .inl rfl, C', s', ?_⟩
   ·simp [execOp, resolve, invoke, builtin, hx, hrun]
   ·simp only [DR, LR, upd_same, setA_same]
    exact ⟨by rcases hown.2 with ⟨rfl, _⟩ | ⟨g, cap, cur, rfl, _⟩ <;> rfl, trivial⟩
  ·rename_i o
   split at happ
   ·rename_i e' c' l hh
    simp only [NM.gives_bind, NM.gives_opt] at happ
    obtain ⟨ys, hys, happ⟩ := happ
    split at happ
    ·rename_i hcc
     subst hcc
     simp only [NM.gives_bind, NM.gives_guard, NM.gives_pure, Prod.mk.injEq] at happ
     obtain ⟨hee, hbb, h2, hn, rfl, rfl⟩ := happ
     have hee := Nat.eq_of_beq_eq_true hee
     subst hee
     have hbb := of_decide_eq_true hbb
     obtain ⟨hnone, rfl⟩ := newOb_ok hn
     have hob := C.ob o
     simp only [LR] at hx
     rw [hh] at hob hx
     obtain ⟨xs, how, hrx⟩ := hob
     obtain ⟨v', w', news, hrun, hr, hown, hg, hv⟩ := run_append_src hu he hc how (rowOf_ok C hys hy) hbb hb1 ty
     have hblk := owns_blk how
     have hoid : o ≠ idOf dd := by
      intro e; rw [e, upd_same] at hnone; cases hnone
     rw [upd_other (Ne.symm hoid)] at hnone
     have hB : ∀ k, k < w.heap.size → blk (α o) ≠ some k → w'.heap[k]? = w.heap[k]? := fun k hk hk' => hg.block k hk (by rw [hblk]; exact fun e => hk' e.symm)
     have hex : (h o).ex = true := by rw [hh]; rfl
     have hok : ∀ b, ok b → ok b ∧ w'.heap[b]? = w.heap[b]? := fun b hb => ⟨hb, hB b (C.okb b hb).1 fun e => C.sepok o b hex e hb⟩
     obtain ⟨C', s'⟩ := C.move (o := o) (id := idOf dd) (w' := w') (v := v') (b := .row e' c' (l ++ ys)) hh hnone (idOf_ge hm) hB hg.size hg.os hg.tape hg.output hv (by simp)
      ⟨xs ++ news, by rw [setA_same, List.length_append]; exact hown, (hrx.mono hok).append (hr.mono hok)⟩
     refine ⟨_, v', _, _, _, ?_, .inl rfl, C', s', ?_⟩
     ·simp [execOp, resolve, invoke, builtin, hx, hrun]
     ·simp only [DR, LR, upd_same, setA_same]
      exact ⟨by rcases hown.2 with ⟨rfl, _⟩ | ⟨g, cap, cur, rfl, _⟩ <;> rfl, trivial⟩
    ·exact absurd happ NM.gives_fail
   ·exact absurd happ NM.gives_fail
  ·exact absurd happ NM.gives_fail
 ·exact absurd hop NM.gives_fail
end
end Go.VI
namespace Go.VI
open Go
theorem foldl_put (off : Nat) : ∀ (l : List Value) (k : Nat) (cells : Array Value), off + k + l.length ≤ cells.size →
  ((l.zipIdx k).foldl (fun (cs : Array Value) (p : Value × Nat) => cs.setIfInBounds (off + p.2) p.1) cells).toList = cells.toList.take (off + k) ++ l ++ cells.toList.drop (off + k + l.length)
 | [], k, cells, _ => by simp
 | v :: l, k, cells, hl => by
  simp only [List.length_cons] at hl
  rw [List.zipIdx_cons, List.foldl_cons, foldl_put off l (k + 1) _ (by simp; omega)]
  have hlt : off + k < cells.toList.length := by simp; omega
  simp only [Array.toList_setIfInBounds, List.length_cons]
  rw [List.drop_set_of_lt (by omega), show off + (k + 1) = off + k + 1 by omega, List.take_succ_eq_append_getElem (by simpa using hlt), List.take_set_of_le (Nat.le_refl _), List.getElem_set_self]
  simp [Nat.add_assoc, Nat.add_comm 1]
theorem fill_step {place : Nat → Option (Nat × Nat)} {cells : Array Value} {i off size : Nat} {v : Value} {rest : List (Nat × Value)} (hp : place i = some (off, size)) (hv : v.cells.toList.length = size) (hle : off + size ≤ cells.size) :
  ∃ cells' : Array Value, Instr.fill place cells ((i, v) :: rest) = Instr.fill place cells' rest ∧ cells'.toList = cells.toList.take off ++ v.cells.toList ++ cells.toList.drop (off + size) := by
 have hv' : v.cells.size = size := by simpa using hv
 refine ⟨v.cells.zipIdx.foldl (fun cs (c, j) => cs.setIfInBounds (off + j) c) cells, ?_, ?_⟩
 ·rw [Instr.fill, hp]
  simp only [hv', ne_eq, not_true_eq_false, decide_false, Bool.false_or]
  rw [if_neg (by simpa using hle)]
 ·have := foldl_put off v.cells.toList 0 cells (by rw [hv]; omega)
  simp only [Nat.add_zero, hv] at this
  rw [← this, ← Array.foldl_toList, Array.toList_zipIdx]
section
variable {F : Fx} {α : Nat → Value} {ok : Nat → Prop} {h h' : Heap} {w : World} {s : List D} {a : Act} {E : Env} {d : D}
 {dst : Option Tmp} {ty : TypeId} {pos : String} {aft : Array Edge} {gd : Option (Nat × Bool)}
theorem run_mapM_list {A B : Type} {P : Program} {f : A → Sem B} {g : A → B} : ∀ (l : List A), (∀ x ∈ l, (f x).run P w = .ok (g x) w) → (l.mapM f).run P w = .ok (l.map g) w
 | [], _ => by simp
 | x :: l, hx => by
  simp [List.mapM_cons, hx x (by simp), run_mapM_list l (fun y hy => hx y (by simp [hy]))]
theorem buildLs_ok {P : Program} {T : Tb} (hT : tbOk P T = true) (S : SR w α ok h s a) {fs : List (Nat × TypeId)} {place : Nat → Option (Nat × Nat)}
  (hplace : ∀ (i : Nat) off t ti, fieldsAt fs i = some (off, t) → T.get t = some ti → place i = some (off, ti.size)) :
  ∀ {parts : List (Nat × Operand)} {acc ls : List L} {cells : Array Value}, buildLs T fs s parts acc = some ls → LsR w α ok h acc cells.toList → ∃ cells', Instr.fill place cells (parts.map fun p => (p.1, a.eval p.2)) = some cells' ∧ LsR w α ok h ls cells'.toList
 | [], acc, ls, cells, hb, k => by simp [buildLs] at hb; subst hb; exact ⟨cells, rfl, k⟩
 | (i, x) :: r, acc, ls, cells, hb, k => by
  simp only [buildLs, Option.bind_eq_some_iff] at hb
  obtain ⟨⟨off, t⟩, hfa, ti, hti, dv, hd, hb⟩ := hb
  cases hg : (Nat.beq dv.ls.length ti.size && (Nat.ble (off + ti.size) acc.length && (dv.ls.all fineL && Nat.ble 1 ti.size))) with
  | false => rw [hg] at hb; simp at hb
  | true =>
   rw [hg] at hb
   simp only [cond_true] at hb
   simp only [Bool.and_eq_true] at hg
   have g1 := Nat.eq_of_beq_eq_true hg.1
   have g2 := Nat.le_of_ble_eq_true hg.2.1
   have hD := operand_ok S hd
   have hcells : LsR w α ok h dv.ls (a.eval x).cells.toList := by
    cases dv with
    | tup ds =>
     exfalso
     have h0 : ti.size = 0 := by simpa [D.ls] using g1.symm
     have := Nat.le_of_ble_eq_true hg.2.2.2
     omega
    | one l => exact DR.cells hg.2.2.1 (by simp) hD
    | agg l => exact DR.cells hg.2.2.1 (by simp) hD
   have hcl := F2.length hcells
   have hal := F2.length k
   obtain ⟨cells', hfill, hlist⟩ := fill_step (rest := r.map fun p => (p.1, a.eval p.2)) (hplace i off t ti hfa hti) (v := a.eval x) (by omega) (cells := cells) (by simp at hal; omega)
   rw [List.map_cons, hfill]
   refine buildLs_ok hT S hplace hb ?_
   rw [hlist]
   exact ((k.take off).append hcells).append (k.drop _)
theorem op_build {t : TypeId} {parts : Array (Nat × Operand)} (hT : tbOk F.P E.T = true) (C : Core F α ok h w) (S : SR w α ok h s a) (hop : (opK E ⟨dst, .build t parts, ty, pos, aft, gd⟩ ⟨s, h⟩).gives (d, h')) : Done F ⟨dst, .build t parts, ty, pos, aft, gd⟩ a α ok h w d h' := by
 simp only [opK, NM.gives_bind, NM.gives_opt] at hop
 obtain ⟨ti, hti, c, hc, hop⟩ := hop
 split at hop
 ·rename_i fs heq
  simp only [NM.gives_bind, NM.gives_opt, NM.gives_guard, NM.gives_pure, Prod.mk.injEq] at hop
  obtain ⟨hall, ls, hls, rfl, rfl⟩ := hop
  obtain ⟨FF, hu, hfe⟩ := (tb_get hT hti).struct heq
  obtain ⟨i, z, hi, hs, hbi, hz, hzl, hcd⟩ := (tb_get hT hti).info
  have hz2 := (zEq_ok (w := w) (α := α) (ok := ok) (h := h) (hcd c hc).2).2
  have hmem : ∀ f ∈ FF.toList, ∃ tf, E.T.get f.type = some tf := by
   intro f hf
   have key : ∀ (l : List Field) (g : List (Nat × TypeId)), fieldsEq l g = true → (g.all fun p => (E.T.get p.2).isSome) = true → ∀ f ∈ l, ∃ tf, E.T.get f.type = some tf := by
    intro l
    induction l with
    | nil => intro g _ _ f hf; simp at hf
    | cons x l ih =>
     intro g hg ha f hf
     cases g with
     | nil => simp [fieldsEq] at hg
     | cons y g =>
      obtain ⟨o, tt⟩ := y
      simp only [fieldsEq, Bool.and_eq_true] at hg
      simp only [List.all_cons, Bool.and_eq_true] at ha
      rcases List.mem_cons.1 hf with rfl | hf
      ·rw [Nat.eq_of_beq_eq_true hg.2.1]; exact Option.isSome_iff_exists.1 ha.1
      ·exact ih g hg.2.2 ha.2 f hf
   exact key _ _ hfe hall f hf
  have hmap : (FF.mapM fun f => do pure (f.offset, ← sizeOf f.type) : Sem (Array (Nat × Nat))).run F.P w = .ok (FF.map fun f => (f.offset, ((E.T.get f.type).map (·.size)).getD 0)) w := by
   rw [Array.mapM_eq_mapM_toList]
   rw [Sem.run_map, run_mapM_list (g := fun f => (f.offset, ((E.T.get f.type).map (·.size)).getD 0))]
   ·simp only [Result.andThen_ok, Result.ok.injEq, and_true]
    apply Array.ext'; simp
   ·intro f hf
    obtain ⟨tf, htf⟩ := hmem f hf
    simp [run_size (tb_get hT htf), htf]
  obtain ⟨cells', hfill, hres⟩ := buildLs_ok hT S (place := fun i => (FF.map fun f => (f.offset, ((E.T.get f.type).map (·.size)).getD 0))[i]?)
   (fun i off t tf hfa htf => by
    obtain ⟨f, hf, rfl, rfl⟩ := fieldsEq_get hfe hfa
    have hf' : FF[i]? = some f := by simpa using hf
    simp [hf', htf]) hls (cells := z.cells) hz2
  refine Done.of C (v := .agg cells') ?_ ⟨cells', rfl, hres⟩
  have hpl : (parts.map fun p => (p.1, a.eval p.2)).toList = parts.toList.map fun p => (p.1, a.eval p.2) := by simp
  simp only [execOp, Instr.build, Sem.run_bind, zeroValue, typeInfo, run_program, hi, Result.andThen_ok, Sem.run_pure, hz, run_underlying hu, hmap, hpl]
  simp only [hfill]
  rfl
 ·rename_i n e heq
  simp only [NM.gives_bind, NM.gives_opt, NM.gives_pure, Prod.mk.injEq] at hop
  obtain ⟨te, hte, ls, hls, rfl, rfl⟩ := hop
  have hu := (tb_get hT hti).arr heq
  obtain ⟨i, z, hi, hs, hbi, hz, hzl, hcd⟩ := (tb_get hT hti).info
  have hz2 := (zEq_ok (w := w) (α := α) (ok := ok) (h := h) (hcd c hc).2).2
  have hat : ∀ (i off : Nat) (t : TypeId), fieldsAt (arrFs n e te.size) i = some (off, t) → off = i * te.size ∧ t = e := by
   have key : ∀ (m k : Nat) (i off : Nat) (t : TypeId), fieldsAt ((List.range' k m).map fun i => (i * te.size, e)) i = some (off, t) → off = (k + i) * te.size ∧ t = e := by
    intro m
    induction m with
    | zero => intro k i off t h; simp [fieldsAt] at h
    | succ m ih =>
     intro k i off t h
     rw [List.range'_succ, List.map_cons] at h
     cases i with
     | zero => simp only [fieldsAt, Option.some.injEq, Prod.mk.injEq] at h; exact ⟨by rw [Nat.add_zero]; exact h.1.symm, h.2.symm⟩
     | succ i =>
      simp only [fieldsAt] at h
      have := ih (k + 1) i off t h
      rw [show k + 1 + i = k + (i + 1) by omega] at this; exact this
   intro i off t h
   unfold arrFs at h
   rw [List.range_eq_range'] at h
   have := key n 0 i off t h
   rwa [Nat.zero_add] at this
  obtain ⟨cells', hfill, hres⟩ := buildLs_ok hT S (place := fun i => some (i * te.size, te.size))
   (fun i off t tf hfa htf => by
    obtain ⟨rfl, rfl⟩ := hat i off t hfa
    rw [hte] at htf; cases htf; rfl) hls (cells := z.cells) hz2
  refine Done.of C (v := .agg cells') ?_ ⟨cells', rfl, hres⟩
  have hpl : (parts.map fun p => (p.1, a.eval p.2)).toList = parts.toList.map fun p => (p.1, a.eval p.2) := by simp
  simp only [execOp, Instr.build, Sem.run_bind, zeroValue, typeInfo, run_program, hi, Result.andThen_ok, Sem.run_pure, hz, run_underlying hu, run_size (tb_get hT hte), hpl]
  simp only [hfill]
  rfl
 ·exact absurd hop NM.gives_fail
theorem rows_u8 {ok : Nat → Prop} {w : World} : ∀ {bs : List Int} {cs : List Value}, Rows w ok (.int .u8) bs cs → cs = bs.map (Value.int .u8)
 | [], cs, h => h
 | b :: r, cs, h => by
  obtain ⟨c1, c2, rfl, h1, h2⟩ := h
  simp only [Rep] at h1
  rw [h1, rows_u8 h2]; rfl
theorem run_bytes {P : Program} {ok : Nat → Prop} {w : World} {A : Option Addr} {m cap : Nat} {bs : List Int} {news : List Value} (hm : m = bs.length) (hA : A = none → cap = 0) (hc : m ≤ cap) (hr : Rows w ok (.int .u8) bs news)
  (hcell : ∀ ad, A = some ad → ∀ (j : Nat) u, news[j]? = some u → w.cell? (ad.add j) = some u) : (Conv.bytesToString (.slice A m cap)).run P w = .ok (.string (bytesOf bs)) w := by
 have e := rows_u8 hr
 cases A with
 | none =>
  have := hA rfl
  have hb : bs = [] := List.length_eq_zero_iff.1 (by omega)
  subst hb
  simp [Conv.bytesToString, bytesOf]; rfl
 | some ad =>
  have h1 := run_loadCells_list (P := P) w ad news (hcell ad rfl)
  rw [e, List.length_map, ← hm] at h1
  rw [run_bytesToString w ad m cap bs h1, foldl_push_bytes]
  simp [bytesOf, ByteArray.empty, ByteArray.emptyWithCapacity]
  rfl
theorem op_convert {src t : TypeId} {x : Operand} (hT : tbOk F.P E.T = true) (hsrc : ∃ ti, E.T.get src = some ti) (C : Core F α ok h w) (S : SR w α ok h s a) (hop : (opK E ⟨dst, .convert src t x, ty, pos, aft, gd⟩ ⟨s, h⟩).gives (d, h')) : Done F ⟨dst, .convert src t x, ty, pos, aft, gd⟩ a α ok h w d h' := by
 simp only [opK, NM.gives_bind, NM.gives_opt] at hop
 obtain ⟨ti, hti, l, hl, hop⟩ := hop
 have hr := oL_ok S hl
 obtain ⟨si, hsi⟩ := hsrc
 have hus : ∃ du, F.P.underlying src = some du := by
  have := (tb_get hT hsi).k
  cases hu : F.P.underlying src with
  | none => rw [hu] at this; cases hk : si.k <;> rw [hk] at this <;> simp [tkOk] at this
  | some du => exact ⟨du, rfl⟩
 obtain ⟨du, hus⟩ := hus
 split at hop
 ·rename_i k k' n heq
  change Int at n
  simp only [NM.gives_pure, Prod.mk.injEq] at hop
  obtain ⟨rfl, rfl⟩ := hop
  simp only [LR, Rep, List.cons.injEq, and_true] at hr
  refine Done.of C (v := .int k (k.wrap n)) ?_ rfl
  have hu := (tb_get hT hti).int heq
  simp [execOp, hr, convert, run_underlying hus, run_underlying hu, Conv.intToInt]
 ·rename_i b heq
  simp only [NM.gives_pure, Prod.mk.injEq] at hop
  obtain ⟨rfl, rfl⟩ := hop
  simp only [LR, Rep, List.cons.injEq, and_true] at hr
  refine Done.of C (v := .string b) ?_ rfl
  have hu := (tb_get hT hti).str heq
  simp only [execOp, hr, convert, Sem.run_bind, run_underlying hus, run_underlying hu, Result.andThen_ok]
  cases du <;> simp
 ·rename_i heq hnp
  simp only [NM.gives_bind, NM.gives_opt, NM.gives_pure, Prod.mk.injEq] at hop
  obtain ⟨bs, hbs, rfl, rfl⟩ := hop
  unfold bytesIn at hbs
  rw [hsi] at hbs
  simp only [Option.bind_some] at hbs
  split at hbs
  ·rename_i e hk
   rw [Option.bind_eq_some_iff] at hbs
   obtain ⟨te, hte, hbs⟩ := hbs
   split at hbs
   ·rename_i hke
    obtain ⟨A, m, cap, hveq, hm, hcm, _, hA, news, hrows, hcell⟩ := rowOf_ok C hbs hr
    have hu := (tb_get hT hti).str heq
    have hsl := (tb_get hT hsi).slice hk
    rw [hus] at hsl
    obtain rfl := Option.some.inj hsl
    have hue := (tb_get hT hte).int hke
    refine Done.of C (v := .string (bytesOf bs)) ?_ rfl
    have hx := run_bytes (P := F.P) hm hA hcm hrows hcell
    rw [← run_convert_bytes_string w src t e A m cap hus hue hu, ← hveq] at hx
    simp only [execOp]
    rw [Sem.run_bind, hx]; rfl
   ·cases hbs
  ·cases hbs
 ·exact absurd hop NM.gives_fail
theorem TIok.map {P : Program} {t : TypeId} {ti : TI} (h : TIok P t ti) {k e : TypeId} (hk : ti.k = .map k e) : P.underlying t = some (.map k e) := by
 have := h.k; rw [hk] at this
 cases hu : P.underlying t with
 | none => rw [hu] at this; simp [tkOk] at this
 | some d => cases d <;> rw [hu] at this <;> simp [tkOk] at this; rw [this.1, this.2]
theorem lookL_ok {n : Int} : ∀ {es : List (Int × Nat × List (Nat × Nat))} {ms : List MapEntry} {j : Nat} {l : L}, F2 (EntR α h) es ms → (lookL n es).gives l →
  ∃ i v, Instr.findNow (.int .i64) (.int .i64 n) ms j = some (some (i, v)) ∧ LR w α ok h l v
 | [], _, _, _, _, hg => absurd hg NM.gives_fail
 | e :: r, [], _, _, hF, _ => hF.elim
 | e :: r, m :: ms, j, l, hF, hg => by
  simp only [lookL, NM.gives_cond, NM.gives_pure] at hg
  obtain ⟨hk, vs, hv, hc⟩ := hF.1
  rcases hg with ⟨hb, rfl⟩ | ⟨hb, hg⟩
  ·refine ⟨j, m.val, ?_, vs, hv, hc⟩
   simp only [Instr.findNow, hk, Instr.sameNow, if_true, hb]
  ·obtain ⟨i, v, h1, h2⟩ := lookL_ok (j := j + 1) hF.2 hg
   refine ⟨i, v, ?_, h2⟩
   simp only [Instr.findNow, hk, Instr.sameNow, if_true, hb]
   exact h1
theorem run_checkKey_int {P : Program} {kt : TypeId} {e : Bool} {n : Int} (huk : P.underlying kt = some (.int .i64)) : (Instr.checkKey e 10000 kt (.int .i64 n)).run P w = .ok () w := by
 show (Instr.checkKey e (9999 + 1) kt _).run P w = _
 unfold Instr.checkKey
 simp [run_underlying huk]
theorem run_lookup_fn {P : Program} {t kt et : TypeId} {b clock : Nat} {ms : Array MapEntry} {n : Int} {j : Nat} {v : Value} (hu : P.underlying t = some (.map kt et)) (huk : P.underlying kt = some (.int .i64))
  (hm : w.heap[b]? = some (.map ms clock)) (hf : Instr.findNow (.int .i64) (.int .i64 n) ms.toList 0 = some (some (j, v))) : (Instr.lookup t (.map (some b)) (.int .i64 n) false).run P w = .ok v w := by
 have hg : (getObj b).run P w = .ok (.map ms clock) w := by simp [getObj, Sem.run, hm]
 have hk := run_checkKey_int (P := P) (w := w) (e := ms.isEmpty) (n := n) huk
 have hfk : (Instr.findKey kt (.int .i64 n) ms.toList).run P w = .ok (some (j, v)) w := by
  unfold Instr.findKey
  simp [run_underlying huk, hf]
 unfold Instr.lookup
 simp only [Sem.run_bind, run_underlying hu, Result.andThen_ok, hg, Sem.run_pure, hk, hfk]
 rfl
theorem op_lookup {t : TypeId} {x i : Operand} {c : Bool} (hT : tbOk F.P E.T = true) (C : Core F α ok h w) (S : SR w α ok h s a) (hop : (opK E ⟨dst, .lookup t x i c, ty, pos, aft, gd⟩ ⟨s, h⟩).gives (d, h')) : Done F ⟨dst, .lookup t x i c, ty, pos, aft, gd⟩ a α ok h w d h' := by
 simp only [opK, NM.gives_guard, NM.gives_bind, NM.gives_opt, Bool.and_eq_true, Bool.not_eq_true'] at hop
 obtain ⟨⟨hm, rfl⟩, l, hl, ⟨k, n⟩, hi, hop⟩ := hop
 have hr := oL_ok S hl
 have hri := oInt_ok S hi
 split at hop
 ·rename_i es
  simp only [NM.gives_guard, NM.gives_bind, NM.gives_pure, Prod.mk.injEq] at hop
  obtain ⟨hk, l', hl', rfl, rfl⟩ := hop
  have hk := of_decide_eq_true hk
  subst hk
  obtain ⟨b, ms, clock, hv, hb, hheap, hF⟩ := hr
  unfold mapT at hm
  split at hm
  ·rename_i ti hti
   split at hm
   ·rename_i kt et hkt
    split at hm
    ·rename_i tk htk
     split at hm
     ·rename_i hki
      have hu := (tb_get hT hti).map hkt
      have huk := (tb_get hT htk).int hki
      obtain ⟨j, v, hf, hL⟩ := lookL_ok (w := w) (ok := ok) (j := 0) hF hl'
      refine Done.of C (v := v) ?_ hL
      have hrun := run_lookup_fn (P := F.P) hu huk hheap hf
      simp only [execOp, hv, hri]
      rw [Sem.run_bind, hrun]; rfl
     ·cases hm
    ·cases hm
   ·cases hm
  ·cases hm
 ·exact absurd hop NM.gives_fail
end
end Go.VI
namespace Go.VI
open Go
section
variable {F : Fx} {α : Nat → Value} {ok : Nat → Prop} {h h' : Heap} {w : World} {s : List D} {a : Act} {E : Env} {d : D}
 {dst : Option Tmp} {ty : TypeId} {pos : String} {aft : Array Edge} {gd : Option (Nat × Bool)}
theorem SR.stay {α' : Nat → Value} {ok' : Nat → Prop} {w' : World} (st : Stay w α ok h w' α' ok' h') (S : SR w α ok h s a) : SR w' α' ok' h' s a := F2.mono (fun _ _ => DR.stay st) S
theorem unL_fine {c : TC} {l : L} {x : c.α} (hu : unL c l = some x) : fineL l = true := by
 unfold unL at hu; split at hu <;> simp_all [fineL]
theorem unleaves_fine1 {c : TC} {l : L} {x : c.α} (hu : unleaves c [l] = some x) : fineL l = true := by
 cases c with
 | pair a b =>
  exfalso
  simp only [unleaves, Option.bind_eq_some_iff] at hu
  obtain ⟨p, hp, q, hq, _⟩ := hu
  have ha := size_pos a
  have : ([l] : List L).drop a.size = [] := by
   obtain ⟨n, hn⟩ : ∃ n, a.size = n + 1 := ⟨a.size - 1, by omega⟩
   rw [hn]; simp
  rw [this] at hq
  have key : ∀ (c : TC) (x : c.α), unleaves c [] ≠ some x := by
   intro c
   induction c with
   | pair a b ih1 ih2 => intro x hx; simp only [unleaves, Option.bind_eq_some_iff] at hx; obtain ⟨p, hp, _⟩ := hx; simp at hp; exact ih1 p hp
   | _ => intro x hx; simp [unleaves] at hx
  exact key _ _ hq
 | _ => exact unL_fine hu
theorem solid_fine {l l' : L} (hs : (solid h l).gives (l', h')) (hf : fineL l' = true) : fineL l = true := by
 cases l with
 | undef => simp only [solid, NM.gives_pure, Prod.mk.injEq] at hs; rw [← hs.1] at hf; exact hf
 | skip => simp only [solid, NM.gives_pure, Prod.mk.injEq] at hs; rw [← hs.1] at hf; exact hf
 | arr => simp only [solid, NM.gives_pure, Prod.mk.injEq] at hs; rw [← hs.1] at hf; exact hf
 | inn => simp only [solid, NM.gives_pure, Prod.mk.injEq] at hs; rw [← hs.1] at hf; exact hf
 | gp => simp only [solid, NM.gives_pure, Prod.mk.injEq] at hs; rw [← hs.1] at hf; exact hf
 | _ => rfl
theorem buildRow_ok {c : TC} : ∀ {parts : List (Nat × Operand)} {n : Nat} {h h' : Heap} {ok : Nat → Prop} {l : List c.α}, Core F α ok h w → SR w α ok h s a → (buildRow c s h n parts).gives (l, h') →
  ∃ ok' xs, Core F α ok' h' w ∧ Stay w α ok h w α ok' h' ∧ Iced h h' ∧ Rows w ok' c l xs ∧ l.length = parts.length ∧
   ∀ (done rest : List Value) (cells : Array Value) (place : Nat → Option (Nat × Nat)), (∀ i, place i = some (i * c.size, c.size)) → cells.toList = done ++ rest → done.length = n * c.size → rest.length = parts.length * c.size →
    Instr.fill place cells (parts.map fun p => (p.1, a.eval p.2)) = some (done ++ xs).toArray
 | [], n, h, h', ok, l, C, S, hb => by
  simp only [buildRow, NM.gives_pure, Prod.mk.injEq] at hb
  obtain ⟨rfl, rfl⟩ := hb
  refine ⟨ok, [], C, .refl, .refl _, rfl, rfl, fun done rest cells place hp hc hd hr => ?_⟩
  have : rest = [] := List.eq_nil_of_length_eq_zero (by simpa using hr)
  subst this
  simp only [List.map_nil, Instr.fill, List.append_nil, Option.some.injEq]
  apply Array.ext'; simpa using hc
 | (i, x) :: r, n, h, h', ok, l, C, S, hb => by
  simp only [buildRow, NM.gives_guard, NM.gives_bind, NM.gives_opt, NM.gives_pure] at hb
  obtain ⟨hi, dv, hd, ⟨ls, h1⟩, hs, v, hv, ⟨vs, h2⟩, hrest, hb⟩ := hb
  simp only [Prod.mk.injEq] at hb
  obtain ⟨rfl, rfl⟩ := hb
  have hi := Nat.eq_of_beq_eq_true hi
  subst hi
  have hD := operand_ok S hd
  have hcells : LsR w α ok h dv.ls (a.eval x).cells.toList := by
   cases dv with
   | tup ds =>
    exfalso
    simp only [D.ls, solids, NM.gives_pure, Prod.mk.injEq] at hs
    obtain ⟨rfl, rfl⟩ := hs
    have key : ∀ (c : TC) (x : c.α), unleaves c [] ≠ some x := by
     intro c
     induction c with
     | pair a b ih1 ih2 => intro x hx; simp only [unleaves, Option.bind_eq_some_iff] at hx; obtain ⟨p, hp, _⟩ := hx; simp at hp; exact ih1 p hp
     | _ => intro x hx; simp [unleaves] at hx
    exact key _ _ hv
   | one l =>
    simp only [D.ls, solids, NM.gives_bind, NM.gives_pure] at hs
    obtain ⟨⟨l1, h3⟩, hs1, ⟨_, _⟩, ⟨rfl, rfl⟩, hs2⟩ := hs
    simp only [Prod.mk.injEq] at hs2
    obtain ⟨rfl, rfl⟩ := hs2
    exact DR.cells (by simp [D.ls, solid_fine hs1 (unleaves_fine1 hv)]) (by simp) hD
   | agg l =>
    obtain ⟨cs, hcs, k⟩ := hD
    rw [hcs]; exact k
  obtain ⟨ok1, C1, s1, i1, k1⟩ := solids_ok C hs hcells
  have hrep := unleaves_ok hv k1
  obtain ⟨ok2, xs, C2, s2, i2, hr2, hl2, hf2⟩ := buildRow_ok C1 (S.stay s1) hrest
  refine ⟨ok2, (a.eval x).cells.toList ++ xs, C2, s1.trans s2, i1.trans i2, ⟨_, _, rfl, hrep.mono s2.ok, hr2⟩, by simp [hl2], fun done rest cells place hp hc hdn hrl => ?_⟩
  have hlen : (a.eval x).cells.toList.length = c.size := hrep.length
  have hsz : cells.size = done.length + rest.length := by rw [← Array.length_toList, hc]; simp
  have hle : i * c.size + c.size ≤ cells.size := by rw [hsz, hdn, hrl, List.length_cons, Nat.add_mul]; omega
  obtain ⟨cells', hfill, hlist⟩ := fill_step (rest := r.map fun p => (p.1, a.eval p.2)) (hp i) (v := a.eval x) hlen hle
  rw [List.map_cons, hfill]
  have := hf2 (done ++ (a.eval x).cells.toList) (rest.drop c.size) cells' place hp ?_ ?_ ?_
  ·rw [this]; simp
  ·rw [hlist, hc, ← hdn, List.take_left, List.drop_length_add_append]
  ·rw [List.length_append, hdn, hlen, Nat.add_mul]; omega
  ·rw [List.length_drop, hrl, List.length_cons, Nat.add_mul]; omega
theorem op_buildSlice {t : TypeId} {len : Nat} {parts : Array (Nat × Operand)} (hT : tbOk F.P E.T = true) (hm : F.m ≤ 100) (C : Core F α ok h w) (S : SR w α ok h s a)
  (hop : (opK E ⟨dst, .buildSlice t len parts, ty, pos, aft, gd⟩ ⟨s, h⟩).gives (d, h')) : Done F ⟨dst, .buildSlice t len parts, ty, pos, aft, gd⟩ a α ok h w d h' := by
 simp only [opK, NM.gives_bind, NM.gives_opt] at hop
 obtain ⟨ti, hti, hop⟩ := hop
 split at hop
 ·rename_i e heq
  simp only [NM.gives_bind, NM.gives_opt, NM.gives_guard, NM.gives_pure, Bool.and_eq_true] at hop
  obtain ⟨te, hte, c, hc, dd, hdd, ⟨hlen, hmx⟩, ⟨l, h1⟩, hrow, h2, hnew, hop⟩ := hop
  simp only [Prod.mk.injEq] at hop
  obtain ⟨rfl, rfl⟩ := hop
  have hlen := Nat.eq_of_beq_eq_true hlen
  have hmx := Nat.le_of_ble_eq_true hmx
  have hu := (tb_get hT hti).slice heq
  obtain ⟨i, z, hi, hs, hbi, hz, hzl, hcd⟩ := (tb_get hT hte).info
  obtain ⟨hcs, hz2⟩ := hcd c hc
  obtain ⟨ok1, xs, C1, s1, i1, hr1, hl1, hf1⟩ := buildRow_ok C S hrow
  obtain ⟨hnone, rfl⟩ := newOb_ok hnew
  have hsz : z.cells.size = te.size := by simpa using hzl
  have hplen : parts.toList.length = len := hlen.symm
  have hfill := hf1 [] (madeCells z.cells (len * z.cells.size)).toList (madeCells z.cells (len * z.cells.size)) (fun i => some (i * te.size, te.size)) (fun i => by rw [hcs]) (by simp) (by simp)
   (by rw [madeCells_eq]; simp [hplen, hcs, hsz])
  have hlx : xs.length = len * c.size := by rw [hr1.length, hl1, hplen]
  obtain ⟨C2, s2⟩ := new_row C1 (idOf_ge (n := dd) hm) hnone (e := e) hr1 (by
   have := size_pos c
   have h3 : len * 1 ≤ len * c.size := Nat.mul_le_mul_left _ this
   rw [hcs] at h3
   simp [maxLen]; omega)
  refine ⟨_, .slice (some ⟨w.heap.size, 0, none⟩) l.length l.length, _, _, _, ?_, .inl rfl, C2, s1.trans s2, ?_⟩
  ·have hpl : (parts.map fun p => (p.1, a.eval p.2)).toList = parts.toList.map fun p => (p.1, a.eval p.2) := by simp
   have hll : l.length = len := by rw [hl1, hplen]
   simp only [execOp, Instr.buildSlice, Sem.run_bind, run_underlying hu, Result.andThen_ok, run_size (tb_get hT hte)]
   rw [if_neg (by omega)]
   by_cases h0 : len * te.size = 0
   ·have hz0 : len = 0 := by
     rcases Nat.mul_eq_zero.1 h0 with h | h
     ·exact h
     ·have := size_pos c; omega
    have hx0 : xs = [] := List.eq_nil_of_length_eq_zero (by rw [hlx, hz0]; simp)
    subst hx0
    have hp0 : parts.toList = [] := List.eq_nil_of_length_eq_zero (by rw [hplen, hz0])
    have hl0 : l.length = 0 := by rw [hll, hz0]
    simp only [hz0, Nat.zero_mul, if_true, Sem.run_pure, Result.andThen_ok, hpl, hp0, List.map_nil, Instr.fill]
    simp [newRow, hl0]
    congr 2
    apply Array.ext'; simp
   ·simp only [if_neg h0, Sem.run_bind, zeroValue, typeInfo, run_program, hi, hz, Result.andThen_ok, Sem.run_pure, hpl]
    have e1 : (Array.range (len * te.size)).map (fun x => z.cells[x % z.cells.size]!) = madeCells z.cells (len * z.cells.size) := by rw [hsz]; simp [madeCells, hsz]
    rw [e1, hfill]
    simp [newRow, hll]
  ·simp [DR, LR, upd_same, setA_same, Value.oneCell']
 ·exact absurd hop NM.gives_fail

def opSt (T : Tb) : Op → Bool
 | .convert src _ _ => (T.get src).isSome
 | _ => true
theorem opK_ok {o : Oper} (hG : ∀ g k zs, E.G g = some (k, zs) → TabHas F.tabs g k zs) (hT : tbOk F.P E.T = true) (hm : F.m ≤ 100) (hst : opSt E.T o.op = true) (hcall : ∀ c, o.op = .call c → ∃ b, c.callee = .builtin b) (C : Core F α ok h w) (S : SR w α ok h s a) (hop : (opK E o ⟨s, h⟩).gives (d, h')) :
  Done F o a α ok h w d h' := by
 obtain ⟨dst, op, ty, pos, aft, gd⟩ := o
 cases op with
 | move x => exact op_move C S hop
 | assign x => exact op_assign C S hop
 | pick c x y => exact op_pick C S hop
 | alloc t => exact op_alloc hT hm C hop
 | box t x => exact op_box hm C S hop
 | build t parts => exact op_build hT C S hop
 | buildSlice t len parts => exact op_buildSlice hT hm C S hop
 | load t x => exact op_load hT C S hop
 | store t x y => exact op_store hT C S hop
 | nilCheck x => exact op_nilCheck C S hop
 | binOp op t x y u => exact op_binOp hT C S hop
 | unOp op t x => exact op_unOp C S hop
 | convert src t x =>
  simp only [opSt] at hst
  exact op_convert hT (Option.isSome_iff_exists.1 hst) C S hop
 | makeFunc fn first captured => exact op_makeFunc C S hop
 | lookup t x i c => exact op_lookup hT C S hop
 | makeSlice t x y => exact op_makeSlice hT hm C S hop
 | slice t x lo hi mx => exact op_slice hT C S hop
 | fieldAddr t x fi => exact op_fieldAddr hT C S hop
 | field t x fi => exact op_field hT C S hop
 | indexAddr t x y => exact op_indexAddr hG hT C S hop
 | index t x y => exact op_index hT C S hop
 | extract x i => exact op_extract C S hop
 | call c =>
  obtain ⟨callee, args, ts⟩ := c
  obtain ⟨b, hb⟩ := hcall _ rfl
  simp only at hb
  subst hb
  have hop0 := hop
  simp only [opK] at hop
  split at hop
  ·rename_i x t h1 h2 h3
   exact op_len (by apply Array.ext'; simpa using h2) (by apply Array.ext'; simpa using h3) hT C S hop0
  ·rename_i x y t u h1 h2 h3
   exact op_append (by apply Array.ext'; simpa using h2) (by apply Array.ext'; simpa using h3) hT hm C S hop0
  ·rename_i x y h1 h2
   exact op_min2 (by apply Array.ext'; simpa using h2) C S hop0
  ·rename_i x y h1 h2
   exact op_max2 (by apply Array.ext'; simpa using h2) C S hop0
  ·rename_i x y z h1 h2
   exact op_min3 (by apply Array.ext'; simpa using h2) C S hop0
  ·rename_i x y z h1 h2
   exact op_max3 (by apply Array.ext'; simpa using h2) C S hop0
  ·exact absurd hop NM.gives_fail
 | _ => exact absurd hop NM.gives_fail
end
end Go.VI
namespace Go.VI
open Go
def Ob.alive : Ob → Bool
 | .box _ | .row .. | .ice .. | .grid .. => true
 | _ => false
def SameK : Ob → Ob → Prop
 | .box a, .box b => a.length = b.length
 | .box _, _ => False
 | a, b => a = b
def SameP : Ob → Ob → Prop
 | .box a, .box b => a.length = b.length
 | .box _, _ => False
 | .grid e d _ q ll, .grid e' d' _ q' ll' => e = e' ∧ d = d' ∧ q = none ∧ q' = none ∧ ll = ll'
 | .grid .., _ => False
 | a, b => a = b
theorem SameP.k {a b : Ob} (hb : b.isGrid = false) (h : SameP a b) : SameK a b := by
 cases a <;> cases b <;> simp_all [SameP, SameK, Ob.isGrid]
def Seat (h : Heap) (α : Nat → Value) (tr : List Nat) (hp : Heap) (αp : Nat → Value) : Prop := ∀ (k : Nat) o, tr[k]? = some o → SameP (h o) (hp k) ∧ αp k = α o
def SeatK (h : Heap) (α : Nat → Value) (tr : List Nat) (hp : Heap) (αp : Nat → Value) : Prop := ∀ (k : Nat) o, tr[k]? = some o → SameK (h o) (hp k) ∧ αp k = α o
section
variable {α αp : Nat → Value} {ok okp : Nat → Prop} {h hp : Heap} {w : World}
theorem idx_ok : ∀ {o : Nat} {tr : List Nat} {n k : Nat}, idx o tr n = some k → n ≤ k ∧ tr[k - n]? = some o
 | o, [], n, k, hi => by simp [idx] at hi
 | o, x :: r, n, k, hi => by
  simp only [idx] at hi
  cases hb : Nat.beq x o with
  | true =>
   rw [hb] at hi; simp at hi; subst hi
   exact ⟨Nat.le_refl _, by simp [Nat.eq_of_beq_eq_true hb]⟩
  | false =>
   rw [hb] at hi
   obtain ⟨h1, h2⟩ := idx_ok (n := n + 1) (by simpa using hi)
   refine ⟨by omega, ?_⟩
   rw [show k - n = (k - (n + 1)) + 1 by omega]; simpa using h2
theorem idx_none : ∀ {o : Nat} {tr : List Nat} {n : Nat}, idx o tr n = none → o ∉ tr
 | o, [], n, hi => by simp
 | o, x :: r, n, hi => by
  simp only [idx] at hi
  cases hb : Nat.beq x o with
  | true => rw [hb] at hi; simp at hi
  | false =>
   rw [hb] at hi
   have := idx_none (n := n + 1) (by simpa using hi)
   have hx : x ≠ o := fun e => by subst e; rw [Nat.beq_refl x] at hb; cases hb
   simp [this, Ne.symm hx]
theorem place_ok {o : Nat} {tr : List Nat} : ∃ ext, (place o tr).2 = tr ++ ext ∧ (place o tr).2[(place o tr).1]? = some o ∧ (tr.Nodup → (tr ++ ext).Nodup) ∧ ∀ x ∈ ext, x = o := by
 unfold place
 cases hi : idx o tr 0 with
 | some k => exact ⟨[], by simp, by simpa using (idx_ok hi).2, by simp, by simp⟩
 | none =>
  have := idx_none hi
  refine ⟨[o], rfl, by simp, fun hn => ?_, by simp⟩
  rw [List.nodup_append]
  exact ⟨hn, by simp, fun a ha b hb => by simp at hb; subst hb; exact fun e => this (e ▸ ha)⟩
theorem get_ext {tr e : List Nat} {k o : Nat} (hk : tr[k]? = some o) : (tr ++ e)[k]? = some o := by
 rw [List.getElem?_append_left (List.getElem?_eq_some_iff.1 hk).1]; exact hk
theorem alive_spec {b : Ob} (h1 : b ≠ .none) (h2 : b ≠ .gone) (h3 : ∀ c l, b ≠ .lock c l) : b.alive = true := by
 cases b with
 | lock c l => exact absurd rfl (h3 c l)
 | none => exact absurd rfl h1
 | gone => exact absurd rfl h2
 | _ => rfl
structure Grown (h : Heap) (tr tr' : List Nat) : Prop where
 ext : ∃ e, tr' = tr ++ e ∧ ∀ x ∈ e, (h x).alive = true
 nodup : tr.Nodup → tr'.Nodup
theorem Grown.refl (tr : List Nat) : Grown h tr tr := ⟨⟨[], by simp, by simp⟩, id⟩
theorem Grown.trans {a b c : List Nat} (x : Grown h a b) (y : Grown h b c) : Grown h a c := by
 obtain ⟨e, rfl, h1⟩ := x.ext
 obtain ⟨e', rfl, h2⟩ := y.ext
 exact ⟨⟨e ++ e', by simp, fun z hz => by rcases List.mem_append.1 hz with hz | hz; exact h1 z hz; exact h2 z hz⟩, fun hn => y.nodup (x.nodup hn)⟩
theorem Grown.place {o : Nat} {tr : List Nat} (ha : (h o).alive = true) : Grown h tr (place o tr).2 := by
 obtain ⟨ext, h1, h2, h3, h4⟩ := place_ok (o := o) (tr := tr)
 exact ⟨⟨ext, h1, fun x hx => by rw [h4 x hx]; exact ha⟩, fun hn => by rw [h1]; exact h3 hn⟩
theorem Grown.get {tr tr' T : List Nat} {k o : Nat} (g : Grown h tr tr') (hk : tr[k]? = some o) : tr'[k]? = some o := by
 obtain ⟨e, rfl, _⟩ := g.ext; exact get_ext hk
theorem place_get {o : Nat} {tr : List Nat} : (place o tr).2[(place o tr).1]? = some o := (place_ok (o := o) (tr := tr)).choose_spec.2.1
theorem PtrR.seat {T : List Nat} (S : Seat h α T hp αp) {o k i j : Nat} {v : Value} (hk : T[k]? = some o) (ha : (h o).alive = true) (r : PtrR α h o i j v) : PtrR αp hp k i j v := by
 obtain ⟨s1, s2⟩ := S k o hk
 simp only [PtrR] at r ⊢
 refine ⟨r.1, ?_⟩
 have r := r.2
 rw [s2]
 cases ho : h o <;> rw [ho] at r s1 ha <;> simp only [Ob.alive, Bool.false_eq_true] at ha
 case box ls =>
  cases hp' : hp k <;> rw [hp'] at s1 <;> first | exact s1.elim | exact r
 case row e c l =>
  have s1 : Ob.row e c l = hp k := s1
  rw [← s1]; exact r
 case ice c l =>
  have s1 : Ob.ice c l = hp k := s1
  rw [← s1]; exact r
 case grid e d n q ll =>
  cases hp' : hp k <;> rw [hp'] at s1 <;> simp only [SameP] at s1
  rw [← s1.2.2.2.2]; exact r
theorem packCaps_ok : ∀ {caps cs : List (Nat × Nat)} {tr tr' : List Nat}, (packCaps h caps tr).gives (cs, tr') → Grown h tr tr' ∧
  ∀ {T : List Nat} {αp hp}, (∃ e, T = tr' ++ e) → Seat h α T hp αp → ∀ {vs : List Value}, F2 (fun (p : Nat × Nat) u => PtrR α h p.1 0 p.2 u) caps vs → F2 (fun (p : Nat × Nat) u => PtrR αp hp p.1 0 p.2 u) cs vs
 | [], cs, tr, tr', hg => by
  simp only [packCaps, NM.gives_pure, Prod.mk.injEq] at hg
  obtain ⟨rfl, rfl⟩ := hg
  exact ⟨.refl _, fun {T αp hp} _ _ {vs} k => by cases vs with | nil => trivial | cons => exact k.elim⟩
 | (o, j) :: r, cs, tr, tr', hg => by
  simp only [packCaps] at hg
  split at hg
  ·rename_i ls hh
   simp only [NM.gives_bind, NM.gives_pure, Prod.mk.injEq] at hg
   obtain ⟨⟨r', tr2⟩, hr, rfl, rfl⟩ := hg
   obtain ⟨g2, k2⟩ := packCaps_ok hr
   have ha : (h o).alive = true := by rw [hh]; rfl
   refine ⟨(Grown.place ha).trans g2, fun {T αp hp} hT S {vs} k => ?_⟩
   match vs, k with
   | v :: vs, k =>
    obtain ⟨e, rfl⟩ := hT
    refine ⟨PtrR.seat S ?_ ha k.1, k2 ⟨e, rfl⟩ S k.2⟩
    exact get_ext (g2.get (T := []) place_get)
  ·exact absurd hg NM.gives_fail
theorem packL_ok {l l' : L} {tr tr' : List Nat} (hg : (packL h tr l).gives (l', tr')) : Grown h tr tr' ∧
  ∀ {T : List Nat} {αp hp okp}, (∃ e, T = tr' ++ e) → Seat h α T hp αp → (∀ b, ok b → okp b) → ∀ {v : Value}, LR w α ok h l v → LR w αp okp hp l' v := by
 unfold packL at hg
 split at hg
 ·rename_i o
  split at hg
  ·exact absurd hg NM.gives_fail
  ·simp only [NM.gives_pure, Prod.mk.injEq] at hg; obtain ⟨rfl, rfl⟩ := hg
   exact ⟨.refl _, fun _ _ _ _ _ => trivial⟩
  ·simp only [NM.gives_pure, Prod.mk.injEq] at hg; obtain ⟨rfl, rfl⟩ := hg
   exact ⟨.refl _, fun _ _ _ _ _ => trivial⟩
  ·rename_i h1 h2 h3
   simp only [NM.gives_pure, Prod.mk.injEq] at hg; obtain ⟨rfl, rfl⟩ := hg
   have ha := alive_spec (fun e => h1 e) (fun e => h2 e) (fun c l e => h3 c l e)
   refine ⟨Grown.place ha, fun {T αp hp okp} hT S hok {v} k => ?_⟩
   obtain ⟨e, rfl⟩ := hT
   obtain ⟨s1, s2⟩ := S _ o (get_ext place_get)
   simp only [LR] at k ⊢
   refine ⟨k.1, ?_⟩
   have k := k.2
   cases ho : h o <;> cases hp' : hp (place o tr).1 <;> rw [ho] at k s1 ha <;> rw [hp'] at s1 <;> simp_all [SameP, Ob.alive]
 ·rename_i o lo hi
  split at hg
  ·exact absurd hg NM.gives_fail
  ·simp only [NM.gives_pure, Prod.mk.injEq] at hg; obtain ⟨rfl, rfl⟩ := hg
   exact ⟨.refl _, fun _ _ _ _ _ => trivial⟩
  ·simp only [NM.gives_pure, Prod.mk.injEq] at hg; obtain ⟨rfl, rfl⟩ := hg
   exact ⟨.refl _, fun _ _ _ _ _ => trivial⟩
  ·rename_i h1 h2 h3
   simp only [NM.gives_pure, Prod.mk.injEq] at hg; obtain ⟨rfl, rfl⟩ := hg
   have ha := alive_spec (fun e => h1 e) (fun e => h2 e) (fun c l e => h3 c l e)
   refine ⟨Grown.place ha, fun {T αp hp okp} hT S hok {v} k => ?_⟩
   obtain ⟨e, rfl⟩ := hT
   obtain ⟨s1, s2⟩ := S _ o (get_ext place_get)
   simp only [LR] at k ⊢
   refine ⟨k.1, ?_⟩
   have k := k.2
   cases ho : h o <;> cases hp' : hp (place o tr).1 <;> rw [ho] at k s1 ha <;> rw [hp'] at s1 <;> simp_all [SameP, Ob.alive]
   all_goals (obtain ⟨rfl, rfl, rfl⟩ := s1; first | exact k | simp_all)
 ·rename_i o i j
  split at hg
  ·exact absurd hg NM.gives_fail
  ·simp only [NM.gives_pure, Prod.mk.injEq] at hg; obtain ⟨rfl, rfl⟩ := hg
   exact ⟨.refl _, fun _ _ _ _ _ => trivial⟩
  ·simp only [NM.gives_pure, Prod.mk.injEq] at hg; obtain ⟨rfl, rfl⟩ := hg
   exact ⟨.refl _, fun _ _ _ _ _ => trivial⟩
  ·rename_i h1 h2 h3
   simp only [NM.gives_pure, Prod.mk.injEq] at hg; obtain ⟨rfl, rfl⟩ := hg
   have ha := alive_spec (fun e => h1 e) (fun e => h2 e) (fun c l e => h3 c l e)
   refine ⟨Grown.place ha, fun {T αp hp okp} hT S hok {v} k => ?_⟩
   obtain ⟨e, rfl⟩ := hT
   exact PtrR.seat S (get_ext place_get) ha k
 ·rename_i f caps
  simp only [NM.gives_bind, NM.gives_pure, Prod.mk.injEq] at hg
  obtain ⟨⟨cs, tr2⟩, hc, rfl, rfl⟩ := hg
  obtain ⟨g2, k2⟩ := packCaps_ok (α := α) hc
  refine ⟨g2, fun {T αp hp okp} hT S hok {v} k => ?_⟩
  obtain ⟨vs, rfl, hF⟩ := k
  exact ⟨vs, rfl, k2 hT S hF⟩
 ·exact absurd hg NM.gives_fail
 ·simp only [NM.gives_pure, Prod.mk.injEq] at hg; obtain ⟨rfl, rfl⟩ := hg
  exact ⟨.refl _, fun _ _ _ _ _ => trivial⟩
 ·simp only [NM.gives_pure, Prod.mk.injEq] at hg; obtain ⟨rfl, rfl⟩ := hg
  exact ⟨.refl _, fun _ _ _ _ _ => trivial⟩
 ·rename_i n1 n2 n3 n4 n5 n6 n7
  simp only [NM.gives_pure, Prod.mk.injEq] at hg; obtain ⟨rfl, rfl⟩ := hg
  refine ⟨.refl _, fun {T αp hp okp} hT S hok {v} k => ?_⟩
  cases l with
  | own o => exact absurd rfl (n1 o)
  | sub o lo hi => exact absurd rfl (n2 o lo hi)
  | ptr o i j => exact absurd rfl (n3 o i j)
  | fn f cs => exact absurd rfl (n4 f cs)
  | fmap es => exact absurd rfl (n5 es)
  | inn o i n => exact absurd rfl (n6 o i n)
  | gp o i j n => exact absurd rfl (n7 o i j n)
  | pv c x => exact Rep.mono (fun b hb => ⟨hok b hb, rfl⟩) k
  | iptr c x j =>
   obtain ⟨g, off, cs, rfl, hg, hr, hc⟩ := k
   exact ⟨g, off, cs, rfl, hok g hg, hr.mono fun b hb => ⟨hok b hb, rfl⟩, hc⟩
  | _ => exact k
theorem packLs_ok : ∀ {ls ls' : List L} {tr tr' : List Nat}, (packLs h tr ls).gives (ls', tr') → Grown h tr tr' ∧ ls'.length = ls.length ∧
  ∀ {T : List Nat} {αp hp okp}, (∃ e, T = tr' ++ e) → Seat h α T hp αp → (∀ b, ok b → okp b) → ∀ {vs : List Value}, LsR w α ok h ls vs → LsR w αp okp hp ls' vs
 | [], ls', tr, tr', hg => by
  simp only [packLs, NM.gives_pure, Prod.mk.injEq] at hg
  obtain ⟨rfl, rfl⟩ := hg
  exact ⟨.refl _, rfl, fun {T αp hp okp} _ _ _ {vs} k => by cases vs with | nil => trivial | cons => exact k.elim⟩
 | l :: r, ls', tr, tr', hg => by
  simp only [packLs, NM.gives_bind, NM.gives_pure, Prod.mk.injEq] at hg
  obtain ⟨⟨l1, tr1⟩, h1, ⟨r1, tr2⟩, h2, rfl, rfl⟩ := hg
  obtain ⟨g1, k1⟩ := packL_ok (α := α) (ok := ok) (w := w) h1
  obtain ⟨g2, hl, k2⟩ := packLs_ok h2
  refine ⟨g1.trans g2, by simp [hl], fun {T αp hp okp} hT S hok {vs} k => ?_⟩
  match vs, k with
  | v :: vs, k =>
   obtain ⟨e, rfl⟩ := hT
   obtain ⟨e2, rfl, _⟩ := g2.ext
   exact ⟨k1 ⟨e2 ++ e, by simp⟩ S hok k.1, k2 ⟨e, rfl⟩ S hok k.2⟩
theorem packD_ok {d d' : D} {tr tr' : List Nat} (hg : (packD h tr d).gives (d', tr')) : Grown h tr tr' ∧
  ∀ {T : List Nat} {αp hp okp}, (∃ e, T = tr' ++ e) → Seat h α T hp αp → (∀ b, ok b → okp b) → ∀ {v : Value}, DR w α ok h d v → DR w αp okp hp d' v := by
 cases d with
 | one l =>
  simp only [packD, NM.gives_bind, NM.gives_pure, Prod.mk.injEq] at hg
  obtain ⟨⟨l1, tr1⟩, h1, rfl, rfl⟩ := hg
  exact packL_ok h1
 | agg ls =>
  simp only [packD, NM.gives_bind, NM.gives_pure, Prod.mk.injEq] at hg
  obtain ⟨⟨l1, tr1⟩, h1, rfl, rfl⟩ := hg
  obtain ⟨g1, _, k1⟩ := packLs_ok (α := α) (ok := ok) (w := w) h1
  exact ⟨g1, fun {T αp hp okp} hT S hok {v} k => by obtain ⟨cs, rfl, k⟩ := k; exact ⟨cs, rfl, k1 hT S hok k⟩⟩
 | tup ds => exact absurd hg NM.gives_fail
theorem packDs_ok : ∀ {ds ds' : List D} {tr tr' : List Nat}, (packDs h tr ds).gives (ds', tr') → Grown h tr tr' ∧
  ∀ {T : List Nat} {αp hp okp}, (∃ e, T = tr' ++ e) → Seat h α T hp αp → (∀ b, ok b → okp b) → ∀ {vs : List Value}, F2 (DR w α ok h) ds vs → F2 (DR w αp okp hp) ds' vs
 | [], ls', tr, tr', hg => by
  simp only [packDs, NM.gives_pure, Prod.mk.injEq] at hg
  obtain ⟨rfl, rfl⟩ := hg
  exact ⟨.refl _, fun {T αp hp okp} _ _ _ {vs} k => by cases vs with | nil => trivial | cons => exact k.elim⟩
 | l :: r, ls', tr, tr', hg => by
  simp only [packDs, NM.gives_bind, NM.gives_pure, Prod.mk.injEq] at hg
  obtain ⟨⟨l1, tr1⟩, h1, ⟨r1, tr2⟩, h2, rfl, rfl⟩ := hg
  obtain ⟨g1, k1⟩ := packD_ok (α := α) (ok := ok) (w := w) h1
  obtain ⟨g2, k2⟩ := packDs_ok h2
  refine ⟨g1.trans g2, fun {T αp hp okp} hT S hok {vs} k => ?_⟩
  match vs, k with
  | v :: vs, k =>
   obtain ⟨e, rfl⟩ := hT
   obtain ⟨e2, rfl, _⟩ := g2.ext
   exact ⟨k1 ⟨e2 ++ e, by simp⟩ S hok k.1, k2 ⟨e, rfl⟩ S hok k.2⟩
def PackedOb (w : World) (h : Heap) (α : Nat → Value) (ok : Nat → Prop) (T : List Nat) (o : Nat) (b : Ob) : Prop :=
 match h o with
 | .box ls => ∃ ls', b = .box ls' ∧ ls'.length = ls.length ∧ ∀ {αp hp okp}, Seat h α T hp αp → (∀ b, ok b → okp b) → ∀ {vs}, LsR w α ok h ls vs → LsR w αp okp hp ls' vs
 | .none => False
 | .lock .. => False
 | .grid e d _ q ll => q = none ∧ b = .grid e d 0 none ll
 | x => b = x
theorem PackedOb.more {T e : List Nat} {o : Nat} {b : Ob} (k : PackedOb w h α ok T o b) : PackedOb w h α ok (T ++ e) o b := by
 unfold PackedOb at k ⊢
 cases hh : h o with
 | box ls =>
  rw [hh] at k
  obtain ⟨ls', rfl, hl, hk⟩ := k
  exact ⟨ls', rfl, hl, fun {αp hp okp} S hok {vs} kk => hk (fun k o hko => S k o (get_ext hko)) hok kk⟩
 | none => rw [hh] at k; exact k
 | gone => rw [hh] at k; exact k
 | row e c l => rw [hh] at k; exact k
 | ice c l => rw [hh] at k; exact k
 | lock c l => rw [hh] at k; exact k
 | grid e d n q ll => rw [hh] at k; exact k
theorem packObs_ok : ∀ {f k : Nat} {tr tr' : List Nat} {obs : List Ob}, (packObs h f k tr).gives (obs, tr') → Grown h tr tr' ∧ k + obs.length = max k tr'.length ∧
  ∀ (i : Nat) o b, tr'[k + i]? = some o → obs[i]? = some b → PackedOb w h α ok tr' o b
 | 0, k, tr, tr', obs, hg => absurd hg NM.gives_fail
 | f + 1, k, tr, tr', obs, hg => by
  simp only [packObs] at hg
  split at hg
  ·rename_i hk
   simp only [NM.gives_pure, Prod.mk.injEq] at hg
   obtain ⟨rfl, rfl⟩ := hg
   have : tr.length ≤ k := List.getElem?_eq_none_iff.1 hk
   exact ⟨.refl _, by simp; omega, fun i o b _ hb => by simp at hb⟩
  ·rename_i o hk
   have hklt : k < tr.length := (List.getElem?_eq_some_iff.1 hk).1
   split at hg
   ·rename_i ls hh
    simp only [NM.gives_bind, NM.gives_pure, Prod.mk.injEq] at hg
    obtain ⟨⟨ls', tr1⟩, h1, ⟨obs1, tr2⟩, h2, rfl, rfl⟩ := hg
    obtain ⟨g1, hl1, k1⟩ := packLs_ok (α := α) (ok := ok) (w := w) h1
    obtain ⟨g2, hl2, k2⟩ := packObs_ok h2
    have hklt2 : k < tr2.length := by
     obtain ⟨e1, he1, _⟩ := g1.ext; obtain ⟨e2, he2, _⟩ := g2.ext
     rw [he2, he1]; simp; omega
    refine ⟨g1.trans g2, by simp; omega, fun i o' b ho hb => ?_⟩
    cases i with
    | zero =>
     simp at hb; subst hb
     have : tr2[k]? = some o := g2.get (T := []) (g1.get (T := []) hk)
     rw [Nat.add_zero, this] at ho; simp at ho; subst ho
     unfold PackedOb; rw [hh]
     obtain ⟨e2, he2, _⟩ := g2.ext
     exact ⟨ls', rfl, hl1, fun {αp hp okp} S hok {vs} kk => k1 ⟨e2, he2⟩ S hok kk⟩
    | succ i =>
     simp at hb
     exact k2 i o' b (by rw [show k + 1 + i = k + (i + 1) by omega]; exact ho) hb
   ·exact absurd hg NM.gives_fail
   ·exact absurd hg NM.gives_fail
   ·rename_i e d n q ll hh
    simp only [NM.gives_guard, NM.gives_bind, NM.gives_pure, Prod.mk.injEq] at hg
    obtain ⟨hq, ⟨obs1, tr2⟩, h2, rfl, rfl⟩ := hg
    obtain ⟨g2, hl2, k2⟩ := packObs_ok h2
    have hklt2 : k < tr2.length := by
     obtain ⟨e2, he2, _⟩ := g2.ext
     rw [he2]; simp; omega
    refine ⟨g2, by simp; omega, fun i o' b ho hb => ?_⟩
    cases i with
    | zero =>
     simp at hb; subst hb
     have : tr2[k]? = some o := g2.get (T := []) hk
     rw [Nat.add_zero, this] at ho; simp at ho; subst ho
     unfold PackedOb; rw [hh]
     exact ⟨by simpa using hq, rfl⟩
    | succ i =>
     simp at hb
     exact k2 i o' b (by rw [show k + 1 + i = k + (i + 1) by omega]; exact ho) hb
   ·rename_i n1 n2 n3 n4
    simp only [NM.gives_bind, NM.gives_pure, Prod.mk.injEq] at hg
    obtain ⟨⟨obs1, tr2⟩, h2, rfl, rfl⟩ := hg
    obtain ⟨g2, hl2, k2⟩ := packObs_ok h2
    have hklt2 : k < tr2.length := by
     obtain ⟨e2, he2, _⟩ := g2.ext
     rw [he2]; simp; omega
    refine ⟨g2, by simp; omega, fun i o' b ho hb => ?_⟩
    cases i with
    | zero =>
     simp at hb; subst hb
     have : tr2[k]? = some o := g2.get (T := []) hk
     rw [Nat.add_zero, this] at ho; simp at ho; subst ho
     unfold PackedOb
     cases hh : h o with
     | lock c l => exact absurd hh (n3 c l)
     | grid e d n q ll => exact absurd hh (n4 e d n q ll)
     | none => exact absurd hh n2
     | box ls => exact absurd hh (n1 ls)
     | _ => rfl
    | succ i =>
     simp at hb
     exact k2 i o' b (by rw [show k + 1 + i = k + (i + 1) by omega]; exact ho) hb
end
end Go.VI
namespace Go.VI
open Go
def alphaOf (α : Nat → Value) (tr : List Nat) : Nat → Value := fun k => match tr[k]? with | some o => α o | none => .nilIface
theorem heapOf_get {obs : List Ob} {k : Nat} {b : Ob} (hb : obs[k]? = some b) : heapOf obs k = b := by simp [heapOf, hb]
theorem heapOf_noGrid {obs : List Ob} (hng : (obs.all fun b => !b.isGrid) = true) (k : Nat) : (heapOf obs k).isGrid = false := by
 unfold heapOf
 cases hk : obs[k]? with
 | none => rfl
 | some b => simpa using List.all_eq_true.1 hng b (List.mem_of_getElem? hk)
theorem heapOf_out {obs : List Ob} {k : Nat} (hk : obs.length ≤ k) : heapOf obs k = .none := by simp [heapOf, List.getElem?_eq_none hk]
section
variable {F : Fx} {α : Nat → Value} {ok okp : Nat → Prop} {h : Heap} {w : World}
theorem pack_ok {tr0 tr : List Nat} {ds ds' : List D} {obs : List Ob} (hg : (pack h tr0 ds).gives (ds', obs, tr)) (hn0 : tr0.Nodup) :
  obs.length = tr.length ∧ tr.Nodup ∧ (∃ e, tr = tr0 ++ e ∧ ∀ x ∈ e, (h x).alive = true) ∧ (∀ (k : Nat) o, tr[k]? = some o → ∃ b, obs[k]? = some b ∧ PackedOb w h α ok tr o b) ∧
   ∀ {αp hp okp okq}, Seat h α tr hp αp → (∀ b, okq b → okp b) → ∀ {vs : List Value}, F2 (DR w α okq h) ds vs → F2 (DR w αp okp hp) ds' vs := by
 simp only [pack, NM.gives_bind, NM.gives_pure, Prod.mk.injEq] at hg
 obtain ⟨⟨ds1, tr1⟩, h1, ⟨obs1, tr2⟩, h2, rfl, rfl, rfl⟩ := hg
 obtain ⟨g2, hl, k2⟩ := packObs_ok (α := α) (ok := ok) (w := w) h2
 have g1 := (packDs_ok (α := α) (ok := ok) (w := w) h1).1
 have hl : obs1.length = tr2.length := by omega
 refine ⟨hl, (g1.trans g2).nodup hn0, (g1.trans g2).ext, fun k o hk => ?_, fun {αp hp okp okq} S hok {vs} kk => ?_⟩
 ·have hlt : k < obs1.length := by rw [hl]; exact (List.getElem?_eq_some_iff.1 hk).1
  exact ⟨obs1[k], List.getElem?_eq_getElem hlt, k2 k o _ (by rw [Nat.zero_add]; exact hk) (List.getElem?_eq_getElem hlt)⟩
 ·obtain ⟨e2, he2, _⟩ := g2.ext
  exact (packDs_ok (α := α) (ok := okq) (w := w) h1).2 ⟨e2, he2⟩ S hok kk
theorem packed_seat {tr : List Nat} {obs : List Ob} (hp : ∀ (k : Nat) o, tr[k]? = some o → ∃ b, obs[k]? = some b ∧ PackedOb w h α ok tr o b) : Seat h α tr (heapOf obs) (alphaOf α tr) := by
 intro k o hk
 obtain ⟨b, hb, pb⟩ := hp k o hk
 rw [heapOf_get hb]
 refine ⟨?_, by simp [alphaOf, hk]⟩
 unfold PackedOb at pb
 cases hh : h o with
 | box ls => rw [hh] at pb; obtain ⟨ls', rfl, hl, _⟩ := pb; exact hl.symm
 | none => rw [hh] at pb; exact pb.elim
 | lock c l => rw [hh] at pb; exact pb.elim
 | gone => rw [hh] at pb; exact pb.symm
 | row e c l => rw [hh] at pb; exact pb.symm
 | ice c l => rw [hh] at pb; exact pb.symm
 | grid e d n q ll => rw [hh] at pb; obtain ⟨rfl, rfl⟩ := pb; exact ⟨rfl, rfl, rfl, rfl, rfl⟩
theorem packed_obR (C : Core F α ok h w) {tr : List Nat} {obs : List Ob} (hok : ∀ b, ok b → okp b) (hl : obs.length = tr.length) (hp : ∀ (k : Nat) o, tr[k]? = some o → ∃ b, obs[k]? = some b ∧ PackedOb w h α ok tr o b) (k : Nat) :
  ObR w (alphaOf α tr) okp (heapOf obs) k (heapOf obs k) := by
 cases hk : tr[k]? with
 | none =>
  have : tr.length ≤ k := List.getElem?_eq_none_iff.1 hk
  rw [heapOf_out (by omega)]; trivial
 | some o =>
  obtain ⟨b, hb, pb⟩ := hp k o hk
  have S := packed_seat hp
  have ha : alphaOf α tr k = α o := (S k o hk).2
  rw [heapOf_get hb]
  have hob := C.ob o
  unfold PackedOb at pb
  cases hh : h o with
  | box ls =>
   rw [hh] at pb hob
   obtain ⟨ls', rfl, hl, kk⟩ := pb
   obtain ⟨g, off, cs, e, hα, hg, vs, hls, hv⟩ := hob
   exact ⟨g, off, cs, e, by rw [ha]; exact hα, hg, vs, kk S hok hls, hv⟩
  | none => rw [hh] at pb; exact pb.elim
  | lock c l => rw [hh] at pb; exact pb.elim
  | gone => rw [hh] at pb; subst pb; trivial
  | row e c l =>
   rw [hh] at pb hob; subst pb
   obtain ⟨xs, how, hr⟩ := hob
   exact ⟨xs, by rw [ha]; exact how, hr.mono fun b hb => ⟨hok b hb, rfl⟩⟩
  | ice c l =>
   rw [hh] at pb hob; subst pb
   simp only [ObR] at hob ⊢
   rw [ha]; exact Rep.mono (fun b hb => ⟨hok b hb, rfl⟩) hob
  | grid e d n q ll =>
   rw [hh] at pb hob
   obtain ⟨rfl, rfl⟩ := pb
   obtain ⟨hs, ho, hr⟩ := hob
   refine ⟨hs, by rw [ha]; exact ho, fun i l hl hh => ?_⟩
   obtain ⟨u, xs, hu, h1, h2⟩ := hr i l hl hh
   exact ⟨u, xs, hu, h1, h2.mono fun b hb => ⟨hok b hb, rfl⟩⟩
theorem packed_ex {tr : List Nat} {obs : List Ob} (hl : obs.length = tr.length) (hp : ∀ (k : Nat) o, tr[k]? = some o → ∃ b, obs[k]? = some b ∧ PackedOb w h α ok tr o b) {k : Nat} (he : (heapOf obs k).ex = true) :
  ∃ o, tr[k]? = some o ∧ (h o).ex = true := by
 have hlt : k < obs.length := by
  rcases Nat.lt_or_ge k obs.length with h | h
  ·exact h
  ·rw [heapOf_out h] at he; simp [Ob.ex] at he
 have hk : tr[k]? = some tr[k] := List.getElem?_eq_getElem (by omega)
 refine ⟨_, hk, ?_⟩
 obtain ⟨s1, _⟩ := packed_seat hp k _ hk
 cases hh : h tr[k] <;> cases hb : heapOf obs k <;> rw [hh, hb] at s1 <;> rw [hb] at he <;> simp_all [SameP, Ob.ex]
theorem hand_over (C : Core F α ok h w) {tr : List Nat} {ds ds' : List D} {obs : List Ob} {vals : List Value} {okL okc : Nat → Prop} (hg : (pack h [] ds).gives (ds', obs, tr)) (S : F2 (DR w α okL h) ds vals)
  (h1 : ∀ b, ok b → okc b) (h2 : ∀ b, okL b → okc b) (h3 : ∀ b, okc b → b < w.heap.size) (h4 : ∀ o ∈ tr, ∀ b, (h o).ex = true → blk (α o) = some b → ¬ okc b) (hng : (obs.all fun b => !b.isGrid) = true) :
  Core ⟨F.P, F.tabs, w, tr.length, alphaOf α tr, heapOf obs, okc⟩ (alphaOf α tr) okc (heapOf obs) w ∧ F2 (DR w (alphaOf α tr) okc (heapOf obs)) ds' vals ∧ obs.length = tr.length ∧ tr.Nodup ∧ (∀ o ∈ tr, (h o).alive = true) ∧
   SeatK h α tr (heapOf obs) (alphaOf α tr) := by
 obtain ⟨hl, hn, ⟨e, he, hal⟩, hp, kk⟩ := pack_ok (α := α) (ok := ok) (w := w) hg (by simp)
 simp at he; subst he
 have Se := packed_seat hp
 refine ⟨⟨fun k => packed_obR C h1 hl hp k, fun k k' b e1 e2 b1 b2 => ?_, fun k b e1 b1 => ?_, fun b hb => ⟨h3 b hb, fun _ => .inl hb⟩, fun k hk => ⟨rfl, .refl _, fun ls hls => by show heapOf obs k ≠ .gone; have hls : heapOf obs k = .box ls := hls; rw [hls]; simp, ?_⟩, fun k b hk e1 => ?_, ?_, fun p hp' => ⟨(C.tab p hp').1, h1 _ (C.tab p hp').2⟩, fun k => absurd k (Inn.not (heapOf_noGrid hng _))⟩, kk Se h2 S, hl, hn, hal, fun k o hk => ⟨(Se k o hk).1.k (heapOf_noGrid hng k), (Se k o hk).2⟩⟩
 ·obtain ⟨o, ho, ho2⟩ := packed_ex hl hp e1
  obtain ⟨o', ho', ho2'⟩ := packed_ex hl hp e2
  rw [(Se k o ho).2] at b1; rw [(Se k' o' ho').2] at b2
  have := C.sep o o' b ho2 ho2' b1 b2
  subst this
  exact (List.getElem?_inj (List.getElem?_eq_some_iff.1 ho).1 hn).1 (ho.trans ho'.symm)
 ·obtain ⟨o, ho, ho2⟩ := packed_ex hl hp e1
  rw [(Se k o ho).2] at b1
  exact h4 o (List.mem_of_getElem? ho) b ho2 b1
 ·have hk' : k < tr.length := hk
  have hkt : tr[k]? = some tr[k] := List.getElem?_eq_getElem hk'
  have hal := hal tr[k] (List.mem_of_getElem? hkt)
  obtain ⟨s1, _⟩ := Se k _ hkt
  have hgr := heapOf_noGrid hng k
  cases hh : h tr[k] <;> cases hb : heapOf obs k <;> rw [hh, hb] at s1 <;> rw [hh] at hal <;> simp_all [SameP, Ob.parOk, Ob.alive, Ob.isGrid]
 ·exfalso
  have hk' : tr.length ≤ k := hk
  rw [heapOf_out (by omega)] at e1; simp [Ob.ex] at e1
 ·exact ⟨rfl, rfl, rfl, Nat.le_refl _, fun _ _ _ => rfl, fun k ls g off cs e _ _ _ h4 => ⟨cs, h4, rfl, fun _ _ => rfl⟩⟩
end
end Go.VI
namespace Go.VI
open Go
theorem isGrid_ex {b : Ob} (h : b.isGrid = true) : b.ex = true := by cases b <;> simp_all [Ob.isGrid, Ob.ex]
theorem sameV_grid {a b : Ob} (h : sameV a b) : a.isGrid = true ∧ b.isGrid = true := by cases a <;> cases b <;> simp_all [sameV, Ob.isGrid]
theorem backO_grid (tr : List Nat) (new : Nat) (b : Ob) : (backO tr new b).isGrid = b.isGrid := by cases b <;> rfl
def renL (ρ : Nat → Nat) : L → L
 | .own k => .own (ρ k)
 | .sub k a b => .sub (ρ k) a b
 | .ptr k i j => .ptr (ρ k) i j
 | .fn f cs => .fn f (cs.map fun p => (ρ p.1, p.2))
 | .fmap es => .fmap (es.map fun e => (e.1, e.2.1, e.2.2.map fun p => (ρ p.1, p.2)))
 | .inn .. => .undef
 | .gp .. => .undef
 | l => l
theorem backL_ren (tr : List Nat) (new : Nat) (l : L) : backL tr new l = renL (backN tr new) l := by cases l <;> rfl
section
variable {F : Fx} {α α' : Nat → Value} {ok ok' : Nat → Prop} {h h' : Heap} {w w' : World}
theorem PtrR.ren {ρ : Nat → Nat} (H : ∀ k, h k ≠ .none → SameK (h k) (h' (ρ k)) ∧ α' (ρ k) = α k) {o i j : Nat} {v : Value} (r : PtrR α h o i j v) : PtrR α' h' (ρ o) i j v := by
 simp only [PtrR] at r ⊢
 refine ⟨r.1, ?_⟩
 have r := r.2
 have hn : h o ≠ .none := fun e => by rw [e] at r; exact r
 obtain ⟨s1, s2⟩ := H o hn
 rw [s2]
 cases ho : h o <;> rw [ho] at r s1
 case none => exact r.elim
 case box ls => cases hp' : h' (ρ o) <;> rw [hp'] at s1 <;> first | exact s1.elim | exact r
 all_goals (rw [← show _ = h' (ρ o) from s1]; exact r)
theorem LR.ren {ρ : Nat → Nat} (H : ∀ k, h k ≠ .none → SameK (h k) (h' (ρ k)) ∧ α' (ρ k) = α k) {l : L} (hok : (∀ b, ok b → ok' b) ∨ flatL l = true) {v : Value} (r : LR w α ok h l v) : LR w α' ok' h' (renL ρ l) v := by
 cases l with
 | pv c x =>
  rcases hok with hok | hf
  ·exact Rep.mono (fun b hb => ⟨hok b hb, rfl⟩) r
  ·exact Rep.flat hf r
 | own o =>
  simp only [LR, renL] at r ⊢
  refine ⟨r.1, ?_⟩
  have r := r.2
  have hn : h o ≠ .none := fun e => by rw [e] at r; exact r
  obtain ⟨s1, s2⟩ := H o hn
  rw [s2]
  cases ho : h o <;> rw [ho] at r s1
  case none => exact r.elim
  case box ls => exact r.elim
  all_goals (rw [← show _ = h' (ρ o) from s1]; exact r)
 | sub o lo hi =>
  simp only [LR, renL] at r ⊢
  refine ⟨r.1, ?_⟩
  have r := r.2
  have hn : h o ≠ .none := fun e => by rw [e] at r; exact r
  obtain ⟨s1, s2⟩ := H o hn
  rw [s2]
  cases ho : h o <;> rw [ho] at r s1
  case none => exact r.elim
  case box ls => exact r.elim
  all_goals (rw [← show _ = h' (ρ o) from s1]; exact r)
 | ptr o i j => exact PtrR.ren H r
 | iptr c x j =>
  rcases hok with hok | hf
  ·obtain ⟨g, off, cs, rfl, hg, hr, hc⟩ := r
   exact ⟨g, off, cs, rfl, hok g hg, hr.mono fun b hb => ⟨hok b hb, rfl⟩, hc⟩
  ·cases hf
 | fn f cs =>
  obtain ⟨vs, rfl, hF⟩ := r
  refine ⟨vs, rfl, ?_⟩
  rw [F2.map_left]
  exact hF.mono fun p u hu => PtrR.ren H hu
 | fmap es =>
  rcases hok with hok | hf
  ·obtain ⟨b, ms, clock, rfl, hb, hm, hF⟩ := r
   refine ⟨b, ms, clock, rfl, hok b hb, hm, ?_⟩
   rw [F2.map_left]
   refine hF.mono fun e m hr => ?_
   obtain ⟨h1, vs, h2, h3⟩ := hr
   refine ⟨h1, vs, h2, ?_⟩
   rw [F2.map_left]
   exact h3.mono fun p u hu => PtrR.ren H hu
  ·cases hf
 | inn o i n => trivial
 | gp o i j n => trivial
 | _ => exact r
theorem LsR.ren {ρ : Nat → Nat} (H : ∀ k, h k ≠ .none → SameK (h k) (h' (ρ k)) ∧ α' (ρ k) = α k) {ls : List L} (hok : (∀ b, ok b → ok' b) ∨ ls.all flatL = true) {vs : List Value} (r : LsR w α ok h ls vs) : LsR w α' ok' h' (ls.map (renL ρ)) vs := by
 unfold LsR
 rw [F2.map_left]
 refine F2.mono' (fun l hl v hr => LR.ren H ?_ hr) r
 exact hok.imp id fun hf => List.all_eq_true.1 hf l hl
theorem backH_ok {tr : List Nat} {new : Nat} : ∀ {obs : List Ob} {k : Nat} {h h2 : Heap}, (∀ j j', j < obs.length → j' < obs.length → backN tr new (k + j) = backN tr new (k + j') → j = j') → (backH tr new h k obs).gives h2 →
  (∀ (j : Nat) b, obs[j]? = some b → h2 (backN tr new (k + j)) = backO tr new b) ∧ (∀ x, (∀ j, j < obs.length → x ≠ backN tr new (k + j)) → h2 x = h x) ∧ (∀ j, j < obs.length → tr.length ≤ k + j → h (backN tr new (k + j)) = .none)
 | [], k, h, h2, _, hb => by
  simp only [backH, NM.gives_pure] at hb; subst hb
  exact ⟨fun j b hj => by simp at hj, fun x _ => rfl, fun j hj => by simp at hj⟩
 | b :: r, k, h, h2, inj, hb => by
  have inj' : ∀ j j', j < r.length → j' < r.length → backN tr new (k + 1 + j) = backN tr new (k + 1 + j') → j = j' := fun j j' hj hj' e => by
   have := inj (j + 1) (j' + 1) (by simp; omega) (by simp; omega) (by rw [show k + (j + 1) = k + 1 + j by omega, show k + (j' + 1) = k + 1 + j' by omega]; exact e)
   omega
  have ne0 : ∀ j, j < r.length → backN tr new (k + 1 + j) ≠ backN tr new k := fun j hj e => by
   have := inj (j + 1) 0 (by simp; omega) (by simp) (by rw [show k + (j + 1) = k + 1 + j by omega]; exact e)
   omega
  simp only [backH] at hb
  split at hb
  ·rename_i o ho
   have hbk : backN tr new k = o := by simp [backN, ho]
   obtain ⟨b1, b2, b3⟩ := backH_ok inj' hb
   refine ⟨fun j b' hj => ?_, fun x hx => ?_, fun j hj hle => ?_⟩
   ·cases j with
    | zero =>
     simp at hj; subst hj
     rw [Nat.add_zero, b2 _ (fun j hj => (ne0 j hj).symm), hbk, upd_same]
    | succ j => rw [show k + (j + 1) = k + 1 + j by omega]; exact b1 j b' (by simpa using hj)
   ·rw [b2 x fun j hj => by rw [show k + 1 + j = k + (j + 1) by omega]; exact hx (j + 1) (by simp; omega)]
    exact upd_other (by rw [← hbk]; exact hx 0 (by simp))
   ·cases j with
    | zero =>
     have : tr[k]? = none := List.getElem?_eq_none (by omega)
     rw [this] at ho; cases ho
    | succ j =>
     have := b3 j (by simpa using hj) (by omega)
     rw [show k + (j + 1) = k + 1 + j by omega]
     rwa [upd_other (by rw [← hbk]; exact ne0 j (by simpa using hj))] at this
  ·rename_i ho
   simp only [NM.gives_bind] at hb
   obtain ⟨h1, hn, hb⟩ := hb
   obtain ⟨hnone, rfl⟩ := newOb_ok hn
   obtain ⟨b1, b2, b3⟩ := backH_ok inj' hb
   refine ⟨fun j b' hj => ?_, fun x hx => ?_, fun j hj hle => ?_⟩
   ·cases j with
    | zero =>
     simp at hj; subst hj
     rw [Nat.add_zero, b2 _ (fun j hj => (ne0 j hj).symm), upd_same]
    | succ j => rw [show k + (j + 1) = k + 1 + j by omega]; exact b1 j b' (by simpa using hj)
   ·rw [b2 x fun j hj => by rw [show k + 1 + j = k + (j + 1) by omega]; exact hx (j + 1) (by simp; omega)]
    exact upd_other (hx 0 (by simp))
   ·cases j with
    | zero => exact hnone
    | succ j =>
     have := b3 j (by simpa using hj) (by omega)
     rw [show k + (j + 1) = k + 1 + j by omega]
     rwa [upd_other (ne0 j (by simpa using hj))] at this
theorem sepIds_ok {new n : Nat} : ∀ {tr : List Nat}, sepIds new n tr = true → ∀ o ∈ tr, o < new ∨ new + n ≤ o
 | [], _, o, ho => by simp at ho
 | x :: r, hs, o, ho => by
  simp only [sepIds, Bool.and_eq_true, Bool.or_eq_true] at hs
  rcases List.mem_cons.1 ho with rfl | ho
  ·rcases hs.1 with h1 | h1
   ·exact .inl (by simpa [Nat.blt_eq] using h1)
   ·exact .inr (Nat.le_of_ble_eq_true h1)
  ·exact sepIds_ok hs.2 o ho
theorem backN_in {tr : List Nat} {new k o : Nat} (hk : tr[k]? = some o) : backN tr new k = o := by simp [backN, hk]
theorem backN_out {tr : List Nat} {new k : Nat} (hk : tr.length ≤ k) : backN tr new k = new + (k - tr.length) := by simp [backN, List.getElem?_eq_none hk]
theorem backN_inj {tr : List Nat} {new n : Nat} (hn : tr.Nodup) (hs : ∀ o ∈ tr, o < new ∨ new + n ≤ o) {k k' : Nat} (hk : k < n) (hk' : k' < n) (e : backN tr new k = backN tr new k') : k = k' := by
 rcases Nat.lt_or_ge k tr.length with h1 | h1 <;> rcases Nat.lt_or_ge k' tr.length with h2 | h2
 ·rw [backN_in (List.getElem?_eq_getElem h1), backN_in (List.getElem?_eq_getElem h2)] at e
  exact (List.getElem?_inj h1 hn).1 (by rw [List.getElem?_eq_getElem h1, List.getElem?_eq_getElem h2, e])
 ·rw [backN_in (List.getElem?_eq_getElem h1), backN_out h2] at e
  have := hs _ (List.mem_of_getElem? (List.getElem?_eq_getElem h1)); omega
 ·rw [backN_out h1, backN_in (List.getElem?_eq_getElem h2)] at e
  have := hs _ (List.mem_of_getElem? (List.getElem?_eq_getElem h2)); omega
 ·rw [backN_out h1, backN_out h2] at e; omega
theorem SameK.or {a b : Ob} (k : SameK a b) : a = b ∨ ∃ x y, a = .box x ∧ b = .box y ∧ x.length = y.length := by
 cases a with
 | box x => cases b with
  | box y => exact .inr ⟨x, y, rfl, rfl, k⟩
  | _ => exact k.elim
 | _ => exact .inl k
theorem SameK.refl (a : Ob) : SameK a a := by cases a <;> simp [SameK]
theorem SameK.symm {a b : Ob} (k : SameK a b) : SameK b a := by
 rcases k.or with rfl | ⟨x, y, rfl, rfl, hl⟩
 ·exact .refl _
 ·exact hl.symm
theorem SameK.ex {a b : Ob} (k : SameK a b) : a.ex = b.ex := by
 rcases k.or with rfl | ⟨x, y, rfl, rfl, hl⟩ <;> rfl
theorem SameK.back (tr : List Nat) (new : Nat) (b : Ob) : SameK b (backO tr new b) := by cases b <;> simp [SameK, backO]
theorem SameK.hle {a b : Ob} (k : SameK a b) : HLe a b := by
 rcases k.or with rfl | ⟨x, y, rfl, rfl, hl⟩
 ·exact .refl _
 ·exact hl
theorem HLe.same {a b c d : Ob} (h1 : SameK a b) (h2 : HLe b c) (h3 : SameK c d) : HLe a d := by
 have hb : a ≠ .none → b ≠ .none := h1.hle.ne
 exact (h1.hle.trans h2 hb).trans h3.hle fun ha => h2.ne (hb ha)
theorem HLe.exb {a b : Ob} (k : HLe a b) (hp : a.parOk = true) (hb : b.ex = true) : a.ex = true := by cases a <;> cases b <;> simp_all [HLe, Ob.ex, Ob.parOk]

theorem HLe.box {a : List L} {b : Ob} (k : HLe (.box a) b) (hg : b ≠ .gone) : ∃ ls, b = .box ls ∧ ls.length = a.length := by
 cases b with
 | box ls => exact ⟨ls, rfl, Eq.symm k⟩
 | gone => exact absurd rfl hg
 | _ => exact k.elim
theorem take_back (C : Core F α ok h w) {tr : List Nat} {obs obs' : List Ob} {okc : Nat → Prop} {new : Nat} {h2 : Heap} {ret : Bool} (hm : F.m ≤ new) (hl : obs.length = tr.length) (hn : tr.Nodup) (hal : ∀ o ∈ tr, (h o).alive = true)
  (Se : SeatK h α tr (heapOf obs) (alphaOf α tr)) (Cc : Core ⟨F.P, F.tabs, w, tr.length, alphaOf α tr, heapOf obs, okc⟩ α' ok' (heapOf obs') w') (hs : ∀ o ∈ tr, o < new ∨ new + obs'.length ≤ o)
  (hb : (backH tr new h 0 obs').gives h2) (hret : ret = true → ∀ b, okc b → ok b) (hfl : ret = false → obsFlat obs' = true) (hng : (obs'.all fun b => !b.isGrid) = true) :
  ∃ α2, Core F α2 (fun b => ok b ∨ (ret = true ∧ ok' b)) h2 w' ∧ Stay w α ok h w' α2 (fun b => ok b ∨ (ret = true ∧ ok' b)) h2 ∧
   (∀ l v, (ret = true ∨ flatL l = true) → LR w' α' ok' (heapOf obs') l v → LR w' α2 (fun b => ok b ∨ (ret = true ∧ ok' b)) h2 (backL tr new l) v) ∧
   (∀ x, x ∉ tr → h x ≠ .none → h2 x = h x) ∧
   (∀ x ls g off (cs : Array Value) e, h x = .box ls → α x = .pointer (some ⟨g, off, none⟩) → w.heap[g]? = some (.cells cs e (0, 0)) → ∃ cs' : Array Value, w'.heap[g]? = some (.cells cs' e (0, 0)) ∧ cs'.size = cs.size ∧ ∀ j, (j < off ∨ off + ls.length ≤ j) → cs'[j]? = cs[j]?) := by
 have inj : ∀ j j', j < obs'.length → j' < obs'.length → backN tr new (0 + j) = backN tr new (0 + j') → j = j' := fun j j' hj hj' e => by
  rw [Nat.zero_add, Nat.zero_add] at e; exact backN_inj hn hs hj hj' e
 obtain ⟨b1, b2, b3⟩ := backH_ok inj hb
 simp only [Nat.zero_add] at b1 b2 b3
 have hpar : ∀ k, k < tr.length → ∃ o, tr[k]? = some o ∧ o ∈ tr ∧ SameK (h o) (heapOf obs k) ∧ alphaOf α tr k = α o ∧ α' k = α o ∧ HLe (heapOf obs k) (heapOf obs' k) ∧ (heapOf obs k).parOk = true := fun k hk => by
  have hk' : tr[k]? = some tr[k] := List.getElem?_eq_getElem hk
  obtain ⟨p1, p2, p3, p4⟩ := Cc.par k hk
  exact ⟨_, hk', List.mem_of_getElem? hk', (Se k _ hk').1, (Se k _ hk').2, p1.trans (Se k _ hk').2, p2, p4⟩
 have hlen : tr.length ≤ obs'.length := by
  rcases Nat.lt_or_ge obs'.length tr.length with hlt | hge
  ·exfalso
   obtain ⟨o, _, _, _, _, _, q1, q2⟩ := hpar _ hlt
   rw [heapOf_out (Nat.le_refl _)] at q1
   cases hh : heapOf obs obs'.length <;> rw [hh] at q1 q2 <;> simp_all [HLe, Ob.parOk]
  ·exact hge
 have hexo : ∀ k b, k < tr.length → (heapOf obs k).ex = true → blk (alphaOf α tr k) = some b → ∃ o ∈ tr, tr[k]? = some o ∧ (h o).ex = true ∧ blk (α o) = some b := fun k b hk he hb => by
  obtain ⟨o, h1, h2, h3, h4, _⟩ := hpar k hk
  exact ⟨o, h2, h1, by rw [h3.ex]; exact he, by rw [← h4]; exact hb⟩
 have hexp : ∀ k b, k < tr.length → (heapOf obs' k).ex = true → blk (α' k) = some b → ∃ o ∈ tr, tr[k]? = some o ∧ (h o).ex = true ∧ blk (α o) = some b := fun k b hk he hb => by
  obtain ⟨o, h1, h2, h3, h4, h5, h6, h7⟩ := hpar k hk
  exact ⟨o, h2, h1, by rw [h3.ex]; exact h6.exb h7 he, by rw [← h5]; exact hb⟩
 have hfresh : ∀ k b, (heapOf obs' k).ex = true → blk (α' k) = some b → w.heap.size ≤ b ∨ ∃ o ∈ tr, (h o).ex = true ∧ blk (α o) = some b := fun k b he hb => by
  rcases Nat.lt_or_ge k tr.length with hk | hk
  ·obtain ⟨o, h1, _, h3, h4⟩ := hexp k b hk he hb
   exact .inr ⟨o, h1, h3, h4⟩
  ·rcases Cc.fresh k b hk he hb with hf | ⟨k2, hk2, he2, hb2⟩
   ·exact .inl hf
   ·obtain ⟨o, h1, _, h3, h4⟩ := hexo k2 b hk2 he2 hb2
    exact .inr ⟨o, h1, h3, h4⟩
 have hparam : ∀ o b, (h o).ex = true → blk (α o) = some b → b < F.w0.heap.size → ∃ k, k < F.m ∧ (F.h0 k).ex = true ∧ blk (F.α0 k) = some b := fun o b he hb hlt => by
  by_cases hom : F.m ≤ o
  ·rcases C.fresh o b hom he hb with hf | hf
   ·omega
   ·exact hf
  ·have hom : o < F.m := by omega
   exact ⟨o, hom, (C.par o hom).2.1.exb (C.par o hom).2.2.2 he, (C.par o hom).1 ▸ hb⟩
 let α2 : Nat → Value := fun x => if new ≤ x ∧ x < new + (obs'.length - tr.length) then α' (tr.length + (x - new)) else α x
 have hα2 : ∀ k, k < obs'.length → α2 (backN tr new k) = α' k := fun k hk => by
  rcases Nat.lt_or_ge k tr.length with h1 | h1
  ·obtain ⟨o, h3, h4, _, _, h5, _⟩ := hpar k h1
   rw [backN_in h3]
   have := hs o h4
   show (if new ≤ o ∧ o < new + (obs'.length - tr.length) then _ else α o) = _
   rw [if_neg (by omega)]; exact h5.symm
  ·rw [backN_out h1]
   show (if new ≤ new + (k - tr.length) ∧ new + (k - tr.length) < new + (obs'.length - tr.length) then α' (tr.length + (new + (k - tr.length) - new)) else _) = _
   rw [if_pos (by omega), show tr.length + (new + (k - tr.length) - new) = k by omega]
 have hα2o : ∀ x, h x ≠ .none → α2 x = α x := fun x hx => by
  show (if new ≤ x ∧ x < new + (obs'.length - tr.length) then _ else α x) = _
  rw [if_neg]
  rintro ⟨h1, h3⟩
  have := b3 (tr.length + (x - new)) (by omega) (by omega)
  rw [backN_out (by omega), show new + (tr.length + (x - new) - tr.length) = x by omega] at this
  exact hx this
 have hα2m : ∀ x, x < F.m → α2 x = α x := fun x hx => by
  show (if new ≤ x ∧ x < new + (obs'.length - tr.length) then _ else α x) = _
  rw [if_neg (by omega)]
 have hH : ∀ k, heapOf obs' k ≠ .none → SameK (heapOf obs' k) (h2 (backN tr new k)) ∧ α2 (backN tr new k) = α' k := fun k hk => by
  have hlt : k < obs'.length := by
   rcases Nat.lt_or_ge k obs'.length with h1 | h1
   ·exact h1
   ·exact absurd (heapOf_out h1) hk
  have hb' : obs'[k]? = some obs'[k] := List.getElem?_eq_getElem hlt
  rw [heapOf_get hb', b1 k _ hb']
  exact ⟨SameK.back _ _ _, hα2 k hlt⟩
 have htr : ∀ o ∈ tr, ∃ k, k < obs'.length ∧ k < tr.length ∧ tr[k]? = some o ∧ o = backN tr new k := fun o ho => by
  obtain ⟨k, hk⟩ := List.getElem?_of_mem ho
  have hlt := (List.getElem?_eq_some_iff.1 hk).1
  exact ⟨k, by omega, hlt, hk, (backN_in hk).symm⟩
 have hcls : ∀ x, (∃ k, k < obs'.length ∧ x = backN tr new k ∧ SameK (heapOf obs' k) (h2 x) ∧ h2 x = backO tr new (heapOf obs' k) ∧ α2 x = α' k) ∨ ((∀ k, k < obs'.length → x ≠ backN tr new k) ∧ h2 x = h x ∧ x ∉ tr) := fun x => by
  by_cases hx : ∃ k, k < obs'.length ∧ x = backN tr new k
  ·obtain ⟨k, hk, rfl⟩ := hx
   have hb' : obs'[k]? = some obs'[k] := List.getElem?_eq_getElem hk
   have e : h2 (backN tr new k) = backO tr new (heapOf obs' k) := by rw [heapOf_get hb', b1 k _ hb']
   exact .inl ⟨k, hk, rfl, by rw [e]; exact SameK.back _ _ _, e, hα2 k hk⟩
  ·have hx' : ∀ k, k < obs'.length → x ≠ backN tr new k := fun k hk e => hx ⟨k, hk, e⟩
   exact .inr ⟨hx', b2 x hx', fun ho => by obtain ⟨k, hk, _, _, e⟩ := htr x ho; exact hx' k hk e⟩
 have sok : ∀ b, b < w.heap.size → (∀ o ∈ tr, (h o).ex = true → blk (α o) ≠ some b) → w'.heap[b]? = w.heap[b]? := fun b hb hne =>
  Cc.fr.block b hb fun k hk he e => by
   obtain ⟨o, h1, _, h3, h4⟩ := hexo k b hk he e
   exact hne o h1 h3 h4
 have hsize : w.heap.size ≤ w'.heap.size := Cc.fr.size
 have hgrid : ∀ x, (h2 x).isGrid = true → h2 x = h x ∧ x ∉ tr := fun x hx => by
  rcases hcls x with ⟨k, hk, _, _, e, _⟩ | ⟨_, e, hnt⟩
  ·exfalso
   rw [e, backO_grid, heapOf_noGrid hng k] at hx
   cases hx
  ·exact ⟨e, hnt⟩
 have hgsok : ∀ x g, (h2 x).isGrid = true → blk (α x) = some g → w'.heap[g]? = w.heap[g]? := fun x g hx hg => by
  obtain ⟨e, hnt⟩ := hgrid x hx
  have hxe : (h x).ex = true := by rw [e] at hx; exact isGrid_ex hx
  exact sok g (C.lt hxe hg) fun o ho he' e' => hnt (C.sep x o g hxe he' hg e' ▸ ho)
 have st : Stay w α ok h w' α2 (fun b => ok b ∨ (ret = true ∧ ok' b)) h2 := by
  refine ⟨fun b hb => ⟨.inl hb, sok b (C.okb b hb).1 fun o _ he e => C.sepok o b he e hb⟩, fun x => ?_, hα2o, fun x g hv hg => hgsok x g (sameV_grid hv).2 hg⟩
  rcases hcls x with ⟨k, hk, hx, s1, _, _⟩ | ⟨_, e, _⟩
  ·rcases Nat.lt_or_ge k tr.length with h1 | h1
   ·obtain ⟨o, h3, h4, h5, _, _, h6, _⟩ := hpar k h1
    rw [backN_in h3] at hx; subst hx
    exact HLe.same h5 h6 s1
   ·have := b3 k hk h1
    rw [← hx] at this; rw [this]; trivial
  ·rw [e]; exact .refl _
 have hex2 : ∀ x b, (h2 x).ex = true → blk (α2 x) = some b → (∃ k, k < obs'.length ∧ x = backN tr new k ∧ (heapOf obs' k).ex = true ∧ blk (α' k) = some b) ∨ ((h x).ex = true ∧ blk (α x) = some b ∧ x ∉ tr) := fun x b he hb => by
  rcases hcls x with ⟨k, hk, hx, s1, _, e⟩ | ⟨_, e, h3⟩
  ·exact .inl ⟨k, hk, hx, by rw [s1.ex]; exact he, by rw [← e]; exact hb⟩
  ·rw [e] at he
   rw [hα2o x (fun e' => by rw [e'] at he; simp [Ob.ex] at he)] at hb
   exact .inr ⟨he, hb, h3⟩
 have hI : ∀ x i g, Inn w' (α2 x) (h2 x) i g → Inn w (α x) (h x) i g := fun x i g k => by
  have hx : (h2 x).isGrid = true := by obtain ⟨_, _, _, _, _, e⟩ := k.grid; rw [e]; rfl
  have e := (hgrid x hx).1
  have k2 := k
  rw [e, hα2o x (fun e' => by rw [e'] at e; rw [e] at hx; cases hx)] at k2
  exact (Inn.same fun g hg => hgsok x g hx hg).1 k2
 refine ⟨α2, ⟨fun x => ?_, fun x y b hx hy bx by_ => ?_, fun x b hx bx => ?_, fun b hb => ?_, fun k hk => ?_, fun x b hx he hb => ?_, ?_, fun p hp => ⟨(st.ok p.1 (C.tab p hp).2).2.trans (C.tab p hp).1, .inl (C.tab p hp).2⟩, C.gr_of (ok' := fun b => ok b ∨ (ret = true ∧ ok' b)) hsize hI (fun x i g _ k h3 => ?_) (fun x i g k y hy hb => ?_)⟩, st, fun l v hrl r => ?_, fun x hx hn' => ?_, fun x ls g off cs e hx hα hg => ?_⟩
 ·
  rcases hcls x with ⟨k, hk, hx, s1, e, ea⟩ | ⟨_, e, hnt⟩
  ·have hob := Cc.ob k
   have hb' : obs'[k]? = some obs'[k] := List.getElem?_eq_getElem hk
   have hflat : ret = false → (∀ ls, heapOf obs' k = .box ls → ls.all flatL = true) ∧ (∀ e c l, heapOf obs' k = .row e c l → noList c = true) ∧ (∀ c l, heapOf obs' k ≠ .ice c l) := fun hr => by
    have key : ∀ (l : List Ob), obsFlat l = true → ∀ b ∈ l, (∀ ls, b = .box ls → ls.all flatL = true) ∧ (∀ e c l, b = .row e c l → noList c = true) ∧ (∀ c l, b ≠ .ice c l) := by
     intro l
     induction l with
     | nil => intro _ b hb; simp at hb
     | cons x r ih =>
      intro hf b hb
      cases x <;> simp only [obsFlat, Bool.and_eq_true, Bool.false_eq_true] at hf <;> rcases List.mem_cons.1 hb with rfl | hb
      all_goals first
       | exact ih hf.2 b hb
       | exact ih hf b hb
       | exact ⟨fun ls e => by first | (simp at e; subst e; exact hf.1) | (cases e), fun e c l e' => by first | (simp at e'; obtain ⟨_, rfl, _⟩ := e'; exact hf.1) | (cases e'), fun c l e => by cases e⟩
    rw [heapOf_get hb']
    exact key obs' (hfl hr) _ (List.mem_of_getElem? hb')
   rw [e]
   cases hh : heapOf obs' k with
   | none => trivial
   | gone => trivial
   | lock c l => trivial
   | grid => have := heapOf_noGrid hng k; rw [hh] at this; cases this
   | box ls =>
    rw [hh] at hob
    obtain ⟨g, off, cs, et, ha, hg, vs, hls, hv⟩ := hob
    refine ⟨g, off, cs, et, by rw [ea]; exact ha, hg, vs, ?_, hv⟩
    have : ls.map (backL tr new) = ls.map (renL (backN tr new)) := List.map_congr_left fun l _ => backL_ren tr new l
    show LsR w' α2 _ h2 (ls.map (backL tr new)) vs
    rw [this]
    refine LsR.ren hH ?_ hls
    cases hr : ret with
    | true => exact .inl fun b hb => .inr ⟨rfl, hb⟩
    | false => exact .inr ((hflat hr).1 ls hh)
   | row et c l =>
    rw [hh] at hob
    obtain ⟨xs, how, hr⟩ := hob
    refine ⟨xs, by rw [ea]; exact how, ?_⟩
    cases hrt : ret with
    | true => exact hr.mono fun b hb => ⟨.inr ⟨rfl, hb⟩, rfl⟩
    | false => exact hr.flat ((hflat hrt).2.1 et c l hh)
   | ice c l =>
    rw [hh] at hob
    simp only [ObR, backO] at hob ⊢
    rw [ea]
    cases hrt : ret with
    | true => exact Rep.mono (fun b hb => ⟨.inr ⟨rfl, hb⟩, rfl⟩) hob
    | false => exact absurd hh ((hflat hrt).2.2 c l)
  ·rw [e]
   refine (C.ob x).stay st (fun g he hg => sok g (C.lt he hg) fun o ho he' e' => ?_) (fun h1 _ => hα2o x h1) (fun i g k => sok g (C.gr k).2.1 fun o ho he' => (C.gr k).2.2.2.1 o he')
   exact hnt (C.sep x o g he he' hg e' ▸ ho)
 ·
  rcases hex2 x b hx bx with ⟨k, hk, rfl, e1, f1⟩ | ⟨e1, f1, n1⟩ <;> rcases hex2 y b hy by_ with ⟨k', hk', rfl, e2, f2⟩ | ⟨e2, f2, n2⟩
  ·rw [Cc.sep k k' b e1 e2 f1 f2]
  ·exfalso
   rcases hfresh k b e1 f1 with hf | ⟨o, ho, h3, h4⟩
   ·have := C.lt e2 f2; omega
   ·exact n2 (C.sep y o b e2 h3 f2 h4 ▸ ho)
  ·exfalso
   rcases hfresh k' b e2 f2 with hf | ⟨o, ho, h3, h4⟩
   ·have := C.lt e1 f1; omega
   ·exact n1 (C.sep x o b e1 h3 f1 h4 ▸ ho)
  ·exact C.sep x y b e1 e2 f1 f2
 ·
  rcases hex2 x b hx bx with ⟨k, hk, rfl, e1, f1⟩ | ⟨e1, f1, n1⟩
  ·rintro (h3 | ⟨_, h3⟩)
   ·rcases hfresh k b e1 f1 with hf | ⟨o, ho, h4, h5⟩
    ·have := (C.okb b h3).1; omega
    ·exact C.sepok o b h4 h5 h3
   ·exact Cc.sepok k b e1 f1 h3
  ·rintro (h3 | ⟨hr, h3⟩)
   ·exact C.sepok x b e1 f1 h3
   ·rcases (Cc.okb b h3).2 (C.lt e1 f1) with h4 | ⟨k, hk, h4, h5⟩
    ·exact C.sepok x b e1 f1 (hret hr b h4)
    ·obtain ⟨o, ho, _, h6, h7⟩ := hexo k b hk h4 h5
     exact n1 (C.sep x o b e1 h6 f1 h7 ▸ ho)
 ·
  rcases hb with h3 | ⟨hr, h3⟩
  ·exact ⟨Nat.lt_of_lt_of_le (C.okb b h3).1 hsize, (C.okb b h3).2⟩
  ·refine ⟨(Cc.okb b h3).1, fun hlt => ?_⟩
   have hlt' : b < w.heap.size := Nat.lt_of_lt_of_le hlt C.fr.size
   rcases (Cc.okb b h3).2 hlt' with h4 | ⟨k, hk, h4, h5⟩
   ·exact (C.okb b (hret hr b h4)).2 hlt
   ·obtain ⟨o, ho, _, h6, h7⟩ := hexo k b hk h4 h5
    exact .inr (hparam o b h6 h7 hlt)
 ·
  refine ⟨(hα2m k hk).trans (C.par k hk).1, (C.par k hk).2.1.trans (st.le k) fun h1 => (C.par k hk).2.1.ne h1, fun ls hls hg => ?_, (C.par k hk).2.2.2⟩
  have h3 : ∃ ls', h k = .box ls' := by
   have h4 := (C.par k hk).2.1; have h5 := (C.par k hk).2.2.1 ls hls
   rw [hls] at h4
   obtain ⟨ls', e1, _⟩ := h4.box h5
   exact ⟨ls', e1⟩
  obtain ⟨ls', h3⟩ := h3
  rcases hcls k with ⟨j, hj, hx, s1, _, _⟩ | ⟨_, e, _⟩
  ·rcases Nat.lt_or_ge j tr.length with h4 | h4
   ·obtain ⟨o, h5, h6, h7, _⟩ := hpar j h4
    rw [backN_in h5] at hx; subst hx
    rw [h3] at h7
    rw [hg] at s1
    cases hh : heapOf obs j with
    | box ls2 =>
     have h8 := (Cc.par j h4).2.2.1 ls2 hh
     have h9 := (Cc.par j h4).2.1
     have h10 : HLe (.box ls2) (heapOf obs' j) := by rw [← hh]; exact h9
     obtain ⟨ls3, e3, _⟩ := h10.box h8
     rw [e3] at s1
     exact s1
    | _ => rw [hh] at h7; exact h7.elim
   ·have := b3 j hj h4
    rw [← hx, h3] at this; cases this
  ·rw [e, h3] at hg; cases hg
 ·
  rcases hex2 x b he hb with ⟨k, hk, rfl, e1, f1⟩ | ⟨e1, f1, n1⟩
  ·rcases hfresh k b e1 f1 with hf | ⟨o, ho, h4, h5⟩
   ·exact .inl (Nat.le_trans C.fr.size hf)
   ·by_cases hlt : b < F.w0.heap.size
    ·exact .inr (hparam o b h4 h5 hlt)
    ·exact .inl (by omega)
  ·exact C.fresh x b hx e1 f1
 ·
  refine ⟨Cc.fr.os.trans C.fr.os, Cc.fr.tape.trans C.fr.tape, Cc.fr.output.trans C.fr.output, Nat.le_trans C.fr.size hsize, fun b hb hne => ?_, fun k ls g off cs e h1 h3 h4 h5 => ?_⟩
  ·rw [sok b (Nat.lt_of_lt_of_le hb C.fr.size) fun o ho he' e' => ?_]
   ·exact C.fr.block b hb hne
   ·obtain ⟨k, hk, h3, h4⟩ := hparam o b he' e' hb
    exact hne k hk h3 h4
  ·obtain ⟨cs', h6, h7, h8⟩ := C.fr.part k ls g off cs e h1 h3 h4 h5
   have hkb : ∃ ls', h k = .box ls' ∧ ls'.length = ls.length := by
    have h9 := (C.par k h1).2.1; have h10 := (C.par k h1).2.2.1 ls h3
    rw [h3] at h9
    exact h9.box h10
   obtain ⟨ls', hk', hll⟩ := hkb
   have hαk : α k = .pointer (some ⟨g, off, none⟩) := (C.par k h1).1.trans h4
   by_cases hkt : k ∈ tr
   ·obtain ⟨j, _, hj, hj2, _⟩ := htr k hkt
    obtain ⟨o, h9, _, h10, h11, _⟩ := hpar j hj
    rw [hj2] at h9; simp at h9; subst h9
    rw [hk'] at h10
    cases hh : heapOf obs j with
    | box ls2 =>
     rw [hh] at h10
     have hl2 : ls'.length = ls2.length := h10
     obtain ⟨cs2, h12, h13, h14⟩ := Cc.fr.part j ls2 g off cs' e hj hh (h11.trans hαk) h6
     exact ⟨cs2, h12, h13.trans h7, fun q hq => (h14 q (by rw [← hl2, hll]; exact hq)).trans (h8 q hq)⟩
    | _ => rw [hh] at h10; exact h10.elim
   ·refine ⟨cs', (sok g (lt_of_heap h6) fun o ho he' e' => ?_).trans h6, h7, h8⟩
    exact hkt (C.sep k o g (by rw [hk']; rfl) he' (by rw [hαk]; rfl) e' ▸ ho)
 ·
  rcases h3 with h3 | ⟨hr, h3⟩
  ·exact (C.gr k).2.2.1 h3
  ·rcases (Cc.okb g h3).2 (C.gr k).2.1 with h4 | ⟨k', hk, h4, h5⟩
   ·exact (C.gr k).2.2.1 (hret hr g h4)
   ·obtain ⟨o, ho, _, h6, h7⟩ := hexo k' g hk h4 h5
    exact (C.gr k).2.2.2.1 o h6 h7
 ·rcases hex2 y g hy hb with ⟨k', hk, rfl, e1, f1⟩ | ⟨e1, f1, n1⟩
  ·rcases hfresh k' g e1 f1 with hf | ⟨o, ho, h4, h5⟩
   ·have := (C.gr k).2.1; omega
   ·exact (C.gr k).2.2.2.1 o h4 h5
  ·exact (C.gr k).2.2.2.1 y e1 f1
 ·
  rw [backL_ren]
  refine LR.ren hH ?_ r
  rcases hrl with hr | hr
  ·exact .inl fun b hb => .inr ⟨hr, hb⟩
  ·exact .inr hr
 ·refine b2 x fun k hk e => ?_
  rcases Nat.lt_or_ge k tr.length with h1 | h1
  ·obtain ⟨o, h3, h4, _⟩ := hpar k h1
   rw [backN_in h3] at e; exact hx (e ▸ h4)
  ·have := b3 k hk h1
   rw [← e] at this; exact hn' this
 ·by_cases hkt : x ∈ tr
  ·obtain ⟨j, _, hj, hj2, _⟩ := htr x hkt
   obtain ⟨o, h9, _, h10, h11, _⟩ := hpar j hj
   rw [hj2] at h9; simp at h9; subst h9
   rw [hx] at h10
   cases hh : heapOf obs j with
   | box ls2 =>
    rw [hh] at h10
    have hl2 : ls.length = ls2.length := h10
    obtain ⟨cs2, h12, h13, h14⟩ := Cc.fr.part j ls2 g off cs e hj hh (h11.trans hα) hg
    exact ⟨cs2, h12, h13, fun q hq => h14 q (by rw [← hl2]; exact hq)⟩
   | _ => rw [hh] at h10; exact h10.elim
  ·refine ⟨cs, (sok g (lt_of_heap hg) fun o ho he' e' => ?_).trans hg, rfl, fun _ _ => rfl⟩
   exact hkt (C.sep x o g (by rw [hx]; rfl) he' (by rw [hα]; rfl) e' ▸ ho)
end
end Go.VI
namespace Go.VI
open Go
section
variable {F : Fx} {α : Nat → Value} {ok : Nat → Prop} {h h' : Heap} {w : World}
structure PartOK (F : Fx) (w : World) (α : Nat → Value) (ok : Nat → Prop) (h : Heap) (p : Part) (g cap : Nat) (cur : Array Value) (xs : List Value) : Prop where
 lock : h p.o = .lock p.c p.l
 box : ∃ ls, h p.id = .box ls ∧ ls.length = p.n
 lt : p.i < p.l.length
 al : α p.o = .slice (some ⟨g, 0, none⟩) p.l.length cap
 heap : w.heap[g]? = some (.cells cur p.e (0, 0))
 c1 : p.l.length ≤ cap
 c2 : cap ≤ maxLen
 c3 : cur.size = cap * p.c.size
 tk : cur.toList.take (p.l.length * p.c.size) = xs
 len : xs.length = p.l.length * p.c.size
 rows : Rows w ok p.c p.l xs
 ptr : α p.id = .pointer (some ⟨g, p.i * p.c.size + p.j, none⟩)
 id : F.m ≤ p.id
theorem core_split (C : Core F α ok h w) {o i j n id : Nat} {e : TypeId} {c : TC} {l : List c.α} {ls : List L} {v : Value} (ho : h o = .row e c l) (hid : F.m ≤ id) (hn : (newOb (upd h o (.lock c l)) id (.box ls)).gives h')
  (hl : (loadL h n (.ptr o i j)).gives ls) (k : LR w α ok h (.ptr o i j) v) :
  ∃ g cap cur xs, Core F (setA α id v) ok h' w ∧ Stay w α ok h w (setA α id v) ok h' ∧ PartOK F w (setA α id v) ok h' ⟨id, o, i, j, n, e, c, l⟩ g cap cur xs ∧ LR w (setA α id v) ok h' (.ptr id 0 0) v ∧ (∀ x, x ≠ o → h x ≠ .none → h' x = h x) := by
 obtain ⟨hnone, rfl⟩ := newOb_ok hn
 obtain ⟨g, off, vs, hv, hls, hlen, hc⟩ := loadL_ok C hl k
 simp only [LR, PtrR, ho] at k
 obtain ⟨_, hi, g2, o2, n2, k2, hα, hv2⟩ := k
 rw [hv] at hv2; simp at hv2; obtain ⟨rfl, hoff⟩ := hv2
 have hob := C.ob o
 rw [ho] at hob
 obtain ⟨xs, how, hr⟩ := hob
 have hoid : o ≠ id := fun e' => by rw [← e', upd_same] at hnone; cases hnone
 rw [upd_other (Ne.symm hoid)] at hnone
 have hex : (h o).ex = true := by rw [ho]; rfl
 have hblk : blk (α o) = some g := by rw [hα]; rfl
 have hval : ∀ x, upd (upd h o (.lock c l)) id (.box ls) x = if x = id then .box ls else if x = o then .lock c l else h x := fun x => by rw [upd_eq, upd_eq]
 have st : Stay w α ok h w (setA α id v) ok (upd (upd h o (.lock c l)) id (.box ls)) := by
  refine ⟨fun b hb => ⟨hb, rfl⟩, fun x => ?_, fun x hx => setA_other fun e' => hx (e' ▸ hnone), fun _ _ _ _ => rfl⟩
  rw [hval]; split
  ·rename_i e'; rw [e', hnone]; trivial
  ·split
   ·rename_i e'; rw [e', ho]; exact ⟨rfl, rfl⟩
   ·exact .refl _
 rcases how.2 with ⟨hv3, hz⟩ | ⟨g3, cap, cur, hv3, _, hh, hnc, hcm, hcs, ht⟩
 ·rw [hv3] at hα; cases hα
 ·have hα' := hα
  rw [hv3] at hα'; simp at hα'; obtain ⟨⟨rfl, rfl⟩, rfl, rfl⟩ := hα'
  have hcell : ∀ (q : Nat) u, vs[q]? = some u → cur[off + q]? = some u := fun q u hq => by
   have := hc q u hq
   rwa [cell_of_row w g3 _ cur e (0, 0) hh] at this
  have hout : ∀ (x : Nat) (b : Nat), x ≠ id → (upd (upd h o (.lock c l)) id (.box ls) x).ex = true → (h x).ex = true ∧ x ≠ o := fun x b hx he => by
   rw [hval, if_neg hx] at he
   split at he
   ·simp [Ob.ex] at he
   ·rename_i e'; exact ⟨he, e'⟩
  refine ⟨g3, cap, cur, xs, ⟨fun x => ?_, fun x y b h1 h2 h3 h4 => ?_, fun x b h1 h2 => ?_, C.okb, fun q hq => ?_, fun x b h1 h2 h3 => ?_, C.fr, C.tab, C.gr_of (Nat.le_refl _) (fun x i g k => ?_) (fun x i g _ k => (C.gr k).2.2.1) (fun x i g k y hy hb => ?_)⟩, st, ?_, ?_, fun x hx hx2 => ?_⟩
  ·rw [hval]; split
   ·rename_i e'; subst e'
    exact ⟨g3, off, cur, e, by rw [setA_same]; exact hv, hh, vs, LsR.stay st hls, hcell⟩
   ·rename_i e1
    split
    ·trivial
    ·exact (C.ob x).stay st (fun _ _ _ => rfl) (fun _ _ => setA_other e1) (fun _ _ _ => rfl)
  ·by_cases e1 : x = id <;> by_cases e2 : y = id
   ·rw [e1, e2]
   ·obtain ⟨p1, p2⟩ := hout y b e2 h2
    subst e1; rw [setA_same, hv] at h3; rw [setA_other e2] at h4
    simp [blk] at h3; subst h3
    exact absurd (C.sep y o g3 p1 hex h4 hblk) p2
   ·obtain ⟨p1, p2⟩ := hout x b e1 h1
    subst e2; rw [setA_same, hv] at h4; rw [setA_other e1] at h3
    simp [blk] at h4; subst h4
    exact absurd (C.sep x o g3 p1 hex h3 hblk) p2
   ·rw [setA_other e1] at h3; rw [setA_other e2] at h4
    exact C.sep x y b (hout x b e1 h1).1 (hout y b e2 h2).1 h3 h4
  ·by_cases e1 : x = id
   ·subst e1; rw [setA_same, hv] at h2; simp [blk] at h2; subst h2
    exact C.sepok o g3 hex hblk
   ·rw [setA_other e1] at h2; exact C.sepok x b (hout x b e1 h1).1 h2
  ·have e1 : q ≠ id := by omega
   rw [setA_other e1]
   refine ⟨(C.par q hq).1, (C.par q hq).2.1.trans (st.le q) fun h1 => (C.par q hq).2.1.ne h1, fun ls' hls' => ?_, (C.par q hq).2.2.2⟩
   rw [hval, if_neg e1]; split
   ·simp
   ·exact (C.par q hq).2.2.1 ls' hls'
  ·by_cases e1 : x = id
   ·subst e1; rw [setA_same, hv] at h3; simp [blk] at h3; subst h3
    by_cases hom : F.m ≤ o
    ·exact C.fresh o g3 hom hex hblk
    ·have hom : o < F.m := by omega
     exact .inr ⟨o, hom, (C.par o hom).2.1.exb (C.par o hom).2.2.2 hex, (C.par o hom).1 ▸ hblk⟩
   ·rw [setA_other e1] at h3; exact C.fresh x b h1 (hout x b e1 h2).1 h3
  ·rw [hval] at k
   split at k
   ·exact k.elim
   ·rename_i e1
    split at k
    ·exact k.elim
    ·rw [setA_other e1] at k; exact k
  ·by_cases e1 : y = id
   ·subst e1; rw [setA_same, hv] at hb; simp [blk] at hb; subst hb
    exact (C.gr k).2.2.2.1 o hex hblk
   ·rw [setA_other e1] at hb; exact (C.gr k).2.2.2.1 y (hout y g e1 hy).1 hb
  ·have hoff' : off = i * c.size + j := by omega
   exact ⟨by rw [hval, if_neg hoid, if_pos rfl], ⟨ls, by rw [hval, if_pos rfl], (F2.length hls).trans hlen⟩, hi, by rw [setA_other hoid]; exact hv3, hh, hnc, hcm, hcs, ht, how.1, hr, by rw [setA_same, hv, hoff'], hid⟩
  ·refine ⟨⟨g3, off, hv⟩, ?_⟩
   rw [upd_same, setA_same]
   exact ⟨rfl, g3, off, hv, by rw [hv]; rfl⟩
  ·have hxi : x ≠ id := fun e' => hx2 (by rw [e']; exact hnone)
   rw [hval, if_neg hxi, if_neg hx]
theorem core_merge (C : Core F α ok h w) {p : Part} {w0 : World} {ok0 : Nat → Prop} {g cap : Nat} {cur cur' : Array Value} {xs : List Value} {h0 : Heap} {α0 : Nat → Value} (P : PartOK F w0 α0 ok0 h0 p g cap cur xs)
  (hlock : h p.o = .lock p.c p.l) (hal : α p.o = α0 p.o) (hpt : α p.id = α0 p.id) (hok : ∀ b, ok0 b → ok b ∧ w.heap[b]? = w0.heap[b]?) (hcur : w.heap[g]? = some (.cells cur' p.e (0, 0))) (hsz : cur'.size = cur.size)
  (hout : ∀ q, (q < p.i * p.c.size + p.j ∨ p.i * p.c.size + p.j + p.n ≤ q) → cur'[q]? = cur[q]?) {ls ls' : List L} (hb : h p.id = .box ls) (hn : ls.length = p.n) (hjn : p.j + p.n ≤ p.c.size) (hs : (solids h ls).gives (ls', h')) {x : p.c.α}
  (hx : unleaves p.c ((leaves p.c (p.l.getD p.i p.c.dflt)).take p.j ++ ls' ++ (leaves p.c (p.l.getD p.i p.c.dflt)).drop (p.j + ls'.length)) = some x) :
  ∃ ok', Core F α ok' (upd (upd h' p.id .gone) p.o (.row p.e p.c (p.l.set p.i x))) w ∧ Stay w α ok h w α ok' (upd (upd h' p.id .gone) p.o (.row p.e p.c (p.l.set p.i x))) := by
 obtain ⟨id, o, i, j, n, e, c, l⟩ := p
 simp only at *
 have hob := C.ob id
 rw [hb] at hob
 obtain ⟨g2, off, cs, et, hα, hh, vs, hls, hv⟩ := hob
 rw [hpt, P.ptr] at hα; simp at hα; obtain ⟨rfl, rfl⟩ := hα
 rw [hcur] at hh; simp at hh; obtain ⟨rfl, rfl⟩ := hh
 obtain ⟨ok1, C1, s1, i1, k1⟩ := solids_ok C hs hls
 have hoid : o ≠ id := fun e' => by rw [e', hb] at hlock; cases hlock
 have hlock1 : h' o = .lock c l := by
  rcases i1 o with e' | ⟨_, _, _, h3, _⟩ | ⟨_, _, _, _, h3, _⟩
  ·rw [e', hlock]
  ·rw [hlock] at h3; cases h3
  ·rw [hlock] at h3; cases h3
 have hb1 : h' id = .box ls := by
  rcases i1 id with e' | ⟨_, _, _, h3, _⟩ | ⟨_, _, _, _, h3, _⟩
  ·rw [e', hb]
  ·rw [hb] at h3; cases h3
  ·rw [hb] at h3; cases h3
 have hblk : blk (α id) = some g := by rw [hpt, P.ptr]; rfl
 have hblko : blk (α o) = some g := by rw [hal, P.al]; rfl
 have hexid : (h' id).ex = true := by rw [hb1]; rfl
 have hval : ∀ y, upd (upd h' id .gone) o (.row e c (l.set i x)) y = if y = o then .row e c (l.set i x) else if y = id then .gone else h' y := fun y => by rw [upd_eq, upd_eq]
 have st1 : Stay w α ok1 h' w α ok1 (upd (upd h' id .gone) o (.row e c (l.set i x))) := by
  refine ⟨fun b hb => ⟨hb, rfl⟩, fun y => ?_, fun y _ => rfl, fun _ _ _ _ => rfl⟩
  rw [hval]; split
  ·rename_i e'; rw [e', hlock1]; exact ⟨rfl, by simp⟩
  ·split
   ·cases h' y <;> trivial
   ·exact .refl _
 refine ⟨ok1, ⟨fun y => ?_, fun y z b h1 h2 h3 h4 => ?_, fun y b h1 h2 => ?_, C1.okb, fun q hq => ?_, fun y b h1 h2 h3 => ?_, C1.fr, C1.tab, C1.gr_of (Nat.le_refl _) (fun y i g k => ?_) (fun y i g _ k => (C1.gr k).2.2.1) (fun y i g k z hz hb => ?_)⟩, s1.trans st1⟩
 ·rw [hval]; split
  ·rename_i e'; subst e'
   have hr0 : Rows w ok1 c l xs := P.rows.mono fun b hb => ⟨(s1.ok b (hok b hb).1).1, (hok b hb).2⟩
   obtain ⟨y, hy⟩ : ∃ y, l[i]? = some y := ⟨l[i]'P.lt, List.getElem?_eq_getElem P.lt⟩
   have hd : l.getD i c.dflt = y := by simp [List.getD, hy]
   rw [hd] at hx
   obtain ⟨A, ci, B, hxs, hA, hrep, hset⟩ := hr0.split hy
   have hcl := hrep.length
   have hl1 : ls'.length = vs.length := F2.length k1
   have hl2 : ls.length = vs.length := F2.length hls
   have hnew : Rep w ok1 c x (ci.take j ++ vs ++ ci.drop (j + ls'.length)) :=
    unleaves_ok hx ((((leaves_ok (α := α) (h := h') hrep).take j).append k1).append ((leaves_ok hrep).drop _))
   have hxl : xs.length = l.length * c.size := P.len
   have htk : cur'.toList.take (l.length * c.size) = A ++ (ci.take j ++ vs ++ ci.drop (j + vs.length)) ++ B := by
    have hcur0 : cur.toList.take (l.length * c.size) = A ++ ci ++ B := by rw [P.tk, hxs]
    have hcurlen : l.length * c.size ≤ cur.toList.length := by
     have := congrArg List.length hcur0
     rw [← hxs, hxl, List.length_take] at this; omega
    have e1 : cur'.toList = cur.toList.take (A.length + j) ++ vs ++ cur.toList.drop (A.length + j + vs.length) := by
     apply List.ext_getElem?
     intro q
     have hAj : A.length + j + vs.length ≤ cur.toList.length := by
      have : (A ++ ci ++ B).length = l.length * c.size := by rw [← hxs, hxl]
      simp at this; omega
     rw [List.append_assoc, List.getElem?_append, List.length_take]
     split
     ·rename_i h7
      rw [List.getElem?_take, if_pos (by omega)]
      have := hout q (.inl (by rw [← hA]; omega))
      simpa using this
     ·rename_i h7
      rw [List.getElem?_append]
      split
      ·rename_i h8
       obtain ⟨u, hu⟩ : ∃ u, vs[q - min (A.length + j) cur.toList.length]? = some u := ⟨_, List.getElem?_eq_getElem h8⟩
       rw [hu]
       have := hv _ u hu
       rw [show i * c.size + j + (q - min (A.length + j) cur.toList.length) = q by rw [← hA]; omega] at this
       simpa using this
      ·rename_i h8
       rw [List.getElem?_drop]
       have := hout q (.inr (by rw [← hA]; omega))
       rw [show A.length + j + vs.length + (q - min (A.length + j) cur.toList.length - vs.length) = q by omega]
       simpa using this
    rw [e1]
    exact row_new hcur0 (by rw [← hxs]; exact hxl.symm) (by omega)
   have hlen2 : (l.set i x).length = l.length := by simp
   refine ⟨A ++ (ci.take j ++ vs ++ ci.drop (j + ls'.length)) ++ B, ⟨?_, .inr ⟨g, cap, cur', by rw [hlen2, hal]; exact P.al, Nat.zero_le _, hcur, by rw [hlen2]; exact P.c1, P.c2, by rw [hsz]; exact P.c3, ?_⟩⟩, hset x _ (fun b hb => hb) hnew⟩
   ·rw [hlen2, hl1, ← htk, List.length_take]
    have : l.length * c.size ≤ cap * c.size := Nat.mul_le_mul_right _ P.c1
    have : cur'.toList.length = cap * c.size := by rw [Array.length_toList, hsz]; exact P.c3
    omega
   ·rw [hlen2, htk, hl1]
  ·rename_i e1
   split
   ·trivial
   ·rename_i e2
    exact (C1.ob y).stay st1 (fun _ _ _ => rfl) (fun _ _ => rfl) (fun _ _ _ => rfl)
 ·have key : ∀ y b, (upd (upd h' id .gone) o (.row e c (l.set i x)) y).ex = true → blk (α y) = some b → (y = o ∧ b = g) ∨ (y ≠ o ∧ y ≠ id ∧ (h' y).ex = true) := fun y b he hb => by
   rw [hval] at he
   split at he
   ·rename_i e'; subst e'; rw [hblko] at hb; exact .inl ⟨rfl, (Option.some.inj hb).symm⟩
   ·split at he
    ·simp [Ob.ex] at he
    ·rename_i e1 e2; exact .inr ⟨e1, e2, he⟩
  rcases key y b h1 h3 with ⟨rfl, rfl⟩ | ⟨a1, a2, a3⟩ <;> rcases key z b h2 h4 with ⟨rfl, e'⟩ | ⟨b1, b2, b3⟩
  ·rfl
  ·exact absurd (C1.sep z id b b3 hexid h4 hblk) b2
  ·subst e'; exact absurd (C1.sep y id b a3 hexid h3 hblk) a2
  ·exact C1.sep y z b a3 b3 h3 h4
 ·rw [hval] at h1
  split at h1
  ·rename_i e'; subst e'; rw [hblko] at h2; simp at h2; subst h2; exact C1.sepok id g hexid hblk
  ·split at h1
   ·simp [Ob.ex] at h1
   ·exact C1.sepok y b h1 h2
 ·have e1 : q ≠ id := by have := P.id; simp only at this; omega
  refine ⟨(C1.par q hq).1, (C1.par q hq).2.1.trans (st1.le q) fun h1 => (C1.par q hq).2.1.ne h1, fun ls' hls' => ?_, (C1.par q hq).2.2.2⟩
  rw [hval]; split
  ·simp
  ·exact (C1.par q hq).2.2.1 ls' hls'
 ·rw [hval] at h2
  split at h2
  ·rename_i e'; subst e'; rw [hblko] at h3; simp at h3; subst h3
   exact C1.fresh id g P.id hexid hblk
  ·split at h2
   ·simp [Ob.ex] at h2
   ·exact C1.fresh y b h1 h2 h3
 ·rw [hval] at k
  split at k
  ·exact k.elim
  ·split at k
   ·exact k.elim
   ·exact k
 ·rw [hval] at hz
  split at hz
  ·rename_i e'; subst e'; rw [hblko, ← hblk] at hb; exact (C1.gr k).2.2.2.1 id hexid hb
  ·split at hz
   ·simp [Ob.ex] at hz
   ·exact (C1.gr k).2.2.2.1 z hz hb
end
end Go.VI
