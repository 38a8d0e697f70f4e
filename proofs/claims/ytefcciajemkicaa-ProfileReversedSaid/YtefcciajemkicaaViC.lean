/- A value semantics of the machine's code, and its proof. -/
import Derived.ChangeArms
import Derived.DataReads
import Derived.WideShapes
import Derived.Lib.LaidTab
import Derived.Stop.LaidErr
import Derived.MapKept
import Derived.Test.YtefcciajemkicaaViD
set_option linter.unusedVariables false
set_option linter.unusedSimpArgs false
namespace Go.VI
open Go
def putD (dst : Option Tmp) (d : D) (s : List D) : List D := match dst with | some t => s.set t d | none => s
def stepG (E : Env) (all : List Oper) (o : Oper) (σ : St) : NM St := wantedK all σ.s o (stepM E o σ) (.pure (skipped o σ))
def Near (ft : Foot) (h g : Heap) : Prop := (ft.full = true → ∀ o, (o ∈ ft.R ∨ o ∈ ft.W) → g o = h o) ∧ (ft.full = false → g = h)
theorem Near.refl (ft : Foot) (h : Heap) : Near ft h h := ⟨fun _ _ _ => rfl, fun _ => rfl⟩
structure Cert (E : Env) (all : Array Oper) (o : Oper) (ft : Foot) (d : D) (s : List D) (h h' : Heap) : Prop where
 keep : ∀ x, x ∉ ft.W → h' x = h x
 loc : ∀ s2 g, s2.length = s.length → (∀ t ∈ o.looksAt all, s2[t]? = s[t]?) → Near ft h g → ∃ g', (stepG E all.toList o ⟨s2, g⟩).gives ⟨putD o.dst d s2, g'⟩ ∧ (∀ x ∈ ft.W, g' x = h' x) ∧ ∀ x, x ∉ ft.W → g' x = g x
structure Compat (a b : Foot) : Prop where
 ab : ∀ x ∈ a.W, x ∉ b.R ∧ x ∉ b.W
 ba : ∀ x ∈ b.W, x ∉ a.R ∧ x ∉ a.W
 fa : a.full = true ∨ b.W = []
 fb : b.full = true ∨ a.W = []
theorem putD_len (dst : Option Tmp) (d : D) (s : List D) : (putD dst d s).length = s.length := by cases dst <;> simp [putD]
theorem putD_get {dst : Option Tmp} {d : D} {s : List D} {t : Nat} (h : dst ≠ some t) : (putD dst d s)[t]? = s[t]? := by
 cases dst with
 | none => rfl
 | some u =>
  simp only [putD]
  rw [List.getElem?_set_ne]
  intro e; subst e; exact h rfl
theorem putD_comm {a b : Option Tmp} {d e : D} {s : List D} (h : ∀ t, a = some t → b ≠ some t) : putD a d (putD b e s) = putD b e (putD a d s) := by
 cases a with
 | none => rfl
 | some t => cases b with
  | none => rfl
  | some u =>
   simp only [putD]
   rw [List.set_comm]
   intro e; subst e; exact h _ rfl rfl
section
variable {E : Env} {all : Array Oper} {s s' : List D} {h h' : Heap}
theorem Cert.run {o : Oper} {ft : Foot} {d : D} (c : Cert E all o ft d s h h') : (stepG E all.toList o ⟨s, h⟩).gives ⟨putD o.dst d s, h'⟩ := by
 obtain ⟨g', hg, h1, h2⟩ := c.loc s h rfl (fun _ _ => rfl) (.refl _ _)
 have : g' = h' := by
  funext x
  by_cases hx : x ∈ ft.W
  ·exact h1 x hx
  ·rw [h2 x hx, c.keep x hx]
 rw [← this]; exact hg
theorem swap {i j : Oper} {fi fj : Foot} {di dj : D} {h1 h2 : Heap} (ci : Cert E all i fi di s h h1) (cj : Cert E all j fj dj (putD i.dst di s) h1 h2) (co : Compat fi fj) (ap : i.apart all j = true) :
  ∃ g', Cert E all j fj dj s h g' ∧ Cert E all i fi di (putD j.dst dj s) g' h2 ∧ putD i.dst di (putD j.dst dj s) = putD j.dst dj (putD i.dst di s) := by
 obtain ⟨a1, a2, a3⟩ := Oper.apart_spec ap
 have ei : ∀ (s : List D) t, t ∈ j.looksAt all → (putD i.dst di s)[t]? = s[t]? := fun s t ht => putD_get fun e => a1 t e ht
 have ej : ∀ (s : List D) t, t ∈ i.looksAt all → (putD j.dst dj s)[t]? = s[t]? := fun s t ht => putD_get fun e => a3 t e ht
 have nj : ∀ g, Near fj h g → Near fj h1 g := fun g hn => ⟨fun hf x hx => by
   rw [hn.1 hf x hx, ci.keep x]
   rcases hx with hx | hx
   ·exact fun hw => (co.ab x hw).1 hx
   ·exact fun hw => (co.ab x hw).2 hx, fun hf => by
   rcases co.fb with h3 | h3
   ·rw [hf] at h3; cases h3
   ·rw [hn.2 hf]; funext x; rw [ci.keep x (by rw [h3]; simp)]⟩
 obtain ⟨g', hg, hg1, hg2⟩ := cj.loc s h (putD_len _ _ _).symm (fun t ht => (ei s t ht).symm) (nj h (.refl _ _))
 have ni : ∀ g, Near fi g' g → Near fi h g := fun g hn => ⟨fun hf x hx => by
   rw [hn.1 hf x hx, hg2 x]
   rcases hx with hx | hx
   ·exact fun hw => (co.ba x hw).1 hx
   ·exact fun hw => (co.ba x hw).2 hx, fun hf => by
   rcases co.fa with h3 | h3
   ·rw [hf] at h3; cases h3
   ·rw [hn.2 hf]; funext x; rw [hg2 x (by rw [h3]; simp)]⟩
 refine ⟨g', ⟨hg2, fun s2 g hl hs hn => ?_⟩, ⟨fun x hx => ?_, fun s2 g hl hs hn => ?_⟩, putD_comm fun t e => a2 t e⟩
 ·obtain ⟨g2, k1, k2, k3⟩ := cj.loc s2 g (by rw [putD_len]; exact hl) (fun t ht => by rw [ei s t ht]; exact hs t ht) (nj g hn)
  exact ⟨g2, k1, fun x hx => by rw [k2 x hx, hg1 x hx], k3⟩
 ·by_cases hw : x ∈ fj.W
  ·exact (hg1 x hw).symm
  ·rw [cj.keep x hw, ci.keep x hx, hg2 x hw]
 ·obtain ⟨g2, k1, k2, k3⟩ := ci.loc s2 g (by rw [putD_len] at hl; exact hl) (fun t ht => by rw [← ej s t ht]; exact hs t ht) (ni g hn)
  exact ⟨g2, k1, fun x hx => by rw [k2 x hx, cj.keep x (co.ab x hx).2], k3⟩
structure Item where
 idx : Nat
 op : Oper
 ft : Foot
 d : D
inductive Chain (E : Env) (all : Array Oper) : List Item → List D → Heap → List D → Heap → Prop
 | nil (t g) : Chain E all [] t g t g
 | cons {x : Item} {r : List Item} {t : List D} {g g1 : Heap} {t' : List D} {g' : Heap} (c : Cert E all x.op x.ft x.d t g g1) (n : Chain E all r (putD x.op.dst x.d t) g1 t' g') : Chain E all (x :: r) t g t' g'
theorem Chain.front {x : Item} {l2 : List Item} : ∀ {l1 : List Item} {s : List D} {h : Heap} {s' : List D} {h' : Heap}, Chain E all (l1 ++ x :: l2) s h s' h' → (∀ y ∈ l1, Compat y.ft x.ft ∧ y.op.apart all x.op = true) → Chain E all (x :: (l1 ++ l2)) s h s' h'
 | [], s, h, s', h', c, hc => c
 | y :: r, s, h, s', h', c, hc => by
  cases c with
  | cons c1 c2 =>
   have c3 := Chain.front c2 fun z hz => hc z (List.mem_cons_of_mem _ hz)
   cases c3 with
   | cons c4 c5 =>
    obtain ⟨co, ap⟩ := hc y (List.mem_cons_self ..)
    obtain ⟨g', e1, e2, e3⟩ := swap c1 c4 co ap
    refine .cons e1 (.cons e2 ?_)
    rw [e3]; exact c5
/-! ### the orders -/
theorem ordersOk_spec {ms : List Nat} : ∀ {l : List Oper} {i : Nat}, ordersOk all ms i l = true → ∀ k o, l[k]? = some o → (∀ e ∈ edgesOf o, e.on < i + k) ∧
  ∀ j, j < i + k → (bit (ms.getD (i + k) 0) j = true → ∃ e ∈ edgesOf o, e.on = j ∨ (j < e.on ∧ bit (ms.getD e.on 0) j = true)) ∧ (bit (ms.getD (i + k) 0) j = false → ∃ p, all[j]? = some p ∧ p.apart all o = true)
 | [], i, hk, k, o, ho => by simp at ho
 | q :: r, i, hk, k, o, ho => by
  simp only [ordersOk, Bool.and_eq_true, List.all_eq_true, List.mem_range] at hk
  obtain ⟨h1, h2, h3⟩ := hk
  cases k with
  | zero =>
   simp at ho; subst ho
   refine ⟨fun e he => ?_, fun j hj => ?_⟩
   ·have := h1 e he
    simp [Nat.blt] at this
    omega
   ·have := h2 j hj
    simp only [Nat.add_zero]
    refine ⟨fun hb => ?_, fun hb => ?_⟩
    ·rw [hb] at this
     simp only [cond_true, List.any_eq_true, Bool.or_eq_true, Bool.and_eq_true, Nat.beq_eq] at this
     obtain ⟨e, he, hx⟩ := this
     refine ⟨e, he, ?_⟩
     rcases hx with hx | ⟨hx, hy⟩
     ·exact .inl hx
     ·simp [Nat.blt] at hx
      exact .inr ⟨by omega, hy⟩
    ·rw [hb] at this
     simp only [cond_false] at this
     split at this
     ·rename_i p hp; exact ⟨p, hp, this⟩
     ·cases this
  | succ k =>
   have := ordersOk_spec h3 k o (by simpa using ho)
   rw [show i + (k + 1) = i + 1 + k by omega]
   exact this
theorem anc_listed {ms : List Nat} (hord : ordersOk all ms 0 all.toList = true) {listed : Array Bool} (hcl : ∀ k o, all[k]? = some o → listed.getD k true = true → ∀ e ∈ edgesOf o, listed.getD e.on true = true) :
  ∀ (i : Nat) (o : Oper), all[i]? = some o → (∀ e ∈ edgesOf o, listed.getD e.on true = true) → ∀ j, j < i → bit (ms.getD i 0) j = true → listed.getD j true = true := by
 intro i
 induction i using Nat.strongRecOn with
 | _ i ih =>
  intro o ho he j hj hb
  obtain ⟨h1, h2⟩ := ordersOk_spec hord i o (by simpa using ho)
  simp only [Nat.zero_add] at h1 h2
  obtain ⟨e, hm, hx⟩ := (h2 j hj).1 hb
  rcases hx with hx | ⟨hx, hy⟩
  ·rw [← hx]; exact he e hm
  ·have hlt := h1 e hm
   have hi : i < all.size := (Array.getElem?_eq_some_iff.1 ho).1
   have hlt' : e.on < all.size := by omega
   have hp : all[e.on]? = some all[e.on] := Array.getElem?_eq_getElem hlt'
   exact ih e.on hlt _ hp (hcl e.on _ hp (he e hm)) j hx hy
end
end Go.VI
namespace Go.VI
open Go
section
variable {F : Fx} {E : Env} {ops : Array Oper} {ms : List Nat}
structure Inv (E : Env) (ops : Array Oper) (ms : List Nat) (listed : Array Bool) (l : List Item) : Prop where
 size : listed.size = ops.size
 sorted : l.Pairwise fun x y => x.idx < y.idx
 left : ∀ k, listed.getD k true = false ↔ k ∈ l.map (·.idx)
 op : ∀ x ∈ l, ops[x.idx]? = some x.op
 compat : ∀ x ∈ l, ∀ y ∈ l, x.idx < y.idx → bit (ms.getD y.idx 0) x.idx = false → Compat x.ft y.ft
 closed : ∀ k o, ops[k]? = some o → listed.getD k true = true → ∀ e ∈ edgesOf o, listed.getD e.on true = true
theorem getD_set_eq {listed : Array Bool} {i : Nat} (hi : i < listed.size) : (listed.setIfInBounds i true).getD i true = true := by
 simp [Array.getD, Array.getElem_setIfInBounds, hi]
theorem getD_set_other {listed : Array Bool} {i k : Nat} (b : Bool) (h : k ≠ i) : (listed.setIfInBounds i true).getD k b = listed.getD k b := by
 simp only [Array.getD_eq_getD_getElem?]
 rw [Array.getElem?_setIfInBounds_ne (Ne.symm h)]
theorem mem_edges {o : Oper} {e : Edge} : e ∈ edgesOf o ↔ e ∈ o.after ∧ Region.binds .any e = true := by
 simp [edgesOf, List.mem_filter]
theorem getD_both {listed : Array Bool} {k : Nat} (h : k < listed.size) (b c : Bool) : listed.getD k b = listed.getD k c := by
 simp [Array.getD, h]
theorem any_ok (hT : tbOk F.P E.T = true) (hm : F.m ≤ 100) (hK : EnvOK F.P F.tabs E) (hst : opsSt E.T ops.toList = true) (hord : ordersOk ops ms 0 ops.toList = true) {Q : Exit → Act → World → Prop} {s' : List D} {h' : Heap} :
  ∀ (fuel : Nat) (listed : Array Bool) (l : List Item) (s : List D) (h : Heap) (α : Nat → Value) (ok : Nat → Prop) (w : World) (a : Act), Inv E ops ms listed l → l.length ≤ fuel → Chain E ops l s h s' h' →
   Core F α ok h w → SR w α ok h s a → a.tmps.size = E.N → a.defers = [] → (∀ α' ok' w' a', Core F α' ok' h' w' → SR w' α' ok' h' s' a' → a'.tmps.size = E.N → a'.defers = [] → Q .normal a' w') →
   wpAny F.P .any ops Q fuel listed a w := by
 have hnil : ∀ {listed : Array Bool} {l : List Item}, Inv E ops ms listed l → (Region.ready .any ops listed = [] ↔ l = []) := by
  intro listed l I
  constructor
  ·intro hr
   cases l with
   | nil => rfl
   | cons x r =>
    exfalso
    have : x.idx ∈ Region.ready .any ops listed := by
     rw [mem_ready]
     refine ⟨(I.left x.idx).2 (by simp), x.op, I.op x (by simp), fun e he hb => ?_⟩
     have hx := I.op x (by simp)
     obtain ⟨h1, _⟩ := ordersOk_spec hord x.idx x.op (by simpa using hx)
     have hlt := h1 e (mem_edges.2 ⟨he, hb⟩)
     have hxs : x.idx < ops.size := (Array.getElem?_eq_some_iff.1 hx).1
     rw [getD_both (by rw [I.size]; omega) false true]
     cases hl : listed.getD e.on true with
     | true => rfl
     | false =>
      exfalso
      obtain ⟨y, hy, hye⟩ := List.mem_map.1 ((I.left e.on).1 hl)
      rcases List.mem_cons.1 hy with rfl | hy
      ·omega
      ·have := (List.pairwise_cons.1 I.sorted).1 y hy
       omega
    rw [hr] at this; cases this
  ·intro hl
   subst hl
   cases hr : Region.ready .any ops listed with
   | nil => rfl
   | cons i r =>
    exfalso
    have : i ∈ Region.ready .any ops listed := by rw [hr]; simp
    have := (I.left i).1 (mem_ready.1 this).1
    cases this
 intro fuel
 induction fuel with
 | zero =>
  intro listed l s h α ok w a I hl c C S hN hd hq
  have hl : l = [] := by cases l with | nil => rfl | cons => simp at hl
  subst hl
  cases c with
  | nil => exact ⟨(hnil I).2 rfl, hq α ok w a C S hN hd⟩
 | succ fuel ih =>
  intro listed l s h α ok w a I hl c C S hN hd hq
  refine ⟨fun hr => ?_, fun i hi => ?_⟩
  ·have := (hnil I).1 hr
   subst this
   cases c with
   | nil => exact hq α ok w a C S hN hd
  ·have hi' := mem_ready.1 hi
   obtain ⟨x, hx, hxi⟩ := List.mem_map.1 ((I.left i).1 hi'.1)
   subst hxi
   obtain ⟨l1, l2, rfl⟩ := List.append_of_mem hx
   have hxo := I.op x hx
   obtain ⟨o, ho, hready⟩ := hi'.2
   rw [hxo] at ho; simp at ho; subst ho
   have hxs : x.idx < ops.size := (Array.getElem?_eq_some_iff.1 hxo).1
   obtain ⟨h1, h2⟩ := ordersOk_spec hord x.idx x.op (by simpa using hxo)
   simp only [Nat.zero_add] at h1 h2
   have hedges : ∀ e ∈ edgesOf x.op, listed.getD e.on true = true := fun e he => by
    have hlt := h1 e he
    rw [getD_both (by rw [I.size]; omega) true false]
    exact hready e (mem_edges.1 he).1 (mem_edges.1 he).2
   have hs := I.sorted
   rw [List.pairwise_append, List.pairwise_cons] at hs
   obtain ⟨hs1, ⟨hs2, hs3⟩, hs4⟩ := hs
   have hfront := c.front fun y hy => by
    have hlt : y.idx < x.idx := hs4 y hy x (by simp)
    have hyl : listed.getD y.idx true = false := (I.left y.idx).2 (List.mem_map.2 ⟨y, by simp [hy], rfl⟩)
    have hb : bit (ms.getD x.idx 0) y.idx = false := by
     cases hb : bit (ms.getD x.idx 0) y.idx with
     | false => rfl
     | true =>
      have := anc_listed hord I.closed x.idx x.op hxo hedges y.idx hlt hb
      rw [hyl] at this; cases this
    refine ⟨I.compat y (by simp [hy]) x (by simp) hlt hb, ?_⟩
    obtain ⟨p, hp, hap⟩ := (h2 y.idx hlt).2 hb
    have := I.op y (by simp [hy])
    rw [hp] at this; simp at this; subst this
    exact hap
   cases hfront with
   | cons c1 c2 =>
    rename_i g1
    have hrun := c1.run
    have hIn : Inv E ops ms (listed.setIfInBounds x.idx true) (l1 ++ l2) := by
     refine ⟨by simpa using I.size, ?_, fun k => ?_, fun y hy => I.op y ?_, fun y hy z hz => I.compat y ?_ z ?_, fun k o hk hl e he => ?_⟩
     ·rw [List.pairwise_append]
      exact ⟨hs1, hs3, fun y hy z hz => hs4 y hy z (by simp [hz])⟩
     ·by_cases hk : k = x.idx
      ·subst hk
       rw [getD_set_eq (by rw [I.size]; exact hxs)]
       constructor
       ·intro h; cases h
       ·intro hm
        exfalso
        obtain ⟨y, hy, hye⟩ := List.mem_map.1 hm
        rcases List.mem_append.1 hy with hy | hy
        ·have := hs4 y hy x (by simp); omega
        ·have := hs2 y hy; omega
      ·rw [getD_set_other true hk, I.left k]
       simp only [List.map_append, List.map_cons, List.mem_append, List.mem_cons]
       constructor
       ·rintro (h | h | h)
        ·exact .inl h
        ·exact absurd h hk
        ·exact .inr h
       ·rintro (h | h)
        ·exact .inl h
        ·exact .inr (.inr h)
     ·rcases List.mem_append.1 hy with hy | hy <;> simp [hy]
     ·rcases List.mem_append.1 hy with hy | hy <;> simp [hy]
     ·rcases List.mem_append.1 hz with hz | hz <;> simp [hz]
     ·have hle : listed.getD e.on true = true := by
       by_cases hkx : k = x.idx
       ·subst hkx
        rw [hxo] at hk; simp at hk; subst hk
        exact hedges e he
       ·rw [getD_set_other true hkx] at hl
        exact I.closed k o hk hl e he
      by_cases hex : e.on = x.idx
      ·rw [hex]; exact getD_set_eq (by rw [I.size]; exact hxs)
      ·rw [getD_set_other true hex]; exact hle
    have hlen : (l1 ++ l2).length ≤ fuel := by simp at hl ⊢; omega
    have hw := wanted_ok (ops := ops) (o := x.op) (t := stepM E x.op ⟨s, h⟩) (e := .pure (skipped x.op ⟨s, h⟩)) (x := ⟨putD x.op.dst x.d s, g1⟩) S hrun
    have hso : opSt E.T x.op.op = true := by
     unfold opsSt at hst
     rw [List.all_eq_true] at hst
     exact hst x.op (by have := Array.mem_of_getElem? hxo; simpa using this)
    unfold wpOp
    rw [hxo]
    simp only
    rcases hw with ⟨hw, ht⟩ | ⟨hw, he⟩
    ·rw [if_pos hw]
     left
     exact stepM_ok hT hm hso hK C S ht fun v w' α' ok' C' _ S' => ih _ _ _ _ α' ok' w' _ hIn hlen c2 C' S' (by rw [put_size]; exact hN) (by rw [put_defers]; exact hd) hq
    ·rw [if_neg (by rw [hw]; simp)]
     rw [NM.gives_pure] at he
     simp only [skipped, St.mk.injEq] at he
     obtain ⟨e1, e2⟩ := he
     have S2 := skip_ok S x.op
     simp only [skipped] at S2
     rw [e1] at S2
     subst e2
     exact ih _ _ _ _ α ok w _ hIn hlen c2 C S2 (by rw [put_size]; exact hN) (by rw [put_defers]; exact hd) hq
end
end Go.VI
namespace Go.VI
open Go
structure StepCert (E : Env) (o : Oper) (ft : Foot) (d : D) (s : List D) (h h' : Heap) : Prop where
 keep : ∀ x, x ∉ ft.W → h' x = h x
 loc : ∀ s2 g, (∀ x ∈ o.op.operands.toList, operand s2 x = operand s x) → Near ft h g → ∃ g', (stepM E o ⟨s2, g⟩).gives ⟨putD o.dst d s2, g'⟩ ∧ (∀ x ∈ ft.W, g' x = h' x) ∧ ∀ x, x ∉ ft.W → g' x = g x
 q1 : heapless o.op = true → ft.W = [] ∧ ft.R = [] ∧ ft.full = true
 q2 : mutates o.op = false → ft.W = [] ∧ ft.full = true
def FootOK (E : Env) : Prop := ∀ (o : Oper) (s : List D) (h : Heap) (ft : Foot) (s' : List D) (h' : Heap), (foot E o ⟨s, h⟩).gives ft → (stepM E o ⟨s, h⟩).gives ⟨s', h'⟩ → ∃ d, s' = putD o.dst d s ∧ StepCert E o ft d s h h'
section
variable {F : Fx} {E : Env} {ops : Array Oper} {ms : List Nat}
theorem looks_operand {o : Oper} {s s2 : List D} (h : ∀ t ∈ o.looksAt ops, s2[t]? = s[t]?) : ∀ x ∈ o.op.operands.toList, operand s2 x = operand s x := by
 intro x hx
 cases x with
 | tmp t =>
  simp only [operand]
  apply h
  unfold Oper.looksAt
  refine List.mem_append_left _ ?_
  rw [List.mem_filterMap]
  exact ⟨_, hx, rfl⟩
 | const v => rfl
 | global g => rfl
 | func f => rfl
theorem wantedF_iff {s : List D} {h : Heap} {o : Oper} {t e : NM (St × Foot)} {x : St × Foot} (hg : (traceK.wantedF ops.toList s o t e).gives x) :
  ∃ b : Bool, (b = true → t.gives x) ∧ (b = false → e.gives x) ∧ ∀ s2 : List D, (∀ t ∈ o.looksAt ops, s2[t]? = s[t]?) → ∀ (t2 e2 : NM St) (y : St), (b = true → t2.gives y) → (b = false → e2.gives y) → (wantedK ops.toList s2 o t2 e2).gives y := by
 unfold traceK.wantedF at hg
 unfold wantedK
 split at hg
 ·rename_i hgd
  exact ⟨true, fun _ => hg, fun h => by (cases h), fun s2 _ t2 e2 y h1 _ => h1 rfl⟩
 ·rename_i j want hgd
  simp only [NM.gives_bind, NM.gives_opt, Option.bind_eq_some_iff] at hg
  obtain ⟨d, ⟨oj, hoj, hd⟩, l, ⟨dd, hdd, hl⟩, hg⟩ := hg
  have hlook : ∀ s2 : List D, (∀ t ∈ o.looksAt ops, s2[t]? = s[t]?) → s2[d]? = some dd := fun s2 hs => by
   rw [hs d ?_, hdd]
   unfold Oper.looksAt
   refine List.mem_append_right _ ?_
   rw [hgd]
   have hoj' : ops[j]? = some oj := by simpa using hoj
   simp [hoj', hd]
  split at hg
  ·rename_i b
   rw [NM.gives_cond] at hg
   rcases hg with ⟨hb, hg⟩ | ⟨hb, hg⟩
   ·refine ⟨true, fun _ => hg, fun h => by (cases h), fun s2 hs t2 e2 y h1 _ => ?_⟩
    simp only [NM.gives_bind, NM.gives_opt, Option.bind_eq_some_iff]
    exact ⟨d, ⟨oj, hoj, hd⟩, _, ⟨dd, hlook s2 hs, hl⟩, NM.gives_cond.2 (.inl ⟨hb, h1 rfl⟩)⟩
   ·refine ⟨false, fun h => by (cases h), fun _ => hg, fun s2 hs t2 e2 y _ h1 => ?_⟩
    simp only [NM.gives_bind, NM.gives_opt, Option.bind_eq_some_iff]
    exact ⟨d, ⟨oj, hoj, hd⟩, _, ⟨dd, hlook s2 hs, hl⟩, NM.gives_cond.2 (.inr ⟨hb, h1 rfl⟩)⟩
  ·refine ⟨false, fun h => by (cases h), fun _ => hg, fun s2 hs t2 e2 y _ h1 => ?_⟩
   simp only [NM.gives_bind, NM.gives_opt, Option.bind_eq_some_iff]
   exact ⟨d, ⟨oj, hoj, hd⟩, _, ⟨dd, hlook s2 hs, hl⟩, h1 rfl⟩
  ·exact absurd hg NM.gives_fail
def Quiet (o : Oper) (ft : Foot) : Prop := (heapless o.op = true → ft.W = [] ∧ ft.R = [] ∧ ft.full = true) ∧ (mutates o.op = false → ft.W = [] ∧ ft.full = true)
theorem trace_item (hF : FootOK E) {o : Oper} {s : List D} {h : Heap} {σ1 : St} {ft : Foot}
  (hg : (traceK.wantedF ops.toList s o ((foot E o ⟨s, h⟩).bind fun ft => (stepM E o ⟨s, h⟩).bind fun σ' => .pure (σ', ft)) (.pure (skipped o ⟨s, h⟩, ⟨[], [], true⟩))).gives (σ1, ft)) :
  ∃ d, σ1.s = putD o.dst d s ∧ Cert E ops o ft d s h σ1.h ∧ Quiet o ft := by
 obtain ⟨b, h1, h2, h3⟩ := wantedF_iff (h := h) hg
 cases b with
 | true =>
  have h1 := h1 rfl
  simp only [NM.gives_bind, NM.gives_pure, Prod.mk.injEq] at h1
  obtain ⟨ft', hft, σ', hst, rfl, rfl⟩ := h1
  obtain ⟨s', h'⟩ := σ'
  obtain ⟨d, hd, hc⟩ := hF o s h ft' s' h' hft hst
  refine ⟨d, hd, ⟨hc.keep, fun s2 g hl hs hn => ?_⟩, hc.q1, hc.q2⟩
  obtain ⟨g', k1, k2, k3⟩ := hc.loc s2 g (looks_operand hs) hn
  exact ⟨g', h3 s2 hs _ _ _ (fun _ => k1) (fun h => by cases h), k2, k3⟩
 | false =>
  have h2 := h2 rfl
  simp only [NM.gives_pure, Prod.mk.injEq] at h2
  obtain ⟨rfl, rfl⟩ := h2
  refine ⟨.one .skip, rfl, ⟨fun x hx => rfl, fun s2 g hl hs hn => ?_⟩, fun _ => ⟨rfl, rfl, rfl⟩, fun _ => ⟨rfl, rfl⟩⟩
  exact ⟨g, h3 s2 hs _ _ _ (fun h => by cases h) (fun _ => NM.gives_pure.2 rfl), fun x hx => by (cases hx), fun x _ => rfl⟩
theorem trace_ok (hF : FootOK E) : ∀ {l : List Oper} {i : Nat} {tc tc' : List Foot} {s : List D} {h : Heap} {σ' : St}, (traceK E ops.toList l ⟨s, h⟩ tc).gives (σ', tc') →
  ∃ items : List Item, Chain E ops items s h σ'.s σ'.h ∧ tc' = tc ++ items.map (·.ft) ∧ items.length = l.length ∧ ∀ (k : Nat) x, items[k]? = some x → x.idx = i + k ∧ l[k]? = some x.op ∧ Quiet x.op x.ft
 | [], i, tc, tc', s, h, σ', hg => by
  simp only [traceK, NM.gives_pure, Prod.mk.injEq] at hg
  obtain ⟨rfl, rfl⟩ := hg
  exact ⟨[], .nil _ _, by simp, rfl, by simp⟩
 | o :: r, i, tc, tc', s, h, σ', hg => by
  simp only [traceK, NM.gives_bind, sharpK_gives] at hg
  obtain ⟨⟨⟨s1, h1⟩, ft⟩, h2, hr⟩ := hg
  obtain ⟨d, hd, hc, hq⟩ := trace_item hF h2
  obtain ⟨items, c, e1, e2, e3⟩ := trace_ok hF (i := i + 1) hr
  simp only at hd
  subst hd
  refine ⟨⟨i, o, ft, d⟩ :: items, .cons hc c, by rw [e1]; simp, by simp [e2], fun k x hx => ?_⟩
  cases k with
  | zero => simp at hx; subst hx; exact ⟨rfl, rfl, hq⟩
  | succ k =>
   obtain ⟨f1, f2, f3⟩ := e3 k x (by simpa using hx)
   exact ⟨by omega, by simpa using f2, f3⟩
theorem pairs_mem {all : List Oper} : ∀ {l : List Oper} {i : Nat}, ∀ (k : Nat) o (j : Nat) p, l[k]? = some o → j < i + k → bit (ms.getD (i + k) 0) j = false → all[j]? = some p → ((mutates o.op || mutates p.op) && (!(heapless o.op) && !(heapless p.op))) = true → (j, i + k) ∈ pairsFrom all ms i l
 | [], i, k, o, j, p, ho, _, _, _, _ => by simp at ho
 | q :: r, i, k, o, j, p, ho, hj, hb, hp, hm => by
  simp only [pairsFrom]
  cases k with
  | zero =>
   simp at ho; subst ho
   refine List.mem_append_left _ ?_
   rw [List.mem_filterMap]
   refine ⟨j, by simpa using hj, ?_⟩
   simp only [Nat.add_zero] at hb
   rw [hb]
   simp only [cond_false, hp, hm, cond_true, Nat.add_zero]
  | succ k =>
   refine List.mem_append_right _ ?_
   have := pairs_mem (i := i + 1) k o j p (by simpa using ho) (by omega) (by rw [show i + 1 + k = i + (k + 1) by omega]; exact hb) hp hm
   rw [show i + 1 + k = i + (k + 1) by omega] at this
   exact this
theorem apart_compat {tc : List Foot} {i j : Nat} {a b : Foot} (h : apartT tc (i, j) = true) (ha : tc[i]? = some a) (hb : tc[j]? = some b) : Compat a b := by
 unfold apartT at h
 rw [ha, hb] at h
 simp only [Bool.and_eq_true, Bool.or_eq_true, List.isEmpty_iff] at h
 obtain ⟨h1, h2, h3, h4⟩ := h
 have h1 := disjointL_ok h1
 have h2 := disjointL_ok h2
 refine ⟨fun x hx => ?_, fun x hx => ?_, h3, h4⟩
 ·have := h1 x hx; simp at this; exact this
 ·have := h2 x hx; simp at this; exact this
theorem quiet_compat {o p : Oper} {a b : Foot} (ha : Quiet o a) (hb : Quiet p b) (hm : ((mutates p.op || mutates o.op) && (!(heapless p.op) && !(heapless o.op))) = false) : Compat a b := by
 cases h1 : heapless o.op with
 | true =>
  obtain ⟨q1, q2, q3⟩ := ha.1 h1
  exact ⟨fun x hx => (by rw [q1] at hx; cases hx), fun x hx => (by rw [q1, q2]; simp), .inl q3, .inr q1⟩
 | false =>
  cases h2 : heapless p.op with
  | true =>
   obtain ⟨q1, q2, q3⟩ := hb.1 h2
   exact ⟨fun x hx => (by rw [q1, q2]; simp), fun x hx => (by rw [q1] at hx; cases hx), .inr q1, .inl q3⟩
  | false =>
   rw [h1, h2] at hm
   simp at hm
   obtain ⟨q1, q2⟩ := ha.2 hm.2
   obtain ⟨q3, q4⟩ := hb.2 hm.1
   exact ⟨fun x hx => (by rw [q1] at hx; cases hx), fun x hx => (by rw [q3] at hx; cases hx), .inl q2, .inl q4⟩
theorem draw_sound (hP : F.P.follows .mixedOrders = true) (hF : FootOK E) (hT : tbOk F.P E.T = true) (hm : F.m ≤ 100) (hK : EnvOK F.P F.tabs E) : DrawSound F E := by
 intro id ops s h σ' tc hst hord htr hpa Q α ok w a C S hN hd hq
 obtain ⟨items, c, e1, e2, e3⟩ := trace_ok (i := 0) hF htr
 simp only [List.nil_append] at e1
 simp only [Nat.zero_add] at e3
 refine wp_region_any hP ?_
 obtain ⟨C1, st1⟩ := C.drew
 have S1 : SR w.drew α ok h s a := SR.stay st1 S
 have hidx : ∀ x ∈ items, items[x.idx]? = some x ∧ ops[x.idx]? = some x.op ∧ Quiet x.op x.ft := fun x hx => by
  obtain ⟨k, hk⟩ := List.getElem?_of_mem hx
  obtain ⟨f1, f2, f3⟩ := e3 k x hk
  rw [f1]
  exact ⟨hk, by simpa using f2, f3⟩
 have hlen : items.length = ops.size := by rw [e2]; simp
 have I : Inv E ops (orders ops.toList) (Array.replicate ops.size false) items := by
  refine ⟨by simp, ?_, fun k => ?_, fun x hx => (hidx x hx).2.1, fun x hx y hy hlt hb => ?_, fun k o hk hl => ?_⟩
  ·rw [List.pairwise_iff_getElem]
   intro i j hi hj hij
   have h1 := (e3 i _ (List.getElem?_eq_getElem hi)).1
   have h2 := (e3 j _ (List.getElem?_eq_getElem hj)).1
   omega
  ·constructor
   ·intro hk
    have hks : k < ops.size := by
     rcases Nat.lt_or_ge k ops.size with h | h
     ·exact h
     ·simp [Array.getD, Nat.not_lt.2 h] at hk
    have hki : k < items.length := by omega
    exact List.mem_map.2 ⟨items[k], List.getElem_mem hki, (e3 k _ (List.getElem?_eq_getElem hki)).1⟩
   ·intro hk
    obtain ⟨x, hx, rfl⟩ := List.mem_map.1 hk
    have := (Array.getElem?_eq_some_iff.1 (hidx x hx).2.1).1
    simp [Array.getD, this]
  ·obtain ⟨x1, x2, x3⟩ := hidx x hx
   obtain ⟨y1, y2, y3⟩ := hidx y hy
   cases hmm : ((mutates y.op.op || mutates x.op.op) && (!(heapless y.op.op) && !(heapless x.op.op))) with
   | false => exact quiet_compat x3 y3 hmm
   | true =>
    have := pairs_mem (ms := orders ops.toList) (all := ops.toList) (l := ops.toList) (i := 0) y.idx y.op x.idx x.op (by simpa using y2) (by omega) (by rw [Nat.zero_add]; exact hb) (by simpa using x2) hmm
    rw [Nat.zero_add] at this
    have := (List.all_eq_true.1 hpa) _ this
    exact apart_compat this (by rw [e1]; simp [x1]) (by rw [e1]; simp [y1])
  ·have := (Array.getElem?_eq_some_iff.1 hk).1
   simp [Array.getD, this] at hl
 exact any_ok hT hm hK hst hord ops.size _ items s h α ok _ a I (by omega) c C1 S1 hN hd hq
end
end Go.VI
namespace Go.VI
open Go
section
variable {E : Env} {s s2 : List D} {h h' : Heap}
theorem buildLs_slots {T : Tb} {fs : List (Nat × TypeId)} : ∀ {ps : List (Nat × Operand)} {acc : List L}, (∀ x ∈ ps.map (·.2), operand s2 x = operand s x) → buildLs T fs s2 ps acc = buildLs T fs s ps acc
 | [], acc, H => rfl
 | (i, x) :: r, acc, H => by
  simp only [buildLs, H x (by simp)]
  congr 1; funext p; congr 1; funext ti; congr 1; funext d
  rw [buildLs_slots fun y hy => H y (by simp at hy ⊢; exact .inr hy)]
theorem buildRow_slots {c : TC} : ∀ {ps : List (Nat × Operand)} {h : Heap} {n : Nat}, (∀ x ∈ ps.map (·.2), operand s2 x = operand s x) → buildRow c s2 h n ps = buildRow c s h n ps
 | [], h, n, H => rfl
 | (i, x) :: r, h, n, H => by
  simp only [buildRow, H x (by simp)]
  congr 1; congr 1; funext d; congr 1; funext p; congr 1; funext v
  rw [buildRow_slots fun y hy => H y (by simp at hy ⊢; exact .inr hy)]
theorem mapM_slots {X : Type} {f g : Operand → Option X} : ∀ {l : List Operand}, (∀ x ∈ l, f x = g x) → l.mapM f = l.mapM g
 | [], H => rfl
 | x :: r, H => by
  rw [List.mapM_cons, List.mapM_cons, H x (by simp), mapM_slots fun y hy => H y (by simp [hy])]
theorem oL_slots {x : Operand} (H : operand s2 x = operand s x) : oL s2 x = oL s x := by simp only [oL, H]
theorem opK_slots {o : Oper} (H : ∀ x ∈ o.op.operands.toList, operand s2 x = operand s x) : opK E o ⟨s2, h⟩ = opK E o ⟨s, h⟩ := by
 obtain ⟨dst, op, ty, pos, aft, gd⟩ := o
 simp only at H
 cases op with
 | move x => simp [Op.operands] at H; simp only [opK, H]
 | assign x => simp [Op.operands] at H; simp only [opK, H]
 | pick c x y => simp [Op.operands] at H; simp only [opK, oBool, oL, H]
 | alloc t => rfl
 | box t x => simp [Op.operands] at H; simp only [opK, H]
 | build t parts =>
  have H' : ∀ x ∈ parts.toList.map (·.2), operand s2 x = operand s x := fun x hx => H x (by simpa [Op.operands] using hx)
  simp only [opK, buildLs_slots H']
 | buildSlice t len parts =>
  have H' : ∀ x ∈ parts.toList.map (·.2), operand s2 x = operand s x := fun x hx => H x (by simpa [Op.operands] using hx)
  simp only [opK, buildRow_slots H']
 | load t x => simp [Op.operands] at H; simp only [opK, oL, H]
 | store t x y => simp [Op.operands] at H; simp only [opK, oL, H]
 | nilCheck x => simp [Op.operands] at H; simp only [opK, oL, H]
 | binOp op t x y u => simp [Op.operands] at H; simp only [opK, H]
 | unOp op t x => simp [Op.operands] at H; simp only [opK, oL, H]
 | convert src t x => simp [Op.operands] at H; simp only [opK, oL, H]
 | makeFunc fn first captured =>
  have H' : ∀ x ∈ captured.toList, operand s2 x = operand s x := fun x hx => H x (by simp [Op.operands] at hx ⊢; exact .inr hx)
  cases fn with
  | func f =>
   simp only [opK]
   congr 3
   exact mapM_slots fun x hx => by simp only [oL, H' x hx]
  | _ => rfl
 | makeSlice t x y => simp [Op.operands] at H; simp only [opK, oI, oInt, oL, H]
 | slice t x lo hi mx =>
  have hx : operand s2 x = operand s x := H x (by simp [Op.operands])
  have hlo : oOpt s2 lo = oOpt s lo := by
   cases lo with
   | none => rfl
   | some y => have := H y (by simp [Op.operands]); simp only [oOpt, oI, oInt, oL, this]
  have hhi : oOpt s2 hi = oOpt s hi := by
   cases hi with
   | none => rfl
   | some y => have := H y (by simp [Op.operands]); simp only [oOpt, oI, oInt, oL, this]
  simp only [opK, oL, hx, hlo, hhi]
 | fieldAddr t x fi => simp [Op.operands] at H; simp only [opK, oL, H]
 | field t x fi => simp [Op.operands] at H; simp only [opK, H]
 | indexAddr t x y => simp [Op.operands] at H; simp only [opK, oI, oInt, oL, H]
 | index t x y => simp [Op.operands] at H; simp only [opK, oI, oInt, oL, H]
 | extract x i => simp [Op.operands] at H; simp only [opK, H]
 | lookup t x y c => simp [Op.operands] at H; simp only [opK, oInt, oL, H]
 | call c =>
  obtain ⟨callee, args, ts⟩ := c
  cases callee with
  | value f => rfl
  | invoke r m => rfl
  | builtin b =>
   have H' : ∀ x ∈ args.toList, operand s2 x = operand s x := fun x hx => H x (by simp [Op.operands, Call.operands]; simpa using hx)
   simp only [opK]
   split
   ·rename_i x t h1 h2
    have := H' x (by rw [h1]; simp)
    simp only [oL, this]
   ·rename_i x y t u h1 h2
    have h3 := H' x (by rw [h1]; simp)
    have h4 := H' y (by rw [h1]; simp)
    simp only [oL, h3, h4]
   ·rename_i x y h1
    have h3 := H' x (by rw [h1]; simp)
    have h4 := H' y (by rw [h1]; simp)
    simp only [oInt, oL, h3, h4]
   ·rename_i x y h1
    have h3 := H' x (by rw [h1]; simp)
    have h4 := H' y (by rw [h1]; simp)
    simp only [oInt, oL, h3, h4]
   ·rename_i x y z h1
    have h3 := H' x (by rw [h1]; simp)
    have h4 := H' y (by rw [h1]; simp)
    have h5 := H' z (by rw [h1]; simp)
    simp only [oInt, oL, h3, h4, h5]
   ·rename_i x y z h1
    have h3 := H' x (by rw [h1]; simp)
    have h4 := H' y (by rw [h1]; simp)
    have h5 := H' z (by rw [h1]; simp)
    simp only [oInt, oL, h3, h4, h5]
   ·rfl
 | _ => rfl
def callV (E : Env) (dst : Option Tmp) (f : Operand) (args : Array Operand) (ts : Array TypeId) (s : List D) (h : Heap) : NM (D × Heap) :=
 (NM.opt (oL s f)).bind fun l => match l with
  | .fn g caps => match E.C g (fnKey s args.toList) with
   | none => .fail
   | some fe => (NM.opt (opnds s args.toList)).bind fun ds =>
    (NM.cond fe.ret (freezeDs h fe.lend ds) (.pure (ds, h))).bind fun (ds', h') =>
    callK E (dst.getD 0) fe ts.toList ds' (caps.map fun p => .one (.ptr p.1 0 p.2)) h'
  | _ => .fail
theorem stepK_call {o : Oper} {f : Operand} {args : Array Operand} {ts : Array TypeId} (hop : o.op = .call { callee := .value f, args := args, argTypes := ts }) {s' : List D} :
  (stepK E o ⟨s, h⟩).gives ⟨s', h'⟩ ↔ ∃ d, (callV E o.dst f args ts s h).gives (d, h') ∧ s' = putD o.dst d s := by
 unfold stepK
 rw [hop]
 simp only [callV, NM.gives_bind, NM.gives_opt]
 constructor
 ·rintro ⟨l, hl, hg⟩
  split at hg
  ·rename_i g caps
   split at hg
   ·exact absurd hg NM.gives_fail
   ·rename_i fe hfe
    simp only [NM.gives_bind, NM.gives_opt, NM.gives_pure] at hg
    obtain ⟨ds, hds, p, hp, ⟨d, h2⟩, hc, he⟩ := hg
    simp only [St.mk.injEq] at he
    obtain ⟨rfl, rfl⟩ := he
    refine ⟨d, ⟨_, hl, ?_⟩, rfl⟩
    simp only [hfe, NM.gives_bind, NM.gives_opt]
    exact ⟨ds, hds, p, hp, hc⟩
  ·exact absurd hg NM.gives_fail
 ·rintro ⟨d, ⟨l, hl, hg⟩, rfl⟩
  split at hg
  ·rename_i g caps
   split at hg
   ·exact absurd hg NM.gives_fail
   ·rename_i fe hfe
    simp only [NM.gives_bind, NM.gives_opt] at hg
    obtain ⟨ds, hds, p, hp, hc⟩ := hg
    refine ⟨_, hl, ?_⟩
    simp only [hfe, NM.gives_bind, NM.gives_opt, NM.gives_pure]
    exact ⟨ds, hds, p, hp, (d, h'), hc, rfl⟩
  ·exact absurd hg NM.gives_fail
theorem stepK_op {o : Oper} (hop : ∀ f args ts, o.op ≠ .call { callee := .value f, args := args, argTypes := ts }) {s' : List D} :
  (stepK E o ⟨s, h⟩).gives ⟨s', h'⟩ ↔ ∃ d, (opK E o ⟨s, h⟩).gives (d, h') ∧ s' = putD o.dst d s := by
 unfold stepK
 split
 ·rename_i f args ts he; exact absurd he (hop f args ts)
 ·simp only [NM.gives_bind, NM.gives_pure]
  constructor
  ·rintro ⟨⟨d, h1⟩, hg, he⟩
   simp only [St.mk.injEq] at he
   obtain ⟨rfl, rfl⟩ := he
   exact ⟨d, hg, rfl⟩
  ·rintro ⟨d, hg, rfl⟩
   exact ⟨(d, h'), hg, rfl⟩
theorem fnKey_slots {xs : List Operand} (H : ∀ x ∈ xs, operand s2 x = operand s x) : fnKey s2 xs = fnKey s xs := by
 unfold fnKey
 induction xs with
 | nil => rfl
 | cons x r ih => rw [List.flatMap_cons, List.flatMap_cons, H x (by simp), ih fun y hy => H y (by simp [hy])]
theorem callV_slots {dst : Option Tmp} {f : Operand} {args : Array Operand} {ts : Array TypeId} (hf : operand s2 f = operand s f) (H : ∀ x ∈ args.toList, operand s2 x = operand s x) : callV E dst f args ts s2 h = callV E dst f args ts s h := by
 have : opnds s2 args.toList = opnds s args.toList := mapM_slots H
 have e2 := fnKey_slots H
 simp only [callV, oL, hf, this, e2]
end
end Go.VI
namespace Go.VI
open Go
structure Loc (m : Heap → NM (D × Heap)) (ft : Foot) (h h' : Heap) (d : D) : Prop where
 keep : ∀ x, x ∉ ft.W → h' x = h x
 loc : ∀ g, Near ft h g → ∃ g', (m g).gives (d, g') ∧ (∀ x ∈ ft.W, g' x = h' x) ∧ ∀ x, x ∉ ft.W → g' x = g x
section
variable {E : Env} {s s2 : List D} {h h' : Heap} {m : Heap → NM (D × Heap)} {ft : Foot} {d : D}
theorem Loc.still (hw : ft.W = []) (hh : h' = h) (H : ∀ g, Near ft h g → (m g).gives (d, g)) : Loc m ft h h' d :=
 ⟨fun x _ => by rw [hh], fun g hn => ⟨g, H g hn, fun x hx => (by rw [hw] at hx; cases hx), fun x _ => rfl⟩⟩
theorem Loc.make {id : Nat} {ob : Ob} (hw : ft.W = [id]) (hh : h' = upd h id ob) (H : ∀ g, Near ft h g → (m g).gives (d, upd g id ob)) : Loc m ft h h' d := by
 refine ⟨fun x hx => ?_, fun g hn => ⟨_, H g hn, fun x hx => ?_, fun x hx => ?_⟩⟩
 ·rw [hw] at hx; rw [hh, upd_other (by simpa using hx)]
 ·rw [hw] at hx; simp at hx; subst hx; rw [hh]; simp
 ·rw [hw] at hx; rw [upd_other (by simpa using hx)]
theorem Loc.whole (hf : ft.full = false) (hk : ∀ x, x ∉ ft.W → h' x = h x) (hg : (m h).gives (d, h')) : Loc m ft h h' d :=
 ⟨hk, fun g hn => by rw [hn.2 hf]; exact ⟨h', hg, fun x _ => rfl, fun x hx => hk x hx⟩⟩
theorem newOb_iff {id : Nat} {ob : Ob} : (newOb h id ob).gives h' ↔ h id = .none ∧ h' = upd h id ob := by
 unfold newOb
 constructor
 ·intro hg
  split at hg
  ·rename_i hn; rw [NM.gives_pure] at hg; exact ⟨hn, hg.symm⟩
  ·exact absurd hg NM.gives_fail
 ·rintro ⟨h1, rfl⟩
  rw [h1]; exact NM.gives_pure.2 rfl
theorem atK_same {X : Type} {n : Int} {k k' : Nat → NM X} {x x' : X} (H : ∀ j, (k j).gives x → (k' j).gives x') : ∀ {f i : Nat}, (atK n k f i).gives x → (atK n k' f i).gives x'
 | 0, i, hg => absurd hg NM.gives_fail
 | f + 1, i, hg => by
  simp only [atK, NM.gives_cond] at hg ⊢
  rcases hg with ⟨h, hg⟩ | ⟨h, hg⟩
  ·exact .inl ⟨h, H i hg⟩
  ·exact .inr ⟨h, atK_same H hg⟩
theorem loc_heapless {o : Oper} (hh : heapless o.op = true) (hop : (opK E o ⟨s, h⟩).gives (d, h')) : h' = h ∧ ∀ g, (opK E o ⟨s, g⟩).gives (d, g) := by
 obtain ⟨dst, op, ty, pos, aft, gd⟩ := o
 simp only at hh
 cases op with
 | move x => simp only [opK, NM.gives_bind, NM.gives_opt, NM.gives_pure, Prod.mk.injEq] at hop ⊢; obtain ⟨a, h1, rfl, rfl⟩ := hop; exact ⟨rfl, fun g => ⟨_, h1, rfl, trivial⟩⟩
 | assign x => simp only [opK, NM.gives_bind, NM.gives_opt, NM.gives_pure, Prod.mk.injEq] at hop ⊢; obtain ⟨a, h1, rfl, rfl⟩ := hop; exact ⟨rfl, fun g => ⟨_, h1, rfl, trivial⟩⟩
 | pick c x y =>
  simp only [opK, NM.gives_bind, NM.gives_opt, NM.gives_cond, NM.gives_pure, Prod.mk.injEq] at hop ⊢
  obtain ⟨t, h1, a, h2, b, h3, ⟨h4, rfl, rfl⟩ | ⟨h4, rfl, rfl⟩⟩ := hop
  ·exact ⟨rfl, fun g => ⟨t, h1, _, h2, b, h3, .inl ⟨h4, rfl, trivial⟩⟩⟩
  ·exact ⟨rfl, fun g => ⟨t, h1, a, h2, _, h3, .inr ⟨h4, rfl, trivial⟩⟩⟩
 | build t parts =>
  simp only [opK, NM.gives_bind, NM.gives_opt] at hop ⊢
  obtain ⟨ti, h1, c, h2, hop⟩ := hop
  split at hop
  ·rename_i fs hk
   simp only [NM.gives_guard, NM.gives_bind, NM.gives_opt, NM.gives_pure, Prod.mk.injEq] at hop
   obtain ⟨h3, ls, h4, rfl, rfl⟩ := hop
   refine ⟨rfl, fun g => ⟨ti, h1, c, h2, ?_⟩⟩
   rw [hk]
   simp only [NM.gives_guard, NM.gives_bind, NM.gives_opt, NM.gives_pure, Prod.mk.injEq]
   exact ⟨h3, ls, h4, rfl, trivial⟩
  ·rename_i n e hk
   simp only [NM.gives_bind, NM.gives_opt, NM.gives_pure, Prod.mk.injEq] at hop
   obtain ⟨te, h3, ls, h4, rfl, rfl⟩ := hop
   refine ⟨rfl, fun g => ⟨ti, h1, c, h2, ?_⟩⟩
   rw [hk]
   simp only [NM.gives_bind, NM.gives_opt, NM.gives_pure, Prod.mk.injEq]
   exact ⟨te, h3, ls, h4, rfl, trivial⟩
  ·exact absurd hop NM.gives_fail
 | nilCheck x =>
  simp only [opK, NM.gives_bind, NM.gives_opt] at hop ⊢
  obtain ⟨l, h1, hop⟩ := hop
  split at hop <;> simp only [NM.gives_pure, NM.gives_fail, Prod.mk.injEq] at hop <;> (obtain ⟨rfl, rfl⟩ := hop; exact ⟨rfl, fun g => ⟨_, h1, NM.gives_pure.2 rfl⟩⟩)
 | binOp op t x y u =>
  simp only [opK, NM.gives_bind, NM.gives_opt, NM.gives_pure, Prod.mk.injEq] at hop ⊢
  obtain ⟨a, h1, b, h2, c, h3, rfl, rfl⟩ := hop
  exact ⟨rfl, fun g => ⟨a, h1, b, h2, _, h3, rfl, trivial⟩⟩
 | unOp op t x =>
  simp only [opK, NM.gives_bind, NM.gives_opt] at hop ⊢
  obtain ⟨l, h1, hop⟩ := hop
  split at hop <;> simp only [NM.gives_pure, NM.gives_fail, Prod.mk.injEq] at hop <;> (obtain ⟨rfl, rfl⟩ := hop; exact ⟨rfl, fun g => ⟨_, h1, NM.gives_pure.2 rfl⟩⟩)
 | makeFunc fn first captured =>
  cases fn with
  | func f =>
   simp only [opK, NM.gives_bind, NM.gives_guard, NM.gives_opt, NM.gives_pure, Prod.mk.injEq] at hop ⊢
   obtain ⟨h0, cs, h1, rfl, rfl⟩ := hop
   exact ⟨rfl, fun g => ⟨h0, cs, h1, rfl, trivial⟩⟩
  | _ => exact absurd hop NM.gives_fail
 | fieldAddr t x fi =>
  simp only [opK, NM.gives_bind, NM.gives_opt] at hop ⊢
  obtain ⟨ti, h0, l, h1, hop⟩ := hop
  split at hop
  ·rename_i fs hk
   simp only [NM.gives_bind, NM.gives_opt, NM.gives_guard] at hop
   obtain ⟨p, h2, q, h3, h4, hop⟩ := hop
   split at hop
   ·simp only [NM.gives_pure, Prod.mk.injEq] at hop; obtain ⟨rfl, rfl⟩ := hop
    refine ⟨rfl, fun g => ⟨ti, h0, _, h1, ?_⟩⟩
    rw [hk]; simp only [NM.gives_bind, NM.gives_opt, NM.gives_guard]
    exact ⟨p, h2, q, h3, h4, NM.gives_pure.2 rfl⟩
   ·simp only [NM.gives_pure, Prod.mk.injEq] at hop; obtain ⟨rfl, rfl⟩ := hop
    refine ⟨rfl, fun g => ⟨ti, h0, _, h1, ?_⟩⟩
    rw [hk]; simp only [NM.gives_bind, NM.gives_opt, NM.gives_guard]
    exact ⟨p, h2, q, h3, h4, NM.gives_pure.2 rfl⟩
   ·exact absurd hop NM.gives_fail
  ·exact absurd hop NM.gives_fail
 | field t x fi =>
  simp only [opK, NM.gives_bind, NM.gives_opt] at hop ⊢
  obtain ⟨ti, h0, v, h1, hop⟩ := hop
  split at hop
  ·rename_i fs ls hk
   simp only [NM.gives_bind, NM.gives_opt, NM.gives_guard, NM.gives_pure, Prod.mk.injEq] at hop
   obtain ⟨p, h2, q, h3, h4, d1, h5, rfl, rfl⟩ := hop
   refine ⟨rfl, fun g => ⟨ti, h0, _, h1, ?_⟩⟩
   rw [hk]; simp only [NM.gives_bind, NM.gives_opt, NM.gives_guard, NM.gives_pure, Prod.mk.injEq]
   exact ⟨p, h2, q, h3, h4, _, h5, rfl, trivial⟩
  ·exact absurd hop NM.gives_fail
 | index t x i =>
  simp only [opK, NM.gives_bind, NM.gives_opt] at hop ⊢
  obtain ⟨ti, h0, n, h1, hop⟩ := hop
  split at hop
  ·rename_i hk
   simp only [NM.gives_bind, NM.gives_opt] at hop
   obtain ⟨l, hl, hop⟩ := hop
   split at hop
   ·simp only [NM.gives_guard, NM.gives_pure, Prod.mk.injEq] at hop
    obtain ⟨h2, h3, rfl, rfl⟩ := hop
    refine ⟨rfl, fun g => ⟨ti, h0, n, h1, ?_⟩⟩
    rw [hk]
    simp only [NM.gives_bind, NM.gives_opt]
    refine ⟨_, hl, ?_⟩
    simp only [NM.gives_guard, NM.gives_pure, Prod.mk.injEq]
    first | trivial | exact ⟨h2, h3, rfl, trivial⟩
   ·exact absurd hop NM.gives_fail
  ·rename_i m e hk
   simp only [NM.gives_bind, NM.gives_opt] at hop
   obtain ⟨te, hte, v, hv, hop⟩ := hop
   split at hop
   ·simp only [NM.gives_guard] at hop
    obtain ⟨h2, h3, hop⟩ := hop
    have hop0 := hop
    obtain ⟨j, _, hop⟩ := atK_gives hop
    simp only [NM.gives_guard, NM.gives_bind, NM.gives_pure, Prod.mk.injEq] at hop
    obtain ⟨h4, d1, h5, rfl, rfl⟩ := hop
    refine ⟨rfl, fun g => ⟨ti, h0, n, h1, ?_⟩⟩
    rw [hk]
    simp only [NM.gives_bind, NM.gives_opt]
    refine ⟨te, hte, _, hv, ?_⟩
    simp only [NM.gives_guard]
    refine ⟨h2, h3, atK_same (fun j hj => ?_) hop0⟩
    simp only [NM.gives_guard, NM.gives_bind, NM.gives_pure, Prod.mk.injEq] at hj ⊢
    obtain ⟨e1, d2, e2, e3, _⟩ := hj
    exact ⟨e1, d2, e2, e3, trivial⟩
   ·exact absurd hop NM.gives_fail
  ·exact absurd hop NM.gives_fail
 | lookup t x i c =>
  simp only [opK, NM.gives_guard, NM.gives_bind, NM.gives_opt] at hop ⊢
  obtain ⟨h0, l, h1, p, h2, hop⟩ := hop
  split at hop
  ·simp only [NM.gives_guard, NM.gives_bind, NM.gives_pure, Prod.mk.injEq] at hop
   obtain ⟨h3, l', h4, rfl, rfl⟩ := hop
   refine ⟨rfl, fun g => ⟨h0, _, h1, p, h2, ?_⟩⟩
   simp only [NM.gives_guard, NM.gives_bind, NM.gives_pure, Prod.mk.injEq]
   exact ⟨h3, l', h4, rfl, trivial⟩
  ·exact absurd hop NM.gives_fail
 | extract x i =>
  simp only [opK, NM.gives_bind, NM.gives_opt] at hop ⊢
  obtain ⟨v, h0, hop⟩ := hop
  split at hop
  ·simp only [NM.gives_bind, NM.gives_opt, NM.gives_pure, Prod.mk.injEq] at hop
   obtain ⟨p, h2, d1, h3, rfl, rfl⟩ := hop
   refine ⟨rfl, fun g => ⟨_, h0, ?_⟩⟩
   simp only [NM.gives_bind, NM.gives_opt, NM.gives_pure, Prod.mk.injEq]
   exact ⟨p, h2, _, h3, rfl, trivial⟩
  ·exact absurd hop NM.gives_fail
 | call c =>
  obtain ⟨callee, args, ts⟩ := c
  cases callee with
  | builtin b =>
   simp only [opK] at hop ⊢
   split at hop
   ·simp [heapless] at hh
   ·simp [heapless] at hh
   ·simp only [NM.gives_bind, NM.gives_opt, NM.gives_pure, Prod.mk.injEq] at hop ⊢
    obtain ⟨p, h1, q, h2, rfl, rfl⟩ := hop
    exact ⟨rfl, fun g => ⟨p, h1, q, h2, rfl, trivial⟩⟩
   ·simp only [NM.gives_bind, NM.gives_opt, NM.gives_pure, Prod.mk.injEq] at hop ⊢
    obtain ⟨p, h1, q, h2, rfl, rfl⟩ := hop
    exact ⟨rfl, fun g => ⟨p, h1, q, h2, rfl, trivial⟩⟩
   ·simp only [NM.gives_bind, NM.gives_opt, NM.gives_pure, Prod.mk.injEq] at hop ⊢
    obtain ⟨p, h1, q, h2, u, h3, rfl, rfl⟩ := hop
    exact ⟨rfl, fun g => ⟨p, h1, q, h2, u, h3, rfl, trivial⟩⟩
   ·simp only [NM.gives_bind, NM.gives_opt, NM.gives_pure, Prod.mk.injEq] at hop ⊢
    obtain ⟨p, h1, q, h2, u, h3, rfl, rfl⟩ := hop
    exact ⟨rfl, fun g => ⟨p, h1, q, h2, u, h3, rfl, trivial⟩⟩
   ·exact absurd hop NM.gives_fail
  | _ => simp [heapless] at hh
 | _ => simp [heapless] at hh
end
end Go.VI
namespace Go.VI
open Go
section
variable {E : Env} {s s2 : List D} {h h' g : Heap} {ft : Foot} {d : D} {X Y : Type}
theorem handlesOf_oL {x : Operand} {l : L} (hl : oL s x = some l) : ∀ o ∈ handles l, o ∈ handlesOf s x := by
 intro o ho
 simp only [oL, Option.bind_eq_some_iff] at hl
 obtain ⟨d, hd, hl⟩ := hl
 cases d with
 | one l0 => simp only [D.leaf, Option.some.injEq] at hl; subst hl; unfold handlesOf; rw [hd]; simpa [D.ls] using ho
 | agg => simp [D.leaf] at hl
 | tup => simp [D.leaf] at hl
theorem handlesOf_op {x : Operand} {d : D} (hd : operand s x = some d) : ∀ l ∈ d.ls, ∀ o ∈ handles l, o ∈ handlesOf s x := by
 intro l hl o ho
 unfold handlesOf; rw [hd]
 exact List.mem_flatMap.2 ⟨l, hl, ho⟩
theorem loadL_near {n : Nat} {l : L} (H : ∀ o ∈ handles l, g o = h o) : loadL g n l = loadL h n l := by
 cases l with
 | ptr o i j => simp only [loadL, H o (by simp [handles])]
 | _ => rfl
theorem lenL_near {l : L} (H : ∀ o ∈ handles l, g o = h o) : lenL g l = lenL h l := by
 cases l with
 | own o => simp only [lenL, H o (by simp [handles])]
 | sub o a b => simp only [lenL, H o (by simp [handles])]
 | pv c x => cases c <;> rfl
 | _ => rfl
theorem indexL_near {n : Nat} {i : Int} {l : L} (H : ∀ o ∈ handles l, g o = h o) : indexL g n i l = indexL h n i l := by
 cases l with
 | own o => simp only [indexL, H o (by simp [handles])]
 | sub o a b => simp only [indexL, H o (by simp [handles])]
 | pv c x => cases c <;> rfl
 | _ => rfl
theorem sliceL_near {n : Nat} {a b : Option Int} {l : L} (H : ∀ o ∈ handles l, g o = h o) : sliceL g n a b l = sliceL h n a b l := by
 cases l with
 | own o => simp only [sliceL, H o (by simp [handles])]
 | sub o a b => simp only [sliceL, H o (by simp [handles])]
 | pv c x => cases c <;> rfl
 | _ => rfl
theorem lend_near {l : L} (H : ∀ o ∈ handles l, g o = h o) : lend g l = lend h l := by
 cases l with
 | own o => simp only [lend, H o (by simp [handles])]
 | sub o a b => simp only [lend, H o (by simp [handles])]
 | _ => rfl
theorem lend0_near {l : L} (H : ∀ o ∈ handles l, g o = h o) : lend0 g l = lend0 h l := by
 cases l with
 | own o => simp only [lend0, H o (by simp [handles])]
 | sub o a b => simp only [lend0, H o (by simp [handles])]
 | _ => rfl
theorem rowOf_near {c : TC} {l : L} (H : ∀ o ∈ handles l, g o = h o) : rowOf g c l = rowOf h c l := by
 cases l with
 | nils => rfl
 | _ => simp only [rowOf, lend0_near H]
/-! ### computations on memory, put together -/
structure LocX (m : Heap → NM (X × Heap)) (R W : List Nat) (h h' : Heap) (x : X) : Prop where
 keep : ∀ o, o ∉ W → h' o = h o
 loc : ∀ g, (∀ o, (o ∈ R ∨ o ∈ W) → g o = h o) → ∃ g', (m g).gives (x, g') ∧ (∀ o ∈ W, g' o = h' o) ∧ ∀ o, o ∉ W → g' o = g o
theorem LocX.weaken {m : Heap → NM (X × Heap)} {R W R' W' : List Nat} {x : X} (c : LocX m R W h h' x) (hr : ∀ o ∈ R, o ∈ R' ∨ o ∈ W') (hw : ∀ o ∈ W, o ∈ W') : LocX m R' W' h h' x :=
 ⟨fun o ho => c.keep o fun hm => ho (hw o hm), fun g hg => by
  obtain ⟨g', k1, k2, k3⟩ := c.loc g fun o ho => by
   rcases ho with ho | ho
   ·rcases hr o ho with h1 | h1
    ·exact hg o (.inl h1)
    ·exact hg o (.inr h1)
   ·exact hg o (.inr (hw o ho))
  refine ⟨g', k1, fun o ho => ?_, fun o ho => k3 o fun hm => ho (hw o hm)⟩
  by_cases hm : o ∈ W
  ·exact k2 o hm
  ·rw [k3 o hm, c.keep o hm, hg o (.inr ho)]⟩
theorem LocX.bind {m : Heap → NM (X × Heap)} {n : X → Heap → NM (Y × Heap)} {R W : List Nat} {h1 : Heap} {x : X} {y : Y} (c : LocX m R W h h1 x) (c2 : LocX (n x) R W h1 h' y) : LocX (fun g => (m g).bind fun p => n p.1 p.2) R W h h' y :=
 ⟨fun o ho => by rw [c2.keep o ho, c.keep o ho], fun g hg => by
  obtain ⟨g1, k1, k2, k3⟩ := c.loc g hg
  obtain ⟨g2, j1, j2, j3⟩ := c2.loc g1 fun o ho => by
   by_cases hm : o ∈ W
   ·exact k2 o hm
   ·rw [k3 o hm, c.keep o hm]
    exact hg o ho
  exact ⟨g2, NM.gives_bind.2 ⟨_, k1, j1⟩, j2, fun o ho => by rw [j3 o ho, k3 o ho]⟩⟩
theorem LocX.pure {R W : List Nat} (x : X) : LocX (fun g => NM.pure (x, g)) R W h h x :=
 ⟨fun _ _ => rfl, fun g hg => ⟨g, NM.gives_pure.2 rfl, fun o ho => hg o (.inr ho), fun _ _ => rfl⟩⟩
theorem solid_loc {l l' : L} (hg : (solid h l).gives (l', h')) : LocX (fun g => solid g l) [] (handles l) h h' l' := by
 have still : h' = h → (∀ g, (∀ o ∈ handles l, g o = h o) → (solid g l).gives (l', g)) → LocX (fun g => solid g l) [] (handles l) h h' l' := fun e H =>
  ⟨fun o _ => by rw [e], fun g hg => ⟨g, H g fun o ho => hg o (.inr ho), fun o ho => by rw [e]; exact hg o (.inr ho), fun o _ => rfl⟩⟩
 have ups : ∀ (o : Nat) (b : Ob), handles l = [o] → h' = upd h o b → (∀ g, (∀ o ∈ handles l, g o = h o) → (solid g l).gives (l', upd g o b)) → LocX (fun g => solid g l) [] (handles l) h h' l' := fun o b e1 e H =>
  ⟨fun x hx => by rw [e, upd_other (by rw [e1] at hx; simpa using hx)], fun g hg => ⟨_, H g fun o ho => hg o (.inr ho), fun x hx => by rw [e1] at hx; simp at hx; subst hx; rw [e]; simp, fun x hx => upd_other (by rw [e1] at hx; simpa using hx)⟩⟩
 cases l with
 | own o =>
  simp only [solid] at hg
  split at hg
  ·rename_i e c l hh
   simp only [NM.gives_pure, Prod.mk.injEq] at hg; obtain ⟨rfl, rfl⟩ := hg
   refine ups o _ rfl rfl fun g hg => ?_
   simp only [solid, hg o (by simp [handles]), hh, NM.gives_pure]
  ·rename_i c l hh
   simp only [NM.gives_pure, Prod.mk.injEq] at hg; obtain ⟨rfl, rfl⟩ := hg
   refine still rfl fun g hg => ?_
   simp only [solid, hg o (by simp [handles]), hh, NM.gives_pure]
  ·rename_i e d n ll hh
   simp only [NM.gives_pure, Prod.mk.injEq] at hg; obtain ⟨rfl, rfl⟩ := hg
   refine ups o _ rfl rfl fun g hg => ?_
   simp only [solid, hg o (by simp [handles]), hh, NM.gives_pure]
  ·exact absurd hg NM.gives_fail
 | sub o a b =>
  simp only [solid] at hg
  split at hg
  ·rename_i e c l hh
   simp only [NM.gives_pure, Prod.mk.injEq] at hg; obtain ⟨rfl, rfl⟩ := hg
   refine ups o _ rfl rfl fun g hg => ?_
   simp only [solid, hg o (by simp [handles]), hh, NM.gives_pure]
  ·rename_i c l hh
   simp only [NM.gives_pure, Prod.mk.injEq] at hg; obtain ⟨rfl, rfl⟩ := hg
   refine still rfl fun g hg => ?_
   simp only [solid, hg o (by simp [handles]), hh, NM.gives_pure]
  ·exact absurd hg NM.gives_fail
 | _ =>
  simp only [solid, NM.gives_pure, Prod.mk.injEq] at hg
  obtain ⟨rfl, rfl⟩ := hg
  exact still rfl fun g hg => NM.gives_pure.2 rfl
theorem solids_loc : ∀ {ls ls' : List L} {h h' : Heap}, (solids h ls).gives (ls', h') → LocX (fun g => solids g ls) [] (ls.flatMap handles) h h' ls'
 | [], ls', h, h', hg => by
  simp only [solids, NM.gives_pure, Prod.mk.injEq] at hg
  obtain ⟨rfl, rfl⟩ := hg
  exact .pure _
 | l :: r, ls', h, h', hg => by
  simp only [solids, NM.gives_bind, NM.gives_pure, Prod.mk.injEq] at hg
  obtain ⟨⟨l1, h1⟩, hl, ⟨r1, h2⟩, hr, rfl, rfl⟩ := hg
  have c1 := (solid_loc hl).weaken (R' := []) (W' := (l :: r).flatMap handles) (by simp) (fun o ho => by simp [ho])
  have c2 := (solids_loc hr).weaken (R' := []) (W' := (l :: r).flatMap handles) (by simp) (fun o ho => by rw [List.flatMap_cons]; exact List.mem_append_right _ ho)
  exact LocX.bind (n := fun l' h' => (solids h' r).bind fun p => .pure (l' :: p.1, p.2)) c1 (LocX.bind (n := fun r' h' => .pure (l1 :: r', h')) c2 (.pure _))
end
end Go.VI
namespace Go.VI
open Go
section
variable {F : Fx} {E : Env} {α : Nat → Value} {ok : Nat → Prop} {h h' : Heap} {w : World} {s s' : List D} {a : Act}
def resOf (tmps : Array Value) : ResultVar → Sem Value
 | .tmp t => pure (tmps.getD t undef)
 | .cell a t => do loadVar t (← asAddr (tmps.getD a undef))
theorem slot_ok (S : SR w α ok h s a) {t : Nat} {d : D} (hd : s[t]? = some d) : DR w α ok h d (a.tmps.getD t undef) := by
 obtain ⟨v, hv, k⟩ := F2.get S hd
 have : a.tmps[t]? = some v := by simpa using hv
 simpa [this] using k
theorem run_mapM_cons {P : Program} {A B : Type} {f : A → Sem B} {x : A} {r : List A} {b : B} {bs : List B} (h1 : (f x).run P w = .ok b w) (h2 : (r.mapM f).run P w = .ok bs w) : ((x :: r).mapM f).run P w = .ok (b :: bs) w := by
 rw [List.mapM_cons]
 simp [h1, h2]
theorem resD_ok (hT : tbOk F.P E.T = true) (C : Core F α ok h w) (S : SR w α ok h s a) : ∀ {rs : List ResultVar} {ds : List D}, (resD E.T ⟨s, h⟩ rs).gives ds →
  ∃ vs : List Value, (rs.mapM (resOf a.tmps)).run F.P w = .ok vs w ∧ F2 (DR w α ok h) ds vs
 | [], ds, hg => by
  simp only [resD, NM.gives_pure] at hg
  subst hg
  exact ⟨[], by simp, trivial⟩
 | .tmp t :: r, ds, hg => by
  simp only [resD, NM.gives_bind, NM.gives_opt, NM.gives_pure] at hg
  obtain ⟨d, hd, ds1, hr, rfl⟩ := hg
  obtain ⟨vs, hrun, k⟩ := resD_ok hT C S hr
  exact ⟨_ :: vs, run_mapM_cons (by simp [resOf]) hrun, slot_ok S hd, k⟩
 | .cell ad t :: r, ds, hg => by
  simp only [resD, NM.gives_bind, NM.gives_opt, NM.gives_pure, Option.bind_eq_some_iff] at hg
  obtain ⟨ti, hti, l, ⟨dd, hdd, hl⟩, hg⟩ := hg
  have kl := slot_ok S hdd
  cases dd with
  | one l0 =>
   simp only [D.leaf, Option.some.injEq] at hl
   subst hl
   split at hg
   ·rename_i hi
    simp only [NM.gives_bind, NM.gives_pure] at hg
    obtain ⟨zs, hz, ds1, hr, rfl⟩ := hg
    obtain ⟨vs, hrun, k⟩ := resD_ok hT C S hr
    obtain ⟨g, off, hv, hrun1⟩ := whole_load hT C hti hi hz kl
    exact ⟨.agg (zs.map (Value.int .i64)).toArray :: vs, run_mapM_cons (by simp only [resOf, hv]; simp [asAddr, hrun1]) hrun, rfl, k⟩
   simp only [NM.gives_bind, NM.gives_pure] at hg
   obtain ⟨ls, hls, d, hd, ds1, hr, rfl⟩ := hg
   obtain ⟨vs, hrun, k⟩ := resD_ok hT C S hr
   obtain ⟨g, off, us, hv, hc1, hn, hc⟩ := loadL_ok C hls kl
   obtain ⟨v, hrun1, hD⟩ := run_loadVar (tb_get hT hti) hn hc hc1 hd
   exact ⟨v :: vs, run_mapM_cons (by simp only [resOf, hv]; simp [asAddr, hrun1]) hrun, hD, k⟩
  | agg ls => simp [D.leaf] at hl
  | tup ls => simp [D.leaf] at hl
theorem results_ok {fn : Func} {vs : List Value} (hr : (fn.results.toList.mapM (resOf a.tmps)).run F.P w = .ok vs w) {ds : List D} (k : F2 (DR w α ok h) ds vs) :
  ∃ v, (results fn a.tmps).run F.P w = .ok v w ∧ RetR w α ok h ds v := by
 have h1 : (fn.results.mapM (resOf a.tmps)).run F.P w = .ok vs.toArray w := by
  rw [Array.mapM_eq_mapM_toList]
  simp [hr]
 have h2 : (results fn a.tmps).run F.P w = .ok (if h : vs.toArray.size = 1 then vs.toArray[0] else .tuple vs.toArray) w := by
  have : results fn a.tmps = (do let vs ← fn.results.mapM (resOf a.tmps); pure (if h : vs.size = 1 then vs[0] else .tuple vs)) := by
   unfold results
   congr 1
  rw [this]
  simp [h1]
 refine ⟨_, h2, ?_⟩
 match ds, vs, k with
 | [], [], _ => exact ⟨#[], rfl, trivial⟩
 | [d], [v], k => exact k.1
 | d :: e :: r, [], k => exact k.elim
 | d :: e :: r, [v], k => exact k.2.elim
 | d :: e :: r, v :: u :: vs, k => exact ⟨_, by simp, k⟩
 | [d], v :: u :: vs, k => exact k.2.elim
 | [], v :: vs, k => exact k.elim
 | [d], [], k => exact k.elim
end
structure FnOK (P : Program) (E : Env) (fn : Func) (c : Code) (sh : Sh) : Prop where
 body : fn.body = some c
 name : (fn.name == "runtime.NumGoroutine") = false
 types : tbOk P E.T = true
 st : codeSt E.T c = true
 n : E.N = fn.ntmps
 m : E.m = sh.os.length
 m100 : Nat.ble sh.os.length 100 = true
 args : Nat.ble sh.ds.length fn.ntmps = true
theorem dsEnc_len : ∀ (ss : List DS) (x : dsX ss), (dsEnc ss x).length = ss.length
 | [], x => rfl
 | s :: r, x => by simp [dsEnc, dsEnc_len r x.2]
theorem fn_ok {P : Program} {tabs : List (Nat × Obj)} {E : Env} {f : FuncId} {fn : Func} {c : Code} {lend : List Bool} {ret : Bool} {sh osh : Sh} {Fn : sh.X → Option osh.X} (hf : P.funcs[f]? = some fn) (K : FnOK P E fn c sh) (hD : ∀ F : Fx, F.P = P → F.tabs = tabs → F.m = E.m → DrawSound F E)
  (hK : EnvOK P tabs E) {hs : List Hint} (hA : (mk hs c []).known E)
  (hb : ∀ x y, Fn x = some y → (bodyO E (mk hs c []) fn.results.toList sh osh x).gives y) : FOK P tabs f (FE.of lend ret sh osh Fn) := by
 have hbody : fn.body.isNone = false := by rw [K.body]; rfl
 have hname : ¬ fn.name = "runtime.NumGoroutine" := by simpa using K.name
 refine ⟨fun args w => by simp [callFunc, hf, hname, K.body], ?_⟩
 intro x y hxy w α ok vals C k
 have hg := hb x y hxy
 simp only [bodyO, NM.gives_bind, NM.gives_guard, NM.gives_pure, NM.gives_opt] at hg
 obtain ⟨⟨ex, s1, h1⟩, hev, hex, rs0, hrs, ⟨rs, h2⟩, hfit, ⟨rs', obs, tr⟩, hpk, hdec⟩ := hg
 simp only at hex hrs hpk hdec hfit
 have hlen : vals.length = sh.ds.length := by rw [← k.length, dsEnc_len]
 have hE : E.m = sh.os.length := K.m
 simp only [Sh.dec, Option.bind_eq_some_iff, Option.some.injEq] at hdec
 obtain ⟨y1, hy1, y2, hy2, rfl⟩ := hdec
 refine calls_of_wp hf K.body ?_
 refine ev_ok (F := ⟨P, tabs, w, sh.os.length, α, heapOf (osEnc sh.os x.2), ok⟩) (E := E) hE K.types (Nat.le_of_ble_eq_true K.m100) hK (hD _ rfl rfl hE.symm) c [] K.st hA _ _ _ _ _ hev _ α ok w _ C ?_ ?_ rfl ?_
 ·show F2 _ _ ((vals.toArray ++ Array.replicate (fn.ntmps - vals.toArray.size) undef).toList)
  have : (vals.toArray ++ Array.replicate (fn.ntmps - vals.toArray.size) undef).toList = vals ++ List.replicate (fn.ntmps - vals.length) undef := by simp
  rw [this, K.n, ← k.length]
  exact F2.append k (F2.replicate _ trivial)
 ·simp [hlen, K.n]
  have := Nat.le_of_ble_eq_true K.args
  omega
 ·intro α' ok' w' a' C' S' hN hd
  obtain ⟨vs, hrun, kr⟩ := resD_ok (F := ⟨P, tabs, w, sh.os.length, α, heapOf (osEnc sh.os x.2), ok⟩) K.types C' S' hrs
  rw [hE] at hpk
  obtain ⟨αf, okf, Cf, Sf, kf⟩ := fitAll_ok (F := ⟨P, tabs, w, sh.os.length, α, heapOf (osEnc sh.os x.2), ok⟩) C' (Nat.le_of_ble_eq_true K.m100) hfit kr
  obtain ⟨C2, k2⟩ := repack Cf hpk
  obtain ⟨C3, S3⟩ := C2.told (heapOf_told (ossdec_ok hy2))
  have k3 := dssdec_ok hy1 (F2.mono (fun _ _ hr => DR.stay S3 hr) (k2 kf))
  obtain ⟨v, hres, hR⟩ := results_ok (F := ⟨P, tabs, w, sh.os.length, α, heapOf (osEnc sh.os x.2), ok⟩) hrun k3
  cases ex with
  | normal => exact ⟨hd, v, hres, v, _, okf, rfl, C3, hR⟩
  | ret => exact ⟨hd, v, hres, v, _, okf, rfl, C3, hR⟩
  | exit n => simp [Ex.num, Nat.blt] at hex
end Go.VI
namespace Go.VI
open Go
section
variable {E : Env} {s s2 : List D} {h h' g : Heap} {ft : Foot} {d : D} {X Y : Type}
theorem buildRow_loc {c : TC} : ∀ {ps : List (Nat × Operand)} {n : Nat} {h h' : Heap} {vs : List c.α}, (buildRow c s h n ps).gives (vs, h') → LocX (fun g => buildRow c s g n ps) [] ((ps.map (·.2)).flatMap (handlesOf s)) h h' vs
 | [], n, h, h', vs, hg => by
  simp only [buildRow, NM.gives_pure, Prod.mk.injEq] at hg
  obtain ⟨rfl, rfl⟩ := hg
  exact .pure _
 | (i, x) :: r, n, h, h', vs, hg => by
  simp only [buildRow, NM.gives_guard, NM.gives_bind, NM.gives_opt, NM.gives_pure, Prod.mk.injEq] at hg
  obtain ⟨h0, d, hd, ⟨ls, h1⟩, hs, v, hv, ⟨vs1, h2⟩, hr, rfl, rfl⟩ := hg
  have c1 := (solids_loc hs).weaken (R' := []) (W' := (((i, x) :: r).map (·.2)).flatMap (handlesOf s)) (by simp) (fun o ho => by
   obtain ⟨l, hl, hm⟩ := List.mem_flatMap.1 ho
   rw [List.map_cons, List.flatMap_cons]
   exact List.mem_append_left _ (handlesOf_op hd l hl o hm))
  have c2 := (buildRow_loc hr).weaken (R' := []) (W' := (((i, x) :: r).map (·.2)).flatMap (handlesOf s)) (by simp) (fun o ho => by rw [List.map_cons, List.flatMap_cons]; exact List.mem_append_right _ ho)
  have c3 := LocX.bind (n := fun (ls' : List L) h' => (NM.opt (unleaves c ls')).bind fun v => (buildRow c s h' (n + 1) r).bind fun p => .pure (v :: p.1, p.2)) (y := v :: vs1) (h' := h2) c1
   ⟨fun o ho => (c2.keep o ho), fun g hg => by
    obtain ⟨g', k1, k2, k3⟩ := c2.loc g hg
    exact ⟨g', by simp only [NM.gives_bind, NM.gives_opt, NM.gives_pure]; exact ⟨v, hv, _, k1, rfl⟩, k2, k3⟩⟩
  exact ⟨c3.keep, fun g hg => by
   obtain ⟨g', k1, k2, k3⟩ := c3.loc g hg
   refine ⟨g', ?_, k2, k3⟩
   simp only [buildRow, NM.gives_guard, NM.gives_bind, NM.gives_opt, NM.gives_pure, Prod.mk.injEq]
   simp only [NM.gives_bind, NM.gives_opt, NM.gives_pure, Prod.mk.injEq] at k1
   obtain ⟨p, k1, q, k4, u, k5, k6, k7⟩ := k1
   exact ⟨h0, d, hd, p, k1, q, k4, u, k5, k6, k7⟩⟩
theorem Near.full {ft : Foot} {g : Heap} (hn : Near ft h g) (hf : ft.full = true) {o : Nat} (ho : o ∈ ft.R ∨ o ∈ ft.W) : g o = h o := hn.1 hf o ho
theorem LocX.toLoc {m : Heap → NM (D × Heap)} {R W : List Nat} (c : LocX m R W h h' d) : Loc m ⟨R, W, true⟩ h h' d :=
 ⟨c.keep, fun g hn => c.loc g fun o ho => hn.1 rfl o ho⟩
theorem LocX.make {m : Heap → NM (D × Heap)} {R W : List Nat} {id : Nat} {ob : Ob} (hh : h' = upd h id ob) (hw : id ∈ W) (H : ∀ g, (∀ o, (o ∈ R ∨ o ∈ W) → g o = h o) → (m g).gives (d, upd g id ob)) : LocX m R W h h' d :=
 ⟨fun o ho => by rw [hh, upd_other fun e => ho (by rw [e]; exact hw)], fun g hg => ⟨_, H g hg, fun o ho => by
  by_cases e : o = id
  ·subst e; rw [hh]; simp
  ·rw [hh, upd_other e, upd_other e]; exact hg o (.inr ho), fun o ho => upd_other fun e => ho (by rw [e]; exact hw)⟩⟩
theorem storeL_keep {ls : List L} {l : L} (hg : (storeL h ls l).gives h') : ∀ o, o ∉ handles l ++ ls.flatMap handles → h' o = h o := by
 intro x hx
 rw [List.mem_append, not_or] at hx
 cases l with
 | ptr o i j =>
  have hxo : x ≠ o := by have := hx.1; simpa [handles] using this
  simp only [storeL] at hg
  split at hg
  ·simp only [NM.gives_guard, NM.gives_pure] at hg
   obtain ⟨_, rfl⟩ := hg
   exact upd_other hxo
  ·simp only [NM.gives_bind, NM.gives_guard, NM.gives_opt] at hg
   obtain ⟨⟨ls', h1⟩, hs, _, y, hy, hg⟩ := hg
   split at hg
   ·rw [NM.gives_pure] at hg; subst hg
    rw [upd_other hxo]
    exact (solids_loc hs).keep x hx.2
   ·exact absurd hg NM.gives_fail
  ·exact absurd hg NM.gives_fail
 | _ => exact absurd hg NM.gives_fail
theorem appendL_loc {id : Nat} {e : TypeId} {c : TC} {by' : Nat} {y l l' : L} (hg : (appendL h id e c by' y l).gives (l', h')) : LocX (fun g => appendL g id e c by' y l) (handles y) (id :: handles l) h h' l' := by
 cases l with
 | nils =>
  simp only [appendL, NM.gives_bind, NM.gives_opt, NM.gives_guard, NM.gives_pure, Prod.mk.injEq] at hg
  obtain ⟨ys, hy, hb, h1, hn, rfl, rfl⟩ := hg
  obtain ⟨e1, rfl⟩ := newOb_iff.1 hn
  refine ⟨fun o ho => upd_other fun e => ho (by simp [e]), fun g hg => ⟨upd g id (.row e c ys), ?_, fun o ho => ?_, fun o ho => upd_other fun e => ho (by simp [e])⟩⟩
  ·simp only [appendL, NM.gives_bind, NM.gives_opt, NM.gives_guard, NM.gives_pure, Prod.mk.injEq]
   exact ⟨ys, by rw [rowOf_near fun o ho => hg o (.inl ho)]; exact hy, hb, _, newOb_iff.2 ⟨by rw [hg id (.inr (by simp))]; exact e1, rfl⟩, trivial, rfl⟩
  ·simp [handles] at ho; subst ho; simp
 | own o =>
  simp only [appendL] at hg
  split at hg
  ·rename_i e' c' l hh
   simp only [NM.gives_bind, NM.gives_opt] at hg
   obtain ⟨ys, hy, hg⟩ := hg
   split at hg
   ·rename_i hc
    simp only [NM.gives_bind, NM.gives_guard, NM.gives_pure, Prod.mk.injEq] at hg
    obtain ⟨he, hb, h1, hn, rfl, rfl⟩ := hg
    obtain ⟨e1, rfl⟩ := newOb_iff.1 hn
    have hne : id ≠ o := fun e => by subst e; simp at e1
    rw [upd_other hne] at e1
    refine ⟨fun x hx => ?_, fun g hg => ⟨upd (upd g o .gone) id (.row e c (hc ▸ l ++ ys)), ?_, fun x hx => ?_, fun x hx => ?_⟩⟩
    ·rw [upd_other fun e => hx (by simp [e]), upd_other fun e => hx (by simp [e, handles])]
    ·simp only [appendL]
     rw [hg o (.inr (by simp [handles])), hh]
     simp only [NM.gives_bind, NM.gives_opt]
     refine ⟨ys, by rw [rowOf_near fun o ho => hg o (.inl ho)]; exact hy, ?_⟩
     rw [dif_pos hc]
     simp only [NM.gives_bind, NM.gives_guard, NM.gives_pure, Prod.mk.injEq]
     exact ⟨he, hb, _, newOb_iff.2 ⟨by rw [upd_other hne, hg id (.inr (by simp))]; exact e1, rfl⟩, trivial, rfl⟩
    ·simp [handles] at hx
     rcases hx with rfl | rfl
     ·simp
     ·rw [upd_other (Ne.symm hne), upd_other (Ne.symm hne)]; simp
    ·rw [upd_other fun e => hx (by simp [e]), upd_other fun e => hx (by simp [e, handles])]
   ·exact absurd hg NM.gives_fail
  ·exact absurd hg NM.gives_fail
 | _ => exact absurd hg NM.gives_fail
end
end Go.VI
namespace Go.VI
open Go
section
variable {E : Env} {s s2 : List D} {h h' g : Heap} {ft : Foot} {d : D}
theorem flatP_near {o a j d : Nat} (hh : g o = h o) : flatP g o a j d = flatP h o a j d := by unfold flatP; rw [hh]
theorem op_loc {o : Oper} (hnc : ∀ f args ts, o.op ≠ .call { callee := .value f, args := args, argTypes := ts }) (hf : (foot E o ⟨s, h⟩).gives ft) (hop : (opK E o ⟨s, h⟩).gives (d, h')) :
  Loc (fun g => opK E o ⟨s, g⟩) ft h h' d ∧ (heapless o.op = true → ft.W = [] ∧ ft.R = [] ∧ ft.full = true) ∧ (mutates o.op = false → ft.W = [] ∧ ft.full = true) := by
 unfold foot at hf
 cases hh : heapless o.op with
 | true =>
  rw [hh] at hf
  simp only [cond_true, NM.gives_pure] at hf
  subst hf
  obtain ⟨e, H⟩ := loc_heapless hh hop
  exact ⟨.still rfl e fun g _ => H g, fun _ => ⟨rfl, rfl, rfl⟩, fun _ => ⟨rfl, rfl⟩⟩
 | false =>
  rw [hh] at hf
  simp only [cond_false] at hf
  refine ⟨?_, fun h => by (cases h), ?_⟩
  ·obtain ⟨dst, op, ty, pos, aft, gd⟩ := o
   simp only at hf
   split at hf
   ·rename_i t a
    rw [NM.gives_pure] at hf; subst hf
    simp only [opK, NM.gives_bind, NM.gives_opt, NM.gives_pure, Prod.mk.injEq] at hop
    obtain ⟨ti, h1, l, h2, ls, h3, d1, h4, rfl, rfl⟩ := hop
    refine .still rfl rfl fun g hn => ?_
    simp only [opK, NM.gives_bind, NM.gives_opt, NM.gives_pure, Prod.mk.injEq]
    exact ⟨ti, h1, l, h2, ls, by rw [loadL_near fun o ho => hn.1 rfl o (.inl (handlesOf_oL h2 o ho))]; exact h3, _, h4, rfl, trivial⟩
   ·rename_i t x lo hi mx
    rw [NM.gives_pure] at hf; subst hf
    simp only [opK, NM.gives_bind, NM.gives_opt, NM.gives_guard] at hop
    obtain ⟨ti, h1, l, h2, a, h3, b, h4, h5, hop⟩ := hop
    have near : ∀ g, Near ⟨handlesOf s x, [], true⟩ h g → ∀ o ∈ handles l, g o = h o := fun g hn o ho => hn.1 rfl o (.inl (handlesOf_oL h2 o ho))
    split at hop
    ·rename_i hk
     simp only [NM.gives_bind, NM.gives_pure, Prod.mk.injEq] at hop
     obtain ⟨l', h6, rfl, rfl⟩ := hop
     refine .still rfl rfl fun g hn => ?_
     simp only [opK, NM.gives_bind, NM.gives_opt, NM.gives_guard]
     refine ⟨ti, h1, l, h2, a, h3, b, h4, h5, ?_⟩
     rw [hk]; simp only [NM.gives_bind, NM.gives_pure, Prod.mk.injEq]
     exact ⟨_, h6, rfl, trivial⟩
    ·rename_i e hk
     simp only [NM.gives_bind, NM.gives_opt, NM.gives_pure, Prod.mk.injEq] at hop
     obtain ⟨te, h6, l', h7, rfl, rfl⟩ := hop
     refine .still rfl rfl fun g hn => ?_
     simp only [opK, NM.gives_bind, NM.gives_opt, NM.gives_guard]
     refine ⟨ti, h1, l, h2, a, h3, b, h4, h5, ?_⟩
     rw [hk]; simp only [NM.gives_bind, NM.gives_opt, NM.gives_pure, Prod.mk.injEq]
     exact ⟨te, h6, _, by rw [sliceL_near (near g hn)]; exact h7, rfl, trivial⟩
    ·exact absurd hop NM.gives_fail
   ·rename_i t x i
    rw [NM.gives_pure] at hf; subst hf
    simp only [opK, NM.gives_bind, NM.gives_opt] at hop
    obtain ⟨ti, h1, l, h2, n, h3, hop⟩ := hop
    have near : ∀ g, Near ⟨handlesOf s x, [], true⟩ h g → ∀ o ∈ handles l, g o = h o := fun g hn o ho => hn.1 rfl o (.inl (handlesOf_oL h2 o ho))
    split at hop
    ·rename_i e hk
     simp only [NM.gives_bind, NM.gives_opt, NM.gives_pure, Prod.mk.injEq] at hop
     obtain ⟨te, h6, l', h7, rfl, rfl⟩ := hop
     refine .still rfl rfl fun g hn => ?_
     simp only [opK, NM.gives_bind, NM.gives_opt]
     refine ⟨ti, h1, l, h2, n, h3, ?_⟩
     rw [hk]; simp only [NM.gives_bind, NM.gives_opt, NM.gives_pure, Prod.mk.injEq]
     exact ⟨te, h6, _, by rw [indexL_near (near g hn)]; exact h7, rfl, trivial⟩
    ·rename_i k e hk
     simp only [NM.gives_bind, NM.gives_opt] at hop
     obtain ⟨te, h6, hop⟩ := hop
     split at hop
     ·rename_i o a j
      simp only [NM.gives_guard, NM.gives_bind, NM.gives_pure, Prod.mk.injEq] at hop
      obtain ⟨h7, h8, l', h9, rfl, rfl⟩ := hop
      refine .still rfl rfl fun g hn => ?_
      simp only [opK, NM.gives_bind, NM.gives_opt]
      refine ⟨ti, h1, _, h2, n, h3, ?_⟩
      rw [hk]; simp only [NM.gives_bind, NM.gives_opt, NM.gives_guard, NM.gives_pure, Prod.mk.injEq]
      exact ⟨te, h6, h7, h8, l', by rw [flatP_near (near g hn o (by simp [handles]))]; exact h9, rfl, trivial⟩
     ·simp only [NM.gives_bind, NM.gives_opt, NM.gives_guard, NM.gives_pure, Prod.mk.injEq] at hop
      obtain ⟨p, hp, h9, h7, h8, rfl, rfl⟩ := hop
      refine .still rfl rfl fun g hn => ?_
      simp only [opK, NM.gives_bind, NM.gives_opt]
      refine ⟨ti, h1, _, h2, n, h3, ?_⟩
      rw [hk]; simp only [NM.gives_bind, NM.gives_opt, NM.gives_guard, NM.gives_pure, Prod.mk.injEq]
      exact ⟨te, h6, p, hp, h9, h7, h8, rfl, trivial⟩
     ·exact absurd hop NM.gives_fail
    ·exact absurd hop NM.gives_fail
   ·rename_i src t x
    rw [NM.gives_pure] at hf; subst hf
    simp only [opK, NM.gives_bind, NM.gives_opt] at hop
    obtain ⟨ti, h0, l, h1, hop⟩ := hop
    split at hop
    ·rename_i k k' n hk
     simp only [NM.gives_pure, Prod.mk.injEq] at hop; obtain ⟨rfl, rfl⟩ := hop
     refine .still rfl rfl fun g hn => ?_
     simp only [opK, NM.gives_bind, NM.gives_opt]
     exact ⟨ti, h0, _, h1, by rw [hk]; exact NM.gives_pure.2 rfl⟩
    ·rename_i b hk
     simp only [NM.gives_pure, Prod.mk.injEq] at hop; obtain ⟨rfl, rfl⟩ := hop
     refine .still rfl rfl fun g hn => ?_
     simp only [opK, NM.gives_bind, NM.gives_opt]
     exact ⟨ti, h0, _, h1, by rw [hk]; exact NM.gives_pure.2 rfl⟩
    ·rename_i l1 _ l hk hnp
     simp only [NM.gives_bind, NM.gives_opt, NM.gives_pure, Prod.mk.injEq] at hop
     obtain ⟨bs, h2, rfl, rfl⟩ := hop
     refine .still rfl rfl fun g hn => ?_
     have near : ∀ o ∈ handles l1, g o = h o := fun o ho => hn.1 rfl o (.inl (handlesOf_oL h1 o ho))
     simp only [opK, NM.gives_bind, NM.gives_opt]
     refine ⟨ti, h0, l1, h1, ?_⟩
     rw [hk]
     have h3 : bytesIn E.T g src l1 = some bs := by
      have e : bytesIn E.T g src l1 = bytesIn E.T h src l1 := by simp only [bytesIn, rowOf_near near]
      rw [e]; exact h2
     split
     ·contradiction
     ·rename_i b; exact (hnp _ rfl).elim
     ·simp only [NM.gives_bind, NM.gives_opt, NM.gives_pure, Prod.mk.injEq]
      exact ⟨bs, h3, rfl, trivial⟩
     ·contradiction
    ·exact absurd hop NM.gives_fail
   ·rename_i t
    rw [NM.gives_pure] at hf; subst hf
    simp only [opK, NM.gives_bind, NM.gives_opt, NM.gives_pure, Prod.mk.injEq] at hop
    obtain ⟨ti, h1, t, h2, h3, h4, rfl, rfl⟩ := hop
    subst h2
    obtain ⟨e1, rfl⟩ := newOb_iff.1 h4
    refine .make (by simp [newIds]) rfl fun g hn => ?_
    simp only [opK, NM.gives_bind, NM.gives_opt, NM.gives_pure, Prod.mk.injEq]
    exact ⟨ti, h1, t, rfl, _, newOb_iff.2 ⟨by rw [hn.1 rfl _ (.inr (by simp [newIds]))]; exact e1, rfl⟩, rfl, rfl⟩
   ·rename_i t x
    rw [NM.gives_pure] at hf; subst hf
    simp only [opK, NM.gives_bind, NM.gives_opt, NM.gives_guard, NM.gives_pure, Prod.mk.injEq] at hop
    obtain ⟨v, h1, t, h2, h3, h5, h4, rfl, rfl⟩ := hop
    subst h2
    obtain ⟨e1, rfl⟩ := newOb_iff.1 h4
    refine .make (by simp [newIds]) rfl fun g hn => ?_
    simp only [opK, NM.gives_bind, NM.gives_opt, NM.gives_guard, NM.gives_pure, Prod.mk.injEq]
    exact ⟨v, h1, t, rfl, h3, _, newOb_iff.2 ⟨by rw [hn.1 rfl _ (.inr (by simp [newIds]))]; exact e1, rfl⟩, rfl, rfl⟩
   ·rename_i t x y
    rw [NM.gives_pure] at hf; subst hf
    simp only [opK, NM.gives_bind, NM.gives_opt] at hop
    obtain ⟨ti, h1, hop⟩ := hop
    split at hop
    ·rename_i e hk
     simp only [NM.gives_bind, NM.gives_opt, NM.gives_guard, NM.gives_pure, Prod.mk.injEq] at hop
     obtain ⟨te, h2, c, h3, t, h4, n, h5, m, h6, h7, h8, h9, h10, h11, rfl, rfl⟩ := hop
     subst h4
     obtain ⟨e1, rfl⟩ := newOb_iff.1 h11
     refine .make (by simp [newIds]) rfl fun g hn => ?_
     simp only [opK, NM.gives_bind, NM.gives_opt]
     refine ⟨ti, h1, ?_⟩
     rw [hk]; simp only [NM.gives_bind, NM.gives_opt, NM.gives_guard, NM.gives_pure, Prod.mk.injEq]
     exact ⟨te, h2, c, h3, t, rfl, n, h5, m, h6, h7, h8, h9, _, newOb_iff.2 ⟨by rw [hn.1 rfl _ (.inr (by simp [newIds]))]; exact e1, rfl⟩, rfl, rfl⟩
    ·exact absurd hop NM.gives_fail
   ·rename_i t len ps
    rw [NM.gives_pure] at hf; subst hf
    simp only [opK, NM.gives_bind, NM.gives_opt] at hop
    obtain ⟨ti, h1, hop⟩ := hop
    split at hop
    ·rename_i e hk
     simp only [NM.gives_bind, NM.gives_opt, NM.gives_guard, NM.gives_pure, Prod.mk.injEq] at hop
     obtain ⟨te, h2, c, h3, t, h4, h5, ⟨l, h6⟩, h7, h8, h9, rfl, rfl⟩ := hop
     subst h4
     obtain ⟨e1, rfl⟩ := newOb_iff.1 h9
     have c1 := (buildRow_loc h7).weaken (R' := []) (W' := newIds (some t) ++ (ps.toList.map (·.2)).flatMap (handlesOf s)) (by simp) (fun o ho => List.mem_append_right _ ho)
     have c2 := LocX.bind (n := fun l h' => (newOb h' (idOf t) (.row e c l)).bind fun h'' => .pure (D.one (.own (idOf t)), h'')) (y := D.one (.own (idOf t))) (h' := upd h6 (idOf t) (.row e c l)) c1
      (LocX.make (id := idOf t) (ob := .row e c l) rfl (by simp [newIds]) fun g hg => by
       simp only [NM.gives_bind, NM.gives_pure, Prod.mk.injEq]
       exact ⟨_, newOb_iff.2 ⟨by rw [hg _ (.inr (by simp [newIds]))]; exact e1, rfl⟩, trivial, rfl⟩)
     refine LocX.toLoc ⟨c2.keep, fun g hg => ?_⟩
     obtain ⟨g', k1, k2, k3⟩ := c2.loc g hg
     refine ⟨g', ?_, k2, k3⟩
     simp only [opK, NM.gives_bind, NM.gives_opt]
     refine ⟨ti, h1, ?_⟩
     rw [hk]; simp only [NM.gives_bind, NM.gives_opt, NM.gives_guard, NM.gives_pure]
     simp only [NM.gives_bind, NM.gives_pure] at k1
     exact ⟨te, h2, c, h3, t, rfl, h5, k1⟩
    ·exact absurd hop NM.gives_fail
   ·rename_i t a x
    rw [NM.gives_pure] at hf; subst hf
    refine .whole rfl (fun y hy => ?_) hop
    simp only [opK, NM.gives_bind, NM.gives_opt, NM.gives_guard, NM.gives_pure, Prod.mk.injEq] at hop
    obtain ⟨ti, h1, l, h2, v, h3, h4, h5, h6, rfl, rfl⟩ := hop
    refine storeL_keep h6 y fun hm => hy ?_
    rcases List.mem_append.1 hm with hm | hm
    ·exact List.mem_append_left _ (handlesOf_oL h2 y hm)
    ·obtain ⟨l1, hl1, hm⟩ := List.mem_flatMap.1 hm
     exact List.mem_append_right _ (handlesOf_op h3 l1 hl1 y hm)
   ·rename_i args ts
    rw [NM.gives_pure] at hf; subst hf
    simp only [opK] at hop
    split at hop
    ·rename_i x t hx ht
     simp only [NM.gives_bind, NM.gives_opt, NM.gives_pure, Prod.mk.injEq] at hop
     obtain ⟨ti, h1, l, h2, n, h3, rfl, rfl⟩ := hop
     refine .still rfl rfl fun g hn => ?_
     simp only [opK, hx, ht, NM.gives_bind, NM.gives_opt, NM.gives_pure, Prod.mk.injEq]
     refine ⟨ti, h1, l, h2, n, ?_, rfl, trivial⟩
     have near : ∀ o ∈ handles l, g o = h o := fun o ho => hn.1 rfl o (.inl (by rw [hx]; simpa using handlesOf_oL h2 o ho))
     have e := lenL_near near
     clear near h1 h2
     revert h3 e
     generalize ti.k = tk
     intro h3 e
     split at h3
     ·exact h3
     ·exact absurd h3 NM.gives_fail
     ·rw [e]; exact h3
     ·exact absurd h3 NM.gives_fail
    all_goals first | contradiction | exact absurd hop NM.gives_fail
   ·rename_i args ts
    split at hf
    ·rename_i x y hx
     rw [NM.gives_pure] at hf; subst hf
     simp only [opK] at hop
     split at hop
     ·contradiction
     ·rename_i x' y' t u hx' ht
      rw [hx] at hx'
      simp only [List.cons.injEq, and_true] at hx'
      obtain ⟨rfl, rfl⟩ := hx'
      simp only [NM.gives_guard, NM.gives_bind, NM.gives_opt] at hop
      obtain ⟨h0, ti, h1, hop⟩ := hop
      split at hop
      ·rename_i e hk
       simp only [NM.gives_bind, NM.gives_opt, NM.gives_guard, NM.gives_pure, Prod.mk.injEq] at hop
       obtain ⟨te, h2, c, h3, t, h4, l, h5, ly, h6, h7, ⟨l', h8⟩, h9, rfl, rfl⟩ := hop
       subst h4
       have c1 := (appendL_loc h9).weaken (R' := handlesOf s y) (W' := newIds (some t) ++ handlesOf s x) (fun o ho => .inl (handlesOf_oL h6 o ho)) (fun o ho => by
        rcases List.mem_cons.1 ho with rfl | ho
        ·simp [newIds]
        ·exact List.mem_append_right _ (handlesOf_oL h5 o ho))
       refine LocX.toLoc ⟨c1.keep, fun g hg => ?_⟩
       obtain ⟨g', k1, k2, k3⟩ := c1.loc g hg
       refine ⟨g', ?_, k2, k3⟩
       simp only [opK, hx, ht]
       simp only [NM.gives_guard, NM.gives_bind, NM.gives_opt]
       refine ⟨h0, ti, h1, ?_⟩
       rw [hk]; simp only [NM.gives_bind, NM.gives_opt, NM.gives_guard, NM.gives_pure, Prod.mk.injEq]
       exact ⟨te, h2, c, h3, t, rfl, l, h5, ly, h6, h7, _, k1, rfl, rfl⟩
      ·exact absurd hop NM.gives_fail
     all_goals first | contradiction | exact absurd hop NM.gives_fail
    ·exact absurd hf NM.gives_fail
   ·skip
    exact absurd rfl (hnc _ _ _)
   ·exact absurd hf NM.gives_fail
  ·intro hm
   obtain ⟨dst, op, ty, pos, aft, gd⟩ := o
   simp only at hf hm hh
   split at hf
   all_goals first
    | (rw [NM.gives_pure] at hf; subst hf; exact ⟨rfl, rfl⟩)
    | (simp [mutates] at hm; done)
    | exact absurd rfl (hnc _ _ _)
    | exact absurd hf NM.gives_fail
end
end Go.VI
namespace Go.VI
open Go
section
variable {E : Env} {s s2 : List D} {h h' g : Heap} {ft : Foot} {d : D}
theorem gridK_slots {o : Oper} (H : ∀ x ∈ o.op.operands.toList, operand s2 x = operand s x) : gridK E o ⟨s2, h⟩ = gridK E o ⟨s, h⟩ := by
 obtain ⟨dst, op, ty, pos, aft, gd⟩ := o
 simp only at H
 cases op with
 | load t x => simp [Op.operands] at H; simp only [gridK, oL, H]
 | store t x y => simp [Op.operands] at H; simp only [gridK, oL, H]
 | indexAddr t x y => simp [Op.operands] at H; simp only [gridK, oI, oInt, oL, H]
 | makeSlice t x y => simp [Op.operands] at H; simp only [gridK, oI, oInt, oL, H]
 | call c =>
  obtain ⟨callee, args, ts⟩ := c
  cases callee with
  | value f => rfl
  | invoke r m => rfl
  | builtin b =>
   have H' : ∀ x ∈ args.toList, operand s2 x = operand s x := fun x hx => H x (by simp [Op.operands, Call.operands]; simpa using hx)
   cases b with
   | len =>
    simp only [gridK]
    split
    ·rename_i x t h1 h2
     have := H' x (by rw [h1]; simp)
     simp only [oL, this]
    ·rfl
   | append =>
    simp only [gridK]
    split
    ·rename_i x y t u h1 h2
     have h3 := H' x (by rw [h1]; simp)
     have h4 := H' y (by rw [h1]; simp)
     simp only [oL, h3, h4]
    ·rfl
   | _ => rfl
 | _ => rfl
def gK (E : Env) (o : Oper) (s : List D) (g : Heap) : NM (D × Heap) := match gridK E o ⟨s, g⟩ with
 | some m => m
 | none => .fail
theorem gK_some {o : Oper} {m : NM (D × Heap)} (he : gridK E o ⟨s, h⟩ = some m) : gK E o s h = m := by unfold gK; rw [he]
theorem gK_gives {o : Oper} {p : D × Heap} (hg : (gK E o s h).gives p) : ∃ m, gridK E o ⟨s, h⟩ = some m ∧ m.gives p := by
 unfold gK at hg
 cases he : gridK E o ⟨s, h⟩ with
 | some m => rw [he] at hg; exact ⟨m, rfl, hg⟩
 | none => rw [he] at hg; exact absurd hg NM.gives_fail
theorem cellK_intro {Z : Type} {o i n : Nat} {k : TypeId → TypeId → List (List Int) → List Int → NM Z} {z : Z} {e d : TypeId} {q : Option Nat} {ll : List (List Int)} (hh : h o = .grid e d n q ll) (hq : q ≠ some i) (hi : i < ll.length)
  (hk : (k e d ll (ll.getD i [])).gives z) : (cellK h o i n k).gives z := by
 unfold cellK
 rw [hh]
 refine NM.gives_guard.2 ⟨?_, hk⟩
 simp only [Bool.and_eq_true, Nat.beq_eq, decide_eq_true_eq]
 refine ⟨trivial, ?_, hi⟩
 cases q with
 | none => rfl
 | some p =>
  simp only [Bool.not_eq_true', decide_eq_false_iff_not]
  exact fun e => hq (by rw [e])
def GridLoc (E : Env) (o : Oper) (s : List D) (h : Heap) (ft : Foot) : Prop :=
 (gridK E o ⟨s, h⟩ = none → ∀ g, Near ft h g → gridK E o ⟨s, g⟩ = none) ∧
  ∀ d h', (gK E o s h).gives (d, h') → Loc (gK E o s) ft h h' d ∧ heapless o.op = false ∧ (mutates o.op = false → ft.W = [] ∧ ft.full = true)
theorem gl_none {o : Oper} (H : ∀ g, gridK E o ⟨s, g⟩ = none) : GridLoc E o s h ft :=
 ⟨fun _ g _ => H g, fun d h' hg => by
  unfold gK at hg
  rw [H] at hg
  exact absurd hg NM.gives_fail⟩
variable {dst : Option Tmp} {ty : TypeId} {pos : String} {aft : Array Edge} {gd : Option (Nat × Bool)}
theorem gl_make {t : TypeId} {x y : Operand} : GridLoc E ⟨dst, .makeSlice t x y, ty, pos, aft, gd⟩ s h ⟨[], newIds dst, true⟩ := by
 refine ⟨fun h0 g _ => ?_, fun d h' hg => ⟨?_, rfl, fun hm => by simp [mutates] at hm⟩⟩
 ·simp only [gridK] at h0 ⊢
  cases ht : E.T.get t with
  | none => rfl
  | some ti =>
   rw [ht] at h0
   simp only [Option.bind_some] at h0 ⊢
   cases hb : (ti.ints && !ti.k.isAgg) with
   | true => rw [hb] at h0; simp at h0
   | false => rfl
 ·obtain ⟨m, he, hg⟩ := gK_gives hg
  have he0 := he
  simp only [gridK, Option.bind_eq_some_iff] at he
  obtain ⟨ti, hti, he⟩ := he
  cases hb : (ti.ints && !ti.k.isAgg) with
  | false => rw [hb] at he; cases he
  | true =>
   rw [hb] at he
   simp only [cond_true, Option.some.injEq] at he
   subst he
   split at hg
   ·rename_i e hk
    simp only [NM.gives_bind, NM.gives_opt] at hg
    obtain ⟨te, hte, hg⟩ := hg
    split at hg
    ·rename_i d' hk2
     simp only [NM.gives_bind, NM.gives_opt, NM.gives_guard, NM.gives_pure, Prod.mk.injEq] at hg
     obtain ⟨td, htd, h1, t', h2, n, h3, m, h4, h5, h6, h7, h8, h9, rfl, rfl⟩ := hg
     subst h2
     obtain ⟨e1, rfl⟩ := newOb_iff.1 h9
     refine .make (by simp [newIds]) rfl fun g hn => ?_
     simp only [gK, gridK, hti, Option.bind_some, hb, cond_true]
     rw [hk]
     simp only [NM.gives_bind, NM.gives_opt]
     refine ⟨te, hte, ?_⟩
     rw [hk2]
     simp only [NM.gives_bind, NM.gives_opt, NM.gives_guard, NM.gives_pure, Prod.mk.injEq]
     exact ⟨td, htd, h1, t', rfl, n, h3, m, h4, h5, h6, h7, _, newOb_iff.2 ⟨by rw [hn.1 rfl _ (.inr (by simp [newIds]))]; exact e1, rfl⟩, rfl, rfl⟩
    ·exact absurd hg NM.gives_fail
   ·exact absurd hg NM.gives_fail
theorem gl_index {t : TypeId} {x y : Operand} : GridLoc E ⟨dst, .indexAddr t x y, ty, pos, aft, gd⟩ s h ⟨handlesOf s x, [], true⟩ := by
 have near : ∀ g, Near ⟨handlesOf s x, [], true⟩ h g → ∀ l, oL s x = some l → ∀ o ∈ handles l, g o = h o := fun g hn l hl o ho => hn.1 rfl o (.inl (handlesOf_oL hl o ho))
 refine ⟨fun h0 g hn => ?_, fun d h' hg => ⟨?_, rfl, fun _ => ⟨rfl, rfl⟩⟩⟩
 ·simp only [gridK] at h0 ⊢
  cases hl : oL s x with
  | none => rfl
  | some l =>
   rw [hl] at h0
   cases l with
   | own o =>
    simp only [near g hn _ hl o (by simp [handles])]
    cases hh : h o <;> simp only [hh, reduceCtorEq] at h0 <;> rfl
   | inn o a v => cases h0
   | _ => rfl
 ·cases hl : oL s x with
  | none => simp only [gK, gridK, hl] at hg; exact absurd hg NM.gives_fail
  | some l =>
   cases l with
   | own o =>
    cases hh : h o with
    | grid e d0 v q ll =>
     simp only [gK, gridK, hl, hh, NM.gives_bind, NM.gives_opt] at hg
     obtain ⟨ti, hti, hg⟩ := hg
     split at hg
     ·rename_i e' hk
      simp only [NM.gives_bind, NM.gives_opt, NM.gives_guard, NM.gives_pure, Prod.mk.injEq] at hg
      obtain ⟨te, hte, n, hn', h1, h2, h3, rfl, rfl⟩ := hg
      refine .still rfl rfl fun g hn => ?_
      simp only [gK, gridK, hl, near g hn _ hl o (by simp [handles]), hh, NM.gives_bind, NM.gives_opt]
      refine ⟨ti, hti, ?_⟩
      rw [hk]
      simp only [NM.gives_bind, NM.gives_opt, NM.gives_guard, NM.gives_pure, Prod.mk.injEq]
      exact ⟨te, hte, n, hn', h1, h2, h3, rfl, trivial⟩
     ·exact absurd hg NM.gives_fail
    | _ => simp only [gK, gridK, hl, hh] at hg; exact absurd hg NM.gives_fail
   | inn o a v =>
    simp only [gK, gridK, hl, NM.gives_bind, NM.gives_opt] at hg
    obtain ⟨ti, hti, hg⟩ := hg
    split at hg
    ·rename_i e' hk
     simp only [NM.gives_bind, NM.gives_opt, NM.gives_guard] at hg
     obtain ⟨te, hte, n, hn', h1, hg⟩ := hg
     obtain ⟨e, d', q, ll, hh, hq, hi, _, hg⟩ := cellK_ok hg
     simp only [NM.gives_guard, NM.gives_pure, Prod.mk.injEq] at hg
     obtain ⟨h2, h3, rfl, rfl⟩ := hg
     refine .still rfl rfl fun g hn => ?_
     simp only [gK, gridK, hl, NM.gives_bind, NM.gives_opt]
     refine ⟨ti, hti, ?_⟩
     rw [hk]
     simp only [NM.gives_bind, NM.gives_opt, NM.gives_guard]
     refine ⟨te, hte, n, hn', h1, cellK_intro (by rw [near g hn _ hl o (by simp [handles])]; exact hh) hq hi ?_⟩
     exact NM.gives_guard.2 ⟨h2, NM.gives_guard.2 ⟨h3, NM.gives_pure.2 rfl⟩⟩
    ·exact absurd hg NM.gives_fail
   | _ => simp only [gK, gridK, hl] at hg; exact absurd hg NM.gives_fail
theorem gl_load {t : TypeId} {x : Operand} : GridLoc E ⟨dst, .load t x, ty, pos, aft, gd⟩ s h ⟨handlesOf s x, [], true⟩ := by
 have near : ∀ g, Near ⟨handlesOf s x, [], true⟩ h g → ∀ l, oL s x = some l → ∀ o ∈ handles l, g o = h o := fun g hn l hl o ho => hn.1 rfl o (.inl (handlesOf_oL hl o ho))
 refine ⟨fun h0 g hn => ?_, fun d h' hg => ⟨?_, rfl, fun _ => ⟨rfl, rfl⟩⟩⟩
 ·simp only [gridK] at h0 ⊢
  cases hl : oL s x with
  | none => rfl
  | some l =>
   rw [hl] at h0
   cases l with
   | ptr o i j =>
    simp only [near g hn _ hl o (by simp [handles])]
    cases hh : h o <;> simp only [hh, reduceCtorEq] at h0 <;> rfl
   | gp o i j v => cases h0
   | _ => rfl
 ·cases hl : oL s x with
  | none => simp only [gK, gridK, hl] at hg; exact absurd hg NM.gives_fail
  | some l =>
   cases l with
   | ptr o i j =>
    cases hh : h o with
    | grid e d0 v q ll =>
     simp only [gK, gridK, hl, hh, NM.gives_bind, NM.gives_opt, NM.gives_guard] at hg
     obtain ⟨ti, hti, h1, hg⟩ := hg
     obtain ⟨e, d', q, ll, hh', hq, hi, _, hg⟩ := cellK_ok hg
     simp only [NM.gives_pure, Prod.mk.injEq] at hg
     obtain ⟨rfl, rfl⟩ := hg
     refine .still rfl rfl fun g hn => ?_
     have hgo := near g hn _ hl o (by simp [handles])
     simp only [gK, gridK, hl, hgo, hh, NM.gives_bind, NM.gives_opt, NM.gives_guard]
     exact ⟨ti, hti, h1, cellK_intro (by rw [hgo]; exact hh') hq hi (NM.gives_pure.2 rfl)⟩
    | _ => simp only [gK, gridK, hl, hh] at hg; exact absurd hg NM.gives_fail
   | gp o i j v =>
    simp only [gK, gridK, hl, NM.gives_bind, NM.gives_opt, NM.gives_guard] at hg
    obtain ⟨ti, hti, h1, hg⟩ := hg
    obtain ⟨e, d', q, ll, hh', hq, hi, _, hg⟩ := cellK_ok hg
    simp only [NM.gives_guard, NM.gives_pure, Prod.mk.injEq] at hg
    obtain ⟨h2, rfl, rfl⟩ := hg
    refine .still rfl rfl fun g hn => ?_
    simp only [gK, gridK, hl, NM.gives_bind, NM.gives_opt, NM.gives_guard]
    exact ⟨ti, hti, h1, cellK_intro (by rw [near g hn _ hl o (by simp [handles])]; exact hh') hq hi (NM.gives_guard.2 ⟨h2, NM.gives_pure.2 rfl⟩)⟩
   | _ => simp only [gK, gridK, hl] at hg; exact absurd hg NM.gives_fail
theorem gl_store {t : TypeId} {x y : Operand} : GridLoc E ⟨dst, .store t x y, ty, pos, aft, gd⟩ s h ⟨[], handlesOf s x ++ handlesOf s y, false⟩ := by
 refine ⟨fun h0 g hn => by rw [hn.2 rfl]; exact h0, fun d h' hg => ⟨.whole rfl (fun z hz => ?_) hg, rfl, fun hm => by simp [mutates] at hm⟩⟩
 rw [List.mem_append, not_or] at hz
 cases hl : oL s x with
 | none => simp only [gK, gridK, hl] at hg; exact absurd hg NM.gives_fail
 | some l =>
  cases l with
  | ptr o i j =>
   have hzo : z ≠ o := fun e => hz.1 (handlesOf_oL hl z (by simp [handles, e]))
   cases hh : h o with
   | grid e d0 v q ll =>
    simp only [gK, gridK, hl, hh, NM.gives_bind, NM.gives_opt, NM.gives_guard] at hg
    obtain ⟨ti, hti, h1, hg⟩ := hg
    split at hg
    ·rename_i r hy
     have hzr : z ≠ r := fun e => hz.2 (handlesOf_oL hy z (by simp [handles, e]))
     split at hg
     ·simp only [NM.gives_guard, NM.gives_pure, Prod.mk.injEq] at hg
      obtain ⟨_, rfl, rfl⟩ := hg
      rw [upd_other hzo, upd_other hzr]
     ·exact absurd hg NM.gives_fail
    ·exact absurd hg NM.gives_fail
   | _ => simp only [gK, gridK, hl, hh] at hg; exact absurd hg NM.gives_fail
  | gp o i j v =>
   have hzo : z ≠ o := fun e => hz.1 (handlesOf_oL hl z (by simp [handles, e]))
   simp only [gK, gridK, hl, NM.gives_bind, NM.gives_opt, NM.gives_guard] at hg
   obtain ⟨ti, hti, h1, hg⟩ := hg
   split at hg
   ·split at hg
    ·obtain ⟨e, d', q, ll, hh', hq, hi, _, hg2⟩ := cellK_ok hg
     simp only [NM.gives_guard, NM.gives_pure, Prod.mk.injEq] at hg2
     obtain ⟨_, rfl, rfl⟩ := hg2
     rw [upd_other hzo]
    ·exact absurd hg NM.gives_fail
   ·exact absurd hg NM.gives_fail
  | _ => simp only [gK, gridK, hl] at hg; exact absurd hg NM.gives_fail
theorem gl_len {args : Array Operand} {ts : Array TypeId} : GridLoc E ⟨dst, .call ⟨.builtin .len, args, ts⟩, ty, pos, aft, gd⟩ s h ⟨args.toList.flatMap (handlesOf s), [], true⟩ := by
 have near : ∀ x g, args.toList = [x] → Near ⟨args.toList.flatMap (handlesOf s), [], true⟩ h g → ∀ l, oL s x = some l → ∀ o ∈ handles l, g o = h o := fun x g hx hn l hl o ho => hn.1 rfl o (.inl (by rw [hx]; simpa using handlesOf_oL hl o ho))
 refine ⟨fun h0 g hn => ?_, fun d h' hg => ⟨?_, rfl, fun _ => ⟨rfl, rfl⟩⟩⟩
 ·simp only [gridK] at h0 ⊢
  split at h0
  ·rename_i x t hx ht
   try simp only [hx, ht]
   cases hl : oL s x with
   | none => rfl
   | some l =>
    rw [hl] at h0
    cases l with
    | own o =>
     simp only [near x g hx hn _ hl o (by simp [handles])]
     cases hh : h o <;> simp only [hh, reduceCtorEq] at h0 <;> rfl
    | inn o a v => cases h0
    | _ => rfl
  ·rfl
 ·obtain ⟨m, he, hg⟩ := gK_gives hg
  simp only [gridK] at he
  split at he
  ·rename_i x t hx ht
   cases hl : oL s x with
   | none => rw [hl] at he; cases he
   | some l =>
    rw [hl] at he
    cases l with
    | own o =>
     cases hh : h o with
     | grid e d0 v q ll =>
      simp only [hh, Option.some.injEq] at he
      subst he
      simp only [NM.gives_bind, NM.gives_opt] at hg
      obtain ⟨ti, hti, hg⟩ := hg
      split at hg
      ·rename_i e' hk
       simp only [NM.gives_pure, Prod.mk.injEq] at hg
       obtain ⟨rfl, rfl⟩ := hg
       refine .still rfl rfl fun g hn => ?_
       simp only [gK, gridK, hx, ht, hl, near x g hx hn _ hl o (by simp [handles]), hh, NM.gives_bind, NM.gives_opt]
       refine ⟨ti, hti, ?_⟩
       rw [hk]; exact NM.gives_pure.2 rfl
      ·exact absurd hg NM.gives_fail
     | _ => simp only [hh] at he; cases he
    | inn o a v =>
     simp only [Option.some.injEq] at he
     subst he
     simp only [NM.gives_bind, NM.gives_opt] at hg
     obtain ⟨ti, hti, hg⟩ := hg
     split at hg
     ·rename_i e' hk
      obtain ⟨e, d', q, ll, hh', hq, hi, _, hg⟩ := cellK_ok hg
      simp only [NM.gives_pure, Prod.mk.injEq] at hg
      obtain ⟨rfl, rfl⟩ := hg
      refine .still rfl rfl fun g hn => ?_
      simp only [gK, gridK, hx, ht, hl, NM.gives_bind, NM.gives_opt]
      refine ⟨ti, hti, ?_⟩
      rw [hk]
      exact cellK_intro (by rw [near x g hx hn _ hl o (by simp [handles])]; exact hh') hq hi (NM.gives_pure.2 rfl)
     ·exact absurd hg NM.gives_fail
    | _ => cases he
  ·cases he
theorem gl_append {args : Array Operand} {ts : Array TypeId} {x y : Operand} (hx : args.toList = [x, y]) : GridLoc E ⟨dst, .call ⟨.builtin .append, args, ts⟩, ty, pos, aft, gd⟩ s h ⟨handlesOf s y, newIds dst ++ handlesOf s x, true⟩ := by
 refine ⟨fun h0 g hn => ?_, fun d h' hg0 => ⟨?_, rfl, fun hm => by simp [mutates] at hm⟩⟩
 ·simp only [gridK, hx] at h0 ⊢
  split at h0
  ·rename_i x' y' t u hx' ht
   simp only [List.cons.injEq, and_true] at hx'
   obtain ⟨rfl, rfl⟩ := hx'
   try simp only [ht]
   cases hl : oL s x with
   | none => rfl
   | some l =>
    rw [hl] at h0
    cases l with
    | inn o a v => cases h0
    | _ => rfl
  ·rfl
 ·obtain ⟨m, he, hg⟩ := gK_gives hg0
  clear hg0
  simp only [gridK, hx] at he
  split at he
  ·rename_i x' y' t u hx' ht
   simp only [List.cons.injEq, and_true] at hx'
   obtain ⟨rfl, rfl⟩ := hx'
   cases hl : oL s x with
   | none => rw [hl] at he; cases he
   | some l =>
    rw [hl] at he
    cases l with
    | inn o i v =>
     simp only [Option.some.injEq] at he
     subst he
     simp only [NM.gives_bind, NM.gives_opt, NM.gives_guard] at hg
     obtain ⟨htu, ti, hti, hg⟩ := hg
     split at hg
     ·rename_i e' hk
      simp only [NM.gives_bind, NM.gives_opt, NM.gives_guard] at hg
      obtain ⟨te, hte, dst', hdd, ly, hly, ys, hys, hb, hg⟩ := hg
      subst hdd
      obtain ⟨e, d', q, ll, hh, hq, hi, _, hg2⟩ := cellK_ok hg
      clear hg
      rw [NM.gives_guard] at hg2
      obtain ⟨hd, hg⟩ := hg2
      rw [hh] at hg
      cases q with
      | some p => exact absurd hg NM.gives_fail
      | none =>
       simp only [NM.gives_bind, NM.gives_guard, NM.gives_pure, Prod.mk.injEq] at hg
       obtain ⟨hbb, h2, hn', rfl, rfl⟩ := hg
       obtain ⟨hnone, rfl⟩ := newOb_iff.1 hn'
       refine ⟨fun z hz => ?_, fun g hn => ?_⟩
       ·simp only [newIds, List.mem_append, not_or, List.mem_singleton] at hz
        rw [upd_other hz.1, upd_other fun e => hz.2 (handlesOf_oL hl z (by simp [handles, e]))]
       ·have hgo : g o = h o := hn.1 rfl o (.inr (List.mem_append_right _ (handlesOf_oL hl o (by simp [handles]))))
        have hgi : g (idOf dst') = h (idOf dst') := hn.1 rfl _ (.inr (by simp [newIds]))
        refine ⟨upd (upd g o (.grid e d' v (some i) ll)) (idOf dst') (.row d' i64 (ll.getD i [] ++ ys)), ?_, fun z hz => ?_, fun z hz => ?_⟩
        ·simp only [gK, gridK, hx, ht, hl, NM.gives_bind, NM.gives_opt, NM.gives_guard]
         refine ⟨htu, ti, hti, ?_⟩
         rw [hk]
         simp only [NM.gives_bind, NM.gives_opt, NM.gives_guard]
         refine ⟨te, hte, dst', rfl, ly, hly, ys, by rw [rowOf_near fun z hz => hn.1 rfl z (.inl (handlesOf_oL hly z hz))]; exact hys, hb, cellK_intro (by rw [hgo]; exact hh) hq hi ?_⟩
         rw [NM.gives_guard, hgo, hh]
         refine ⟨hd, ?_⟩
         simp only [NM.gives_bind, NM.gives_guard, NM.gives_pure, Prod.mk.injEq]
         refine ⟨hbb, _, newOb_iff.2 ⟨?_, rfl⟩, trivial, rfl⟩
         rw [upd_eq] at hnone ⊢
         split at hnone
         ·cases hnone
         ·rename_i hne; rw [if_neg hne, hgi]; exact hnone
        ·rw [upd_eq, upd_eq, upd_eq, upd_eq]
         split
         ·rfl
         ·split
          ·rfl
          ·exact hn.1 rfl z (.inr hz)
        ·simp only [newIds, List.mem_append, not_or, List.mem_singleton] at hz
         rw [upd_other hz.1, upd_other fun e => hz.2 (handlesOf_oL hl z (by simp [handles, e]))]
     ·exact absurd hg NM.gives_fail
    | _ => cases he
  ·cases he
theorem grid_loc {o : Oper} (hf : (foot E o ⟨s, h⟩).gives ft) : GridLoc E o s h ft := by
 obtain ⟨dst, op, ty, pos, aft, gd⟩ := o
 unfold foot at hf
 cases op with
 | makeSlice t x y => simp only [heapless, cond_false, NM.gives_pure] at hf; subst hf; exact gl_make
 | indexAddr t x y => simp only [heapless, cond_false, NM.gives_pure] at hf; subst hf; exact gl_index
 | load t x => simp only [heapless, cond_false, NM.gives_pure] at hf; subst hf; exact gl_load
 | store t x y => simp only [heapless, cond_false, NM.gives_pure] at hf; subst hf; exact gl_store
 | call c =>
  obtain ⟨callee, args, ts⟩ := c
  cases callee with
  | builtin b =>
   cases b with
   | len => simp only [heapless, cond_false, NM.gives_pure] at hf; subst hf; exact gl_len
   | append =>
    simp only [heapless, cond_false] at hf
    split at hf
    ·rename_i x y hx
     rw [NM.gives_pure] at hf; subst hf
     exact gl_append hx
    ·exact absurd hf NM.gives_fail
   | _ => exact gl_none fun g => rfl
  | _ => exact gl_none fun g => rfl
 | _ => exact gl_none fun g => rfl
end
end Go.VI
namespace Go.VI
open Go
section
variable {E : Env} {s s2 : List D} {h h' g : Heap} {ft : Foot} {d : D}
theorem freezeDs_keep : ∀ {ds ds' : List D} {bs : List Bool} {h h' : Heap}, (freezeDs h bs ds).gives (ds', h') → ∀ x, x ∉ ds.flatMap (fun d => d.ls.flatMap handles) → h' x = h x
 | [], ds', bs, h, h', hg, x, hx => by
  simp only [freezeDs, NM.gives_pure, Prod.mk.injEq] at hg
  obtain ⟨rfl, rfl⟩ := hg; rfl
 | .one l :: r, ds', bs, h, h', hg, x, hx => by
  rw [List.flatMap_cons, List.mem_append, not_or] at hx
  simp only [freezeDs, NM.gives_cond, NM.gives_bind, NM.gives_pure, Prod.mk.injEq] at hg
  rcases hg with ⟨_, ⟨l1, h1⟩, hl, ⟨r1, h2⟩, hr, rfl, rfl⟩ | ⟨_, ⟨r1, h2⟩, hr, rfl, rfl⟩
  ·have h3 := freezeDs_keep hr x hx.2
   have h4 := (solid_loc hl).keep x (by simpa [D.ls] using hx.1)
   exact h3.trans h4
  ·exact freezeDs_keep hr x hx.2
 | .agg l :: r, ds', bs, h, h', hg, x, hx => by
  rw [List.flatMap_cons, List.mem_append, not_or] at hx
  simp only [freezeDs, NM.gives_cond, NM.gives_bind, NM.gives_pure, Prod.mk.injEq] at hg
  rcases hg with ⟨_, ⟨l1, h1⟩, hl, ⟨r1, h2⟩, hr, rfl, rfl⟩ | ⟨_, ⟨r1, h2⟩, hr, rfl, rfl⟩
  ·have h3 := freezeDs_keep hr x hx.2
   have h4 := (solids_loc hl).keep x (by simpa [D.ls] using hx.1)
   exact h3.trans h4
  ·exact freezeDs_keep hr x hx.2
 | .tup l :: r, ds', bs, h, h', hg, x, hx => by
  simp only [freezeDs] at hg
  exact absurd hg NM.gives_fail
theorem opnds_handles : ∀ {xs : List Operand} {ds : List D}, opnds s xs = some ds → ∀ x ∈ ds.flatMap (fun d => d.ls.flatMap handles), x ∈ xs.flatMap (handlesOf s)
 | [], ds, hd, x, hx => by simp [opnds] at hd; subst hd; simp at hx
 | y :: r, ds, hd, x, hx => by
  unfold opnds at hd
  rw [List.mapM_cons] at hd
  simp only [Option.bind_eq_bind, Option.bind_eq_some_iff, Option.pure_def, Option.some.injEq] at hd
  obtain ⟨d, h1, ds1, h2, rfl⟩ := hd
  rw [List.flatMap_cons] at hx ⊢
  rcases List.mem_append.1 hx with hx | hx
  ·obtain ⟨l, hl, hm⟩ := List.mem_flatMap.1 hx
   exact List.mem_append_left _ (handlesOf_op h1 l hl x hm)
  ·exact List.mem_append_right _ (opnds_handles h2 x hx)
theorem argD_nops {T : Tb} {id : Nat} {lend : Bool} {t : TypeId} {d d' : D} {ps : List Part} {lent : List Nat} (hg : (argD T h id lend t d).gives (d', h', ps, lent)) (hp : ps = []) : h' = h := by
 unfold argD at hg
 split at hg
 ·rename_i o i j
  simp only [NM.gives_bind, NM.gives_pure, Prod.mk.injEq] at hg
  obtain ⟨⟨l, h1, ps1⟩, hpl, rfl, rfl, rfl, rfl⟩ := hg
  simp only [partL, NM.gives_bind, NM.gives_opt] at hpl
  obtain ⟨ti, hti, hpl⟩ := hpl
  split at hpl
  ·simp only [NM.gives_bind, NM.gives_opt] at hpl
   obtain ⟨te, hte, hpl⟩ := hpl
   split at hpl
   ·simp only [NM.gives_guard, NM.gives_pure, Prod.mk.injEq] at hpl
    obtain ⟨_, rfl, rfl, rfl⟩ := hpl
    rfl
   ·simp only [NM.gives_bind, NM.gives_pure, Prod.mk.injEq] at hpl
    obtain ⟨ls', hls, h2, hn, rfl, rfl, rfl⟩ := hpl
    simp at hp
   ·exact absurd hpl NM.gives_fail
  ·exact absurd hpl NM.gives_fail
 ·cases lend with
  | false =>
   simp only [cond_false, NM.gives_pure, Prod.mk.injEq] at hg
   obtain ⟨rfl, rfl, rfl, rfl⟩ := hg
   rfl
  | true =>
   simp only [cond_true, NM.gives_bind, NM.gives_opt, NM.gives_pure, Prod.mk.injEq] at hg
   obtain ⟨d1, hd, rfl, rfl, rfl, rfl⟩ := hg
   rfl
theorem argDs_nops {T : Tb} : ∀ {ds : List D} {h h' : Heap} {id : Nat} {bs : List Bool} {ts : List TypeId} {ds' : List D} {ps : List Part} {lent : List Nat}, (argDs T h id bs ts ds).gives (ds', h', ps, lent) → ps = [] → h' = h
 | [], h, h', id, bs, ts, ds', ps, lent, hg, hp => by
  simp only [argDs, NM.gives_pure, Prod.mk.injEq] at hg
  exact hg.2.1.symm
 | d :: r, h, h', id, bs, ts, ds', ps, lent, hg, hp => by
  simp only [argDs, NM.gives_bind, NM.gives_pure, Prod.mk.injEq] at hg
  obtain ⟨⟨d1, ha, ps1, is⟩, g1, ⟨ds1, hb, qs, js⟩, g2, rfl, rfl, rfl, rfl⟩ := hg
  simp only [List.append_eq_nil_iff] at hp
  have h1 := argD_nops g1 hp.1
  have h2 := argDs_nops g2 hp.2
  simp only at h1 h2 ⊢
  rw [h2, h1]
theorem backH_keep {tr : List Nat} {new : Nat} : ∀ {obs : List Ob} {k : Nat} {h h2 : Heap}, (backH tr new h k obs).gives h2 → ∀ x, (∀ j, j < obs.length → x ≠ backN tr new (k + j)) → h2 x = h x
 | [], k, h, h2, hb, x, hx => by
  simp only [backH, NM.gives_pure] at hb
  rw [hb]
 | ob :: r, k, h, h2, hb, x, hx => by
  have hx0 := hx 0 (by simp)
  have hxr : ∀ j, j < r.length → x ≠ backN tr new (k + 1 + j) := fun j hj => by
   have := hx (j + 1) (by simp; omega)
   rw [show k + (j + 1) = k + 1 + j by omega] at this
   exact this
  simp only [backH] at hb
  split at hb
  ·rename_i o ho
   have := backH_keep hb x hxr
   rw [this, upd_other]
   simpa [backN, ho] using hx0
  ·simp only [NM.gives_bind] at hb
   obtain ⟨h1, hn, hb⟩ := hb
   obtain ⟨_, rfl⟩ := newOb_iff.1 hn
   rw [backH_keep hb x hxr, upd_other (by simpa using hx0)]
/-! ### a call looks at what it is handed -/
theorem lend_handles {l l' : L} (hl : lend h l = some l') : ∀ x ∈ handles l', x ∈ handles l := by
 intro x hx
 cases l with
 | own o =>
  simp only [lend] at hl
  split at hl <;> first | (cases hl; done) | (simp only [Option.some.injEq] at hl; subst hl; simp [handles] at hx)
 | sub o a b =>
  simp only [lend] at hl
  split at hl <;> first | (cases hl; done) | (simp only [Option.some.injEq] at hl; subst hl; simp [handles] at hx)
 | _ => simp only [lend, Option.some.injEq] at hl; subst hl; exact hx
theorem lends_near : ∀ {ls : List L}, (∀ l ∈ ls, ∀ o ∈ handles l, g o = h o) → ls.mapM (VI.lend g) = ls.mapM (VI.lend h)
 | [], _ => rfl
 | l :: r, H => by rw [List.mapM_cons, List.mapM_cons, lend_near (H l (by simp)), lends_near fun l hl => H l (by simp [hl])]
theorem lends_handles : ∀ {ls ls' : List L}, ls.mapM (VI.lend h) = some ls' → ∀ x ∈ ls'.flatMap handles, x ∈ ls.flatMap handles
 | [], ls', hm, x, hx => by simp at hm; subst hm; simp at hx
 | l :: r, ls', hm, x, hx => by
  rw [List.mapM_cons] at hm
  simp only [Option.bind_eq_bind, Option.bind_eq_some_iff, Option.pure_def, Option.some.injEq] at hm
  obtain ⟨l1, h1, r1, h2, rfl⟩ := hm
  rw [List.flatMap_cons, List.mem_append] at hx ⊢
  rcases hx with hx | hx
  ·exact .inl (lend_handles h1 x hx)
  ·exact .inr (lends_handles h2 x hx)
theorem argD_near {T : Tb} {id : Nat} {lend : Bool} {t : TypeId} {d d' : D} {ps : List Part} {lent : List Nat} (hg : (argD T h id lend t d).gives (d', h', ps, lent)) (hp : ps = []) (H : ∀ o ∈ d.ls.flatMap handles, g o = h o) :
  (argD T g id lend t d).gives (d', g, ps, lent) ∧ ∀ x ∈ d'.ls.flatMap handles, x ∈ d.ls.flatMap handles := by
 unfold argD at hg ⊢
 split at hg
 ·rename_i o i j
  have ho : g o = h o := H o (by simp [D.ls, handles])
  simp only [NM.gives_bind, NM.gives_pure, Prod.mk.injEq] at hg
  obtain ⟨⟨l, h1, ps1⟩, hpl, rfl, rfl, rfl, rfl⟩ := hg
  simp only [partL, NM.gives_bind, NM.gives_opt] at hpl
  obtain ⟨ti, hti, hpl⟩ := hpl
  split at hpl
  ·rename_i e hk
   simp only [NM.gives_bind, NM.gives_opt] at hpl
   obtain ⟨te, hte, hpl⟩ := hpl
   split at hpl
   ·rename_i ls hbox
    simp only [NM.gives_guard, NM.gives_pure, Prod.mk.injEq] at hpl
    obtain ⟨hgd, rfl, rfl, rfl⟩ := hpl
    refine ⟨NM.gives_bind.2 ⟨(.ptr o i j, g, []), ?_, NM.gives_pure.2 rfl⟩, fun x hx => hx⟩
    simp only [partL, NM.gives_bind, NM.gives_opt]
    refine ⟨ti, hti, ?_⟩
    rw [hk]
    simp only [NM.gives_bind, NM.gives_opt]
    refine ⟨te, hte, ?_⟩
    rw [ho, hbox]
    exact NM.gives_guard.2 ⟨hgd, NM.gives_pure.2 rfl⟩
   ·simp only [NM.gives_bind, NM.gives_pure, Prod.mk.injEq] at hpl
    obtain ⟨ls', hls, h2, hn, rfl, rfl, rfl⟩ := hpl
    simp at hp
   ·exact absurd hpl NM.gives_fail
  ·exact absurd hpl NM.gives_fail
 ·cases lend with
  | false =>
   simp only [cond_false, NM.gives_pure, Prod.mk.injEq] at hg
   obtain ⟨rfl, rfl, rfl, rfl⟩ := hg
   exact ⟨NM.gives_pure.2 rfl, fun x hx => hx⟩
  | true =>
   simp only [cond_true, NM.gives_bind, NM.gives_opt, NM.gives_pure, Prod.mk.injEq] at hg
   obtain ⟨d1, hd, rfl, rfl, rfl, rfl⟩ := hg
   show ((NM.opt (d.lend g)).bind fun d' => .pure (d', g, [], d.ls.flatMap lentL)).gives _ ∧ _
   cases d with
   | one l =>
    simp only [D.lend, Option.map_eq_some_iff] at hd
    obtain ⟨l1, hl1, rfl⟩ := hd
    refine ⟨NM.gives_bind.2 ⟨.one l1, NM.gives_opt.2 ?_, NM.gives_pure.2 rfl⟩, fun x hx => ?_⟩
    ·simp only [D.lend]
     rw [lend_near (h := h) (fun o ho => H o (by simpa [D.ls] using ho)), hl1]; rfl
    ·simp only [D.ls, List.flatMap_cons, List.flatMap_nil, List.append_nil] at hx ⊢
     exact lend_handles hl1 x hx
   | agg ls =>
    simp only [D.lend, Option.map_eq_some_iff] at hd
    obtain ⟨l1, hl1, rfl⟩ := hd
    refine ⟨NM.gives_bind.2 ⟨.agg l1, NM.gives_opt.2 ?_, NM.gives_pure.2 rfl⟩, fun x hx => lends_handles hl1 x hx⟩
    simp only [D.lend]
    rw [lends_near (ls := ls) (h := h) (fun l hl o ho => H o (List.mem_flatMap.2 ⟨l, hl, ho⟩)), hl1]; rfl
   | tup ds => simp [D.lend] at hd
theorem argDs_near {T : Tb} : ∀ {ds : List D} {h h' : Heap} {id : Nat} {bs : List Bool} {ts : List TypeId} {ds' : List D} {ps : List Part} {lent : List Nat}, (argDs T h id bs ts ds).gives (ds', h', ps, lent) → ps = [] → (∀ o ∈ ds.flatMap (fun d => d.ls.flatMap handles), g o = h o) →
  (argDs T g id bs ts ds).gives (ds', g, ps, lent) ∧ ∀ x ∈ ds'.flatMap (fun d => d.ls.flatMap handles), x ∈ ds.flatMap (fun d => d.ls.flatMap handles)
 | [], h, h', id, bs, ts, ds', ps, lent, hg, hp, H => by
  simp only [argDs, NM.gives_pure, Prod.mk.injEq] at hg
  obtain ⟨rfl, rfl, rfl, rfl⟩ := hg
  exact ⟨NM.gives_pure.2 rfl, fun x hx => hx⟩
 | d :: r, h, h', id, bs, ts, ds', ps, lent, hg, hp, H => by
  simp only [argDs, NM.gives_bind, NM.gives_pure, Prod.mk.injEq] at hg
  obtain ⟨⟨d1, ha, ps1, is⟩, g1, ⟨ds1, hb, qs, js⟩, g2, rfl, rfl, rfl, rfl⟩ := hg
  simp only [List.append_eq_nil_iff] at hp
  simp only at g2 hp ⊢
  obtain ⟨rfl, rfl⟩ := hp
  have e1 : ha = h := argD_nops g1 rfl
  subst e1
  obtain ⟨k1, k2⟩ := argD_near g1 rfl (fun o ho => H o (by rw [List.flatMap_cons, List.mem_append]; exact .inl ho))
  obtain ⟨k3, k4⟩ := argDs_near g2 rfl (fun o ho => H o (by rw [List.flatMap_cons, List.mem_append]; exact .inr ho))
  refine ⟨NM.gives_bind.2 ⟨_, k1, NM.gives_bind.2 ⟨_, k3, NM.gives_pure.2 rfl⟩⟩, fun x hx => ?_⟩
  rw [List.flatMap_cons, List.mem_append] at hx ⊢
  rcases hx with hx | hx
  ·exact .inl (k2 x hx)
  ·exact .inr (k4 x hx)
theorem packCaps_near : ∀ {caps : List (Nat × Nat)} {tr : List Nat}, (∀ p ∈ caps, g p.1 = h p.1) → packCaps g caps tr = packCaps h caps tr
 | [], tr, H => rfl
 | (o, j) :: r, tr, H => by
  simp only [packCaps]
  rw [H (o, j) (by simp), packCaps_near fun p hp => H p (by simp [hp])]
theorem packL_near {l : L} {tr : List Nat} (H : ∀ o ∈ handles l, g o = h o) : packL g tr l = packL h tr l := by
 cases l with
 | own o => simp only [packL, H o (by simp [handles])]
 | sub o a b => simp only [packL, H o (by simp [handles])]
 | ptr o i j => simp only [packL, H o (by simp [handles])]
 | fn f cs => simp only [packL]; rw [packCaps_near fun p hp => H p.1 (by simp only [handles, List.mem_map]; exact ⟨p, hp, rfl⟩)]
 | _ => rfl
theorem packLs_near : ∀ {ls : List L} {tr : List Nat}, (∀ o ∈ ls.flatMap handles, g o = h o) → packLs g tr ls = packLs h tr ls
 | [], tr, H => rfl
 | l :: r, tr, H => by
  simp only [packLs]
  rw [packL_near fun o ho => H o (by rw [List.flatMap_cons, List.mem_append]; exact .inl ho)]
  congr 1
  funext x
  rw [packLs_near fun o ho => H o (by rw [List.flatMap_cons, List.mem_append]; exact .inr ho)]
theorem packD_near {d : D} {tr : List Nat} (H : ∀ o ∈ d.ls.flatMap handles, g o = h o) : packD g tr d = packD h tr d := by
 cases d with
 | one l => simp only [packD]; rw [packL_near fun o ho => H o (by simpa [D.ls] using ho)]
 | agg ls => simp only [packD]; rw [packLs_near (ls := ls) fun o ho => H o ho]
 | tup _ => rfl
theorem packDs_near : ∀ {ds : List D} {tr : List Nat}, (∀ o ∈ ds.flatMap (fun d => d.ls.flatMap handles), g o = h o) → packDs g tr ds = packDs h tr ds
 | [], tr, H => rfl
 | l :: r, tr, H => by
  simp only [packDs]
  rw [packD_near fun o ho => H o (by rw [List.flatMap_cons, List.mem_append]; exact .inl ho)]
  congr 1
  funext x
  rw [packDs_near fun o ho => H o (by rw [List.flatMap_cons, List.mem_append]; exact .inr ho)]
theorem place_sub {o x : Nat} {tr : List Nat} (hx : x ∈ tr) : x ∈ (place o tr).2 := by
 unfold place; split
 ·exact hx
 ·exact List.mem_append_left _ hx
theorem packCaps_sub : ∀ {caps cs : List (Nat × Nat)} {tr tr' : List Nat}, (packCaps h caps tr).gives (cs, tr') → ∀ x ∈ tr, x ∈ tr'
 | [], cs, tr, tr', hg, x, hx => by
  simp only [packCaps, NM.gives_pure, Prod.mk.injEq] at hg
  exact hg.2 ▸ hx
 | (o, j) :: r, cs, tr, tr', hg, x, hx => by
  simp only [packCaps] at hg
  split at hg
  ·simp only [NM.gives_bind, NM.gives_pure, Prod.mk.injEq] at hg
   obtain ⟨⟨r', t2⟩, h1, _, rfl⟩ := hg
   exact packCaps_sub h1 x (place_sub hx)
  ·exact absurd hg NM.gives_fail
theorem packL_sub {l l' : L} {tr tr' : List Nat} (hg : (packL h tr l).gives (l', tr')) : ∀ x ∈ tr, x ∈ tr' := by
 intro x hx
 cases l with
 | own o =>
  simp only [packL] at hg
  split at hg <;> first | exact absurd hg NM.gives_fail | (simp only [NM.gives_pure, Prod.mk.injEq] at hg; obtain ⟨_, rfl⟩ := hg; first | exact hx | exact place_sub hx)
 | sub o a b =>
  simp only [packL] at hg
  split at hg <;> first | exact absurd hg NM.gives_fail | (simp only [NM.gives_pure, Prod.mk.injEq] at hg; obtain ⟨_, rfl⟩ := hg; first | exact hx | exact place_sub hx)
 | ptr o i j =>
  simp only [packL] at hg
  split at hg <;> first | exact absurd hg NM.gives_fail | (simp only [NM.gives_pure, Prod.mk.injEq] at hg; obtain ⟨_, rfl⟩ := hg; first | exact hx | exact place_sub hx)
 | fn f cs =>
  simp only [packL, NM.gives_bind, NM.gives_pure, Prod.mk.injEq] at hg
  obtain ⟨⟨r', t2⟩, h1, _, rfl⟩ := hg
  exact packCaps_sub h1 x hx
 | fmap es => exact absurd hg NM.gives_fail
 | _ =>
  simp only [packL, NM.gives_pure, Prod.mk.injEq] at hg
  obtain ⟨_, rfl⟩ := hg
  exact hx
theorem packLs_sub : ∀ {ls ls' : List L} {tr tr' : List Nat}, (packLs h tr ls).gives (ls', tr') → ∀ x ∈ tr, x ∈ tr'
 | [], ls', tr, tr', hg, x, hx => by
  simp only [packLs, NM.gives_pure, Prod.mk.injEq] at hg
  exact hg.2 ▸ hx
 | l :: r, ls', tr, tr', hg, x, hx => by
  simp only [packLs, NM.gives_bind, NM.gives_pure, Prod.mk.injEq] at hg
  obtain ⟨⟨l1, t1⟩, h1, ⟨r1, t2⟩, h2, _, rfl⟩ := hg
  exact packLs_sub h2 x (packL_sub h1 x hx)
theorem packObs_sub : ∀ {f k : Nat} {tr tr' : List Nat} {obs : List Ob}, (packObs h f k tr).gives (obs, tr') → ∀ x ∈ tr, x ∈ tr'
 | 0, k, tr, tr', obs, hg, x, hx => absurd hg NM.gives_fail
 | f + 1, k, tr, tr', obs, hg, x, hx => by
  simp only [packObs] at hg
  split at hg
  ·simp only [NM.gives_pure, Prod.mk.injEq] at hg
   obtain ⟨rfl, rfl⟩ := hg; exact hx
  ·split at hg
   ·simp only [NM.gives_bind, NM.gives_pure, Prod.mk.injEq] at hg
    obtain ⟨⟨l1, t1⟩, h1, ⟨r1, t2⟩, h2, _, rfl⟩ := hg
    exact packObs_sub h2 x (packLs_sub h1 x hx)
   ·exact absurd hg NM.gives_fail
   ·exact absurd hg NM.gives_fail
   ·simp only [NM.gives_guard, NM.gives_bind, NM.gives_pure, Prod.mk.injEq] at hg
    obtain ⟨_, ⟨r1, t2⟩, h2, _, rfl⟩ := hg
    exact packObs_sub h2 x hx
   ·simp only [NM.gives_bind, NM.gives_pure, Prod.mk.injEq] at hg
    obtain ⟨⟨r1, t2⟩, h2, _, rfl⟩ := hg
    exact packObs_sub h2 x hx
theorem packObs_near : ∀ {f k : Nat} {tr tr' : List Nat} {obs : List Ob}, (packObs h f k tr).gives (obs, tr') → (∀ o ∈ tr', g o = h o ∧ ∀ x ∈ objHandles (h o), g x = h x) → (packObs g f k tr).gives (obs, tr')
 | 0, k, tr, tr', obs, hg, H => absurd hg NM.gives_fail
 | f + 1, k, tr, tr', obs, hg, H => by
  have hsub := packObs_sub hg
  simp only [packObs] at hg ⊢
  cases hk : tr[k]? with
  | none => rw [hk] at hg; exact hg
  | some o =>
   rw [hk] at hg
   have ho := H o (hsub o (List.mem_of_getElem? hk))
   simp only [ho.1] at hg ⊢
   cases hh : h o with
   | box ls =>
    rw [hh] at hg
    simp only [NM.gives_bind, NM.gives_pure, Prod.mk.injEq] at hg ⊢
    obtain ⟨⟨l1, t1⟩, h1, ⟨r1, t2⟩, h2, e1, e2⟩ := hg
    refine ⟨(l1, t1), ?_, (r1, t2), packObs_near h2 (by simp only at e2; rw [e2]; exact H), e1, e2⟩
    rw [packLs_near (h := h) (by rw [hh] at ho; exact ho.2)]; exact h1
   | none => rw [hh] at hg; exact absurd hg NM.gives_fail
   | lock c l => rw [hh] at hg; exact absurd hg NM.gives_fail
   | grid e d n q ll =>
    rw [hh] at hg
    simp only [NM.gives_guard, NM.gives_bind, NM.gives_pure, Prod.mk.injEq] at hg ⊢
    obtain ⟨hq, ⟨r1, t2⟩, h2, e1, e2⟩ := hg
    exact ⟨hq, (r1, t2), packObs_near h2 (by simp only at e2; rw [e2]; exact H), e1, e2⟩
   | _ =>
    rw [hh] at hg
    simp only [NM.gives_bind, NM.gives_pure, Prod.mk.injEq] at hg ⊢
    obtain ⟨⟨r1, t2⟩, h2, e1, e2⟩ := hg
    exact ⟨(r1, t2), packObs_near h2 (by simp only at e2; rw [e2]; exact H), e1, e2⟩
theorem pack_near {ds ds' : List D} {tr0 tr : List Nat} {obs : List Ob} (hg : (pack h tr0 ds).gives (ds', obs, tr)) (H : ∀ o ∈ ds.flatMap (fun d => d.ls.flatMap handles), g o = h o) (H2 : ∀ o ∈ tr, g o = h o ∧ ∀ x ∈ objHandles (h o), g x = h x) : (pack g tr0 ds).gives (ds', obs, tr) := by
 simp only [pack, NM.gives_bind, NM.gives_pure, Prod.mk.injEq] at hg ⊢
 obtain ⟨⟨d1, t1⟩, h1, ⟨o1, t2⟩, h2, e1, e2, e3⟩ := hg
 refine ⟨(d1, t1), ?_, (o1, t2), packObs_near h2 (by simp only at e3; rw [e3]; exact H2), e1, e2, e3⟩
 rw [packDs_near H]; exact h1
theorem backH_near {tr : List Nat} {new : Nat} : ∀ {obs : List Ob} {k : Nat} {h h2 g : Heap}, (backH tr new h k obs).gives h2 → (∀ j, j < obs.length → g (backN tr new (k + j)) = h (backN tr new (k + j))) → ∃ g2, (backH tr new g k obs).gives g2 ∧ ∀ x, g x = h x → g2 x = h2 x
 | [], k, h, h2, g, hb, H => by
  simp only [backH, NM.gives_pure] at hb ⊢
  subst hb
  exact ⟨g, rfl, fun x hx => hx⟩
 | ob :: r, k, h, h2, g, hb, H => by
  have hr : ∀ ob', ∀ y, (∀ j, j < r.length → (upd g y ob') (backN tr new (k + 1 + j)) = (upd h y ob') (backN tr new (k + 1 + j))) := fun ob' y j hj => by
   have := H (j + 1) (by simp; omega)
   rw [show k + (j + 1) = k + 1 + j by omega] at this
   by_cases e : backN tr new (k + 1 + j) = y
   ·rw [e, upd_same, upd_same]
   ·rw [upd_other e, upd_other e, this]
  have hu : ∀ ob' y x, g x = h x → (upd g y ob') x = (upd h y ob') x := fun ob' y x hx => by
   by_cases e : x = y
   ·rw [e, upd_same, upd_same]
   ·rw [upd_other e, upd_other e, hx]
  simp only [backH] at hb ⊢
  split at hb
  ·rename_i o ho
   obtain ⟨g2, k1, k2⟩ := backH_near hb (hr _ o)
   exact ⟨g2, k1, fun x hx => k2 x (hu _ _ x hx)⟩
  ·rename_i ho
   simp only [NM.gives_bind] at hb
   obtain ⟨h1, hn, hb⟩ := hb
   obtain ⟨hnone, rfl⟩ := newOb_iff.1 hn
   obtain ⟨g2, k1, k2⟩ := backH_near hb (hr _ _)
   simp only [NM.gives_bind]
   refine ⟨g2, ⟨_, newOb_iff.2 ⟨?_, rfl⟩, k1⟩, fun x hx => k2 x (hu _ _ x hx)⟩
   have := H 0 (by simp)
   rw [Nat.add_zero] at this
   rw [this]; exact hnone
theorem solid_handles {l l' : L} (hl : (solid h l).gives (l', h')) : ∀ x ∈ handles l', x ∈ handles l := by
 intro x hx
 cases l with
 | own o =>
  simp only [solid] at hl
  split at hl <;> first | exact absurd hl NM.gives_fail | (simp only [NM.gives_pure, Prod.mk.injEq] at hl; obtain ⟨rfl, _⟩ := hl; simp [handles] at hx)
 | sub o a b =>
  simp only [solid] at hl
  split at hl <;> first | exact absurd hl NM.gives_fail | (simp only [NM.gives_pure, Prod.mk.injEq] at hl; obtain ⟨rfl, _⟩ := hl; simp [handles] at hx)
 | _ => simp only [solid, NM.gives_pure, Prod.mk.injEq] at hl; obtain ⟨rfl, _⟩ := hl; exact hx
theorem solids_handles : ∀ {ls ls' : List L} {h h' : Heap}, (solids h ls).gives (ls', h') → ∀ x ∈ ls'.flatMap handles, x ∈ ls.flatMap handles
 | [], ls', h, h', hm, x, hx => by
  simp only [solids, NM.gives_pure, Prod.mk.injEq] at hm
  obtain ⟨rfl, _⟩ := hm; exact hx
 | l :: r, ls', h, h', hm, x, hx => by
  simp only [solids, NM.gives_bind, NM.gives_pure, Prod.mk.injEq] at hm
  obtain ⟨⟨l1, h1⟩, k1, ⟨r1, h2⟩, k2, rfl, rfl⟩ := hm
  rw [List.flatMap_cons, List.mem_append] at hx ⊢
  rcases hx with hx | hx
  ·exact .inl (solid_handles k1 x hx)
  ·exact .inr (solids_handles k2 x hx)
theorem freezeDs_handles : ∀ {ds ds' : List D} {bs : List Bool} {h h' : Heap}, (freezeDs h bs ds).gives (ds', h') → ∀ x ∈ ds'.flatMap (fun d => d.ls.flatMap handles), x ∈ ds.flatMap (fun d => d.ls.flatMap handles)
 | [], ds', bs, h, h', hg, x, hx => by
  simp only [freezeDs, NM.gives_pure, Prod.mk.injEq] at hg
  obtain ⟨rfl, rfl⟩ := hg; exact hx
 | .one l :: r, ds', bs, h, h', hg, x, hx => by
  simp only [freezeDs, NM.gives_cond, NM.gives_bind, NM.gives_pure, Prod.mk.injEq] at hg
  rcases hg with ⟨_, ⟨l1, h1⟩, hl, ⟨r1, h2⟩, hr, rfl, rfl⟩ | ⟨_, ⟨r1, h2⟩, hr, rfl, rfl⟩
  ·rw [List.flatMap_cons, List.mem_append] at hx ⊢
   rcases hx with hx | hx
   ·refine .inl ?_
    simp only [D.ls, List.flatMap_cons, List.flatMap_nil, List.append_nil] at hx ⊢
    exact solid_handles hl x hx
   ·exact .inr (freezeDs_handles hr x hx)
  ·rw [List.flatMap_cons, List.mem_append] at hx ⊢
   rcases hx with hx | hx
   ·exact .inl hx
   ·exact .inr (freezeDs_handles hr x hx)
 | .agg l :: r, ds', bs, h, h', hg, x, hx => by
  simp only [freezeDs, NM.gives_cond, NM.gives_bind, NM.gives_pure, Prod.mk.injEq] at hg
  rcases hg with ⟨_, ⟨l1, h1⟩, hl, ⟨r1, h2⟩, hr, rfl, rfl⟩ | ⟨_, ⟨r1, h2⟩, hr, rfl, rfl⟩
  ·rw [List.flatMap_cons, List.mem_append] at hx ⊢
   rcases hx with hx | hx
   ·exact .inl (solids_handles hl x hx)
   ·exact .inr (freezeDs_handles hr x hx)
  ·rw [List.flatMap_cons, List.mem_append] at hx ⊢
   rcases hx with hx | hx
   ·exact .inl hx
   ·exact .inr (freezeDs_handles hr x hx)
 | .tup l :: r, ds', bs, h, h', hg, x, hx => by
  simp only [freezeDs] at hg
  exact absurd hg NM.gives_fail
theorem loc_near {X : Type} {m : Heap → NM (X × Heap)} {W : List Nat} {x : X} (c : LocX m [] W h h' x) (g : Heap) (H : ∀ o ∈ W, g o = h o) : ∃ g', (m g).gives (x, g') ∧ ∀ y, g y = h y → g' y = h' y := by
 obtain ⟨g', k1, k2, k3⟩ := c.loc g fun o ho => by
  rcases ho with ho | ho
  ·cases ho
  ·exact H o ho
 refine ⟨g', k1, fun y hy => ?_⟩
 by_cases e : y ∈ W
 ·exact k2 y e
 ·rw [k3 y e, c.keep y e, hy]
theorem freezeDs_near : ∀ {ds ds' : List D} {bs : List Bool} {h h' : Heap}, (freezeDs h bs ds).gives (ds', h') → ∀ g : Heap, (∀ o ∈ ds.flatMap (fun d => d.ls.flatMap handles), g o = h o) → ∃ g', (freezeDs g bs ds).gives (ds', g') ∧ ∀ x, g x = h x → g' x = h' x
 | [], ds', bs, h, h', hg, g, H => by
  simp only [freezeDs, NM.gives_pure, Prod.mk.injEq] at hg
  obtain ⟨rfl, rfl⟩ := hg
  exact ⟨g, by simp only [freezeDs]; exact NM.gives_pure.2 rfl, fun x hx => hx⟩
 | .one l :: r, ds', bs, h, h', hg, g, H => by
  have H1 : ∀ o ∈ handles l, g o = h o := fun o ho => H o (by rw [List.flatMap_cons, List.mem_append]; exact .inl (by simpa [D.ls] using ho))
  have H2 : ∀ o ∈ r.flatMap (fun d => d.ls.flatMap handles), g o = h o := fun o ho => H o (by rw [List.flatMap_cons, List.mem_append]; exact .inr ho)
  simp only [freezeDs, NM.gives_cond, NM.gives_bind, NM.gives_pure, Prod.mk.injEq] at hg
  rcases hg with ⟨hb, ⟨l1, h1⟩, hl, ⟨r1, h2⟩, hr, rfl, rfl⟩ | ⟨hb, ⟨r1, h2⟩, hr, rfl, rfl⟩
  ·obtain ⟨g1, k1, k2⟩ := loc_near (solid_loc hl) g H1
   obtain ⟨g2, k3, k4⟩ := freezeDs_near hr g1 fun o ho => k2 o (H2 o ho)
   refine ⟨g2, ?_, fun x hx => k4 x (k2 x hx)⟩
   simp only [freezeDs]
   exact NM.gives_cond.2 (.inl ⟨hb, NM.gives_bind.2 ⟨_, k1, NM.gives_bind.2 ⟨_, k3, NM.gives_pure.2 rfl⟩⟩⟩)
  ·obtain ⟨g2, k3, k4⟩ := freezeDs_near hr g H2
   refine ⟨g2, ?_, k4⟩
   simp only [freezeDs]
   exact NM.gives_cond.2 (.inr ⟨hb, NM.gives_bind.2 ⟨_, k3, NM.gives_pure.2 rfl⟩⟩)
 | .agg l :: r, ds', bs, h, h', hg, g, H => by
  have H1 : ∀ o ∈ l.flatMap handles, g o = h o := fun o ho => H o (by rw [List.flatMap_cons, List.mem_append]; exact .inl ho)
  have H2 : ∀ o ∈ r.flatMap (fun d => d.ls.flatMap handles), g o = h o := fun o ho => H o (by rw [List.flatMap_cons, List.mem_append]; exact .inr ho)
  simp only [freezeDs, NM.gives_cond, NM.gives_bind, NM.gives_pure, Prod.mk.injEq] at hg
  rcases hg with ⟨hb, ⟨l1, h1⟩, hl, ⟨r1, h2⟩, hr, rfl, rfl⟩ | ⟨hb, ⟨r1, h2⟩, hr, rfl, rfl⟩
  ·obtain ⟨g1, k1, k2⟩ := loc_near (solids_loc hl) g H1
   obtain ⟨g2, k3, k4⟩ := freezeDs_near hr g1 fun o ho => k2 o (H2 o ho)
   refine ⟨g2, ?_, fun x hx => k4 x (k2 x hx)⟩
   simp only [freezeDs]
   exact NM.gives_cond.2 (.inl ⟨hb, NM.gives_bind.2 ⟨_, k1, NM.gives_bind.2 ⟨_, k3, NM.gives_pure.2 rfl⟩⟩⟩)
  ·obtain ⟨g2, k3, k4⟩ := freezeDs_near hr g H2
   refine ⟨g2, ?_, k4⟩
   simp only [freezeDs]
   exact NM.gives_cond.2 (.inr ⟨hb, NM.gives_bind.2 ⟨_, k3, NM.gives_pure.2 rfl⟩⟩)
 | .tup l :: r, ds', bs, h, h', hg, g, H => by
  simp only [freezeDs] at hg
  exact absurd hg NM.gives_fail
def plainL : L → Bool
 | .pv (.list _) _ => false
 | _ => true
theorem unL_plain {c : TC} {l : L} {x : c.α} (hc : noList c = true) (hu : unL c l = some x) : plainL l = true := by
 cases l with
 | pv c' x' =>
  by_cases e : c' = c
  ·subst e
   cases c' with
   | list c => cases hc
   | _ => rfl
  ·have : unL c (.pv c' x') = none := by show (if h : c' = c then _ else _) = _; rw [dif_neg e]
   rw [this] at hu; cases hu
 | _ => rfl
theorem unleaves_plain : ∀ {c : TC} {ls : List L} {x : c.α}, noList c = true → unleaves c ls = some x → ∀ l ∈ ls, plainL l = true
 | .pair a b, ls, x, hc, hu, l, hl => by
  simp only [unleaves, Option.bind_eq_some_iff] at hu
  obtain ⟨p, hp, q, hq, _⟩ := hu
  simp only [noList, Bool.and_eq_true] at hc
  rw [← List.take_append_drop a.size ls, List.mem_append] at hl
  rcases hl with hl | hl
  ·exact unleaves_plain hc.1 hp l hl
  ·exact unleaves_plain hc.2 hq l hl
 | .int k, ls, x, hc, hu, l, hl => by
  match ls, hu, hl with
  | [l'], hu, hl => rw [List.mem_singleton.1 hl]; exact unL_plain (c := .int k) hc hu
 | .bool, ls, x, hc, hu, l, hl => by
  match ls, hu, hl with
  | [l'], hu, hl => rw [List.mem_singleton.1 hl]; exact unL_plain (c := .bool) hc hu
 | .str, ls, x, hc, hu, l, hl => by
  match ls, hu, hl with
  | [l'], hu, hl => rw [List.mem_singleton.1 hl]; exact unL_plain (c := .str) hc hu
 | .err t, ls, x, hc, hu, l, hl => by
  match ls, hu, hl with
  | [l'], hu, hl => rw [List.mem_singleton.1 hl]; exact unL_plain (c := .err t) hc hu
 | .list c, ls, x, hc, hu, l, hl => by simp [noList] at hc
theorem solid_plain {l l' : L} (hs : (solid h l).gives (l', h')) (hp : plainL l' = true) : h' = h := by
 cases l with
 | own o =>
  simp only [solid] at hs
  split at hs
  ·simp only [NM.gives_pure, Prod.mk.injEq] at hs; rw [← hs.1] at hp; cases hp
  ·simp only [NM.gives_pure, Prod.mk.injEq] at hs; rw [← hs.1] at hp; cases hp
  ·simp only [NM.gives_pure, Prod.mk.injEq] at hs; rw [← hs.1] at hp; cases hp
  ·exact absurd hs NM.gives_fail
 | sub o a b =>
  simp only [solid] at hs
  split at hs
  ·simp only [NM.gives_pure, Prod.mk.injEq] at hs; rw [← hs.1] at hp; cases hp
  ·simp only [NM.gives_pure, Prod.mk.injEq] at hs; rw [← hs.1] at hp; cases hp
  ·exact absurd hs NM.gives_fail
 | _ => simp only [solid, NM.gives_pure, Prod.mk.injEq] at hs; exact hs.2.symm
theorem solids_plain : ∀ {ls ls' : List L} {h h' : Heap}, (solids h ls).gives (ls', h') → (∀ l ∈ ls', plainL l = true) → h' = h
 | [], ls', h, h', hs, hp => by
  simp only [solids, NM.gives_pure, Prod.mk.injEq] at hs
  exact hs.2.symm
 | l :: r, ls', h, h', hs, hp => by
  simp only [solids, NM.gives_bind, NM.gives_pure, Prod.mk.injEq] at hs
  obtain ⟨⟨l1, h1⟩, k1, ⟨r1, h2⟩, k2, rfl, rfl⟩ := hs
  have e1 := solid_plain k1 (hp _ (List.mem_cons_self ..))
  have e2 := solids_plain k2 fun l hl => hp l (List.mem_cons_of_mem _ hl)
  simp only at e1 e2 ⊢
  rw [e2, e1]
theorem argD_keep {T : Tb} {id : Nat} {lend : Bool} {t : TypeId} {d d' : D} {ps : List Part} {lent : List Nat} (hg : (argD T h id lend t d).gives (d', h', ps, lent)) : ∀ x, x ∉ ps.map (·.o) → x ∉ ps.map (·.id) → h' x = h x := by
 intro x hx1 hx2
 unfold argD at hg
 split at hg
 ·rename_i o i j
  simp only [NM.gives_bind, NM.gives_pure, Prod.mk.injEq] at hg
  obtain ⟨⟨l, h1, ps1⟩, hpl, rfl, rfl, rfl, rfl⟩ := hg
  simp only [partL, NM.gives_bind, NM.gives_opt] at hpl
  obtain ⟨ti, hti, hpl⟩ := hpl
  split at hpl
  ·simp only [NM.gives_bind, NM.gives_opt] at hpl
   obtain ⟨te, hte, hpl⟩ := hpl
   split at hpl
   ·simp only [NM.gives_guard, NM.gives_pure, Prod.mk.injEq] at hpl
    obtain ⟨_, rfl, rfl, rfl⟩ := hpl
    rfl
   ·simp only [NM.gives_bind, NM.gives_pure, Prod.mk.injEq] at hpl
    obtain ⟨ls', hls, h2, hn, rfl, rfl, rfl⟩ := hpl
    obtain ⟨_, rfl⟩ := newOb_iff.1 hn
    simp only [List.map_cons, List.map_nil, List.mem_singleton] at hx1 hx2
    simp only
    rw [upd_other hx2, upd_other hx1]
   ·exact absurd hpl NM.gives_fail
  ·exact absurd hpl NM.gives_fail
 ·cases lend with
  | false =>
   simp only [cond_false, NM.gives_pure, Prod.mk.injEq] at hg
   obtain ⟨rfl, rfl, rfl, rfl⟩ := hg
   rfl
  | true =>
   simp only [cond_true, NM.gives_bind, NM.gives_opt, NM.gives_pure, Prod.mk.injEq] at hg
   obtain ⟨d1, hd, rfl, rfl, rfl, rfl⟩ := hg
   rfl
theorem argDs_keep {T : Tb} : ∀ {ds : List D} {h h' : Heap} {id : Nat} {bs : List Bool} {ts : List TypeId} {ds' : List D} {ps : List Part} {lent : List Nat}, (argDs T h id bs ts ds).gives (ds', h', ps, lent) → ∀ x, x ∉ ps.map (·.o) → x ∉ ps.map (·.id) → h' x = h x
 | [], h, h', id, bs, ts, ds', ps, lent, hg, x, _, _ => by
  simp only [argDs, NM.gives_pure, Prod.mk.injEq] at hg
  rw [hg.2.1]
 | d :: r, h, h', id, bs, ts, ds', ps, lent, hg, x, hx1, hx2 => by
  simp only [argDs, NM.gives_bind, NM.gives_pure, Prod.mk.injEq] at hg
  obtain ⟨⟨d1, ha, ps1, is⟩, g1, ⟨ds1, hb, qs, js⟩, g2, rfl, rfl, rfl, rfl⟩ := hg
  simp only [List.map_append, List.mem_append, not_or] at hx1 hx2
  have k1 := argD_keep g1 x hx1.1 hx2.1
  have k2 := argDs_keep g2 x hx1.2 hx2.2
  simp only at k1 k2 ⊢
  rw [k2, k1]
theorem backP_keep : ∀ {ps : List Part} {h h3 : Heap}, (backP ps h).gives h3 → (ps.all fun p => noList p.c) = true → ∀ x, x ∉ ps.map (·.o) → x ∉ ps.map (·.id) → h3 x = h x
 | [], h, h3, hb, _, x, _, _ => by
  simp only [backP, NM.gives_pure] at hb
  rw [hb]
 | p :: r, h, h3, hb, hn, x, hx1, hx2 => by
  simp only [List.all_cons, Bool.and_eq_true] at hn
  simp only [List.map_cons, List.mem_cons, not_or] at hx1 hx2
  simp only [backP] at hb
  split at hb
  ·rename_i ls hls
   simp only [NM.gives_guard, NM.gives_bind, NM.gives_opt] at hb
   obtain ⟨_, ⟨ls', h'⟩, hs, y, hy, hb⟩ := hb
   have e := solids_plain hs fun l hl => unleaves_plain hn.1 hy l (by simp [hl])
   have k := backP_keep hb hn.2 x hx1.2 hx2.2
   rw [k, upd_other hx1.1, upd_other hx2.1, e]
  ·exact absurd hb NM.gives_fail
structure StepCertK (E : Env) (o : Oper) (ft : Foot) (d : D) (s : List D) (h h' : Heap) : Prop where
 keep : ∀ x, x ∉ ft.W → h' x = h x
 loc : ∀ s2 g, (∀ x ∈ o.op.operands.toList, operand s2 x = operand s x) → Near ft h g → ∃ g', (stepK E o ⟨s2, g⟩).gives ⟨putD o.dst d s2, g'⟩ ∧ (∀ x ∈ ft.W, g' x = h' x) ∧ ∀ x, x ∉ ft.W → g' x = g x
 q1 : heapless o.op = true → ft.W = [] ∧ ft.R = [] ∧ ft.full = true
 q2 : mutates o.op = false → ft.W = [] ∧ ft.full = true
theorem footK_ok {o : Oper} {s s' : List D} {h h' : Heap} {ft : Foot} (hf : (foot E o ⟨s, h⟩).gives ft) (hst : (stepK E o ⟨s, h⟩).gives ⟨s', h'⟩) : ∃ d, s' = putD o.dst d s ∧ StepCertK E o ft d s h h' := by
 by_cases hcv : ∃ f args ts, o.op = .call { callee := .value f, args := args, argTypes := ts }
 ·obtain ⟨f, args, ts, hop⟩ := hcv
  obtain ⟨d, hd, rfl⟩ := (stepK_call hop).1 hst
  refine ⟨d, rfl, ?_⟩
  unfold foot at hf
  rw [hop] at hf
  simp only [heapless, cond_false] at hf
  simp only [callFoot, NM.gives_bind, NM.gives_opt] at hf
  have hd0 := hd
  simp only [callV, NM.gives_bind, NM.gives_opt] at hd
  obtain ⟨l, hl, hf⟩ := hf
  obtain ⟨l', hl', hd⟩ := hd
  rw [hl] at hl'; simp at hl'; subst hl'
  split at hf
  ·rename_i gg caps
   simp only at hd
   split at hf
   ·exact absurd hf NM.gives_fail
   ·rename_i fe hfe
    simp only [hfe, NM.gives_bind, NM.gives_opt] at hd
    simp only [NM.gives_bind, NM.gives_opt] at hf
    obtain ⟨ds, hds, ⟨dsf, hfz⟩, hfr, ⟨ds1, h1, ps, lent⟩, ha, ⟨ds2, obs, tr⟩, hp, hf⟩ := hf
    simp only [NM.gives_guard, NM.gives_cond, NM.gives_pure] at hf
    obtain ⟨ds', hds', p', hfr', hc⟩ := hd
    rw [hds] at hds'; simp at hds'; subst hds'
    have := NM.gives_unique hfr hfr'; subst this
    simp only at ha hp hc hf
    simp only [callK, NM.gives_bind, NM.gives_guard, NM.gives_opt, NM.gives_pure] at hc
    obtain ⟨q, ha', ⟨ds3, obs3, tr3⟩, hp', _, x, _, y, _, hs, h2, hb, h3, hbp, r, _, he⟩ := hc
    have := NM.gives_unique ha ha'; subst this
    have := NM.gives_unique hp hp'
    simp only [Prod.mk.injEq] at this
    obtain ⟨rfl, rfl, rfl⟩ := this
    simp only [Prod.mk.injEq] at he
    obtain ⟨rfl, rfl⟩ := he
    rcases hf with ⟨hemp, rfl⟩ | ⟨_, hnl, rfl⟩
    rotate_left
    ·have keep : ∀ z, z ∉ (bif fe.ret then args.toList.flatMap (handlesOf s) else []) ++ (tr ++ ((List.range 16).map (idOf (o.dst.getD 0) + ·) ++ (ps.map (·.o) ++ ps.map (·.id)))) → h3 z = h z := fun z hz => by
      simp only [List.mem_append, not_or] at hz
      obtain ⟨hz1, hz2, hz3, hz4, hz5⟩ := hz
      simp only [Bool.and_eq_true, Nat.ble_eq] at hs
      rw [backP_keep hbp hnl z hz4 hz5]
      have k1 := backH_keep hb z fun j hj => by
       rw [Nat.zero_add]
       intro e
       rcases Nat.lt_or_ge j tr.length with hlt | hge
       ·have ht : tr[j]? = some tr[j] := List.getElem?_eq_getElem hlt
        rw [backN_in ht] at e
        exact hz2 (e ▸ List.getElem_mem hlt)
       ·rw [backN_out hge] at e
        apply hz3
        refine List.mem_map.2 ⟨j - tr.length, by simp; omega, e.symm⟩
      rw [k1]
      have k2 := argDs_keep ha z hz4 hz5
      simp only at k2 ⊢
      rw [k2]
      rw [NM.gives_cond] at hfr
      rcases hfr with ⟨hret, hfr⟩ | ⟨hret, hfr⟩
      ·rw [hret] at hz1
       exact freezeDs_keep hfr z fun hm => hz1 (opnds_handles hds z hm)
      ·simp only [NM.gives_pure, Prod.mk.injEq] at hfr
       rw [hfr.2]
     refine ⟨keep, fun s2 g H hn => ?_, fun h => by (rw [hop] at h; simp [heapless] at h), fun h => by (rw [hop] at h; simp [mutates] at h)⟩
     obtain rfl : g = h := hn.2 rfl
     refine ⟨h3, (stepK_call hop).2 ⟨r, ?_, rfl⟩, fun z _ => rfl, keep⟩
     rw [callV_slots (s := s) (H f (by rw [hop]; simp [Op.operands, Call.operands])) (fun x hx => H x (by rw [hop]; simp [Op.operands, Call.operands]; exact .inr (by simpa using hx)))]
     exact hd0
    simp only [List.isEmpty_iff] at hemp
    subst hemp
    simp only [backP, NM.gives_pure] at hbp
    subst hbp
    have e1 : h1 = hfz := argDs_nops ha rfl
    have keep : ∀ x, x ∉ ((bif fe.ret then args.toList.flatMap (handlesOf s) else []) ++ (tr ++ (List.range 16).map (idOf (o.dst.getD 0) + ·))) → h2 x = h x := fun z hz => by
     rw [List.mem_append, not_or, List.mem_append, not_or] at hz
     obtain ⟨hz1, hz2, hz3⟩ := hz
     simp only [Bool.and_eq_true, Nat.ble_eq] at hs
     have k1 := backH_keep hb z fun j hj => by
      rw [Nat.zero_add]
      intro e
      rcases Nat.lt_or_ge j tr.length with hlt | hge
      ·have ht : tr[j]? = some tr[j] := List.getElem?_eq_getElem hlt
       rw [backN_in ht] at e
       exact hz2 (e ▸ List.getElem_mem hlt)
      ·rw [backN_out hge] at e
       apply hz3
       refine List.mem_map.2 ⟨j - tr.length, by simp; omega, e.symm⟩
     rw [k1]
     simp only
     rw [e1]
     rw [NM.gives_cond] at hfr
     rcases hfr with ⟨hret, hfr⟩ | ⟨hret, hfr⟩
     ·rw [hret] at hz1
      exact freezeDs_keep hfr z fun hm => hz1 (opnds_handles hds z hm)
     ·simp only [NM.gives_pure, Prod.mk.injEq] at hfr
      rw [hfr.2]
    refine ⟨keep, fun s2 g H hn => ?_, fun h => by (rw [hop] at h; simp [heapless] at h), fun h => by (rw [hop] at h; simp [mutates] at h)⟩
    have slots : ∀ g, callV E o.dst f args ts s2 g = callV E o.dst f args ts s g := fun g =>
     callV_slots (s := s) (H f (by rw [hop]; simp [Op.operands, Call.operands])) (fun x hx => H x (by rw [hop]; simp [Op.operands, Call.operands]; exact .inr (by simpa using hx)))
    have hn := hn.1 rfl
    have hnA : ∀ z ∈ args.toList.flatMap (handlesOf s), g z = h z := fun z hz => hn z (.inl (List.mem_append_left _ hz))
    have hnC : ∀ z ∈ caps.map (·.1), g z = h z := fun z hz => hn z (.inl (List.mem_append_right _ (List.mem_append_left _ hz)))
    have hnO : ∀ t ∈ tr, ∀ z ∈ objHandles (hfz t), g z = h z := fun t ht z hz => hn z (.inl (List.mem_append_right _ (List.mem_append_right _ (List.mem_flatMap.2 ⟨t, ht, hz⟩))))
    have hnT : ∀ z ∈ tr, g z = h z := fun z hz => hn z (.inr (List.mem_append_right _ (List.mem_append_left _ hz)))
    have hnN : ∀ z ∈ (List.range 16).map (idOf (o.dst.getD 0) + ·), g z = h z := fun z hz => hn z (.inr (List.mem_append_right _ (List.mem_append_right _ hz)))
    have hA : ∀ z ∈ ds.flatMap (fun d => d.ls.flatMap handles), g z = h z := fun z hz => hnA z (opnds_handles hds z hz)
    have frz : ∃ gf, (NM.cond fe.ret (freezeDs g fe.lend ds) (.pure (ds, g))).gives (dsf, gf) ∧ (∀ z, g z = h z → gf z = hfz z) ∧ (∀ z ∈ dsf.flatMap (fun d => d.ls.flatMap handles), z ∈ ds.flatMap (fun d => d.ls.flatMap handles)) ∧
      ∀ z, z ∉ (bif fe.ret then args.toList.flatMap (handlesOf s) else []) → gf z = g z := by
     rw [NM.gives_cond] at hfr
     rcases hfr with ⟨hret, hfr⟩ | ⟨hret, hfr⟩
     ·obtain ⟨gf, k1, k2⟩ := freezeDs_near hfr g hA
      refine ⟨gf, NM.gives_cond.2 (.inl ⟨hret, k1⟩), k2, freezeDs_handles hfr, fun z hz => ?_⟩
      rw [hret] at hz
      exact freezeDs_keep k1 z fun hm => hz (opnds_handles hds z hm)
     ·simp only [NM.gives_pure, Prod.mk.injEq] at hfr
      obtain ⟨rfl, rfl⟩ := hfr
      exact ⟨g, NM.gives_cond.2 (.inr ⟨hret, NM.gives_pure.2 rfl⟩), fun z hz => hz, fun z hz => hz, fun z _ => rfl⟩
    obtain ⟨gf, kf, kf2, kf3, kf4⟩ := frz
    subst e1
    obtain ⟨ka, kh⟩ := argDs_near (g := gf) ha rfl (fun z hz => kf2 z (hA z (kf3 z hz)))
    have kp := pack_near (g := gf) hp (fun z hz => by
     rw [List.flatMap_append, List.mem_append] at hz
     rcases hz with hz | hz
     ·exact kf2 z (hA z (kf3 z (kh z hz)))
     ·refine kf2 z (hnC z ?_)
      obtain ⟨d0, hd0', hz⟩ := List.mem_flatMap.1 hz
      obtain ⟨p0, hp0, rfl⟩ := List.mem_map.1 hd0'
      simp [D.ls, handles] at hz
      subst hz
      exact List.mem_map_of_mem hp0) (fun t ht => ⟨kf2 t (hnT t ht), fun z hz => kf2 z (hnO t ht z hz)⟩)
    have hs0 := hs
    simp only [Bool.and_eq_true, Nat.ble_eq] at hs0
    have acc : ∀ j, j < (fe.enc x y).2.length → gf (backN tr (idOf (o.dst.getD 0)) (0 + j)) = h1 (backN tr (idOf (o.dst.getD 0)) (0 + j)) := fun j hj => by
     rw [Nat.zero_add]
     rcases Nat.lt_or_ge j tr.length with hlt | hge
     ·have ht : tr[j]? = some tr[j] := List.getElem?_eq_getElem hlt
      rw [backN_in ht]
      exact kf2 _ (hnT _ (List.getElem_mem hlt))
     ·rw [backN_out hge]
      exact kf2 _ (hnN _ (List.mem_map.2 ⟨j - tr.length, by simp; omega, rfl⟩))
    obtain ⟨g2, kb, kb2⟩ := backH_near hb acc
    refine ⟨g2, (stepK_call hop).2 ⟨r, ?_, rfl⟩, fun z hz => kb2 z (kf2 z (hn z (.inr hz))), fun z hz => ?_⟩
    ·rw [slots]
     simp only [callV, NM.gives_bind, NM.gives_opt]
     refine ⟨_, hl, ?_⟩
     simp only [hfe, NM.gives_bind, NM.gives_opt]
     refine ⟨ds, hds, (dsf, gf), kf, ?_⟩
     simp only [callK, NM.gives_bind, NM.gives_guard, NM.gives_opt, NM.gives_pure]
     refine ⟨_, ka, _, kp, by assumption, x, by assumption, y, by assumption, hs, g2, kb, g2, ?_, r, by assumption, rfl⟩
     simp only [backP, NM.gives_pure]
    ·rw [List.mem_append, not_or, List.mem_append, not_or] at hz
     obtain ⟨hz1, hz2, hz3⟩ := hz
     rw [← kf4 z hz1]
     exact backH_keep kb z fun j hj => by
      rw [Nat.zero_add]
      intro e
      rcases Nat.lt_or_ge j tr.length with hlt | hge
      ·have ht : tr[j]? = some tr[j] := List.getElem?_eq_getElem hlt
       rw [backN_in ht] at e
       exact hz2 (e ▸ List.getElem_mem hlt)
      ·rw [backN_out hge] at e
       apply hz3
       refine List.mem_map.2 ⟨j - tr.length, by simp; omega, e.symm⟩
  ·exact absurd hf NM.gives_fail
 ·have hnc : ∀ f args ts, o.op ≠ .call { callee := .value f, args := args, argTypes := ts } := fun f args ts he => hcv ⟨f, args, ts, he⟩
  obtain ⟨d, hd, rfl⟩ := (stepK_op hnc).1 hst
  obtain ⟨L, q1, q2⟩ := op_loc hnc hf hd
  refine ⟨d, rfl, L.keep, fun s2 g H hn => ?_, q1, q2⟩
  obtain ⟨g', k1, k2, k3⟩ := L.loc g hn
  exact ⟨g', (stepK_op hnc).2 ⟨d, by rw [opK_slots (s := s) H]; exact k1, rfl⟩, k2, k3⟩
theorem foot_ok : FootOK E := by
 intro o s h ft s' h' hf hst
 unfold stepM at hst
 cases he : gridK E o ⟨s, h⟩ with
 | some m =>
  rw [he] at hst
  simp only [NM.gives_bind, NM.gives_pure] at hst
  obtain ⟨⟨d, h1⟩, hop, hq⟩ := hst
  simp only [St.mk.injEq] at hq
  obtain ⟨rfl, rfl⟩ := hq
  obtain ⟨L, q0, q2⟩ := (grid_loc hf).2 d h1 (by rw [gK_some he]; exact hop)
  refine ⟨d, rfl, L.keep, fun s2 g H hn => ?_, fun hh => by (rw [q0] at hh; cases hh), q2⟩
  obtain ⟨g', k1, k2, k3⟩ := L.loc g hn
  obtain ⟨m', he', hm'⟩ := gK_gives k1
  refine ⟨g', ?_, k2, k3⟩
  unfold stepM
  rw [gridK_slots H, he']
  exact NM.gives_bind.2 ⟨(d, g'), hm', NM.gives_pure.2 rfl⟩
 | none =>
  rw [he] at hst
  obtain ⟨d, hd, c⟩ := footK_ok hf hst
  refine ⟨d, hd, c.keep, fun s2 g H hn => ?_, c.q1, c.q2⟩
  obtain ⟨g', k1, k2, k3⟩ := c.loc s2 g H hn
  refine ⟨g', ?_, k2, k3⟩
  unfold stepM
  rw [gridK_slots H, (grid_loc hf).1 he g hn]
  exact k1
end
theorem fn_keeps {P : Program} {tabs : List (Nat × Obj)} {E : Env} {f : FuncId} {fn : Func} {c : Code} {lend : List Bool} {ret : Bool} {sh osh : Sh} {Fn : sh.X → Option osh.X} (hP : P.follows .mixedOrders = true) (hf : P.funcs[f]? = some fn) (K : FnOK P E fn c sh)
  (hK : EnvOK P tabs E) {hs : List Hint} (hA : (mk hs c []).known E)
  (hb : ∀ x, (bodyO E (mk hs c []) fn.results.toList sh osh x).run _ some = Fn x) : FOK P tabs f (FE.of lend ret sh osh Fn) := by
 refine fn_ok hf K (fun F hFP hFt hFm => ?_) hK hA fun x y hxy => ?_
 ·subst hFP
  subst hFt
  exact draw_sound hP foot_ok K.types (by rw [hFm, K.m]; exact Nat.le_of_ble_eq_true K.m100) hK
 ·have := hb x
  rw [hxy] at this
  obtain ⟨z, hz, e⟩ := NM.run_iff.1 this
  cases e; exact hz
end Go.VI
namespace Go.VI
open Go
theorem gives_of_run {X : Type} {m : NM X} {x : X} (h : m.run X some = some x) : m.gives x := by
 obtain ⟨y, hy, e⟩ := NM.run_iff.1 h
 cases e; exact hy
def iter {X Y : Type} (step : (X → Option Y) → X → Option Y) : Nat → X → Option Y
 | 0, _ => none
 | k + 1, x => step (iter step k) x
theorem round_ok {E : Env} {id : Nat} {live : List Nat} {outs : List (Nat × List Nat)} {loop : Bool} {body : IR} {sh : Sh} {es : List (Ex × Sh)} {step : (sh.X → Option (sumX es)) → sh.X → Option (sumX es)} {n : Nat} (hle : E.LP id = some (LE.of sh es (iter step n)))
  (H : ∀ L x, (roundK E sh live outs loop body es L x).run _ some = step L x) : RoundOK E id live outs loop body := by
 refine ⟨sh, es, iter step n, hle, iter step, fun _ => rfl, fun x y h => ⟨n, h⟩, fun k x y h => ?_⟩
 apply gives_of_run
 rw [H]
 exact h
def IR.atomOK (E : Env) : IR → Prop
 | .atom id live outs loop body => RoundOK E id live outs loop body
 | _ => True
theorem known_of {E : Env} : ∀ {ir : IR}, (∀ x ∈ ir.atoms, x.atomOK E) → ir.known E
 | .seq a b, H => ⟨known_of fun x hx => H x (List.mem_append_left _ hx), known_of fun x hx => H x (List.mem_append_right _ hx)⟩
 | .cond c a b, H => ⟨known_of fun x hx => H x (List.mem_append_left _ hx), known_of fun x hx => H x (List.mem_append_right _ hx)⟩
 | .block i a, H => known_of (ir := a) H
 | .atom id live outs loop body, H => ⟨H _ (List.mem_cons_self ..), known_of fun x hx => H x (List.mem_cons_of_mem _ hx)⟩
 | .skip, _ | .ret, _ | .exit _, _ | .region .., _ | .bad, _ => trivial
theorem known_at {E : Env} {ir : IR} (n : Nat) (hn : ir.atoms.length = n) (H : ∀ i, i < n → (ir.atoms.getD i .bad).atomOK E) : ir.known E := by
 refine known_of fun x hx => ?_
 obtain ⟨i, hi, rfl⟩ := List.getElem_of_mem hx
 have := H i (by omega)
 simpa [List.getD_eq_getElem?_getD, hi] using this
theorem atom_at {E : Env} {ir : IR} {i id : Nat} {live : List Nat} {outs : List (Nat × List Nat)} {loop : Bool} (he : ir.atoms.getD i .bad = .atom id live outs loop (ir.atoms.getD i .bad).body) (H : RoundOK E id live outs loop (ir.atoms.getD i .bad).body) : (ir.atoms.getD i .bad).atomOK E := by
 rw [he]; exact H
/-! ### from a law's row -/
def okAll (w : World) : Nat → Prop := fun b => b < w.heap.size
theorem start {P : Program} {tabs : List (Nat × Obj)} {w : World} (α : Nat → Value) (ht : ∀ p ∈ tabs, w.heap[p.1]? = some p.2) : Core ⟨P, tabs, w, 0, α, heapOf [], okAll w⟩ α (okAll w) (heapOf []) w := by
 have hn : ∀ o, heapOf [] o = .none := fun o => heapOf_out (by simp)
 refine ⟨fun o => by rw [hn]; trivial, fun o o' b e => ?_, fun o b e => ?_, fun b hb => ⟨hb, fun _ => .inl hb⟩, fun k hk => (by cases hk), fun o b hm e => ?_, ⟨rfl, rfl, rfl, Nat.le_refl _, fun _ _ _ => rfl, fun k ls g off cs e hk => (by cases hk)⟩, fun p hp => ⟨ht p hp, lt_of_heap (ht p hp)⟩, fun {o i b} k => by rw [hn] at k; exact k.elim⟩
 ·rw [hn] at e; cases e
 ·rw [hn] at e; cases e
 ·rw [hn] at e; cases e
theorem walk_of {P : Program} {tabs : List (Nat × Obj)} {f : Nat} {fe : FE} (K : FOK P tabs f fe) (hos : fe.sh.os = []) {x : fe.sh.X} {y : fe.Y} (hy : fe.F x = some y) {b : Bool} {obs : List Ob} (he : fe.enc x y = ([.one (.pv .bool b)], obs))
  {w : World} (ht : ∀ p ∈ tabs, w.heap[p.1]? = some p.2) {vals : List Value} (k : F2 (DR w (fun _ => .nilIface) (okAll w) (heapOf [])) (dsEnc fe.sh.ds x.1) vals) :
  Calls P f vals.toArray w fun e w' => e = .returned (.bool b) ∧ Go.RowKit.Below w.heap.size w w' := by
 have ho : osEnc fe.sh.os x.2 = [] := List.length_eq_zero_iff.1 (by rw [osEnc_len, hos]; rfl)
 have C := start (P := P) (fun _ => .nilIface) ht
 refine Calls.mono (K.2 x y hy w (fun _ => .nilIface) (okAll w) vals (by rw [ho, hos]; exact C) (by rw [ho]; exact k)) ?_
 rintro e w' ⟨v, α', ok', rfl, C', hR⟩
 rw [he] at hR
 refine ⟨?_, ?_⟩
 ·simp only [RetR, DR, LR, Rep, List.cons.injEq, and_true] at hR
  rw [hR]
 ·have hm : fe.sh.os.length = 0 := by rw [hos]; rfl
  exact ⟨C'.fr.os, C'.fr.tape, C'.fr.output, C'.fr.size, fun b hb => C'.fr.block b hb fun k hk => by
   have hk : k < fe.sh.os.length := hk
   rw [hm] at hk; cases hk⟩
theorem rep_row {w : World} {k : IntKind} {a : Option Addr} {len cap : Nat} {zs : List Int} (h : (a = none ∧ len = 0 ∧ cap = 0 ∧ zs = []) ∨
  ∃ x, a = some x ∧ len ≤ cap ∧ cap ≤ maxLen ∧ zs.length = cap ∧ (∀ i, i < zs.length → w.cell? (x.add i) = some (.int k (zs.getD i 0)))) : Rep w (okAll w) (.list (.int k)) (zs.take len) [.slice a len cap] := by
 rcases h with ⟨rfl, rfl, rfl, rfl⟩ | ⟨x, rfl, h1, h2, h3, h4⟩
 ·exact ⟨none, 0, 0, rfl, rfl, Nat.le_refl _, by decide, fun _ => rfl, fun h => absurd rfl h⟩
 ·refine ⟨some x, len, cap, rfl, by simp; omega, h1, h2, fun h => (by cases h), fun hne => ?_⟩
  have h0 := h4 0 (by omega)
  obtain ⟨g, off, spot⟩ := x
  simp only [Addr.add, if_true] at h0
  have hsp : spot = none ∧ g < w.heap.size := by
   unfold World.cell? at h0
   simp only at h0
   split at h0
   ·rename_i c e fr hc
    refine ⟨?_, lt_of_heap hc⟩
    cases spot with
    | none => rfl
    | some s => simp at h0
   ·cases h0
  obtain ⟨rfl, hg⟩ := hsp
  refine ⟨g, off, rfl, hg, fun i y hi => ⟨[.int k y], rfl, fun j v hj => ?_⟩⟩
  have hi' : i < len ∧ zs[i]? = some y := by
   have hi : (zs.take len)[i]? = some y := hi
   rw [List.getElem?_take] at hi
   split at hi
   ·rename_i hlt; exact ⟨hlt, hi⟩
   ·cases hi
  obtain ⟨hlt, hy⟩ := hi'
  have hc := h4 i (by omega)
  cases j with
  | zero =>
   simp at hj; subst hj
   have hgd : zs.getD i 0 = y := by simp [hy]
   rw [hgd] at hc
   have : (⟨g, off, none⟩ : Addr).add i = ⟨g, off + i, none⟩ := by
    unfold Addr.add; split
    ·rename_i h; subst h; rfl
    ·rfl
   rw [this] at hc
   have hs : (TC.int k).size = 1 := rfl
   rw [hs, Nat.mul_one]
   exact hc
  | succ j => simp at hj
end Go.VI
namespace Go.VI
open Go
section
variable {X Y : Type}
open Classical in
noncomputable def lim (A : Nat → X → Option Y) (x : X) : Option Y := if h : ∃ k, (A k x).isSome then A (Classical.choose h) x else none
noncomputable def loop (step : (X → Option Y) → X → Option Y) : X → Option Y := lim (iter step)
theorem lim_some {A : Nat → X → Option Y} {x : X} {y : Y} (h : lim A x = some y) : ∃ k, A k x = some y := by
 unfold lim at h
 split at h
 ·exact ⟨_, h⟩
 ·cases h
theorem lim_is {A : Nat → X → Option Y} {x : X} {k : Nat} {y : Y} (h : A k x = some y) : ∃ z, lim A x = some z := by
 unfold lim
 have he : ∃ k, (A k x).isSome := ⟨k, by rw [h]; rfl⟩
 rw [dif_pos he]
 exact Option.isSome_iff_exists.1 (Classical.choose_spec he)
def Tail (step : (X → Option Y) → X → Option Y) : Prop := ∀ x, (∃ r, ∀ L, step L x = r) ∨ ∃ x', ∀ L, step L x = L x'
variable {step : (X → Option Y) → X → Option Y}
theorem iter_one (H : Tail step) : ∀ {k k' : Nat} {x : X} {y y' : Y}, iter step k x = some y → iter step k' x = some y' → y = y'
 | 0, _, _, _, _, h, _ => by cases h
 | _ + 1, 0, _, _, _, _, h => by cases h
 | k + 1, k' + 1, x, y, y', h, h' => by
  rcases H x with ⟨r, hr⟩ | ⟨x', hx⟩
  ·simp only [iter, hr] at h h'; rw [h] at h'; exact Option.some.inj h'
  ·simp only [iter, hx] at h h'; exact iter_one H h h'
theorem loop_iff (H : Tail step) {x : X} {y : Y} : loop step x = some y ↔ ∃ k, iter step k x = some y := by
 refine ⟨lim_some, fun ⟨k, hk⟩ => ?_⟩
 obtain ⟨z, hz⟩ := lim_is hk
 obtain ⟨k', hk'⟩ := lim_some hz
 rw [iter_one H hk hk']; exact hz
theorem loop_tail (H : Tail step) (x : X) : loop step x = step (loop step) x := by
 rcases H x with ⟨r, hr⟩ | ⟨x', hx⟩
 ·rw [hr]
  cases r with
  | none =>
   cases h : loop step x with
   | none => rfl
   | some y =>
    obtain ⟨k, hk⟩ := (loop_iff H).1 h
    cases k with
    | zero => cases hk
    | succ k => simp only [iter, hr] at hk; cases hk
  | some y => exact (loop_iff H).2 ⟨1, by simp only [iter, hr]⟩
 ·rw [hx]
  cases h : loop step x' with
  | none =>
   cases h2 : loop step x with
   | none => rfl
   | some y =>
    obtain ⟨k, hk⟩ := (loop_iff H).1 h2
    cases k with
    | zero => cases hk
    | succ k =>
     simp only [iter, hx] at hk
     rw [(loop_iff H).2 ⟨k, hk⟩] at h; cases h
  | some y =>
   obtain ⟨k, hk⟩ := (loop_iff H).1 h
   exact (loop_iff H).2 ⟨k + 1, by simp only [iter, hx]; exact hk⟩
def NT (M : (X → Option Y) → NM Y) : Prop := (∃ r, ∀ L, (M L).run _ some = r) ∨ ∃ x', ∀ L, (M L).run _ some = L x'
theorem NT.const (m : NM Y) : NT (fun _ : X → Option Y => m) := .inl ⟨_, fun _ => rfl⟩
theorem NT.call (x' : X) : NT (fun L : X → Option Y => NM.opt (L x')) := .inr ⟨x', fun L => by show (L x').bind some = L x'; cases L x' <;> rfl⟩
theorem NT.bind {Z : Type} (m : NM Z) {f : Z → (X → Option Y) → NM Y} (H : ∀ z, NT (f z)) : NT (fun L => m.bind fun z => f z L) := by
 have e : ∀ L, (m.bind fun z => f z L).run Y some = (m.run Z some).bind fun z => (f z L).run Y some := fun L => m.nat Y _
 cases h : m.run Z some with
 | none => exact .inl ⟨none, fun L => by rw [e, h]; rfl⟩
 | some z =>
  rcases H z with ⟨r, hr⟩ | ⟨x', hx⟩
  ·exact .inl ⟨r, fun L => by rw [e, h]; exact hr L⟩
  ·exact .inr ⟨x', fun L => by rw [e, h]; exact hx L⟩
theorem NT.cond (b : Bool) {f g : (X → Option Y) → NM Y} (hf : NT f) (hg : NT g) : NT (fun L => NM.cond b (f L) (g L)) := by
 cases b
 ·exact hg
 ·exact hf
end
theorem round_tail (E : Env) (sh : Sh) (live : List Nat) (outs : List (Nat × List Nat)) (lp : Bool) (body : IR) (es : List (Ex × Sh)) : Tail (fun L x => (roundK E sh live outs lp body es L x).run _ some) := by
 intro x
 have : NT (fun L : sh.X → Option (sumX es) => roundK E sh live outs lp body es L x) := by
  unfold roundK
  exact .bind _ fun p => .cond _ (.bind _ fun ds0 => .bind _ fun q => .bind _ fun q' => .bind _ fun x' => .call x') (.const _)
 exact this
theorem loop_eq {E : Env} {live : List Nat} {outs : List (Nat × List Nat)} {lp : Bool} {body : IR} {sh : Sh} {es : List (Ex × Sh)} {step : (sh.X → Option (sumX es)) → sh.X → Option (sumX es)}
  (H : ∀ L x, (roundK E sh live outs lp body es L x).run _ some = step L x) (x : sh.X) : loop step x = step (loop step) x := by
 have he : step = fun L x => (roundK E sh live outs lp body es L x).run _ some := funext fun L => funext fun x => (H L x).symm
 subst he
 exact loop_tail (round_tail E sh live outs lp body es) x
theorem loop_ok {E : Env} {id : Nat} {live : List Nat} {outs : List (Nat × List Nat)} {lp : Bool} {body : IR} {sh : Sh} {es : List (Ex × Sh)} {step : (sh.X → Option (sumX es)) → sh.X → Option (sumX es)} (hle : E.LP id = some (LE.of sh es (loop step)))
  (H : ∀ L x, (roundK E sh live outs lp body es L x).run _ some = step L x) : RoundOK E id live outs lp body := by
 refine ⟨sh, es, loop step, hle, iter step, fun _ => rfl, fun x y h => lim_some h, fun k x y h => gives_of_run ?_⟩
 rw [H]; exact h
theorem cut_ok {E : Env} {id : Nat} {live : List Nat} {outs : List (Nat × List Nat)} {lp : Bool} {body : IR} {sh : Sh} {es : List (Ex × Sh)} {step : sh.X → Option (sumX es)} (hle : E.LP id = some (LE.of sh es step))
  (H : ∀ L x, (roundK E sh live outs lp body es L x).run _ some = step x) : RoundOK E id live outs lp body := by
 refine ⟨sh, es, step, hle, fun k x => match k with | 0 => none | _ + 1 => step x, fun _ => rfl, fun x y h => ⟨1, h⟩, fun k x y h => gives_of_run ?_⟩
 rw [H]; exact h
def hl (hs : List Hint) (i : Nat) : List Nat := match hs[i]? with | some h => h.live | none => []
def ho (hs : List Hint) (i : Nat) : List (Nat × List Nat) := match hs[i]? with | some h => h.outs | none => []
def rndO (E : Env) (hs : List Hint) (c : Code) (sh : Sh) (es : List (Ex × Sh)) (i : Nat) (lp : Bool) (L : sh.X → Option (sumX es)) (x : sh.X) : Option (sumX es) := (roundK E sh (hl hs i) (ho hs i) lp ((mk hs c []).atoms.getD i .bad).body es L x).run _ some
def bodO (E : Env) (hs : List Hint) (c : Code) (fn : Func) (sh osh : Sh) (x : sh.X) : Option osh.X := (bodyO E (mk hs c []) fn.results.toList sh osh x).run _ some
theorem atomH {E : Env} {hs : List Hint} {c : Code} {i : Nat} {lp : Bool} (H : RoundOK E i (hl hs i) (ho hs i) lp ((mk hs c []).atoms.getD i .bad).body) (he : (mk hs c []).atoms.getD i .bad = .atom i (hl hs i) (ho hs i) lp ((mk hs c []).atoms.getD i .bad).body) : ((mk hs c []).atoms.getD i .bad).atomOK E :=
 atom_at he H
def fnB (E : Env) (fn : Func) (c : Code) (sh : Sh) : Bool := codeSt E.T c && (Nat.beq E.N fn.ntmps && (Nat.beq E.m sh.os.length && (Nat.ble sh.os.length 100 && (Nat.ble sh.ds.length fn.ntmps && !(fn.name == "runtime.NumGoroutine")))))
theorem fn_keep2 {P : Program} {tabs : List (Nat × Obj)} {E : Env} {f : FuncId} {fn : Func} {c : Code} {lend : List Bool} {ret : Bool} {sh osh : Sh} {Fn : sh.X → Option osh.X} {hs : List Hint} (hf : P.funcs[f]? = some fn) (hb : ∀ x, bodO E hs c fn sh osh x = Fn x)
  (hP : P.follows .mixedOrders = true) (ht : tbOk P E.T = true) (hG : ∀ g k zs, E.G g = some (k, zs) → TabHas tabs g k zs) (h0 : fn.body = some c) (h : fnB E fn c sh = true) (hC : ∀ g ks fe, E.C g ks = some fe → FOK P tabs g fe) (hA : (mk hs c []).known E) : FOK P tabs f (FE.of lend ret sh osh Fn) := by
 simp only [fnB, Bool.and_eq_true, Nat.beq_eq, Bool.not_eq_true'] at h
 obtain ⟨h1, h2, h3, h4, h5, h6⟩ := h
 exact fn_keeps hP hf ⟨h0, h6, ht, h1, h2, h3, h4, h5⟩ ⟨hC, hG⟩ hA hb
theorem loopE {E : Env} {hs : List Hint} {c : Code} {i : Nat} {sh : Sh} {es : List (Ex × Sh)} {step : (sh.X → Option (sumX es)) → sh.X → Option (sumX es)}
  (H : ∀ L x, rndO E hs c sh es i true L x = step L x) (x : sh.X) : loop step x = step (loop step) x := loop_eq H x
def cE : List (Nat × List Nat × FE) → Nat → List Nat → Option FE
 | [], _, _ => none
 | a :: r, n, ks => bif Nat.beq n a.1 && eqPath ks a.2.1 then some a.2.2 else cE r n ks
def lE : List LE → Nat → Option LE
 | [], _ => none
 | a :: _, 0 => some a
 | _ :: r, n + 1 => lE r n
def CAll (P : Program) (tabs : List (Nat × Obj)) : List (Nat × List Nat × FE) → Prop
 | [] => True
 | e :: r => FOK P tabs e.1 e.2.2 ∧ CAll P tabs r
theorem cE_ok {P : Program} {tabs : List (Nat × Obj)} : ∀ {l : List (Nat × List Nat × FE)}, CAll P tabs l → ∀ g ks fe, cE l g ks = some fe → FOK P tabs g fe
 | [], _, _, _, _, h => by cases h
 | a :: r, hc, g, ks, fe, h => by
  replace h : (bif Nat.beq g a.1 && eqPath ks a.2.1 then some a.2.2 else cE r g ks) = some fe := h
  cases hb : Nat.beq g a.1 && eqPath ks a.2.1 with
  | true => rw [hb] at h; simp only [Bool.and_eq_true] at hb; rw [Nat.eq_of_beq_eq_true hb.1, ← Option.some.inj h]; exact hc.1
  | false => rw [hb] at h; exact cE_ok hc.2 g ks fe h
def KA (E : Env) (ir : IR) : Nat → Nat → Prop
 | _, 0 => True
 | i, n + 1 => (ir.atoms.getD i .bad).atomOK E ∧ KA E ir (i + 1) n
theorem KA_at {E : Env} {ir : IR} : ∀ {n i : Nat}, KA E ir i n → ∀ j, j < n → (ir.atoms.getD (i + j) .bad).atomOK E
 | 0, _, _, j, h => by omega
 | n + 1, i, hk, 0, _ => hk.1
 | n + 1, i, hk, j + 1, h => by rw [show i + (j + 1) = (i + 1) + j by omega]; exact KA_at hk.2 j (by omega)
theorem cA {E : Env} {hs : List Hint} {c : Code} {i : Nat} {sh : Sh} {es : List (Ex × Sh)} {step : sh.X → Option (sumX es)} (H : ∀ L x, rndO E hs c sh es i false L x = step x) (hle : E.LP i = some (LE.of sh es step))
  (he : (mk hs c []).atoms.getD i .bad = .atom i (hl hs i) (ho hs i) false ((mk hs c []).atoms.getD i .bad).body) : ((mk hs c []).atoms.getD i .bad).atomOK E := atom_at he (cut_ok hle H)
theorem lA {E : Env} {hs : List Hint} {c : Code} {i : Nat} {sh : Sh} {es : List (Ex × Sh)} {step : (sh.X → Option (sumX es)) → sh.X → Option (sumX es)} (H : ∀ L x, rndO E hs c sh es i true L x = step L x) (hle : E.LP i = some (LE.of sh es (loop step)))
  (he : (mk hs c []).atoms.getD i .bad = .atom i (hl hs i) (ho hs i) true ((mk hs c []).atoms.getD i .bad).body) : ((mk hs c []).atoms.getD i .bad).atomOK E := atom_at he (loop_ok hle H)
theorem fn_keep3 {P : Program} {tabs : List (Nat × Obj)} {E : Env} {f : FuncId} {fn : Func} {c : Code} {lend : List Bool} {ret : Bool} {sh osh : Sh} {Fn : sh.X → Option osh.X} {hs : List Hint} (hf : P.funcs[f]? = some fn) (hb : ∀ x, bodO E hs c fn sh osh x = Fn x)
  (hP : P.follows .mixedOrders = true) (ht : tbOk P E.T = true) (hG : ∀ g k zs, E.G g = some (k, zs) → TabHas tabs g k zs) (h0 : fn.body = some c) (h : fnB E fn c sh = true) {cs : List (Nat × List Nat × FE)} (hE : E.C = cE cs) (hC : CAll P tabs cs)
  (n : Nat) (hn : (mk hs c []).atoms.length = n) (hA : KA E (mk hs c []) 0 n) : FOK P tabs f (FE.of lend ret sh osh Fn) :=
 fn_keep2 hf hb hP ht hG h0 h (by rw [hE]; exact cE_ok hC) (known_at n hn fun i hi => by have := KA_at hA i hi; rwa [Nat.zero_add] at this)
end Go.VI
namespace Go.VI
open Go
def fieldsC (f : TypeId → TC → Bool) (P : Program) : Nat → List Field → TC → Bool
 | off, [g], c => Nat.beq g.offset off && (f g.type c && Nat.beq (P.cellsOf g.type) c.size)
 | off, g :: h :: r, .pair a b => Nat.beq g.offset off && (f g.type a && (Nat.beq (P.cellsOf g.type) a.size && fieldsC f P (off + a.size) (h :: r) b))
 | _, _, _ => false
def cOk (P : Program) : Nat → TypeId → TC → Bool
 | 0, _, _ => false
 | n + 1, t, c => match P.underlying t with
  | some .bool => (match c with | .bool => true | _ => false)
  | some (.int k) => (match c with | .int k' => decide (k = k') | _ => false)
  | some .string => (match c with | .str => true | _ => false)
  | some (.slice e) => (match c with | .list c' => cOk P n e c' && Nat.beq (P.cellsOf e) c'.size | _ => false)
  | some (.struct fs) => fieldsC (cOk P n) P 0 fs.toList c && Nat.beq (P.cellsOf t) c.size
  | _ => false
def Wf : (c : TC) → c.α → Prop
 | .int k, n => k.min ≤ (n : Int) ∧ (n : Int) ≤ k.max
 | .bool, _ => True
 | .str, s => ByteArray.size s ≤ maxLen
 | .err _, _ => True
 | .list c, l => List.length (α := c.α) l ≤ maxLen ∧ ∀ x ∈ (l : List c.α), Wf c x
 | .pair a b, x => Wf a x.1 ∧ Wf b x.2
section
variable {H : Type} {enc : TypeId × Value → H} {P : Program} {w : World} {spare : Nat → Bool} {held : Bool}
theorem addr_plain {x : Addr} {v : Value} (h : w.cell? x = some v) : x.spot = none ∧ x.block < w.heap.size := by
 obtain ⟨g, off, spot⟩ := x
 unfold World.cell? at h
 simp only at h
 split at h
 ·rename_i c e fr hc
  refine ⟨?_, lt_of_heap hc⟩
  cases spot with
  | none => rfl
  | some s => simp at h
 ·cases h
theorem add_plain (g off i : Nat) : (⟨g, off, none⟩ : Addr).add i = ⟨g, off + i, none⟩ := by
 unfold Addr.add; split
 ·rename_i h; subst h; rfl
 ·rfl
theorem add_zero_addr (x : Addr) : x.add 0 = x := by simp [Addr.add]
theorem rep_list {c : TC} {a : Addr} {len cap : Nat} (hl : len ≤ cap) (hm : cap ≤ maxLen) (hel : ∀ i, i < len → ∃ v ci, w.cells? 0 (a.add (i * c.size)) c.size = some ci ∧ Rep w (okAll w) c v ci ∧ Wf c v) :
  ∃ l, Rep w (okAll w) (.list c) l [.slice (some a) len cap] ∧ Wf (.list c) l := by
 let f : ∀ i, i < len → c.α := fun i h => Classical.choose (hel i h)
 have hf : ∀ i h, ∃ ci, w.cells? 0 (a.add (i * c.size)) c.size = some ci ∧ Rep w (okAll w) c (f i h) ci ∧ Wf c (f i h) := fun i h => Classical.choose_spec (hel i h)
 let l : List c.α := List.ofFn fun i : Fin len => f i i.2
 have hlen : l.length = len := by simp [l]
 have hget : ∀ i x, l[i]? = some x → ∃ h : i < len, x = f i h := fun i x h => by
  have hi : i < len := by rw [← hlen]; exact (List.getElem?_eq_some_iff.1 h).1
  refine ⟨hi, ?_⟩
  have := (List.getElem?_eq_some_iff.1 h).2
  simp [l] at this
  exact this.symm
 refine ⟨l, ⟨some a, len, cap, rfl, hlen.symm, hl, hm, fun h => (by cases h), fun hne => ?_⟩, ?_, fun x hx => ?_⟩
 ·obtain ⟨ci, hci, hr, _⟩ := hf 0 (by omega)
  have hs := World.cells?_some hci
  have hp := size_pos c
  have h0 := hs.2.2 0 hp
  rw [Nat.zero_mul, add_zero_addr, add_zero_addr, List.getElem?_eq_getElem (by rw [hs.2.1]; exact hp)] at h0
  obtain ⟨hsp, hlt⟩ := addr_plain h0
  obtain ⟨g, off, spot⟩ := a
  simp only at hsp hlt; subst hsp
  refine ⟨g, off, rfl, hlt, fun i x hx => ?_⟩
  obtain ⟨hi, rfl⟩ := hget i x hx
  obtain ⟨ci, hci, hr, _⟩ := hf i hi
  refine ⟨ci, hr, fun j v hj => ?_⟩
  have hs := World.cells?_some hci
  have hjl : j < c.size := by rw [← hs.2.1]; exact (List.getElem?_eq_some_iff.1 hj).1
  have := hs.2.2 j hjl
  rw [add_plain, add_plain, hj] at this
  exact this
 ·show l.length ≤ maxLen
  rw [hlen]; omega
 ·obtain ⟨i, hi⟩ := List.getElem?_of_mem hx
  obtain ⟨h, rfl⟩ := hget i x hi
  obtain ⟨_, _, _, hw⟩ := hf i h
  exact hw
theorem fields_rep {n fuel : Nat} (IH : ∀ t c cs x, cOk P n t c = true → DataW.trod enc P w 0 spare held fuel t cs = some x → ∃ v, Rep w (okAll w) c v cs ∧ Wf c v) {cs : List Value} :
  ∀ (gs : List Field) (off : Nat) (c : TC), fieldsC (cOk P n) P off gs c = true → (∀ f ∈ gs, ∃ y, DataW.trod enc P w 0 spare held fuel f.type ((cs.drop f.offset).take (P.cellsOf f.type)) = some y) →
   ∃ v, Rep w (okAll w) c v ((cs.drop off).take c.size) ∧ Wf c v
 | [], off, c, h, _ => by simp [fieldsC] at h
 | [g], off, c, h, H => by
  have h : (Nat.beq g.offset off && (cOk P n g.type c && Nat.beq (P.cellsOf g.type) c.size)) = true := by cases c <;> exact h
  simp only [Bool.and_eq_true] at h
  obtain ⟨h1, h2, h3⟩ := h
  have h1 := Nat.eq_of_beq_eq_true h1; have h3 := Nat.eq_of_beq_eq_true h3
  obtain ⟨y, hy⟩ := H g (by simp)
  rw [h1, h3] at hy
  exact IH _ _ _ _ h2 hy
 | g :: k :: r, off, c, h, H => by
  cases c with
  | pair a b =>
   simp only [fieldsC, Bool.and_eq_true] at h
   obtain ⟨h1, h2, h3, h4⟩ := h
   have h1 := Nat.eq_of_beq_eq_true h1; have h3 := Nat.eq_of_beq_eq_true h3
   obtain ⟨y, hy⟩ := H g (by simp)
   rw [h1, h3] at hy
   obtain ⟨v1, hr1, hw1⟩ := IH _ _ _ _ h2 hy
   obtain ⟨v2, hr2, hw2⟩ := fields_rep IH (k :: r) _ _ h4 (fun f hf => H f (by simp at hf ⊢; exact .inr hf))
   refine ⟨(v1, v2), ⟨_, _, ?_, hr1, hr2⟩, hw1, hw2⟩
   simp only [TC.size]
   rw [List.take_add, List.drop_drop]
  | _ => simp [fieldsC] at h
theorem trod_rep : ∀ (n : Nat) (t : TypeId) (c : TC) (fuel : Nat) (cs : List Value) (x : DataW H × List MemPlace), cOk P n t c = true → DataW.trod enc P w 0 spare held fuel t cs = some x → ∃ v, Rep w (okAll w) c v cs ∧ Wf c v
 | 0, _, _, _, _, _, h, _ => by simp [cOk] at h
 | n + 1, t, c, fuel, cs, x, h, hx => by
  unfold cOk at h
  split at h
  ·rename_i hu
   cases c <;> simp at h
   obtain ⟨b, rfl, _⟩ := DataW.trod_bool hu hx
   exact ⟨b, rfl, trivial⟩
  ·rename_i k hu
   cases c <;> simp at h
   subst h
   obtain ⟨m, rfl, _, hw⟩ := DataW.trod_int hu hx
   simp only [Lit.wf, Bool.and_eq_true, decide_eq_true_eq] at hw
   exact ⟨m, rfl, hw⟩
  ·rename_i hu
   cases c <;> simp at h
   obtain ⟨s, rfl, _, hs⟩ := DataW.trod_string hu hx
   exact ⟨s, rfl, hs⟩
  ·rename_i e hu
   cases c with
   | list c' =>
    simp only [Bool.and_eq_true] at h
    obtain ⟨h1, h2⟩ := h
    have h2 := Nat.eq_of_beq_eq_true h2
    rcases DataW.trod_slice hu hx with ⟨rfl, _⟩ | ⟨a, len, cap, elems, rest, m, _, rfl, _, _, hl, hm, hlen, hel, _⟩
    ·exact ⟨([] : List c'.α), ⟨none, 0, 0, rfl, rfl, Nat.le_refl _, by decide, fun _ => rfl, fun h => absurd rfl h⟩, by show ([] : List c'.α).length ≤ maxLen; simp, fun x hx => by cases hx⟩
    ·refine rep_list hl hm fun i hi => ?_
     have := hel i hi
     rw [List.getElem?_eq_getElem (by rw [hlen]; exact hi), h2, Option.bind_eq_some_iff] at this
     obtain ⟨ci, hci, ht⟩ := this
     obtain ⟨v, hr, hw⟩ := trod_rep n e c' m ci _ h1 ht
     exact ⟨v, ci, hci, hr, hw⟩
   | _ => simp at h
  ·rename_i fs hu
   simp only [Bool.and_eq_true] at h
   obtain ⟨h1, h2⟩ := h
   have h2 := Nat.eq_of_beq_eq_true h2
   obtain ⟨xs, m, _, _, hl, hxl, hf⟩ := DataW.trod_struct hu hx
   have := fields_rep (enc := enc) (spare := spare) (held := held) (w := w) (fuel := m) (fun t c cs x h1 h2 => trod_rep n t c m cs x h1 h2) (cs := cs) fs.toList 0 c h1 (fun f hf' => by
    obtain ⟨i, hi⟩ := List.getElem?_of_mem hf'
    have hi' : fs[i]? = some f := by simpa using hi
    have hlt : i < fs.size := (Array.getElem?_eq_some_iff.1 hi').1
    have := hf i f hi'
    rw [List.getElem?_eq_getElem (by rw [hxl]; exact hlt)] at this
    exact ⟨_, this⟩)
   rw [List.drop_zero, List.take_of_length_le (by rw [hl, h2]; exact Nat.le_refl _)] at this
   exact this
  ·cases h
end
/-! ### parameters -/
def flatC : TC → List TC
 | .pair a b => flatC a ++ flatC b
 | .int k => [.int k]
 | .bool => [.bool]
 | .str => [.str]
 | .err t => [.err t]
 | .list c => [.list c]
def lsWf : (ss : List LS) → lsX ss → Prop
 | [], _ => True
 | .pv c :: r, x => Wf c x.1 ∧ lsWf r x.2
 | .is _ :: r, x => lsWf r x.2
 | .arr :: r, x => lsWf r x.2
def dsWf : (ss : List DS) → dsX ss → Prop
 | [], _ => True
 | .one (.pv c) :: r, x => Wf c x.1 ∧ dsWf r x.2
 | .one (.is _) :: r, x => dsWf r x.2
 | .one .arr :: r, x => dsWf r x.2
 | .agg ls :: r, x => lsWf ls x.1 ∧ dsWf r x.2
section
variable {w : World} {α : Nat → Value} {ok : Nat → Prop} {h : Heap}
theorem flat_app {A B : List LS} {x : lsX A} {y : lsX B} {c1 c2 : List Value} (h1 : LsR w α ok h (lsEnc A x) c1) (w1 : lsWf A x) (h2 : LsR w α ok h (lsEnc B y) c2) (w2 : lsWf B y) :
  ∃ z : lsX (A ++ B), LsR w α ok h (lsEnc (A ++ B) z) (c1 ++ c2) ∧ lsWf (A ++ B) z := by
 induction A generalizing c1 with
 | nil =>
  cases c1 with
  | nil => exact ⟨y, h2, w2⟩
  | cons v c1 => exact h1.elim
 | cons s A ih =>
  cases c1 with
  | nil => exact h1.elim
  | cons v c1 =>
   have w1' : lsWf A x.2 := by cases s <;> first | exact w1.2 | exact w1
   obtain ⟨z, hz, wz⟩ := ih h1.2 w1'
   refine ⟨(x.1, z), ⟨h1.1, hz⟩, ?_⟩
   cases s
   ·exact ⟨w1.1, wz⟩
   ·exact wz
   ·exact wz
theorem flat_rep : ∀ {c : TC} {x : c.α} {cs : List Value}, Rep w ok c x cs → Wf c x → ∃ y : lsX ((flatC c).map .pv), LsR w α ok h (lsEnc _ y) cs ∧ lsWf _ y
 | .pair a b, x, cs, hr, hw => by
  simp only [Rep] at hr
  obtain ⟨c1, c2, rfl, h1, h2⟩ := hr
  obtain ⟨y1, k1, w1⟩ := flat_rep (c := a) h1 hw.1
  obtain ⟨y2, k2, w2⟩ := flat_rep (c := b) h2 hw.2
  have e : (flatC (.pair a b)).map LS.pv = (flatC a).map LS.pv ++ (flatC b).map LS.pv := by simp [flatC]
  rw [e]
  exact flat_app k1 w1 k2 w2
 | .int k, x, cs, hr, hw => by
  have hr' := hr
  simp only [Rep] at hr; subst hr
  exact ⟨(x, ()), ⟨hr', trivial⟩, hw, trivial⟩
 | .bool, x, cs, hr, hw => by
  have hr' := hr
  simp only [Rep] at hr; subst hr
  exact ⟨(x, ()), ⟨hr', trivial⟩, hw, trivial⟩
 | .str, x, cs, hr, hw => by
  have hr' := hr
  simp only [Rep] at hr; subst hr
  exact ⟨(x, ()), ⟨hr', trivial⟩, hw, trivial⟩
 | .err t, x, cs, hr, hw => by
  have hr' := hr
  simp only [Rep] at hr; obtain ⟨v, rfl, _⟩ := hr
  exact ⟨(x, ()), ⟨hr', trivial⟩, hw, trivial⟩
 | .list c, x, cs, hr, hw => by
  have hr' := hr
  simp only [Rep] at hr
  obtain ⟨a, n, cap, rfl, _⟩ := hr
  exact ⟨(x, ()), ⟨hr', trivial⟩, hw, trivial⟩
def beqL : List TC → List LS → Bool
 | [], [] => true
 | c :: r, .pv c' :: s => decide (c = c') && beqL r s
 | _, _ => false
theorem beqL_eq : ∀ {cs : List TC} {ls : List LS}, beqL cs ls = true → ls = cs.map .pv
 | [], [], _ => rfl
 | c :: r, .pv c' :: s, h => by
  simp only [beqL, Bool.and_eq_true, decide_eq_true_eq] at h
  rw [h.1, beqL_eq h.2]; rfl
 | [], _ :: _, h => by simp [beqL] at h
 | _ :: _, [], h => by simp [beqL] at h
 | _ :: _, .is _ :: _, h => by simp [beqL] at h
end
def parsOk (P : Program) : List TypeId → List TC → List DS → Bool
 | [], [], [] => true
 | t :: ts, c :: cs, .one (.pv c') :: ds => decide (c = c') && (!(match P.underlying t with | some (.struct _) => true | some (.array ..) => true | _ => false) && (cOk P 30 t c && parsOk P ts cs ds))
 | t :: ts, c :: cs, .agg ls :: ds => beqL (flatC c) ls && ((match P.underlying t with | some (.struct _) => true | _ => false) && (cOk P 30 t c && parsOk P ts cs ds))
 | _, _, _ => false
theorem args_ok {H : Type} {enc : TypeId × Value → H} {P : Program} {w : World} {spare : Nat → Bool} {held : Bool} {r : Reach} {base : Nat} : ∀ {ts : List TypeId} {cs : List TC} {ds : List DS} {vs : List Value} {dd : List (DataW H)} {ps : List MemPlace},
  parsOk P ts cs ds = true → (∀ (j : Nat) t v, ts[j]? = some t → vs[j]? = some v → Value.okWide P w r base t v) → DataW.TrodAll enc P w 0 spare held ts vs dd ps →
  ∃ x : dsX ds, F2 (DR w (fun _ => .nilIface) (okAll w) (heapOf [])) (dsEnc ds x) vs ∧ dsWf ds x
 | [], cs, ds, vs, dd, ps, h, hv, hA => by
  cases cs <;> cases ds <;> simp [parsOk] at h
  cases vs <;> cases dd <;> first | exact hA.elim | exact ⟨(), trivial, trivial⟩
 | t :: ts, cs, ds, vs, dd, ps, h, hv, hA => by
  cases vs with
  | nil => exact hA.elim
  | cons v vs =>
   cases dd with
   | nil => exact hA.elim
   | cons d dd =>
    obtain ⟨p, q, ⟨fuel, hp⟩, hq, _⟩ := hA
    have hv1 : ∀ (j : Nat) t v, ts[j]? = some t → vs[j]? = some v → Value.okWide P w r base t v := fun j t v h1 h2 => hv (j + 1) t v (by simpa using h1) (by simpa using h2)
    have hv0 := hv 0 t v rfl rfl
    cases cs with
    | nil => cases ds <;> simp [parsOk] at h
    | cons c cs =>
     cases ds with
     | nil => simp [parsOk] at h
     | cons s ds =>
      cases s with
      | one s =>
       cases s with
       | is l => simp [parsOk] at h
       | arr => simp [parsOk] at h
       | pv c' =>
        simp only [parsOk, Bool.and_eq_true, decide_eq_true_eq] at h
        obtain ⟨rfl, hk, hc, hrest⟩ := h
        obtain ⟨x, hx, wx⟩ := args_ok hrest hv1 hq
        obtain ⟨y, hy, wy⟩ := trod_rep 30 t c fuel _ _ hc hp
        have hcell : v.cells.toList = [v] := by
         cases hu : P.underlying t with
         | none => simp [cOk, hu] at hc
         | some dsc =>
          cases dsc with
          | int k => obtain ⟨n, rfl⟩ := Go.WideShapes.okWide_int hu hv0; rfl
          | bool => obtain ⟨n, rfl⟩ := Go.WideShapes.okWide_bool hu hv0; rfl
          | string => obtain ⟨n, rfl⟩ := Go.WideShapes.okWide_string hu hv0; rfl
          | slice e => obtain ⟨a, l, c, rfl⟩ := Go.WideShapes.okWide_slice hu hv0; rfl
          | struct fs => rw [hu] at hk; simp at hk
          | _ => simp [cOk, hu] at hc
        rw [hcell] at hy
        exact ⟨(y, x), ⟨hy, hx⟩, wy, wx⟩
      | agg ls =>
       simp only [parsOk, Bool.and_eq_true] at h
       obtain ⟨hb, hk, hc, hrest⟩ := h
       obtain rfl := beqL_eq hb
       obtain ⟨x, hx, wx⟩ := args_ok hrest hv1 hq
       obtain ⟨y, hy, wy⟩ := trod_rep 30 t c fuel _ _ hc hp
       obtain ⟨z, hz, wz⟩ := flat_rep (α := fun _ => .nilIface) (h := heapOf []) hy wy
       cases hu : P.underlying t with
       | none => rw [hu] at hk; simp at hk
       | some dsc =>
        cases dsc with
        | struct fs =>
         obtain ⟨csv, rfl, _⟩ := Go.WideShapes.okWide_struct hu hv0
         exact ⟨(z, x), ⟨⟨csv, rfl, hz⟩, hx⟩, wz, wx⟩
        | _ => rw [hu] at hk; simp at hk
end Go.VI
namespace Go.VI
open Go
section
variable {F : Fx} {α : Nat → Value} {ok : Nat → Prop} {h : Heap} {w w' : World}
theorem Core.below (C : Core F α ok h w) (hb : Go.RowKit.Below w.heap.size w w') : Core F α ok h w' ∧ Stay w α ok h w' α ok h := by
 obtain ⟨h1, h2, h3, h4, h5⟩ := hb
 have hok : ∀ b, ok b → w'.heap[b]? = w.heap[b]? := fun b hb => h5 b (C.okb b hb).1
 have s : Stay w α ok h w' α ok h := ⟨fun b hb => ⟨hb, hok b hb⟩, fun o => .refl _, fun _ _ => rfl, fun o g hv hg => h5 g (C.lt (isGrid_ex (sameV_grid hv).1) hg)⟩
 refine ⟨⟨fun o => (C.ob o).stay s (fun g he hg => h5 g (C.lt he hg)) (fun _ _ => rfl) (fun i g k => h5 g (C.gr k).2.1), C.sep, C.sepok, fun b hb => ⟨Nat.lt_of_lt_of_le (C.okb b hb).1 h4, (C.okb b hb).2⟩, C.par, C.fresh, ?_, fun p hp => ⟨(hok _ (C.tab p hp).2).trans (C.tab p hp).1, (C.tab p hp).2⟩,
  C.gr_of h4 (fun o i g k => (Inn.same fun g hg => h5 g (C.lt k.ex hg)).1 k) (fun _ _ _ _ k => (C.gr k).2.2.1) (fun _ _ _ k => (C.gr k).2.2.2.1)⟩, s⟩
 refine ⟨h1.trans C.fr.os, h2.trans C.fr.tape, h3.trans C.fr.output, Nat.le_trans C.fr.size h4, fun b hb hk => (h5 b (Nat.lt_of_lt_of_le hb C.fr.size)).trans (C.fr.block b hb hk), fun k ls g off cs e q1 q2 q3 q4 => ?_⟩
 obtain ⟨cs', q5, q6⟩ := C.fr.part k ls g off cs e q1 q2 q3 q4
 exact ⟨cs', (h5 g (lt_of_heap q5)).trans q5, q6⟩
end
def leafV : (c : TC) → c.α → Option Value
 | .int k, n => some (.int k n)
 | .bool, b => some (.bool b)
 | .str, s => some (.string s)
 | _, _ => none
def lsV : (ls : List LS) → lsX ls → Option (List Value)
 | [], _ => some []
 | .pv c :: r, x => (leafV c x.1).bind fun v => (lsV r x.2).map fun vs => v :: vs
 | _ :: _, _ => none
def valsV : (ds : List DS) → dsX ds → Option (List Value)
 | [], _ => some []
 | .one (.pv c) :: r, x => (leafV c x.1).bind fun v => (valsV r x.2).map fun vs => v :: vs
 | .agg ls :: r, x => (lsV ls x.1).bind fun v => (valsV r x.2).map fun vs => .agg v.toArray :: vs
 | _ :: _, _ => none
def retV : List Value → Value
 | [v] => v
 | vs => .tuple vs.toArray
theorem leafV_rep {w : World} {ok : Nat → Prop} : ∀ {c : TC} {x : c.α} {v u : Value}, leafV c x = some v → (Rep w ok c x [u] ↔ u = v)
 | .int k, x, v, u, h => by cases h; simp [Rep]
 | .bool, x, v, u, h => by cases h; simp [Rep]
 | .str, x, v, u, h => by cases h; simp [Rep]
theorem lsV_of {w : World} {α : Nat → Value} {ok : Nat → Prop} {h : Heap} : ∀ {ls : List LS} {x : lsX ls} {us vs : List Value}, lsV ls x = some us → LsR w α ok h (lsEnc ls x) vs → vs = us
 | [], x, us, [], e, _ => by cases e; rfl
 | [], x, us, _ :: _, e, k => k.elim
 | .pv c :: r, x, us, [], e, k => k.elim
 | .pv c :: r, x, us, v :: vs, e, k => by
  simp only [lsV, Option.bind_eq_some_iff, Option.map_eq_some_iff] at e
  obtain ⟨v', h1, vs', h2, rfl⟩ := e
  have e1 : v = v' := (leafV_rep h1).1 k.1
  rw [e1, lsV_of h2 k.2]
theorem lsV_to {w : World} {α : Nat → Value} {ok : Nat → Prop} {h : Heap} : ∀ {ls : List LS} {x : lsX ls} {us : List Value}, lsV ls x = some us → LsR w α ok h (lsEnc ls x) us
 | [], x, us, e => by cases e; trivial
 | .pv c :: r, x, us, e => by
  simp only [lsV, Option.bind_eq_some_iff, Option.map_eq_some_iff] at e
  obtain ⟨v', h1, vs', h2, rfl⟩ := e
  exact ⟨(leafV_rep h1).2 rfl, lsV_to h2⟩
theorem valsV_of {w : World} {α : Nat → Value} {ok : Nat → Prop} {h : Heap} : ∀ {ds : List DS} {x : dsX ds} {us vs : List Value}, valsV ds x = some us → F2 (DR w α ok h) (dsEnc ds x) vs → vs = us
 | [], x, us, [], e, _ => by cases e; rfl
 | [], x, us, _ :: _, e, k => k.elim
 | .one (.pv c) :: r, x, us, [], e, k => k.elim
 | .one (.pv c) :: r, x, us, v :: vs, e, k => by
  simp only [valsV, Option.bind_eq_some_iff, Option.map_eq_some_iff] at e
  obtain ⟨v', h1, vs', h2, rfl⟩ := e
  have e1 : v = v' := (leafV_rep h1).1 k.1
  rw [e1, valsV_of h2 k.2]
 | .agg ls :: r, x, us, [], e, k => k.elim
 | .agg ls :: r, x, us, v :: vs, e, k => by
  simp only [valsV, Option.bind_eq_some_iff, Option.map_eq_some_iff] at e
  obtain ⟨v', h1, vs', h2, rfl⟩ := e
  obtain ⟨cs, rfl, hc⟩ := k.1
  rw [← lsV_of h1 hc, valsV_of h2 k.2]
theorem valsV_to {w : World} {α : Nat → Value} {ok : Nat → Prop} {h : Heap} : ∀ {ds : List DS} {x : dsX ds} {us : List Value}, valsV ds x = some us → F2 (DR w α ok h) (dsEnc ds x) us
 | [], x, us, e => by cases e; trivial
 | .one (.pv c) :: r, x, us, e => by
  simp only [valsV, Option.bind_eq_some_iff, Option.map_eq_some_iff] at e
  obtain ⟨v', h1, vs', h2, rfl⟩ := e
  exact ⟨(leafV_rep h1).2 rfl, valsV_to h2⟩
 | .agg ls :: r, x, us, e => by
  simp only [valsV, Option.bind_eq_some_iff, Option.map_eq_some_iff] at e
  obtain ⟨v', h1, vs', h2, rfl⟩ := e
  exact ⟨⟨_, rfl, by simpa using lsV_to h1⟩, valsV_to h2⟩
theorem fok_shelf {P : Program} {tabs : List (Nat × Obj)} {f : FuncId} {fn : Func} {lend : List Bool} {ret : Bool} {sh osh : Sh} {Fn : sh.X → Option osh.X} (hf : P.funcs[f]? = some fn) {c : Code} (hbody : fn.body = some c) (hname : (fn.name == "runtime.NumGoroutine") = false) (ho : sh.os = []) (ho' : osh.os = [])
  (H : ∀ x y, Fn x = some y → ∃ us rs, valsV sh.ds x.1 = some us ∧ valsV osh.ds y.1 = some rs ∧ ∀ w : World, (∀ p ∈ tabs, w.heap[p.1]? = some p.2) → Calls P f us.toArray w fun e w' => e = .returned (retV rs) ∧ Go.RowKit.Below w.heap.size w w') :
  FOK P tabs f (FE.of lend ret sh osh Fn) := by
 have hname : ¬ fn.name = "runtime.NumGoroutine" := by simpa using hname
 refine ⟨fun args w => by simp [callFunc, hf, hname, hbody], ?_⟩
 intro x y hxy w α ok vals C k
 obtain ⟨us, rs, h1, h2, hc⟩ := H x y hxy
 obtain rfl := valsV_of h1 k
 have e1 : osEnc sh.os x.2 = [] := List.length_eq_zero_iff.1 (by rw [osEnc_len, ho]; rfl)
 have e2 : osEnc osh.os y.2 = [] := List.length_eq_zero_iff.1 (by rw [osEnc_len, ho']; rfl)
 refine (hc w fun p hp => (C.tab p hp).1).mono ?_
 rintro e w' ⟨rfl, hb⟩
 obtain ⟨C', _⟩ := C.below hb
 refine ⟨_, α, ok, rfl, ?_, ?_⟩
 ·show Core _ _ _ (heapOf (osEnc osh.os y.2)) _
  have e3 : heapOf (osEnc osh.os y.2) = heapOf (osEnc sh.os x.2) := by rw [e2, e1]
  rw [e3]; exact C'
 ·show RetR _ _ _ _ (dsEnc osh.ds y.1) _
  have k2 : F2 (DR w' α ok (heapOf (osEnc osh.os y.2))) (dsEnc osh.ds y.1) rs := valsV_to h2
  generalize dsEnc osh.ds y.1 = ds at k2
  match ds, rs, k2 with
  | [], [], _ => exact ⟨#[], rfl, trivial⟩
  | [d], [v], k => exact k.1
  | [d], v :: u :: vs, k => exact k.2.elim
  | d :: d' :: r, [v], k => exact k.2.elim
  | d :: d' :: r, v :: u :: vs, k => exact ⟨_, rfl, by simpa using k⟩
  | [], v :: vs, k => exact k.elim
  | [d], [], k => exact k.elim
  | d :: d' :: r, [], k => exact k.elim
theorem fok_shelf2 {P : Program} {tabs : List (Nat × Obj)} {f : FuncId} {fn : Func} {lend : List Bool} {ret : Bool} {sh osh : Sh} {Fn : sh.X → Option osh.X} (hf : P.funcs[f]? = some fn) {c : Code} (hbody : fn.body = some c) (hname : (fn.name == "runtime.NumGoroutine") = false) (ho : sh.os = []) (ho' : osh.os = [])
  (H : ∀ x y, Fn x = some y → ∃ us, valsV sh.ds x.1 = some us ∧ ∀ w : World, (∀ p ∈ tabs, w.heap[p.1]? = some p.2) → Calls P f us.toArray w fun e w' => ∃ rs, e = .returned (retV rs) ∧ (∀ α ok h, F2 (DR w' α ok h) (dsEnc osh.ds y.1) rs) ∧ Go.RowKit.Below w.heap.size w w') :
  FOK P tabs f (FE.of lend ret sh osh Fn) := by
 have hname : ¬ fn.name = "runtime.NumGoroutine" := by simpa using hname
 refine ⟨fun args w => by simp [callFunc, hf, hname, hbody], ?_⟩
 intro x y hxy w α ok vals C k
 obtain ⟨us, h1, hc⟩ := H x y hxy
 obtain rfl := valsV_of h1 k
 have e1 : osEnc sh.os x.2 = [] := List.length_eq_zero_iff.1 (by rw [osEnc_len, ho]; rfl)
 have e2 : osEnc osh.os y.2 = [] := List.length_eq_zero_iff.1 (by rw [osEnc_len, ho']; rfl)
 refine (hc w fun p hp => (C.tab p hp).1).mono ?_
 rintro e w' ⟨rs, rfl, h2, hb⟩
 obtain ⟨C', _⟩ := C.below hb
 refine ⟨_, α, ok, rfl, ?_, ?_⟩
 ·show Core _ _ _ (heapOf (osEnc osh.os y.2)) _
  have e3 : heapOf (osEnc osh.os y.2) = heapOf (osEnc sh.os x.2) := by rw [e2, e1]
  rw [e3]; exact C'
 ·show RetR _ _ _ _ (dsEnc osh.ds y.1) _
  have k2 : F2 (DR w' α ok (heapOf (osEnc osh.os y.2))) (dsEnc osh.ds y.1) rs := h2 _ _ _
  generalize dsEnc osh.ds y.1 = ds at k2
  match ds, rs, k2 with
  | [], [], _ => exact ⟨#[], rfl, trivial⟩
  | [d], [v], k => exact k.1
  | [d], v :: u :: vs, k => exact k.2.elim
  | d :: d' :: r, [v], k => exact k.2.elim
  | d :: d' :: r, v :: u :: vs, k => exact ⟨_, rfl, by simpa using k⟩
  | [], v :: vs, k => exact k.elim
  | [d], [], k => exact k.elim
  | d :: d' :: r, [], k => exact k.elim
end Go.VI
namespace Go.VI
open Go
theorem tabIs_mem {P : Program} {W : World} {name : String} {k : IntKind} {zs : List Int} {g : Nat} {t e : TypeId} {n : Nat}
  (hg : P.globalNamed name = some g) (hty : (P.globals[g]?).map (·.type) = some t) (ht : P.underlying t = some (.array n e)) (he : P.underlying e = some (.int k)) (hce : P.cellsOf e = 1) (hct : P.cellsOf t = n) :
  ∀ {l : List (String × DataW Unit)} {ps : List MemPlace}, (name, Lib.tabData k zs) ∈ l → DataW.LaidVars P W l ps → Lib.TabIs P W name k zs
 | [], _, hm, _ => by cases hm
 | x :: r, ps, hm, h => by
  obtain ⟨nm, d⟩ := x
  obtain ⟨g', t', cs, fuel, p, q, hg', ht', hvar, hd, hr, _⟩ := h
  rcases List.mem_cons.1 hm with e1 | hm
  ·cases e1
   obtain rfl := Option.some.inj (hg.symm.trans hg')
   obtain rfl := Option.some.inj (hty.symm.trans ht')
   unfold Lib.TabIs
   rw [hvar, ← Lib.cells_of_tab ht he hce hct hd]
  ·exact tabIs_mem hg hty ht he hce hct hm hr
theorem tabIs_obj {P : Program} {W : World} {name : String} {k : IntKind} {zs : List Int} {g : Nat} (hg : P.globalNamed name = some g) (h : Lib.TabIs P W name k zs) : ∃ cs t fr, W.heap[g]? = some (.cells cs t fr) ∧ cs.toList = zs.map (Value.int k) := by
 unfold Lib.TabIs World.var? at h
 rw [hg] at h
 simp only [Option.bind_some] at h
 split at h
 ·rename_i cs t fr hh
  cases h
  exact ⟨_, t, fr, hh, by simp⟩
 ·cases h
theorem tabIs_of {P : Program} {w : World} {tabs : List (Nat × Obj)} {name : String} {k : IntKind} {zs : List Int} {g : Nat} (hg : P.globalNamed name = some g) (ht : TabHas tabs g k zs) (hw : ∀ p ∈ tabs, w.heap[p.1]? = some p.2) : Lib.TabIs P w name k zs := by
 obtain ⟨cs, t, fr, hm, hc⟩ := ht
 have h1 : w.heap[g]? = some (.cells cs t fr) := hw _ hm
 unfold Lib.TabIs World.var?
 rw [hg]
 simp only [Option.bind_some, h1]
 congr 1
 apply Array.ext'; simpa using hc
theorem TabHas.more {tabs : List (Nat × Obj)} {g : Nat} {k : IntKind} {zs : List Int} (x : Nat × Obj) (h : TabHas tabs g k zs) : TabHas (x :: tabs) g k zs := by
 obtain ⟨cs, t, fr, hm, hc⟩ := h
 exact ⟨cs, t, fr, List.mem_cons_of_mem _ hm, hc⟩
theorem TabHas.head {tabs : List (Nat × Obj)} {g : Nat} {k : IntKind} {zs : List Int} {cs : Array Value} {t : TypeId} {fr : Nat × Nat} (hc : cs.toList = zs.map (Value.int k)) : TabHas ((g, .cells cs t fr) :: tabs) g k zs := ⟨cs, t, fr, List.mem_cons_self .., hc⟩
theorem walk_tab {P : Program} {tabs : List (Nat × Obj)} {f : Nat} {fe : FE} (K : FOK P tabs f fe) (hos : fe.sh.os = []) {x : fe.sh.X} {y : fe.Y} (hy : fe.F x = some y) {b : Bool} {obs : List Ob} (he : fe.enc x y = ([.one (.pv .bool b)], obs))
  {w : World} (ht : ∀ p ∈ tabs, w.heap[p.1]? = some p.2) {vals : List Value} (k : F2 (DR w (fun _ => .nilIface) (okAll w) (heapOf [])) (dsEnc fe.sh.ds x.1) vals) :
  Calls P f vals.toArray w fun e w' => e = .returned (.bool b) ∧ Go.RowKit.Below w.heap.size w w' := walk_of K hos hy he ht k
def ErrHas (tabs : List (Nat × Obj)) (g : Nat) : Prop := ∃ tp p t fr, (g, .cells #[.iface tp p] t fr) ∈ tabs
theorem ErrHas.more {tabs : List (Nat × Obj)} {g : Nat} (x : Nat × Obj) (h : ErrHas tabs g) : ErrHas (x :: tabs) g := by
 obtain ⟨tp, p, t, fr, hm⟩ := h
 exact ⟨tp, p, t, fr, List.mem_cons_of_mem _ hm⟩
theorem ErrHas.head {tabs : List (Nat × Obj)} {g : Nat} {tp : TypeId} {p : Value} {t : TypeId} {fr : Nat × Nat} : ErrHas ((g, .cells #[.iface tp p] t fr) :: tabs) g := ⟨tp, p, t, fr, List.mem_cons_self ..⟩
theorem errVar_of {P : Program} {w : World} {tabs : List (Nat × Obj)} {name : String} {g : Nat} (hg : P.globalNamed name = some g) (ht : ErrHas tabs g) (hw : ∀ p ∈ tabs, w.heap[p.1]? = some p.2) : ∃ tp p, w.var? P name = some #[.iface tp p] := by
 obtain ⟨tp, p, t, fr, hm⟩ := ht
 have h1 : w.heap[g]? = some (.cells #[.iface tp p] t fr) := hw _ hm
 refine ⟨tp, p, ?_⟩
 unfold World.var?
 rw [hg]
 simp only [Option.bind_some, h1]
theorem errVar_obj {P : Program} {w : World} {name : String} {g : Nat} {cs : Array Value} (hg : P.globalNamed name = some g) (h : w.var? P name = some cs) : ∃ t fr, w.heap[g]? = some (.cells cs t fr) := by
 unfold World.var? at h
 rw [hg] at h
 simp only [Option.bind_some] at h
 split at h
 ·rename_i cs' t fr hh
  cases h
  exact ⟨t, fr, hh⟩
 ·cases h
theorem errIs_mem {P : Program} {W : World} {name nm : String} {d : DataW Unit} {g : Nat} {t : TypeId} {ms : Array (String × TypeId)}
  (hg : P.globalNamed name = some g) (hty : (P.globals[g]?).map (·.type) = some t) (hi : P.underlying t = some (.interface ms)) :
  ∀ {l : List (String × DataW Unit)} {ps : List MemPlace}, (name, .iface nm d) ∈ l → DataW.LaidVars P W l ps → ∃ u v, W.var? P name = some #[.iface u v]
 | [], _, hm, _ => by cases hm
 | x :: r, ps, hm, h => by
  obtain ⟨n2, d2⟩ := x
  obtain ⟨g', t', cs, fuel, p, q, hg', ht', hvar, hd, hr, _⟩ := h
  rcases List.mem_cons.1 hm with e1 | hm
  ·cases e1
   obtain rfl := Option.some.inj (hg.symm.trans hg')
   obtain rfl := Option.some.inj (hty.symm.trans ht')
   have : ∃ u v, cs.toList = [.iface u v] := by
    cases fuel with
    | zero => simp [DataW.trod] at hd
    | succ fuel =>
     unfold DataW.trod at hd
     rw [hi] at hd
     split at hd <;> first | (exact ⟨_, _, by assumption⟩) | simp_all
   obtain ⟨u, v, e⟩ := this
   refine ⟨u, v, ?_⟩
   rw [hvar]
   congr 1
   apply Array.ext'; simpa using e
  ·exact errIs_mem hg hty hi hm hr
end Go.VI
namespace Go.VI
open Go
section
variable {F : Fx} {α : Nat → Value} {ok : Nat → Prop} {h : Heap} {w : World}
theorem Core.okMore (C : Core F α ok h w) {b0 : Nat} (hlt : b0 < w.heap.size) (hnew : F.w0.heap.size ≤ b0) (hne : ∀ o, (h o).ex = true → blk (α o) ≠ some b0) (hni : ∀ o i, ¬ Inn w (α o) (h o) i b0) :
  Core F α (fun b => ok b ∨ b = b0) h w ∧ Stay w α ok h w α (fun b => ok b ∨ b = b0) h := by
 have s : Stay w α ok h w α (fun b => ok b ∨ b = b0) h := ⟨fun b hb => ⟨.inl hb, rfl⟩, fun o => .refl _, fun _ _ => rfl, fun _ _ _ _ => rfl⟩
 refine ⟨⟨fun o => (C.ob o).stay s (fun _ _ _ => rfl) (fun _ _ => rfl) (fun _ _ _ => rfl), C.sep, fun o b h1 h2 h3 => ?_, fun b hb => ?_, C.par, C.fresh, C.fr, fun p hp => ⟨(C.tab p hp).1, .inl (C.tab p hp).2⟩,
  C.gr_of (ok' := fun b => ok b ∨ b = b0) (Nat.le_refl _) (fun _ _ _ k => k) (fun o i g _ k h3 => Or.elim h3 (C.gr k).2.2.1 fun e => hni o i (e ▸ k)) (fun _ _ _ k => (C.gr k).2.2.2.1)⟩, s⟩
 ·rcases h3 with h3 | rfl
  ·exact C.sepok o b h1 h2 h3
  ·exact hne o h1 h2
 ·rcases hb with hb | rfl
  ·exact C.okb b hb
  ·exact ⟨hlt, fun hl => absurd hl (by omega)⟩
end
def mapW (w : World) (o : Obj) (ms : Array MapEntry) (clock : Nat) : World := { w with heap := (w.heap.push o).push (.map ms clock) }
theorem run_makeMap_mapW {P : Program} {t : TypeId} {w : World} {o : Obj} : (Instr.makeMap t none).run P (w.alloc o) = .ok (.map (some (w.heap.size + 1))) (mapW w o #[] 0) := by
 have : (w.alloc o).heap.size = w.heap.size + 1 := by
  show (w.heap.push o).size = _
  simp
 show Result.ok (Value.map (some (w.alloc o).heap.size)) ((w.alloc o).alloc (.map #[] 0)) = _
 rw [this]; rfl
theorem mapW_at {w : World} {o : Obj} {ms : Array MapEntry} {clock : Nat} : (mapW w o ms clock).heap[w.heap.size + 1]? = some (.map ms clock) := by
 simp only [mapW]
 rw [Array.getElem?_push, if_pos (by simp)]
theorem mapW_box {w : World} {o : Obj} {ms : Array MapEntry} {clock : Nat} : (mapW w o ms clock).heap[w.heap.size]? = some o := by
 simp only [mapW]
 rw [Array.getElem?_push, if_neg (by simp), Array.getElem?_push, if_pos rfl]
theorem mapW_old {w : World} {o : Obj} {ms : Array MapEntry} {clock k : Nat} (hk : k < w.heap.size) : (mapW w o ms clock).heap[k]? = w.heap[k]? := by
 simp only [mapW]
 rw [Array.getElem?_push, if_neg (by simp; omega), Array.getElem?_push, if_neg (by omega)]
theorem run_insert_mapW {P : Program} {t kt et : TypeId} {w : World} {o : Obj} {ms : Array MapEntry} {clock : Nat} {n : Int} {v : Value} (hu : P.underlying t = some (.map kt et)) (huk : P.underlying kt = some (.int .i64))
  (hf : Instr.findNow (.int .i64) (.int .i64 n) ms.toList 0 = some none) :
  (Instr.mapUpdate t (.map (some (w.heap.size + 1))) (.int .i64 n) v).run P (mapW w o ms clock) = .ok () (mapW w o (ms.push { key := .int .i64 n, val := v, born := clock }) (clock + 1)) := by
 have hm := mapW_at (w := w) (o := o) (ms := ms) (clock := clock)
 have hg : (getObj (w.heap.size + 1)).run P (mapW w o ms clock) = .ok (.map ms clock) (mapW w o ms clock) := by simp [getObj, Sem.run, hm]
 have hk := run_checkKey_int (P := P) (w := mapW w o ms clock) (e := false) (n := n) huk
 have hfk : (Instr.findKey kt (.int .i64 n) ms.toList).run P (mapW w o ms clock) = .ok none (mapW w o ms clock) := by
  unfold Instr.findKey
  simp [run_underlying huk, hf]
 have hset : ∀ o', (setObj (w.heap.size + 1) o').run P (mapW w o ms clock) = .ok () { mapW w o ms clock with heap := (mapW w o ms clock).heap.setIfInBounds (w.heap.size + 1) o' } := fun o' => by
  simp [setObj, Sem.run, hm]
 unfold Instr.mapUpdate
 simp only [Sem.run_bind, run_underlying hu, Result.andThen_ok, hg, hk, hfk, hset]
 congr 1
 simp only [mapW]
 congr 1
 apply Array.ext'
 simp [List.set_append]
@[reducible] def i3 : List LS := [.pv (.int .i64), .pv (.int .i64), .pv (.int .i64)]
@[reducible] def mapSh : Sh := ⟨[.agg i3], []⟩
@[reducible] def mapOsh (ents : List (Int × Nat × List (Nat × Nat))) : Sh := ⟨[.one (.is (.fmap ents))], [.box i3]⟩
def mapF (ents : List (Int × Nat × List (Nat × Nat))) (x : mapSh.X) : Option (mapOsh ents).X := some (((), ()), ((x.1.1.1, x.1.1.2.1, x.1.1.2.2.1, ()), ()))
theorem fok_map {P : Program} {tabs : List (Nat × Obj)} {f : FuncId} {fn : Func} {lend : List Bool} {ret : Bool} {ents : List (Int × Nat × List (Nat × Nat))} {t : TypeId} {clock : Nat} (hf : P.funcs[f]? = some fn) {c : Code} (hbody : fn.body = some c) (hname : (fn.name == "runtime.NumGoroutine") = false)
  (ms : Value → Array MapEntry)
  (hwalk : ∀ (k b g : Int) (w : World), Calls P f #[.agg #[.int .i64 k, .int .i64 b, .int .i64 g]] w fun e w' => e = .returned (.map (some (w.heap.size + 1))) ∧
   w' = mapW w (.cells #[.int .i64 k, .int .i64 b, .int .i64 g] t (0, 0)) (ms (.pointer (some ⟨w.heap.size, 0, none⟩))) clock)
  (hms : ∀ (α : Nat → Value) (h : Heap) (B : Value), PtrR α h 0 0 0 B → F2 (EntR α h) ents (ms B).toList) :
  FOK P tabs f (FE.of lend ret mapSh (mapOsh ents) (mapF ents)) := by
 have hname : ¬ fn.name = "runtime.NumGoroutine" := by simpa using hname
 refine ⟨fun args w => by simp [callFunc, hf, hname, hbody], ?_⟩
 intro x y hxy w α ok vals C kk
 cases hxy
 obtain ⟨⟨⟨k, b, g, _⟩, _⟩, _⟩ := x
 change Core ⟨P, tabs, w, 0, α, heapOf [], ok⟩ α ok (heapOf []) w at C
 have hv : vals = [.agg #[.int .i64 k, .int .i64 b, .int .i64 g]] := by
  match vals, kk with
  | [], kk => exact kk.elim
  | v :: u :: r, kk => exact kk.2.elim
  | [v], kk =>
   obtain ⟨cs, rfl, hc⟩ := kk.1
   have := lsV_of (ls := i3) (x := (k, b, g, ())) (us := [.int .i64 k, .int .i64 b, .int .i64 g]) rfl hc
   rw [show cs = #[.int .i64 k, .int .i64 b, .int .i64 g] from Array.ext' this]
 subst hv
 refine (hwalk k b g w).mono ?_
 rintro e w' ⟨rfl, rfl⟩
 have e1 : heapOf [Ob.box [.pv (.int .i64) k, .pv (.int .i64) b, .pv (.int .i64) g]] = upd (heapOf []) 0 (.box [.pv (.int .i64) k, .pv (.int .i64) b, .pv (.int .i64) g]) := by
  funext z
  rw [upd_eq]
  cases z with
  | zero => rfl
  | succ z => rw [if_neg (by omega)]; simp [heapOf]
 have hbox : ∀ o' msx cl, ObR (mapW w (.cells #[.int .i64 k, .int .i64 b, .int .i64 g] t (0, 0)) msx cl) (setA α 0 (.pointer (some ⟨w.heap.size, 0, none⟩))) ok (upd (heapOf []) 0 o') 0 (.box [.pv (.int .i64) k, .pv (.int .i64) b, .pv (.int .i64) g]) := by
  intro o' msx cl
  refine ⟨w.heap.size, 0, #[.int .i64 k, .int .i64 b, .int .i64 g], t, setA_same .., mapW_box, [.int .i64 k, .int .i64 b, .int .i64 g], ⟨?_, ?_, ?_, trivial⟩, fun j v hj => ?_⟩
  ·simp [LR, Rep]
  ·simp [LR, Rep]
  ·simp [LR, Rep]
  ·rw [Nat.zero_add]; simpa using hj
 obtain ⟨C1, S1⟩ := C.new (id := 0) rfl (Nat.le_refl _) (w' := mapW w (.cells #[.int .i64 k, .int .i64 b, .int .i64 g] t (0, 0)) (ms (.pointer (some ⟨w.heap.size, 0, none⟩))) clock) (v := .pointer (some ⟨w.heap.size, 0, none⟩))
  (b := .box [.pv (.int .i64) k, .pv (.int .i64) b, .pv (.int .i64) g]) (fun z hz => mapW_old hz) (by simp [mapW]; omega) rfl rfl rfl (fun g hg => by simp [blk] at hg; omega) (by simp) (hbox _ _ _)
 obtain ⟨C2, S2⟩ := C1.okMore (b0 := w.heap.size + 1) (by simp [mapW]) (by show w.heap.size ≤ w.heap.size + 1; omega) (fun o ho hb => by
  rw [upd_eq] at ho
  split at ho
  ·rename_i e; subst e
   rw [setA_same] at hb
   simp [blk] at hb
  ·simp [heapOf, Ob.ex] at ho) (fun o i k => by
  rw [upd_eq] at k
  split at k
  ·exact k.elim
  ·simp [heapOf, Inn] at k)
 refine ⟨_, setA α 0 (.pointer (some ⟨w.heap.size, 0, none⟩)), (fun b => ok b ∨ b = w.heap.size + 1), rfl, ?_, ?_⟩
 ·show Core _ _ _ (heapOf [Ob.box [.pv (.int .i64) k, .pv (.int .i64) b, .pv (.int .i64) g]]) _
  rw [e1]; exact C2
 ·show LR _ _ _ (heapOf [Ob.box [.pv (.int .i64) k, .pv (.int .i64) b, .pv (.int .i64) g]]) (.fmap ents) _
  rw [e1]
  refine ⟨w.heap.size + 1, _, clock, rfl, .inr rfl, mapW_at, hms _ _ _ ⟨⟨_, _, rfl⟩, ?_⟩⟩
  rw [upd_same]
  exact ⟨rfl, w.heap.size, 0, setA_same .., rfl⟩
end Go.VI
open Go
namespace Go.VI
theorem fok_none {P : Program} {tabs : List (Nat × Obj)} {f : FuncId} {fn : Func} {lend : List Bool} {ret : Bool} {sh osh : Sh} (hf : P.funcs[f]? = some fn) {c : Code} (hbody : fn.body = some c) (hname : (fn.name == "runtime.NumGoroutine") = false) :
  FOK P tabs f (FE.of lend ret sh osh fun _ => none) := by
 have hname : ¬ fn.name = "runtime.NumGoroutine" := by simpa using hname
 refine ⟨fun args w => by simp [callFunc, hf, hname, hbody], ?_⟩
 intro x y hxy
 exact absurd hxy (by simp [FE.of])
def recR {X Y : Type} (S : (X → Option Y) → X → Option Y) : Nat → X → Option Y
 | 0 => fun _ => none
 | n + 1 => S (recR S n)
theorem rec_ok {P : Program} {tabs : List (Nat × Obj)} {f : FuncId} {fn : Func} {lend : List Bool} {ret : Bool} {sh osh : Sh} {S : (sh.X → Option osh.X) → sh.X → Option osh.X} (hf : P.funcs[f]? = some fn) {c : Code} (hbody : fn.body = some c) (hname : (fn.name == "runtime.NumGoroutine") = false)
  (H : ∀ g, FOK P tabs f (FE.of lend ret sh osh g) → FOK P tabs f (FE.of lend ret sh osh (S g))) : ∀ n, FOK P tabs f (FE.of lend ret sh osh (recR S n))
 | 0 => fok_none hf hbody hname
 | n + 1 => H _ (rec_ok hf hbody hname H n)
end Go.VI
