/- A value semantics of the machine's code, and its proof. -/
import Derived.LoopN
import Derived.Test.YtefcciajemkicaaViB
set_option linter.unusedVariables false
set_option linter.unusedSimpArgs false
namespace Go.VI
open Go
section
variable {F : Fx} {α : Nat → Value} {ok : Nat → Prop} {h h' : Heap} {w : World}
def okLent (ok : Nat → Prop) (w : World) (h : Heap) (α : Nat → Value) (lent : List Nat) : Nat → Prop := fun b => ok b ∨ ∃ o ∈ lent, ((h o).ex = true ∧ blk (α o) = some b) ∨ ∃ i, Inn w (α o) (h o) i b
theorem lend_ok2 (C : Core F α ok h w) {l l' : L} {v : Value} (hl : lend h l = some l') (k : LR w α ok h l v) : LR w α (okLent ok w h α (lentL l)) h l' v := by
 have s : Stay w α ok h w α (okLent ok w h α (lentL l)) h := ⟨fun b hb => ⟨.inl hb, rfl⟩, fun o => .refl _, fun _ _ => rfl, fun _ _ _ _ => rfl⟩
 unfold lend at hl
 split at hl
 ·rename_i o
  simp only [LR] at k
  split at hl
  ·rename_i e c l hb
   simp at hl; subst hl
   rw [hb] at k; obtain ⟨_, rfl⟩ := k
   have hob := C.ob o; rw [hb] at hob
   exact row_rep hob (fun b hb => .inl hb) (fun g hg => .inr ⟨o, by simp [lentL], .inl ⟨by rw [hb]; rfl, hg⟩⟩)
  ·rename_i c l hb
   simp at hl; subst hl
   rw [hb] at k; obtain ⟨_, rfl⟩ := k
   have hob := C.ob o; rw [hb] at hob
   exact Rep.mono s.ok hob
  ·rename_i e d n ll hb
   simp at hl; subst hl
   rw [hb] at k; obtain ⟨_, rfl⟩ := k
   have hob := C.ob o; rw [hb] at hob
   exact grid_rep hob (fun b hb => .inl hb) (fun g hg => .inr ⟨o, by simp [lentL], .inl ⟨by rw [hb]; rfl, hg⟩⟩) (fun i g hg => .inr ⟨o, by simp [lentL], .inr ⟨i, by rw [hb]; exact hg⟩⟩)
  ·cases hl
 ·rename_i o lo hi
  simp only [LR] at k
  split at hl
  ·rename_i e c l hb
   simp at hl; subst hl
   rw [hb] at k; obtain ⟨_, k⟩ := k
   have hob := C.ob o; rw [hb] at hob
   exact sub_rep (row_rep hob (fun b hb => .inl hb) (fun g hg => .inr ⟨o, by simp [lentL], .inl ⟨by rw [hb]; rfl, hg⟩⟩)) k
  ·rename_i c l hb
   simp at hl; subst hl
   rw [hb] at k; obtain ⟨_, k⟩ := k
   have hob := C.ob o; rw [hb] at hob
   exact sub_rep (Rep.mono s.ok hob) k
  ·cases hl
 ·simp at hl; subst hl; exact k.stay s
theorem okLent_mono {ok ok' : Nat → Prop} {h h' : Heap} {α α' : Nat → Value} {l l' : List Nat} (hok : ∀ b, ok b → ok' b) (hl : ∀ o ∈ l, o ∈ l' ∧ ((h o).ex = true → h' o = h o ∧ α' o = α o)) : ∀ b, okLent ok w h α l b → okLent ok' w h' α' l' b := by
 rintro b (hb | ⟨o, ho, ⟨he, hb⟩ | ⟨i, hb⟩⟩)
 ·exact .inl (hok b hb)
 ·obtain ⟨h1, h2⟩ := hl o ho
  obtain ⟨h3, h4⟩ := h2 he
  exact .inr ⟨o, h1, .inl ⟨by rw [h3]; exact he, by rw [h4]; exact hb⟩⟩
 ·obtain ⟨h1, h2⟩ := hl o ho
  obtain ⟨h3, h4⟩ := h2 hb.ex
  exact .inr ⟨o, h1, .inr ⟨i, by rw [h3, h4]; exact hb⟩⟩
theorem LR.okmono {ok' : Nat → Prop} (hok : ∀ b, ok b → ok' b) {l : L} {v : Value} (k : LR w α ok h l v) : LR w α ok' h l v := k.stay ⟨fun b hb => ⟨hok b hb, rfl⟩, fun o => .refl _, fun _ _ => rfl, fun _ _ _ _ => rfl⟩
theorem DR.okmono {ok' : Nat → Prop} (hok : ∀ b, ok b → ok' b) {d : D} {v : Value} (k : DR w α ok h d v) : DR w α ok' h d v := k.stay ⟨fun b hb => ⟨hok b hb, rfl⟩, fun o => .refl _, fun _ _ => rfl, fun _ _ _ _ => rfl⟩
theorem lends_ok (C : Core F α ok h w) : ∀ {ls ls' : List L} {vs : List Value}, ls.mapM (VI.lend h) = some ls' → LsR w α ok h ls vs → LsR w α (okLent ok w h α (ls.flatMap lentL)) h ls' vs
 | [], ls', vs, hl, k => by simp at hl; subst hl; cases vs with | nil => trivial | cons => exact k.elim
 | l :: r, ls', vs, hl, k => by
  rw [List.mapM_cons] at hl
  simp only [Option.bind_eq_bind, Option.bind_eq_some_iff, Option.pure_def, Option.some.injEq] at hl
  obtain ⟨l1, hl1, r1, hr1, rfl⟩ := hl
  match vs, k with
  | v :: vs, k =>
   refine ⟨(lend_ok2 C hl1 k.1).okmono (okLent_mono (fun b hb => hb) fun o ho => ⟨by simp [ho], fun _ => ⟨rfl, rfl⟩⟩), F2.mono (fun _ _ hr => hr.okmono (okLent_mono (fun b hb => hb) fun o ho => ⟨by rw [List.flatMap_cons]; exact List.mem_append_right _ ho, fun _ => ⟨rfl, rfl⟩⟩)) (lends_ok C hr1 k.2)⟩
structure Args (F : Fx) (w : World) (α : Nat → Value) (ok : Nat → Prop) (h : Heap) (α1 : Nat → Value) (h1 : Heap) (ps : List Part) : Prop where
 core : Core F α1 ok h1 w
 stay : Stay w α ok h w α1 ok h1
 same : ∀ x, x ∉ ps.map (·.o) → h x ≠ .none → h1 x = h x
 parts : ∀ p ∈ ps, ∃ g cap cur xs, PartOK F w α1 ok h1 p g cap cur xs
theorem argD_ok {T : Tb} (C : Core F α ok h w) {id : Nat} (hid : F.m ≤ id) {lend : Bool} {t : TypeId} {d d' : D} {ps : List Part} {lent : List Nat} {v : Value} (hg : (argD T h id lend t d).gives (d', h', ps, lent)) (k : DR w α ok h d v) :
  ∃ α1, Args F w α ok h α1 h' ps ∧ DR w α1 (okLent ok w h α lent) h' d' v ∧ (∀ o ∈ lent, ps = []) := by
 unfold argD at hg
 split at hg
 ·rename_i o i j
  simp only [NM.gives_bind, NM.gives_pure, Prod.mk.injEq] at hg
  obtain ⟨⟨l, h1, ps1⟩, hp, rfl, rfl, rfl, rfl⟩ := hg
  simp only [partL, NM.gives_bind, NM.gives_opt] at hp
  obtain ⟨ti, hti, hp⟩ := hp
  split at hp
  ·rename_i e heq
   simp only [NM.gives_bind, NM.gives_opt] at hp
   obtain ⟨te, hte, hp⟩ := hp
   split at hp
   ·rename_i ls hh
    simp only [NM.gives_guard, NM.gives_pure, Prod.mk.injEq] at hp
    obtain ⟨_, rfl, rfl, rfl⟩ := hp
    exact ⟨α, ⟨C, .refl, fun _ _ _ => rfl, by simp⟩, DR.okmono (ok' := okLent ok w h α []) (fun b hb => Or.inl hb) k, by simp⟩
   ·rename_i e' c l' hh
    simp only [NM.gives_bind, NM.gives_pure, Prod.mk.injEq] at hp
    obtain ⟨ls', hls, h2, hn, rfl, rfl, rfl⟩ := hp
    obtain ⟨g, cap, cur, xs, C', s', P, kl, same⟩ := core_split C hh hid hn hls k
    refine ⟨_, ⟨C', s', fun x hx hx2 => same x (by simpa using hx) hx2, fun p hp => ?_⟩, LR.okmono (ok' := okLent ok w h α []) (fun b hb => Or.inl hb) kl, by simp⟩
    simp at hp; subst hp
    exact ⟨g, cap, cur, xs, P⟩
   ·exact absurd hp NM.gives_fail
  ·exact absurd hp NM.gives_fail
 ·cases lend with
  | false =>
   simp only [cond_false, NM.gives_pure, Prod.mk.injEq] at hg
   obtain ⟨rfl, rfl, rfl, rfl⟩ := hg
   exact ⟨α, ⟨C, .refl, fun _ _ _ => rfl, by simp⟩, DR.okmono (ok' := okLent ok w h α []) (fun b hb => Or.inl hb) k, by simp⟩
  | true =>
   simp only [cond_true, NM.gives_bind, NM.gives_opt, NM.gives_pure, Prod.mk.injEq] at hg
   obtain ⟨d1, hd, rfl, rfl, rfl, rfl⟩ := hg
   refine ⟨α, ⟨C, .refl, fun _ _ _ => rfl, by simp⟩, ?_, by simp⟩
   cases d with
   | one l =>
    simp only [D.lend, Option.map_eq_some_iff] at hd
    obtain ⟨l1, hl1, rfl⟩ := hd
    have := lend_ok2 C hl1 k
    simpa [DR, D.ls] using this
   | agg ls =>
    simp only [D.lend, Option.map_eq_some_iff] at hd
    obtain ⟨l1, hl1, rfl⟩ := hd
    obtain ⟨cs, rfl, k⟩ := k
    exact ⟨cs, rfl, lends_ok C hl1 k⟩
   | tup ds => simp [D.lend] at hd
theorem PartOK.stay {h1 : Heap} {α1 : Nat → Value} {p : Part} {g cap : Nat} {cur : Array Value} {xs : List Value} (P : PartOK F w α ok h p g cap cur xs) (s : Stay w α ok h w α1 ok h1) {ps : List Part} (same : ∀ x, x ∉ ps.map (·.o) → h x ≠ .none → h1 x = h x)
  (hps : ∀ q ∈ ps, ∃ e c l, h q.o = .row e c l) : PartOK F w α1 ok h1 p g cap cur xs := by
 have n1 : p.o ∉ ps.map (·.o) := fun hm => by
  obtain ⟨q, hq, e⟩ := List.mem_map.1 hm
  obtain ⟨e', c, l, hr⟩ := hps q hq
  rw [e, P.lock] at hr; cases hr
 obtain ⟨ls, hb, hl⟩ := P.box
 have n2 : p.id ∉ ps.map (·.o) := fun hm => by
  obtain ⟨q, hq, e⟩ := List.mem_map.1 hm
  obtain ⟨e', c, l, hr⟩ := hps q hq
  rw [e, hb] at hr; cases hr
 exact ⟨(same _ n1 (by rw [P.lock]; simp)).trans P.lock, ⟨ls, (same _ n2 (by rw [hb]; simp)).trans hb, hl⟩, P.lt, (s.al _ (by rw [P.lock]; simp)).trans P.al, P.heap, P.c1, P.c2, P.c3, P.tk, P.len, P.rows, (s.al _ (by rw [hb]; simp)).trans P.ptr, P.id⟩
end
end Go.VI
namespace Go.VI
open Go
theorem disjointL_ok : ∀ {a b : List Nat}, disjointL a b = true → ∀ x ∈ a, x ∉ b
 | [], b, _, x, hx => by cases hx
 | y :: r, b, hd, x, hx => by
  simp only [disjointL, Bool.and_eq_true, Bool.not_eq_true', List.any_eq_false] at hd
  rcases List.mem_cons.1 hx with rfl | hx
  ·intro hm; have := hd.1 x hm; simp at this
  ·exact disjointL_ok hd.2 x hx
section
variable {F : Fx} {α : Nat → Value} {ok : Nat → Prop} {h h' : Heap} {w : World}
theorem argDs_ok {T : Tb} : ∀ {ds : List D} {α : Nat → Value} {h h' : Heap} {id : Nat} {bs : List Bool} {ts : List TypeId} {ds' : List D} {ps : List Part} {lent : List Nat} {vals : List Value},
  Core F α ok h w → F.m ≤ id → (argDs T h id bs ts ds).gives (ds', h', ps, lent) → (∀ o ∈ lent, o ∉ ps.map (·.o)) → ps.length ≤ 1 → F2 (DR w α ok h) ds vals →
  ∃ α1, Args F w α ok h α1 h' ps ∧ F2 (DR w α1 (okLent ok w h' α1 lent) h') ds' vals
 | [], α, h, h', id, bs, ts, ds', ps, lent, vals, C, hid, hg, hd, h1, k => by
  simp only [argDs, NM.gives_pure, Prod.mk.injEq] at hg
  obtain ⟨rfl, rfl, rfl, rfl⟩ := hg
  cases vals with
  | nil => exact ⟨α, ⟨C, .refl, fun _ _ _ => rfl, by simp⟩, trivial⟩
  | cons v vs => exact k.elim
 | d :: r, α, h, h', id, bs, ts, ds', ps, lent, vals, C, hid, hg, hd, h1, k => by
  simp only [argDs, NM.gives_bind, NM.gives_pure, Prod.mk.injEq] at hg
  obtain ⟨⟨d1, ha, ps1, is⟩, g1, ⟨ds1, hb, qs, js⟩, g2, rfl, rfl, rfl, rfl⟩ := hg
  cases vals with
  | nil => exact k.elim
  | cons v vs =>
   obtain ⟨α1, A1, k1, e1⟩ := argD_ok C hid g1 k.1
   have hlen : ps1 = [] ∨ qs = [] := by
    rw [List.length_append] at h1
    cases ps1 with
    | nil => exact .inl rfl
    | cons => cases qs with
     | nil => exact .inr rfl
     | cons => simp at h1; omega
   obtain ⟨α2, A2, k2⟩ := argDs_ok (h := ha) A1.core (by omega) g2 (fun o ho hm => hd o (List.mem_append_right _ ho) (by rw [List.map_append]; exact List.mem_append_right _ hm)) (by simp only [List.length_append] at h1; omega) (F2.mono (fun _ _ hr => hr.stay A1.stay) k.2)
   have lift : ∀ b, okLent ok w h α is b → okLent ok w hb α2 (is ++ js) b := okLent_mono (fun b hb => hb) fun o ho => ⟨List.mem_append_left _ ho, fun he => by
    have hp := e1 o ho
    subst hp
    have hne : h o ≠ .none := fun e => by rw [e] at he; cases he
    have s1 := A1.same o (by simp) hne
    have hne1 : ha o ≠ .none := by rw [s1]; exact hne
    have s2 := A2.same o (fun hm => hd o (List.mem_append_left _ ho) (by simpa using hm)) hne1
    exact ⟨by rw [s2, s1], (A2.stay.al o hne1).trans (A1.stay.al o hne)⟩⟩
   have lift2 : ∀ b, okLent ok w hb α2 js b → okLent ok w hb α2 (is ++ js) b := okLent_mono (fun b hb => hb) fun o ho => ⟨List.mem_append_right _ ho, fun _ => ⟨rfl, rfl⟩⟩
   refine ⟨α2, ⟨A2.core, A1.stay.trans A2.stay, fun x hx hne => ?_, fun p hp => ?_⟩, ?_, F2.mono (fun _ _ hr => hr.okmono lift2) k2⟩
   ·rw [List.map_append, List.mem_append, not_or] at hx
    have s1 := A1.same x hx.1 hne
    exact (A2.same x hx.2 (by rw [s1]; exact hne)).trans s1
   ·rcases List.mem_append.1 hp with hp1 | hp1
    ·clear hp
     rcases hlen with e | e
     ·rw [show (d1, ha, ps1, is).2.2.fst = ps1 from rfl, e] at hp1; cases hp1
     ·subst e
      obtain ⟨g, cap, cur, xs, P⟩ := A1.parts p hp1
      exact ⟨g, cap, cur, xs, P.stay A2.stay A2.same (by simp)⟩
    ·exact A2.parts p hp1
   ·have S : Stay w α1 (okLent ok w h α is) ha w α2 (okLent ok w hb α2 (is ++ js)) hb := ⟨fun b hb => ⟨lift b hb, rfl⟩, A2.stay.le, A2.stay.al, fun _ _ _ _ => rfl⟩
    exact k1.stay S
end
end Go.VI
namespace Go.VI
open Go
section
variable {F : Fx} {α : Nat → Value} {ok : Nat → Prop} {h h' : Heap} {w : World}
theorem sameL_ok {l l' : L} {v : Value} (hs : sameL l l' = true) (k : LR w α ok h l' v) : LR w α ok h l v := by
 unfold sameL at hs
 split at hs <;> (try simp only [Bool.and_eq_true, Nat.beq_eq] at hs)
 ·exact k
 ·subst hs; exact k
 ·obtain ⟨rfl, rfl, rfl⟩ := hs; exact k
 ·obtain ⟨rfl, rfl, rfl⟩ := hs; exact k
 ·exact k
 ·exact k
 ·have := of_decide_eq_true hs; subst this; exact k
 ·trivial
 ·subst hs; exact k
 ·rename_i f cs f' cs'
  obtain ⟨rfl, hl, hz⟩ := hs
  have : cs = cs' := by
   clear k
   induction cs generalizing cs' with
   | nil => cases cs' with
    | nil => rfl
    | cons => simp at hl
   | cons c r ih => cases cs' with
    | nil => simp at hl
    | cons c' r' =>
     simp only [List.zip_cons_cons, List.all_cons, Bool.and_eq_true, Nat.beq_eq, List.length_cons, Nat.add_right_cancel_iff] at hl hz
     obtain ⟨⟨e1, e2⟩, hz⟩ := hz
     rw [ih r' hl hz]
     congr 1
     exact Prod.ext e1 e2
  subst this
  exact k
 ·cases hs
theorem lsdec_ok : ∀ {s : LS} {l : L} {x : s.X} {v : Value}, s.dec l = some x → LR w α ok h l v → LR w α ok h (s.enc x) v
 | .pv c, l, x, v, hd, k => unL_ok (c := c) hd k
 | .is l', l, x, v, hd, k => by
  simp only [LS.dec] at hd
  cases hs : sameL l' l with
  | true => exact sameL_ok hs k
  | false => rw [hs] at hd; cases hd
 | .arr, .arr zs, x, v, hd, k => by simp only [LS.dec, Option.some.injEq] at hd; subst hd; exact k
 | .arr, .pv .., x, v, hd, k => by cases hd
 | .arr, .nils, x, v, hd, k => by cases hd
 | .arr, .own .., x, v, hd, k => by cases hd
 | .arr, .sub .., x, v, hd, k => by cases hd
 | .arr, .ptr .., x, v, hd, k => by cases hd
 | .arr, .iptr .., x, v, hd, k => by cases hd
 | .arr, .fn .., x, v, hd, k => by cases hd
 | .arr, .gptr .., x, v, hd, k => by cases hd
 | .arr, .nilp, x, v, hd, k => by cases hd
 | .arr, .nilI, x, v, hd, k => by cases hd
 | .arr, .fmap .., x, v, hd, k => by cases hd
 | .arr, .skip, x, v, hd, k => by cases hd
 | .arr, .inn .., x, v, hd, k => by cases hd
 | .arr, .gp .., x, v, hd, k => by cases hd
 | .arr, .undef, x, v, hd, k => by cases hd
theorem lssdec_ok : ∀ {ss : List LS} {ls : List L} {x : lsX ss} {vs : List Value}, lsDec ss ls = some x → LsR w α ok h ls vs → LsR w α ok h (lsEnc ss x) vs
 | [], [], x, vs, hd, k => k
 | [], _ :: _, x, vs, hd, k => by cases hd
 | _ :: _, [], x, vs, hd, k => by cases hd
 | s :: r, l :: t, x, vs, hd, k => by
  simp only [lsDec, Option.bind_eq_some_iff, Option.some.injEq] at hd
  obtain ⟨x1, h1, x2, h2, rfl⟩ := hd
  cases vs with
  | nil => exact k.elim
  | cons v vs => exact ⟨lsdec_ok h1 k.1, lssdec_ok h2 k.2⟩
theorem lsDec_len : ∀ {ss : List LS} {ls : List L} {x : lsX ss}, lsDec ss ls = some x → (lsEnc ss x).length = ls.length
 | [], [], x, hd => rfl
 | [], _ :: _, x, hd => by cases hd
 | _ :: _, [], x, hd => by cases hd
 | s :: r, l :: t, x, hd => by
  simp only [lsDec, Option.bind_eq_some_iff, Option.some.injEq] at hd
  obtain ⟨x1, h1, x2, h2, rfl⟩ := hd
  simp [lsEnc, lsDec_len h2]
theorem dsdec_ok : ∀ {s : DS} {d : D} {x : s.X} {v : Value}, s.dec d = some x → DR w α ok h d v → DR w α ok h (s.enc x) v
 | .one s, .one l, x, v, hd, k => lsdec_ok (s := s) hd k
 | .agg ss, .agg ls, x, v, hd, k => by
  obtain ⟨cs, rfl, k⟩ := k
  exact ⟨cs, rfl, lssdec_ok (ss := ss) hd k⟩
 | .one s, .agg ls, x, v, hd, k => by cases hd
 | .one s, .tup ls, x, v, hd, k => by cases hd
 | .agg s, .one ls, x, v, hd, k => by cases hd
 | .agg s, .tup ls, x, v, hd, k => by cases hd
theorem dssdec_ok : ∀ {ss : List DS} {ds : List D} {x : dsX ss} {vs : List Value}, dsDec ss ds = some x → F2 (DR w α ok h) ds vs → F2 (DR w α ok h) (dsEnc ss x) vs
 | [], [], x, vs, hd, k => k
 | [], _ :: _, x, vs, hd, k => by cases hd
 | _ :: _, [], x, vs, hd, k => by cases hd
 | s :: r, l :: t, x, vs, hd, k => by
  simp only [dsDec, Option.bind_eq_some_iff, Option.some.injEq] at hd
  obtain ⟨x1, h1, x2, h2, rfl⟩ := hd
  cases vs with
  | nil => exact k.elim
  | cons v vs => exact ⟨dsdec_ok h1 k.1, dssdec_ok h2 k.2⟩
def Told (a b : Ob) : Prop := SameK a b ∧ ∀ {w : World} {α : Nat → Value} {ok : Nat → Prop} {h : Heap} {o : Nat}, ObR w α ok h o a → ObR w α ok h o b
theorem osdec_ok : ∀ {s : OS} {b : Ob} {x : s.X}, s.dec b = some x → Told b (s.enc x)
 | .box ss, .box ls, x, hd => ⟨(lsDec_len (ss := ss) hd).symm, fun k => by
   obtain ⟨g, off, cs, e, h1, h2, vs, h3, h4⟩ := k
   exact ⟨g, off, cs, e, h1, h2, vs, lssdec_ok (ss := ss) hd h3, h4⟩⟩
 | .row e c, .row e' c' l, x, hd => by
  simp only [OS.dec] at hd
  split at hd
  ·rename_i hc
   subst hc
   cases he : Nat.beq e' e with
   | true =>
    rw [he] at hd
    simp at hd; subst hd
    rw [Nat.beq_eq] at he
    subst he
    exact ⟨SameK.refl _, fun k => k⟩
   | false => rw [he] at hd; cases hd
  ·cases hd
 | .gone, .gone, x, hd => ⟨SameK.refl _, fun k => k⟩
 | .box ss, .none, x, hd => by cases hd
 | .box ss, .gone, x, hd => by cases hd
 | .box ss, .row .., x, hd => by cases hd
 | .box ss, .ice .., x, hd => by cases hd
 | .box ss, .lock .., x, hd => by cases hd
 | .row .., .none, x, hd => by cases hd
 | .row .., .gone, x, hd => by cases hd
 | .row .., .box .., x, hd => by cases hd
 | .row .., .ice .., x, hd => by cases hd
 | .row .., .lock .., x, hd => by cases hd
 | .gone, .none, x, hd => by cases hd
 | .gone, .box .., x, hd => by cases hd
 | .gone, .row .., x, hd => by cases hd
 | .gone, .ice .., x, hd => by cases hd
 | .gone, .lock .., x, hd => by cases hd
 | .grid e d, .grid e' d' n none ll, x, hd => by
  simp only [OS.dec] at hd
  cases he : (Nat.beq e' e && (Nat.beq d' d && Nat.beq n 0)) with
  | true =>
   rw [he] at hd
   simp only [Bool.and_eq_true, Nat.beq_eq] at he
   obtain ⟨rfl, rfl, rfl⟩ := he
   simp at hd; subst hd
   exact ⟨SameK.refl _, fun k => k⟩
  | false => rw [he] at hd; cases hd
 | .grid .., .grid _ _ _ (some _) _, x, hd => by cases hd
 | .grid .., .none, x, hd => by cases hd
 | .grid .., .gone, x, hd => by cases hd
 | .grid .., .box .., x, hd => by cases hd
 | .grid .., .row .., x, hd => by cases hd
 | .grid .., .ice .., x, hd => by cases hd
 | .grid .., .lock .., x, hd => by cases hd
 | .box .., .grid .., x, hd => by cases hd
 | .row .., .grid .., x, hd => by cases hd
 | .gone, .grid .., x, hd => by cases hd
theorem ossdec_ok : ∀ {ss : List OS} {bs : List Ob} {x : osX ss}, osDec ss bs = some x → F2 Told bs (osEnc ss x)
 | [], [], x, hd => trivial
 | [], _ :: _, x, hd => by cases hd
 | _ :: _, [], x, hd => by cases hd
 | s :: r, l :: t, x, hd => by
  simp only [osDec, Option.bind_eq_some_iff, Option.some.injEq] at hd
  obtain ⟨x1, h1, x2, h2, rfl⟩ := hd
  exact ⟨osdec_ok h1, ossdec_ok h2⟩
theorem heapOf_told {bs bs' : List Ob} (k : F2 Told bs bs') (o : Nat) : Told (heapOf bs o) (heapOf bs' o) := by
 unfold heapOf
 cases h1 : bs[o]? with
 | none =>
  have : bs'[o]? = none := by rw [List.getElem?_eq_none_iff] at h1 ⊢; rw [← k.length]; exact h1
  rw [this]; exact ⟨SameK.refl _, fun k => k⟩
 | some b =>
  obtain ⟨b', h2, h3⟩ := k.get h1
  rw [h2]; exact h3
theorem osEnc_len : ∀ (ss : List OS) (x : osX ss), (osEnc ss x).length = ss.length
 | [], x => rfl
 | s :: r, x => by simp [osEnc, osEnc_len r x.2]
theorem Core.told (C : Core F α ok h w) (H : ∀ o, Told (h o) (h' o)) : Core F α ok h' w ∧ Stay w α ok h w α ok h' := by
 have S : Stay w α ok h w α ok h' := ⟨fun b hb => ⟨hb, rfl⟩, fun o => (H o).1.hle, fun _ _ => rfl, fun _ _ _ _ => rfl⟩
 have hI : ∀ o i g, Inn w (α o) (h' o) i g → Inn w (α o) (h o) i g := fun o i g k => by
  rcases (H o).1.or with e | ⟨x, y, e1, e2, _⟩
  ·rw [e]; exact k
  ·rw [e2] at k; exact k.elim
 have hex : ∀ o, (h' o).ex = (h o).ex := fun o => (H o).1.ex.symm
 refine ⟨⟨fun o => ?_, fun o o' b e1 e2 => C.sep o o' b (by rw [← hex]; exact e1) (by rw [← hex]; exact e2), fun o b e => C.sepok o b (by rw [← hex]; exact e), C.okb, fun k hk => ?_, fun o b hm e => C.fresh o b hm (by rw [← hex]; exact e), C.fr, C.tab, C.gr_of (Nat.le_refl _) hI (fun _ _ _ _ k => (C.gr k).2.2.1) (fun _ _ _ k x hx => (C.gr k).2.2.2.1 x (by rw [← hex]; exact hx))⟩, S⟩
 ·have := (C.ob o).stay S (fun g _ _ => rfl) (fun _ _ => rfl) (fun _ _ _ => rfl)
  exact (H o).2 this
 ·obtain ⟨p1, p2, p3, p4⟩ := C.par k hk
  refine ⟨p1, HLe.same (SameK.refl _) p2 (H k).1, fun ls hls hg => ?_, p4⟩
  have := p3 ls hls
  rcases (H k).1.or with e | ⟨x, y, e1, e2, _⟩
  ·rw [e] at this; exact this hg
  ·rw [e2] at hg; cases hg
theorem Core.told0 {P : Program} {tabs : List (Nat × Obj)} {w0 : World} {m : Nat} {α0 : Nat → Value} {h0 h0' : Heap} {ok0 : Nat → Prop} (C : Core ⟨P, tabs, w0, m, α0, h0, ok0⟩ α ok h w) (H : ∀ o, SameK (h0 o) (h0' o)) :
  Core ⟨P, tabs, w0, m, α0, h0', ok0⟩ α ok h w := by
 have hex : ∀ o, (h0' o).ex = (h0 o).ex := fun o => (H o).ex.symm
 refine ⟨C.ob, C.sep, C.sepok, fun b hb => ⟨(C.okb b hb).1, fun hlt => ?_⟩, fun k hk => ?_, fun o b hm e hb => ?_, ⟨C.fr.os, C.fr.tape, C.fr.output, C.fr.size, fun b hb hn => C.fr.block b hb fun k hk e => hn k hk (by rw [hex]; exact e), fun k ls g off cs e hk hls hα hc => ?_⟩, C.tab, fun k => by
  obtain ⟨b1, r⟩ := C.gr k
  exact ⟨fun hlt => by obtain ⟨k, h1, h2, h3⟩ := b1 hlt; exact ⟨k, h1, by rw [hex]; exact h2, h3⟩, r⟩⟩
 ·rcases (C.okb b hb).2 hlt with h1 | ⟨k, h1, h2, h3⟩
  ·exact .inl h1
  ·exact .inr ⟨k, h1, by rw [hex]; exact h2, h3⟩
 ·obtain ⟨p1, p2, p3, p4⟩ := C.par k hk
  simp only at p1 p2 p3 p4 ⊢
  refine ⟨p1, HLe.same (H k).symm p2 (SameK.refl _), fun ls hls => ?_, ?_⟩
  ·rcases (H k).or with e | ⟨x, y, e1, e2, _⟩
   ·exact p3 ls (by rw [e]; exact hls)
   ·exact p3 x e1
  ·rcases (H k).or with e | ⟨x, y, e1, e2, _⟩
   ·rw [← e]; exact p4
   ·rw [e2]; rfl
 ·rcases C.fresh o b hm e hb with h1 | ⟨k, h1, h2, h3⟩
  ·exact .inl h1
  ·exact .inr ⟨k, h1, by rw [hex]; exact h2, h3⟩
 ·simp only at hls
  rcases (H k).or with e' | ⟨x, y, e1, e2, hl⟩
  ·exact C.fr.part k ls g off cs e hk (by simp only; rw [e']; exact hls) hα hc
  ·rw [e2] at hls; simp at hls; subst hls
   have := C.fr.part k x g off cs e hk e1 hα hc
   rw [hl] at this
   exact this
end
/-! ### what a function's contract says -/
def RetR (w : World) (α : Nat → Value) (ok : Nat → Prop) (h : Heap) : List D → Value → Prop
 | [d], v => DR w α ok h d v
 | ds, v => ∃ vs : Array Value, v = .tuple vs ∧ F2 (DR w α ok h) ds vs.toList
def Fx.callee (F : Fx) (w : World) (m : Nat) (α : Nat → Value) (h : Heap) (ok : Nat → Prop) : Fx := ⟨F.P, F.tabs, w, m, α, h, ok⟩
def FOK (P : Program) (tabs : List (Nat × Obj)) (f : Nat) (fe : FE) : Prop :=
 (∀ args w, (callFunc f args).run P w = .ok (.enter f args) w) ∧
 ∀ (x : fe.sh.X) (y : fe.Y), fe.F x = some y → ∀ (w : World) (α : Nat → Value) (ok : Nat → Prop) (vals : List Value),
  Core ⟨P, tabs, w, fe.sh.os.length, α, heapOf (osEnc fe.sh.os x.2), ok⟩ α ok (heapOf (osEnc fe.sh.os x.2)) w →
  F2 (DR w α ok (heapOf (osEnc fe.sh.os x.2))) (dsEnc fe.sh.ds x.1) vals →
  Calls P f vals.toArray w fun e w' => ∃ v α' ok', e = .returned v ∧ Core ⟨P, tabs, w, fe.sh.os.length, α, heapOf (osEnc fe.sh.os x.2), ok⟩ α' ok' (heapOf (fe.enc x y).2) w' ∧
   RetR w' α' ok' (heapOf (fe.enc x y).2) (fe.enc x y).1 v
def EnvOK (P : Program) (tabs : List (Nat × Obj)) (E : Env) : Prop := (∀ g ks fe, E.C g ks = some fe → FOK P tabs g fe) ∧ ∀ g k zs, E.G g = some (k, zs) → TabHas tabs g k zs
end Go.VI
namespace Go.VI
open Go
section
variable {F : Fx} {α : Nat → Value} {ok : Nat → Prop} {h h' : Heap} {w : World}
theorem flat_ds : ∀ {ds : List D}, dsFlat ds = true → ∀ d ∈ ds, d.ls.all flatL = true
 | d :: r, hf, x, hx => by
  simp only [dsFlat, Bool.and_eq_true] at hf
  rcases List.mem_cons.1 hx with rfl | hx
  ·exact hf.1
  ·exact flat_ds hf.2 x hx
theorem backD_ok {tr : List Nat} {new : Nat} {w' : World} {α' α2 : Nat → Value} {ok' ok2 : Nat → Prop} {hc h2 : Heap} {R : Prop}
  (H : ∀ l v, (R ∨ flatL l = true) → LR w' α' ok' hc l v → LR w' α2 ok2 h2 (backL tr new l) v) {d : D} (hnt : ∀ ds, d ≠ .tup ds) (hR : R ∨ d.ls.all flatL = true) {v : Value} (k : DR w' α' ok' hc d v) : DR w' α2 ok2 h2 (backD tr new d) v := by
 cases d with
 | one l =>
  refine H l v ?_ k
  rcases hR with h1 | h1
  ·exact .inl h1
  ·simp [D.ls] at h1; exact .inr h1
 | agg ls =>
  obtain ⟨cs, rfl, k⟩ := k
  refine ⟨cs, rfl, ?_⟩
  show F2 _ (ls.map _) _
  rw [F2.map_left]
  refine F2.mono' (fun l hl u hu => H l u ?_ hu) k
  rcases hR with h1 | h1
  ·exact .inl h1
  ·simp only [D.ls, List.all_eq_true] at h1; exact .inr (h1 l hl)
 | tup ds => exact absurd rfl (hnt ds)
theorem tup_mapM {w : World} {α : Nat → Value} {ok : Nat → Prop} {h : Heap} : ∀ {ds : List D} {ps : List (Bool × List L)} {vs : List Value},
  ds.mapM D.part = some ps → F2 (DR w α ok h) ds vs → F2 (PartR w α ok h) ps vs
 | [], ps, vs, hm, k => by
  simp at hm; subst hm
  cases vs with
  | nil => trivial
  | cons => exact k.elim
 | d :: r, ps, vs, hm, k => by
  rw [List.mapM_cons] at hm
  simp only [Option.bind_eq_bind, Option.bind_eq_some_iff, Option.pure_def, Option.some.injEq] at hm
  obtain ⟨p, hp, r', hr, rfl⟩ := hm
  cases vs with
  | nil => exact k.elim
  | cons v vs =>
   refine ⟨?_, tup_mapM hr k.2⟩
   have k1 := k.1
   cases d with
   | one l => simp [D.part] at hp; subst hp; exact ⟨l, rfl, k1⟩
   | agg ls => simp [D.part] at hp; subst hp; exact k1
   | tup ds => simp [D.part] at hp
theorem tupD_ok {ds : List D} {d : D} {v : Value} (hg : (tupD ds).gives d) (k : RetR w α ok h ds v) : DR w α ok h d v := by
 match ds, k with
 | [], k =>
  simp only [tupD, NM.gives_bind, NM.gives_opt, NM.gives_pure] at hg
  obtain ⟨l, hl, rfl⟩ := hg
  obtain ⟨vs, rfl, k2⟩ := k
  exact ⟨vs, rfl, tup_mapM hl k2⟩
 | [x], k =>
  simp only [tupD, NM.gives_guard, NM.gives_pure] at hg
  obtain ⟨_, rfl⟩ := hg
  exact k
 | x :: y :: r, k =>
  simp only [tupD, NM.gives_bind, NM.gives_opt, NM.gives_pure] at hg
  obtain ⟨l, hl, rfl⟩ := hg
  obtain ⟨vs, rfl, k2⟩ := k
  exact ⟨vs, rfl, tup_mapM hl k2⟩
theorem noTup {f : D → D} (hf : ∀ ds, f (.tup ds) = .tup ds) : ∀ {ds : List D} {ps : List (Bool × List L)},
  (ds.map f).mapM D.part = some ps → ∀ d ∈ ds, ∀ xs, d ≠ .tup xs
 | [], ps, hm, d, hd => by cases hd
 | e :: r, ps, hm, d, hd => by
  rw [List.map_cons, List.mapM_cons] at hm
  simp only [Option.bind_eq_bind, Option.bind_eq_some_iff, Option.pure_def, Option.some.injEq] at hm
  obtain ⟨p, hp, r', hr, rfl⟩ := hm
  rcases List.mem_cons.1 hd with rfl | hd
  ·intro xs e; subst e; rw [hf] at hp; cases hp
  ·exact noTup hf hr d hd
theorem retR_back {tr : List Nat} {new : Nat} {w' : World} {α' α2 : Nat → Value} {ok' ok2 : Nat → Prop} {hc h2 : Heap} {R : Prop}
  (H : ∀ l v, (R ∨ flatL l = true) → LR w' α' ok' hc l v → LR w' α2 ok2 h2 (backL tr new l) v) {ds : List D} (hR : R ∨ dsFlat ds = true) {d : D} (hg : (tupD (ds.map (backD tr new))).gives d) {v : Value} (k : RetR w' α' ok' hc ds v) :
  DR w' α2 ok2 h2 d v := by
 have hR' : ∀ d ∈ ds, (R ∨ d.ls.all flatL = true) := fun d hd => hR.imp id fun h => flat_ds h d hd
 refine tupD_ok hg ?_
 clear hR
 match ds, hR', k with
 | [], _, k =>
  obtain ⟨vs, rfl, k2⟩ := k
  refine ⟨vs, rfl, ?_⟩
  show F2 _ [] _
  cases hv : vs.toList with
  | nil => trivial
  | cons => rw [hv] at k2; exact k2.elim
 | [x], hR', k =>
  refine backD_ok H (fun xs e => ?_) (hR' x (by simp)) k
  subst e
  simp [tupD, backD, D.part, NM.gives_guard] at hg
 | x :: y :: r, hR', k =>
  obtain ⟨vs, rfl, k2⟩ := k
  have hnt : ∀ d ∈ x :: y :: r, ∀ xs, d ≠ .tup xs := by
   simp only [List.map_cons, tupD, NM.gives_bind, NM.gives_opt, NM.gives_pure] at hg
   obtain ⟨l, hl, _⟩ := hg
   exact noTup (f := backD tr new) (fun ds => rfl) (ds := x :: y :: r) hl
  refine ⟨vs, rfl, ?_⟩
  show F2 _ (List.map (backD tr new) (x :: y :: r)) _
  rw [F2.map_left]
  exact F2.mono' (fun d hd u hu => backD_ok H (hnt d hd) (hR' d hd) hu) k2
end
end Go.VI
namespace Go.VI
open Go
section
variable {F : Fx} {α : Nat → Value} {ok : Nat → Prop} {h h' : Heap} {w : World}
theorem callK_ok {E : Env} {dst g : Nat} {fe : FE} {ts : List TypeId} {ds caps : List D} {vals cvals : List Value} {d : D} (C : Core F α ok h w) (hm : F.m ≤ 100) (K : FOK F.P F.tabs g fe)
  (S : F2 (DR w α ok h) ds vals) (S2 : F2 (DR w α ok h) caps cvals) (hg : (callK E dst fe ts ds caps h).gives (d, h')) :
  Calls F.P g (vals ++ cvals).toArray w fun e w' => ∃ v α' ok', e = .returned v ∧ Core F α' ok' h' w' ∧ Stay w α ok h w' α' ok' h' ∧ DR w' α' ok' h' d v := by
 have hid : F.m ≤ idOf dst := Nat.le_trans hm (by unfold idOf; omega)
 simp only [callK, NM.gives_bind, NM.gives_guard, NM.gives_opt, NM.gives_pure] at hg
 obtain ⟨⟨ds1, h1, ps, lent⟩, ha, ⟨ds2, obs, tr⟩, hp, hd, x, hx, y, hy, hs, h2, hb, h3, hbp, r, hr, he⟩ := hg
 simp only [Prod.mk.injEq] at he
 obtain ⟨rfl, rfl⟩ := he
 simp only at ha hp hd hx hy hs hb hbp hr
 simp only [Bool.and_eq_true, Nat.ble_eq, Bool.or_eq_true, Bool.not_eq_true', List.isEmpty_iff] at hd hs
 obtain ⟨d1, d2, d3, d4, d5⟩ := hd
 obtain ⟨⟨s1, _⟩, s2, s3⟩ := hs
 have d1 := disjointL_ok d1
 have d2 := disjointL_ok d2
 obtain ⟨α1, A, k1⟩ := argDs_ok C (by omega) ha d2 d3 S
 have k2 : F2 (DR w α1 (okLent ok w h1 α1 lent) h1) caps cvals := F2.mono (fun _ _ hr => (hr.stay A.stay).okmono (ok' := okLent ok w h1 α1 lent) fun b hb => Or.inl hb) S2
 obtain ⟨C0, k3, hl, hn, hal, Se⟩ := hand_over (okL := okLent ok w h1 α1 lent) (okc := okLent ok w h1 α1 lent) A.core hp (k1.append k2) (fun b hb => Or.inl hb) (fun b hb => hb) (fun b hb => by
   rcases hb with hb | ⟨o, ho, ⟨he, hb⟩ | ⟨i, hb⟩⟩
   ·exact (A.core.okb b hb).1
   ·exact A.core.lt he hb
   ·exact (A.core.gr hb).2.1) (fun o ho b he hb hk => by
   rcases hk with hk | ⟨o', ho', ⟨he', hb'⟩ | ⟨i, hb'⟩⟩
   rotate_right
   ·exact (A.core.gr hb').2.2.2.1 o he hb
   ·exact A.core.sepok o b he hb hk
   ·have := A.core.sep o o' b he he' hb hb'
    subst this
    exact d1 o ho' ho) d5
 simp only [Sh.dec, Option.bind_eq_some_iff, Option.some.injEq] at hx
 obtain ⟨x1, hx1, x2, hx2, rfl⟩ := hx
 have T := ossdec_ok hx2
 have hlen : tr.length = fe.sh.os.length := by rw [← hl, T.length, osEnc_len]
 rw [hlen] at C0
 obtain ⟨C1, S1⟩ := C0.told (heapOf_told T)
 have C1 := C1.told0 (h0' := heapOf (osEnc fe.sh.os x2)) (fun o => (heapOf_told T o).1)
 have k4 := dssdec_ok hx1 (F2.mono (fun _ _ hr => DR.stay S1 hr) k3)
 refine Calls.mono (K.2 (x1, x2) y hy w _ _ _ C1 k4) ?_
 rintro e w' ⟨v, α', ok', rfl, C2, kr⟩
 have C2 := C2.told0 (h0' := heapOf obs) (fun o => (heapOf_told T o).1.symm)
 rw [← hlen] at C2
 obtain ⟨α2, C3, S3, H3, un, ext⟩ := take_back (ret := fe.ret) A.core hid hl hn hal Se C2 (sepIds_ok s1) hb (fun hret b hb => by
   rcases d4 with d4 | d4
   ·rw [hret] at d4; cases d4
   ·subst d4
    rcases hb with hb | ⟨o, ho, _⟩
    ·exact hb
    ·cases ho) (fun hret => by
   rcases s2 with s2 | s2
   ·rw [hret] at s2; cases s2
   ·exact s2.2) s3
 have kd := retR_back (R := fe.ret = true) H3 (by
   rcases s2 with s2 | s2
   ·exact .inl s2
   ·exact .inr s2.1) hr kr
 cases ps with
 | nil =>
  simp only [backP, NM.gives_pure] at hbp
  subst hbp
  exact ⟨v, α2, _, rfl, C3, A.stay.trans S3, kd⟩
 | cons p r =>
  cases r with
  | cons => simp at d3
  | nil =>
   obtain ⟨g1, cap, cur, xs, P⟩ := A.parts p (by simp)
   simp only [backP] at hbp
   split at hbp
   ·rename_i ls hls
    simp only [NM.gives_guard, NM.gives_bind, NM.gives_opt, NM.gives_pure, Bool.and_eq_true, Nat.beq_eq, Nat.ble_eq] at hbp
    obtain ⟨⟨n1, n2⟩, ⟨ls', h4⟩, hsol, z, hz, rfl⟩ := hbp
    have hpo : p.o ∉ tr := fun hm => by have := hal _ hm; rw [P.lock] at this; cases this
    have hlock : h2 p.o = .lock p.c p.l := (un _ hpo (by rw [P.lock]; simp)).trans P.lock
    obtain ⟨ls0, hb0, hl0⟩ := P.box
    obtain ⟨cur', hc1, hc2, hc3⟩ := ext p.id ls0 g1 _ cur p.e hb0 P.ptr P.heap
    obtain ⟨ok3, C4, S4⟩ := core_merge C3 P hlock (S3.al _ (by rw [P.lock]; simp)) (S3.al _ (by rw [hb0]; simp)) (fun b hb => ⟨(S3.ok b hb).1, (S3.ok b hb).2⟩) hc1 hc2 (fun q hq => hc3 q (by rw [hl0]; exact hq)) hls n1 n2 hsol hz
    exact ⟨v, α2, ok3, rfl, C4, (A.stay.trans S3).trans S4, kd.stay S4⟩
   ·exact absurd hbp NM.gives_fail
end
end Go.VI
namespace Go.VI
open Go
section
variable {F : Fx} {α : Nat → Value} {ok : Nat → Prop} {h h' : Heap} {w : World} {s s' : List D} {a : Act}
theorem freezeDs_ok : ∀ {ds ds' : List D} {bs : List Bool} {h h' : Heap} {ok : Nat → Prop} {vs : List Value}, Core F α ok h w → (freezeDs h bs ds).gives (ds', h') → F2 (DR w α ok h) ds vs →
  ∃ ok', Core F α ok' h' w ∧ Stay w α ok h w α ok' h' ∧ F2 (DR w α ok' h') ds' vs
 | [], ds', bs, h, h', ok, vs, C, hg, k => by
  simp only [freezeDs, NM.gives_pure, Prod.mk.injEq] at hg
  obtain ⟨rfl, rfl⟩ := hg
  exact ⟨ok, C, .refl, k⟩
 | .one l :: r, ds', bs, h, h', ok, vs, C, hg, k => by
  cases vs with
  | nil => exact k.elim
  | cons v vs =>
   simp only [freezeDs, NM.gives_cond, NM.gives_bind, NM.gives_pure, Prod.mk.injEq] at hg
   rcases hg with ⟨_, ⟨l1, h1⟩, hl, ⟨r1, h2⟩, hr, rfl, rfl⟩ | ⟨_, ⟨r1, h2⟩, hr, rfl, rfl⟩
   ·obtain ⟨ok1, C1, s1, i1, k1⟩ := solid_ok C hl k.1
    obtain ⟨ok2, C2, s2, k2⟩ := freezeDs_ok C1 hr (F2.mono (fun _ _ hr => DR.stay s1 hr) k.2)
    exact ⟨ok2, C2, s1.trans s2, LR.stay s2 k1, k2⟩
   ·obtain ⟨ok2, C2, s2, k2⟩ := freezeDs_ok C hr k.2
    exact ⟨ok2, C2, s2, DR.stay s2 k.1, k2⟩
 | .agg l :: r, ds', bs, h, h', ok, vs, C, hg, k => by
  cases vs with
  | nil => exact k.elim
  | cons v vs =>
   simp only [freezeDs, NM.gives_cond, NM.gives_bind, NM.gives_pure, Prod.mk.injEq] at hg
   rcases hg with ⟨_, ⟨l1, h1⟩, hl, ⟨r1, h2⟩, hr, rfl, rfl⟩ | ⟨_, ⟨r1, h2⟩, hr, rfl, rfl⟩
   ·obtain ⟨cs, hv, k0⟩ := k.1
    obtain ⟨ok1, C1, s1, i1, k1⟩ := solids_ok C hl k0
    obtain ⟨ok2, C2, s2, k2⟩ := freezeDs_ok C1 hr (F2.mono (fun _ _ hr => DR.stay s1 hr) k.2)
    exact ⟨ok2, C2, s1.trans s2, DR.stay s2 (d := .agg l1) ⟨cs, hv, k1⟩, k2⟩
   ·obtain ⟨ok2, C2, s2, k2⟩ := freezeDs_ok C hr k.2
    exact ⟨ok2, C2, s2, DR.stay s2 k.1, k2⟩
 | .tup l :: r, ds', bs, h, h', ok, vs, C, hg, k => by
  simp only [freezeDs] at hg
  exact absurd hg NM.gives_fail
theorem opnds_ok (S : SR w α ok h s a) : ∀ {xs : List Operand} {ds : List D}, opnds s xs = some ds → F2 (DR w α ok h) ds (xs.map a.eval)
 | [], ds, hd => by simp [opnds] at hd; subst hd; trivial
 | x :: r, ds, hd => by
  unfold opnds at hd
  rw [List.mapM_cons] at hd
  simp only [Option.bind_eq_bind, Option.bind_eq_some_iff, Option.pure_def, Option.some.injEq] at hd
  obtain ⟨d, h1, ds1, h2, rfl⟩ := hd
  exact ⟨operand_ok S h1, opnds_ok S h2⟩
theorem caps_ok : ∀ {caps : List (Nat × Nat)} {vs : List Value}, F2 (fun (p : Nat × Nat) u => PtrR α h p.1 0 p.2 u) caps vs → F2 (DR w α ok h) (caps.map fun p => D.one (.ptr p.1 0 p.2)) vs
 | [], vs, k => by cases vs with | nil => trivial | cons => exact k.elim
 | c :: r, vs, k => by cases vs with | nil => exact k.elim | cons v vs => exact ⟨k.1, caps_ok k.2⟩
theorem SR.put (S : SR w α ok h s a) {d : D} {v : Value} (k : DR w α ok h d v) (dst : Option Tmp) : SR w α ok h (match dst with | some t => s.set t d | none => s) (a.put dst v) := by
 cases dst with
 | none => exact S
 | some t =>
  show F2 _ _ (a.tmps.setIfInBounds t v).toList
  rw [Array.toList_setIfInBounds]
  exact F2.set t S k
theorem run_call_value {P : Program} {o : Oper} {f : Operand} {args : Array Operand} {ts : Array TypeId} {g : FuncId} {vs : Array Value} (hop : o.op = .call { callee := .value f, args := args, argTypes := ts }) (hf : a.eval f = .func (.func g) #[] vs) (w : World) :
  (execOp a.eval o).run P w = (callFunc g (args.map a.eval ++ vs)).run P w := by
 unfold execOp
 simp [hop, resolve, Deferred.ofValue, invoke, hf]
theorem stepK_ok {E : Env} {o : Oper} (hT : tbOk F.P E.T = true) (hm : F.m ≤ 100) (hst : opSt E.T o.op = true) (hK : EnvOK F.P F.tabs E) (C : Core F α ok h w) (S : SR w α ok h s a)
  (hg : (stepK E o ⟨s, h⟩).gives ⟨s', h'⟩) {next : Act → World → Prop} {Q : Exit → Act → World → Prop}
  (hn : ∀ v w' α' ok', Core F α' ok' h' w' → Stay w α ok h w' α' ok' h' → SR w' α' ok' h' s' (a.put o.dst v) → next (a.put o.dst v) w') : o.wp F.P a w next Q := by
 by_cases hcv : ∃ f args ts, o.op = .call { callee := .value f, args := args, argTypes := ts }
 ·obtain ⟨f, args, ts, hop⟩ := hcv
  unfold stepK at hg
  rw [hop] at hg
  simp only [NM.gives_bind, NM.gives_opt] at hg
  obtain ⟨l, hl, hg⟩ := hg
  have kl := oL_ok S hl
  split at hg
  ·rename_i g caps
   obtain ⟨vs, hv, kc⟩ := kl
   split at hg
   ·exact absurd hg NM.gives_fail
   ·rename_i fe hfe
    simp only [NM.gives_bind, NM.gives_opt, NM.gives_cond, NM.gives_pure] at hg
    obtain ⟨ds, hds, ⟨ds', h1⟩, hfr, ⟨d, h2⟩, hc, he⟩ := hg
    simp only [St.mk.injEq] at he
    obtain ⟨rfl, rfl⟩ := he
    simp only at hfr hc
    have kds := opnds_ok S hds
    have hfz : ∃ ok1, Core F α ok1 h1 w ∧ Stay w α ok h w α ok1 h1 ∧ F2 (DR w α ok1 h1) ds' (args.toList.map a.eval) := by
     rcases hfr with ⟨_, hfr⟩ | ⟨_, hfr⟩
     ·exact freezeDs_ok C hfr kds
     ·simp only [Prod.mk.injEq] at hfr; obtain ⟨rfl, rfl⟩ := hfr
      exact ⟨ok, C, .refl, kds⟩
    obtain ⟨ok1, C1, S1, k1⟩ := hfz
    have K := hK.1 g _ fe hfe
    have kcaps : F2 (DR w α ok1 h1) (caps.map fun p => D.one (.ptr p.1 0 p.2)) vs.toList := caps_ok (F2.mono (fun _ _ hr => PtrR.stay S1 hr) kc)
    have hcall := callK_ok C1 hm K k1 kcaps hc
    unfold Oper.wp
    rw [run_call_value hop hv w, K.1]
    show Calls _ _ _ _ _
    have hargs : args.map a.eval ++ vs = (args.toList.map a.eval ++ vs.toList).toArray := by apply Array.ext'; simp
    rw [hargs]
    refine Calls.mono hcall ?_
    rintro e w' ⟨v, α', ok', rfl, C', S', kd⟩
    exact hn v w' α' ok' C' (S1.trans S') ((S.stay (S1.trans S')).put kd o.dst)
  ·exact absurd hg NM.gives_fail
 ·have hg' : ((opK E o ⟨s, h⟩).bind fun (d, h') => .pure (⟨match o.dst with | some t => s.set t d | none => s, h'⟩ : St)).gives ⟨s', h'⟩ := by
   unfold stepK at hg
   split at hg
   ·rename_i f args ts hop; exact absurd ⟨f, args, ts, hop⟩ hcv
   ·exact hg
  simp only [NM.gives_bind, NM.gives_pure] at hg'
  obtain ⟨⟨d, h1⟩, hop, he⟩ := hg'
  simp only [St.mk.injEq] at he
  obtain ⟨rfl, rfl⟩ := he
  have hcall : ∀ c, o.op = .call c → ∃ b, c.callee = .builtin b := by
   intro c hc
   obtain ⟨callee, args, ts⟩ := c
   cases callee with
   | value f => exact absurd ⟨f, args, ts, hc⟩ hcv
   | invoke r m => exfalso; simp only [opK, hc] at hop; exact absurd hop NM.gives_fail
   | builtin b => exact ⟨b, rfl⟩
  obtain ⟨nx, v, w', α', ok', hr, hnx, C', S', kd⟩ := opK_ok hK.2 hT hm hst hcall C S hop
  unfold Oper.wp
  rw [hr]
  have hgo := hn v w' α' ok' C' S' ((S.stay S').put kd o.dst)
  rcases hnx with rfl | ⟨rfl, rfl⟩
  ·exact hgo
  ·exact hgo
end
end Go.VI
namespace Go.VI
open Go
section
variable {F : Fx} {α : Nat → Value} {ok : Nat → Prop} {h h' : Heap} {w w' : World} {s s' : List D} {a : Act} {E : Env}
theorem Core.exP (C : Core F α ok h w) {k : Nat} (hk : k < F.m) {ls : List L} (hls : F.h0 k = .box ls) : ∃ ls', h k = .box ls' ∧ ls'.length = ls.length := by
 have h1 := (C.par k hk).2.1
 rw [hls] at h1
 exact h1.box ((C.par k hk).2.2.1 ls hls)
theorem Core.bnd (C : Core F α ok h w) {o b : Nat} (he : (h o).ex = true) (hb : blk (α o) = some b) : b < F.w0.heap.size → ∃ k, k < F.m ∧ (F.h0 k).ex = true ∧ blk (F.α0 k) = some b := fun hlt => by
 by_cases hom : F.m ≤ o
 ·rcases C.fresh o b hom he hb with hf | hf
  ·omega
  ·exact hf
 ·have hom : o < F.m := by omega
  exact ⟨o, hom, (C.par o hom).2.1.exb (C.par o hom).2.2.2 he, (C.par o hom).1 ▸ hb⟩
theorem Core.frB (C : Core F α ok h w) {g0 : Option Nat} (hB : ∀ k, k < w.heap.size → g0 ≠ some k → w'.heap[k]? = w.heap[k]?) (hs : w.heap.size ≤ w'.heap.size) (ho : w'.os = w.os) (ht : w'.tape = w.tape) (hu : w'.output = w.output)
  (h1 : ∀ b, g0 = some b → b < F.w0.heap.size → ∃ k, k < F.m ∧ (F.h0 k).ex = true ∧ blk (F.α0 k) = some b) (h2 : ∀ x ls b, h x = .box ls → g0 = some b → blk (α x) ≠ some b) : Fr F w' := by
 refine ⟨ho.trans C.fr.os, ht.trans C.fr.tape, hu.trans C.fr.output, Nat.le_trans C.fr.size hs, fun b hb hne => ?_, fun k ls g off cs e hk hls hα hc => ?_⟩
 ·rw [hB b (Nat.lt_of_lt_of_le hb C.fr.size) fun e => ?_]
  ·exact C.fr.block b hb hne
  ·obtain ⟨k, hk, h3, h4⟩ := h1 b e hb
   exact hne k hk h3 h4
 ·obtain ⟨cs', h5, h6, h7⟩ := C.fr.part k ls g off cs e hk hls hα hc
  obtain ⟨ls', hk', _⟩ := C.exP hk hls
  exact ⟨cs', (hB g (lt_of_heap h5) fun e => h2 k ls' g hk' e (by rw [(C.par k hk).1, hα]; rfl)).trans h5, h6, h7⟩
theorem Core.gpoke (C : Core F α ok h w) {o i g0 : Nat} {e d : TypeId} {v : Nat} {q : Option Nat} {ll ll' : List (List Int)} (ho : h o = .grid e d v q ll) (hl : ll'.length = ll.length) (hI : Inn w (α o) (h o) i g0)
  (hB : ∀ k, k ≠ g0 → w'.heap[k]? = w.heap[k]?) (hs : w'.heap.size = w.heap.size) (hos : w'.os = w.os) (ht : w'.tape = w.tape) (hu : w'.output = w.output)
  (hb : ObR w' α ok (upd h o (.grid e d v q ll')) o (.grid e d v q ll')) :
  Core F α ok (upd h o (.grid e d v q ll')) w' ∧ Stay w α ok h w' α ok (upd h o (.grid e d v q ll')) := by
 obtain ⟨g1, g2, g3, g4, g5⟩ := C.gr hI
 have hle : HLe (h o) (.grid e d v q ll') := by rw [ho]; exact ⟨rfl, rfl, Nat.le_refl _, hl.symm⟩
 have hex : ∀ x, (upd h o (.grid e d v q ll') x).ex = (h x).ex := fun x => by
  by_cases e' : x = o
  ·subst e'; rw [upd_same, ho]; rfl
  ·rw [upd_other e']
 have hout : ∀ x g, (h x).ex = true → blk (α x) = some g → w'.heap[g]? = w.heap[g]? := fun x g hx hg => hB g fun e' => g4 x hx (e' ▸ hg)
 have s : Stay w α ok h w' α ok (upd h o (.grid e d v q ll')) :=
  ⟨fun b hb => ⟨hb, hB b fun e' => g3 (e' ▸ hb)⟩, HLe.upd hle, fun _ _ => rfl, fun x g hv hg => hout x g (isGrid_ex (sameV_grid hv).1) hg⟩
 have hI' : ∀ x i' g, Inn w' (α x) (upd h o (.grid e d v q ll') x) i' g → Inn w (α x) (h x) i' g := fun x i' g k => by
  have hx : (h x).ex = true := by rw [← hex]; exact k.ex
  have k := (Inn.same fun g hg => hout x g hx hg).1 k
  by_cases e' : x = o
  ·subst e'; rw [upd_same] at k; rw [ho]
   simp only [Inn, hl] at k ⊢; exact k
  ·rwa [upd_other e'] at k
 refine ⟨⟨fun x => ?_, fun x y b h1 h2 => C.sep x y b (by rw [← hex]; exact h1) (by rw [← hex]; exact h2), fun x b h1 => C.sepok x b (by rw [← hex]; exact h1), fun b hb => by rw [hs]; exact C.okb b hb, fun k hk => ?_,
  fun x b hm h1 => C.fresh x b hm (by rw [← hex]; exact h1), C.frB (g0 := some g0) (fun k _ hk => hB k fun e' => hk (by rw [e'])) (Nat.le_of_eq hs.symm) hos ht hu (fun b e' => by cases e'; exact g1) (fun x ls b hx e' => by cases e'; exact g4 x (by rw [hx]; rfl)),
  fun p hp => ⟨(s.ok p.1 (C.tab p hp).2).2.trans (C.tab p hp).1, (C.tab p hp).2⟩, C.gr_of (Nat.le_of_eq hs.symm) hI' (fun _ _ _ _ k => (C.gr k).2.2.1) (fun _ _ _ k x hx => (C.gr k).2.2.2.1 x (by rw [← hex]; exact hx))⟩, s⟩
 ·by_cases e' : x = o
  ·subst e'; rw [upd_same]; exact hb
  ·rw [upd_other e']
   exact (C.ob x).stay s (fun g hx hg => hout x g hx hg) (fun _ _ => rfl) (fun i' g k => hB g fun e2 => e' (g5 x i' (e2 ▸ k)).1)
 ·refine ⟨(C.par k hk).1, (C.par k hk).2.1.trans (s.le k) fun hne => (C.par k hk).2.1.ne hne, fun ls hls => ?_, (C.par k hk).2.2.2⟩
  by_cases e' : k = o
  ·subst e'; rw [upd_same]; simp
  ·rw [upd_other e']; exact (C.par k hk).2.2.1 ls hls
theorem Core.push (C : Core F α ok h w) {o r i g0 : Nat} {e d : TypeId} {v : Nat} {q : Option Nat} {ll : List (List Int)} {zs : List Int} (ho : h o = .grid e d v q ll) (hr : h r = .row d i64 zs) (hi : i < ll.length) (hq : ∀ x, q = some x → x = i)
  (hg0 : blk (α o) = some g0) (hB : ∀ k, k ≠ g0 → w'.heap[k]? = w.heap[k]?) (hs : w'.heap.size = w.heap.size) (hos : w'.os = w.os) (ht : w'.tape = w.tape) (hu : w'.output = w.output)
  {hs' : List Value} (hown' : w'.ownsRow 0 e 1 (α o) ll.length hs') (hsi : hs'[i]? = some (α r)) (hsj : ∀ j u, j ≠ i → j < ll.length → hdr w (α o) j = some u → hs'[j]? = some u) :
  Core F α ok (upd (upd h r .gone) o (.grid e d (v + 1) none (ll.set i zs))) w' ∧ Stay w α ok h w' α ok (upd (upd h r .gone) o (.grid e d (v + 1) none (ll.set i zs))) := by
 have heo : (h o).ex = true := by rw [ho]; rfl
 have her : (h r).ex = true := by rw [hr]; rfl
 have hro : r ≠ o := fun e' => by rw [e', ho] at hr; cases hr
 have hval : ∀ x, upd (upd h r .gone) o (.grid e d (v + 1) none (ll.set i zs)) x = if x = o then .grid e d (v + 1) none (ll.set i zs) else if x = r then .gone else h x := fun x => by rw [upd_eq, upd_eq]
 have hex : ∀ x, (upd (upd h r .gone) o (.grid e d (v + 1) none (ll.set i zs)) x).ex = true → (h x).ex = true ∧ x ≠ r := fun x hx => by
  rw [hval] at hx
  split at hx
  ·rename_i e'; subst e'; exact ⟨heo, Ne.symm hro⟩
  ·split at hx
   ·cases hx
   ·rename_i e'; exact ⟨hx, e'⟩
 have hout : ∀ x g, x ≠ o → (h x).ex = true → blk (α x) = some g → w'.heap[g]? = w.heap[g]? := fun x g hxo hx hg => hB g fun e' => hxo (C.sep x o g hx heo hg (e' ▸ hg0))
 have hinn : ∀ x i' g, Inn w (α x) (h x) i' g → w'.heap[g]? = w.heap[g]? := fun x i' g k => hB g fun e' => (C.gr k).2.2.2.1 o heo (e' ▸ hg0)
 have s : Stay w α ok h w' α ok (upd (upd h r .gone) o (.grid e d (v + 1) none (ll.set i zs))) := by
  refine ⟨fun b hb => ⟨hb, hB b fun e' => C.sepok o g0 heo hg0 (e' ▸ hb)⟩, fun x => ?_, fun _ _ => rfl, fun x g hv hg => ?_⟩
  ·rw [hval]; split
   ·rename_i e'; rw [e', ho]; exact ⟨rfl, rfl, Nat.le_succ _, by simp⟩
   ·split
    ·cases h x <;> trivial
    ·exact .refl _
  ·have hxo : x ≠ o := fun e' => by
    rw [e', hval, if_pos rfl, ho] at hv
    simp only [sameV] at hv; omega
   exact hout x g hxo (isGrid_ex (sameV_grid hv).1) hg
 have hob := C.ob o
 rw [ho] at hob
 obtain ⟨hs0, hown, hrest⟩ := hob
 have hrow := C.ob r
 rw [hr] at hrow
 obtain ⟨xr, hownr, hrr⟩ := hrow
 have hI' : ∀ x i' g, Inn w' (α x) (upd (upd h r .gone) o (.grid e d (v + 1) none (ll.set i zs)) x) i' g → (x = o ∧ i' = i ∧ blk (α r) = some g) ∨ Inn w (α x) (h x) i' g := fun x i' g k => by
  by_cases e' : x = o
  ·subst e'
   rw [hval, if_pos rfl] at k
   obtain ⟨k1, _, u, k2, k3⟩ := k
   rw [List.length_set] at k1
   obtain ⟨u', hu1, hu2⟩ := ownsRow_get hown' k1
   rw [hu2] at k2; simp at k2; subst k2
   by_cases e2 : i' = i
   ·subst e2
    rw [hsi] at hu1; simp at hu1; subst hu1
    exact .inl ⟨rfl, rfl, k3⟩
   ·obtain ⟨u0, h1, h2⟩ := ownsRow_get hown k1
    rw [hsj i' u0 e2 k1 h2] at hu1; simp at hu1; subst hu1
    refine .inr ?_
    rw [ho]
    exact ⟨k1, fun e3 => e2 (hq i' e3), u0, h2, k3⟩
  ·have hx := (hex x k.ex)
   rw [hval, if_neg e', if_neg hx.2] at k
   exact .inr ((Inn.same fun g hg => hout x g e' hx.1 hg).1 k)
 refine ⟨⟨fun x => ?_, fun x y b h1 h2 => C.sep x y b (hex x h1).1 (hex y h2).1, fun x b h1 => C.sepok x b (hex x h1).1, fun b hb => by rw [hs]; exact C.okb b hb, fun k hk => ?_,
  fun x b hm h1 => C.fresh x b hm (hex x h1).1, C.frB (g0 := some g0) (fun k _ hk => hB k fun e' => hk (by rw [e'])) (Nat.le_of_eq hs.symm) hos ht hu (fun b e' => by cases e'; exact C.bnd heo hg0) (fun x ls b hx e' hb => by
   cases e'
   have := C.sep x o _ (by rw [hx]; rfl) heo hb hg0
   rw [this, ho] at hx; cases hx),
  fun p hp => ⟨(s.ok p.1 (C.tab p hp).2).2.trans (C.tab p hp).1, (C.tab p hp).2⟩, fun {x i' g} k => ?_⟩, s⟩
 ·rw [hval]; split
  ·rename_i e'; subst e'
   refine ⟨hs', by rw [List.length_set]; exact hown', fun j l hj _ => ?_⟩
   have hjl : j < ll.length := by have := (List.getElem?_eq_some_iff.1 hj).1; rwa [List.length_set] at this
   by_cases e2 : j = i
   ·subst e2
    rw [List.getElem?_set_self hjl] at hj; simp at hj; subst hj
    exact ⟨α r, xr, hsi, ownsRow_move hownr fun g hg => hout r g hro her hg, hrr.mono s.ok⟩
   ·rw [List.getElem?_set_ne (Ne.symm e2)] at hj
    have hqj : q ≠ some j := fun e3 => e2 (hq j e3)
    obtain ⟨u, xs, hu1, h1, h2⟩ := hrest j l hj hqj
    exact ⟨u, xs, hsj j u e2 hjl (ownsRow_hdr hown hu1), ownsRow_move h1 fun g hg => hinn x j g (by rw [ho]; exact ⟨hjl, hqj, u, ownsRow_hdr hown hu1, hg⟩), h2.mono s.ok⟩
  ·rename_i e'
   split
   ·trivial
   ·exact (C.ob x).stay s (fun g hx hg => hout x g e' hx hg) (fun _ _ => rfl) (fun i' g k => hinn x i' g k)
 ·refine ⟨(C.par k hk).1, (C.par k hk).2.1.trans (s.le k) fun hne => (C.par k hk).2.1.ne hne, fun ls hls => ?_, (C.par k hk).2.2.2⟩
  obtain ⟨ls', hk', _⟩ := C.exP hk hls
  rw [hval]; split
  ·simp
  ·split
   ·rename_i e'; rw [e', hr] at hk'; cases hk'
   ·rw [hk']; simp
 ·rcases hI' _ _ _ k with ⟨rfl, rfl, hg⟩ | k0
  ·refine ⟨C.bnd her hg, by rw [hs]; exact C.lt her hg, C.sepok r g her hg, fun y hy hyg => (hex y hy).2 (C.sep y r g (hex y hy).1 her hyg hg), fun o' i'' k' => ?_⟩
   rcases hI' _ _ _ k' with ⟨rfl, rfl, _⟩ | k2
   ·exact ⟨rfl, rfl⟩
   ·exact absurd hg ((C.gr k2).2.2.2.1 r her)
  ·obtain ⟨g1, g2, g3, g4, g5⟩ := C.gr k0
   refine ⟨g1, by rw [hs]; exact g2, g3, fun y hy => g4 y (hex y hy).1, fun o' i'' k' => ?_⟩
   rcases hI' _ _ _ k' with ⟨rfl, rfl, hg⟩ | k2
   ·exact absurd hg (g4 r her)
   ·exact g5 o' i'' k2
theorem Core.pull (C : Core F α ok h w) {o i id : Nat} {e d : TypeId} {v : Nat} {ll : List (List Int)} {l l' : List Int} {u v' : Value} (ho : h o = .grid e d v none ll) (hil : ll[i]? = some l) (hu0 : hdr w (α o) i = some u) (hid : h id = .none) (hm : F.m ≤ id)
  (hB : ∀ k, k < w.heap.size → blk u ≠ some k → w'.heap[k]? = w.heap[k]?) (hs : w.heap.size ≤ w'.heap.size) (hos : w'.os = w.os) (ht : w'.tape = w.tape) (hu : w'.output = w.output)
  (hv : ∀ g, blk v' = some g → w.heap.size ≤ g ∨ blk u = some g) (hb : ObR w' (setA α id v') ok (upd (upd h o (.grid e d v (some i) ll)) id (.row d i64 l')) id (.row d i64 l')) :
  Core F (setA α id v') ok (upd (upd h o (.grid e d v (some i) ll)) id (.row d i64 l')) w' ∧ Stay w α ok h w' (setA α id v') ok (upd (upd h o (.grid e d v (some i) ll)) id (.row d i64 l')) := by
 have heo : (h o).ex = true := by rw [ho]; rfl
 have hoid : o ≠ id := fun e' => by rw [e', hid] at ho; cases ho
 have hlt : i < ll.length := (List.getElem?_eq_some_iff.1 hil).1
 have hinn : ∀ g, blk u = some g → Inn w (α o) (h o) i g := fun g hg => by rw [ho]; exact ⟨hlt, by simp, u, hu0, hg⟩
 have hval : ∀ x, upd (upd h o (.grid e d v (some i) ll)) id (.row d i64 l') x = if x = id then .row d i64 l' else if x = o then .grid e d v (some i) ll else h x := fun x => by rw [upd_eq, upd_eq]
 have hex : ∀ x, x ≠ id → (upd (upd h o (.grid e d v (some i) ll)) id (.row d i64 l') x).ex = true → (h x).ex = true := fun x hx hx2 => by
  rw [hval, if_neg hx] at hx2
  split at hx2
  ·rename_i e'; subst e'; exact heo
  ·exact hx2
 have hout : ∀ x g, (h x).ex = true → blk (α x) = some g → w'.heap[g]? = w.heap[g]? := fun x g hx hg => hB g (C.lt hx hg) fun e' => (C.gr (hinn g e')).2.2.2.1 x hx hg
 have s : Stay w α ok h w' (setA α id v') ok (upd (upd h o (.grid e d v (some i) ll)) id (.row d i64 l')) := by
  refine ⟨fun b hb => ⟨hb, hB b (C.okb b hb).1 fun e' => (C.gr (hinn b e')).2.2.1 hb⟩, fun x => ?_, fun x hx => setA_other fun e' => hx (e' ▸ hid), fun x g hv hg => hout x g (isGrid_ex (sameV_grid hv).1) hg⟩
  rw [hval]; split
  ·rename_i e'; rw [e', hid]; trivial
  ·split
   ·rename_i e'; rw [e', ho]; exact ⟨rfl, rfl, Nat.le_refl _, rfl⟩
   ·exact .refl _
 have hI' : ∀ x i' g, Inn w' (setA α id v' x) (upd (upd h o (.grid e d v (some i) ll)) id (.row d i64 l') x) i' g → Inn w (α x) (h x) i' g ∧ ¬ (x = o ∧ i' = i) := fun x i' g k => by
  have hxi : x ≠ id := fun e' => by rw [e', hval, if_pos rfl] at k; exact k.elim
  have hx := hex x hxi k.ex
  rw [setA_other hxi] at k
  have k := (Inn.same fun g hg => hout x g hx hg).1 k
  rw [hval, if_neg hxi] at k
  by_cases e' : x = o
  ·subst e'
   rw [if_pos rfl] at k
   obtain ⟨k1, k2, k3⟩ := k
   rw [ho]
   exact ⟨⟨k1, by simp, k3⟩, fun hh => k2 (by rw [hh.2])⟩
  ·rw [if_neg e'] at k; exact ⟨k, fun hh => e' hh.1⟩
 refine ⟨⟨fun x => ?_, fun x y b h1 h2 h3 h4 => ?_, fun x b h1 h2 => ?_, fun b hb => ⟨Nat.lt_of_lt_of_le (C.okb b hb).1 hs, (C.okb b hb).2⟩, fun k hk => ?_, fun x b h1 h2 h3 => ?_,
  C.frB hB hs hos ht hu (fun b e' => (C.gr (hinn b e')).1) (fun x ls b hx e' => (C.gr (hinn b e')).2.2.2.1 x (by rw [hx]; rfl)), fun p hp => ⟨(s.ok p.1 (C.tab p hp).2).2.trans (C.tab p hp).1, (C.tab p hp).2⟩, fun {x i' g} k => ?_⟩, s⟩
 ·by_cases e1 : x = id
  ·subst e1; rw [upd_same]; exact hb
  ·rw [hval, if_neg e1]
   split
   ·rename_i e'; subst e'
    have hob := C.ob x
    rw [ho] at hob
    obtain ⟨hs0, hown, hrest⟩ := hob
    refine ⟨hs0, by rw [setA_other e1]; exact ownsRow_move hown fun g hg => hout x g heo hg, fun j l2 hj hne => ?_⟩
    obtain ⟨u2, xs, hu1, h1, h2⟩ := hrest j l2 hj (by simp)
    refine ⟨u2, xs, hu1, ownsRow_move h1 fun g hg => ?_, h2.mono s.ok⟩
    have k2 : Inn w (α x) (h x) j g := by rw [ho]; exact ⟨(List.getElem?_eq_some_iff.1 hj).1, by simp, u2, ownsRow_hdr hown hu1, hg⟩
    exact hB g (C.gr k2).2.1 fun e' => hne (by rw [((C.gr k2).2.2.2.2 _ _ (hinn g e')).2])
   ·rename_i e'
    exact (C.ob x).stay s (fun g hx hg => hout x g hx hg) (fun _ _ => setA_other e1) (fun i' g k => hB g (C.gr k).2.1 fun e2 => e' ((C.gr k).2.2.2.2 _ _ (hinn g e2)).1.symm)
 ·by_cases e1 : x = id <;> by_cases e2 : y = id
  ·rw [e1, e2]
  ·subst e1; rw [setA_same] at h3; rw [setA_other e2] at h4
   have h2 := hex y e2 h2
   rcases hv b h3 with h7 | h7
   ·have := C.lt h2 h4; omega
   ·exact absurd h4 ((C.gr (hinn b h7)).2.2.2.1 y h2)
  ·subst e2; rw [setA_same] at h4; rw [setA_other e1] at h3
   have h1 := hex x e1 h1
   rcases hv b h4 with h7 | h7
   ·have := C.lt h1 h3; omega
   ·exact absurd h3 ((C.gr (hinn b h7)).2.2.2.1 x h1)
  ·rw [setA_other e1] at h3; rw [setA_other e2] at h4
   exact C.sep x y b (hex x e1 h1) (hex y e2 h2) h3 h4
 ·by_cases e1 : x = id
  ·subst e1; rw [setA_same] at h2; intro hk
   rcases hv b h2 with h7 | h7
   ·have := (C.okb b hk).1; omega
   ·exact (C.gr (hinn b h7)).2.2.1 hk
  ·rw [setA_other e1] at h2; exact C.sepok x b (hex x e1 h1) h2
 ·have e1 : k ≠ id := by omega
  rw [setA_other e1]
  refine ⟨(C.par k hk).1, (C.par k hk).2.1.trans (s.le k) fun hne => (C.par k hk).2.1.ne hne, fun ls hls => ?_, (C.par k hk).2.2.2⟩
  rw [hval, if_neg e1]; split
  ·simp
  ·exact (C.par k hk).2.2.1 ls hls
 ·by_cases e1 : x = id
  ·subst e1; rw [setA_same] at h3
   rcases hv b h3 with h7 | h7
   ·exact .inl (Nat.le_trans C.fr.size h7)
   ·by_cases hlt : b < F.w0.heap.size
    ·exact .inr ((C.gr (hinn b h7)).1 hlt)
    ·exact .inl (by omega)
  ·rw [setA_other e1] at h3; exact C.fresh x b h1 (hex x e1 h2) h3
 ·obtain ⟨k0, hne⟩ := hI' _ _ _ k
  obtain ⟨g1, g2, g3, g4, g5⟩ := C.gr k0
  refine ⟨g1, Nat.lt_of_lt_of_le g2 hs, g3, fun y hy hyg => ?_, fun o' i'' k' => g5 o' i'' (hI' _ _ _ k').1⟩
  by_cases e1 : y = id
  ·subst e1; rw [setA_same] at hyg
   rcases hv g hyg with h7 | h7
   ·omega
   ·have := g5 _ _ (hinn g h7)
    exact hne ⟨this.1.symm, this.2.symm⟩
  ·rw [setA_other e1] at hyg
   exact g4 y (hex y e1 hy) hyg
theorem cellK_ok {Z : Type} {g i n : Nat} {k : TypeId → TypeId → List (List Int) → List Int → NM Z} {z : Z} (hg : (cellK h g i n k).gives z) :
  ∃ e d q ll, h g = .grid e d n q ll ∧ q ≠ some i ∧ i < ll.length ∧ ll[i]? = some (ll.getD i []) ∧ (k e d ll (ll.getD i [])).gives z := by
 unfold cellK at hg
 split at hg
 ·rename_i e d n' q ll hh
  simp only [NM.gives_guard, Bool.and_eq_true] at hg
  obtain ⟨⟨h1, h2, h3⟩, hk⟩ := hg
  have h1 := Nat.eq_of_beq_eq_true h1
  subst h1
  have h3 : i < ll.length := of_decide_eq_true h3
  refine ⟨e, d, q, ll, hh, ?_, h3, by simp [List.getD, List.getElem?_eq_getElem h3], hk⟩
  rintro rfl
  simp at h2
 ·exact absurd hg NM.gives_fail
theorem cell_at (C : Core F α ok h w) {g i : Nat} {e d : TypeId} {n : Nat} {q : Option Nat} {ll : List (List Int)} {l : List Int} (hh : h g = .grid e d n q ll) (hq : q ≠ some i) (hl : ll[i]? = some l) :
  ∃ hs u xs, w.ownsRow 0 e 1 (α g) ll.length hs ∧ hs[i]? = some u ∧ hdr w (α g) i = some u ∧ w.ownsRow 0 d 1 u l.length xs ∧ Rows w ok i64 l xs := by
 have hob := C.ob g
 rw [hh] at hob
 obtain ⟨hs, how, hr⟩ := hob
 obtain ⟨u, xs, hu, h1, h2⟩ := hr i l hl hq
 exact ⟨hs, u, xs, how, hu, ownsRow_hdr how hu, h1, h2⟩
theorem owns_some {e : TypeId} {size n : Nat} {v : Value} {xs : List Value} (k : w.ownsRow 0 e size v n xs) (hn : 0 < n) : ∃ g cap cur, v = .slice (some ⟨g, 0, none⟩) n cap ∧ w.heap[g]? = some (.cells cur e (0, 0)) ∧ n ≤ cap ∧ cap ≤ maxLen ∧ cur.size = cap * size ∧ cur.toList.take (n * size) = xs := by
 rcases k.2 with ⟨_, hz⟩ | ⟨g, cap, cur, hv, _, r⟩
 ·omega
 ·exact ⟨g, cap, cur, hv, r⟩
theorem owns_one {e : TypeId} {size n : Nat} {v : Value} {xs : List Value} (k : w.ownsRow 0 e size v n xs) : v.oneCell' = true := by
 rcases k.2 with ⟨rfl, _⟩ | ⟨g, cap, cur, rfl, _⟩ <;> rfl
theorem zEq_nil {c : TC} {cs : List Value} (hz : zEq (.list c) cs = true) : cs = [.slice none 0 0] := by
 unfold zEq at hz
 split at hz <;> simp_all
theorem flat_one (n : Nat) (v : Value) : (List.replicate n [v]).flatten = List.replicate n v := by
 induction n with
 | zero => rfl
 | succ n ih => rw [List.replicate_succ, List.flatten_cons, ih, List.replicate_succ]; rfl
theorem ints_get {zs : List Int} {xs : List Value} (k : Rows w ok i64 zs xs) {j : Nat} (hj : j < zs.length) : xs[j]? = some (.int .i64 (zs.getD j 0)) := by
 have : ∀ {zs : List Int} {xs : List Value} {j : Nat}, Rows w ok i64 zs xs → j < zs.length → xs[j]? = some (.int .i64 (zs.getD j 0)) := by
  intro zs
  induction zs with
  | nil => intro xs j _ hj; simp at hj
  | cons z r ih =>
   intro xs j k hj
   obtain ⟨c1, c2, rfl, h1, h2⟩ := k
   simp only [Rep] at h1
   subst h1
   cases j with
   | zero => rfl
   | succ j => simpa using ih h2 (by simpa using hj)
 exact this k hj
theorem ints_set {ok' : Nat → Prop} : ∀ {zs : List Int} {xs : List Value} {j : Nat} {z : Int}, Rows w ok i64 zs xs → Rows w' ok' i64 (zs.set j z) (xs.set j (.int .i64 z))
 | [], xs, j, z, k => by simp only [Rows] at k; subst k; cases j <;> rfl
 | y :: r, xs, j, z, k => by
  obtain ⟨c1, c2, rfl, h1, h2⟩ := k
  simp only [Rep] at h1
  subst h1
  cases j with
  | zero => exact ⟨[.int .i64 z], c2, rfl, rfl, h2.flat rfl⟩
  | succ j => exact ⟨[.int .i64 y], c2.set j (.int .i64 z), rfl, rfl, ints_set h2⟩
theorem g_make {o : Oper} {t : TypeId} {x y : Operand} (heq : o.op = .makeSlice t x y) (hT : tbOk F.P E.T = true) (hm : F.m ≤ 100) (C : Core F α ok h w) (S : SR w α ok h s a) {ti : TI} (hti : E.T.get t = some ti) {e : TypeId} (hk : ti.k = .slice e) {te : TI} (hte : E.T.get e = some te)
  {d : TypeId} (hc : te.code = some (.list i64)) {dst : Nat} {n : Int} (hn : oI s x = some n) {n' : Int} (hn' : oI s y = some n') (h1 : n = n') (h0 : 0 ≤ n) (hb : (te.bytes : Int) * n ≤ 281474976710656) (hb1 : 1 ≤ te.bytes) (hnone : h (idOf dst) = .none) :
  Done F o a α ok h w (.one (.own (idOf dst))) (upd h (idOf dst) (.grid e d 0 none (List.replicate n.toNat []))) := by
 subst h1
 have hu := (tb_get hT hti).slice hk
 obtain ⟨i, z, hi, hs, hbi, hz, hzl, hcd⟩ := (tb_get hT hte).info
 obtain ⟨k, hx⟩ := oI_ok S hn
 obtain ⟨k', hy⟩ := oI_ok S hn'
 have hnb : n ≤ 281474976710656 := by
  have : (1 : Int) * n ≤ (te.bytes : Int) * n := Int.mul_le_mul_of_nonneg_right (by omega) h0
  omega
 have hrun := run_make (P := F.P) w t e i z hu hi hz k k' n n h0 (Int.le_refl _) (by rw [hbi]; exact hb) (by omega)
 have hzc := zEq_nil (hcd _ hc).2
 have hsz : i.size = z.cells.size := by rw [hs, ← hzl]; simp
 rw [hsz] at hrun
 have hmc : madeCells z.cells (n.toNat * z.cells.size) = (List.replicate n.toNat (Value.slice none 0 0)).toArray := by
  apply Array.ext'; rw [madeCells_eq, hzc, flat_one]
 rw [hmc] at hrun
 have hB : ∀ q, q < w.heap.size → (w.alloc (.cells (List.replicate n.toNat (Value.slice none 0 0)).toArray e)).heap[q]? = w.heap[q]? := fun q hq => heap_alloc_old w _ q hq
 have hown : (w.alloc (.cells (List.replicate n.toNat (Value.slice none 0 0)).toArray e)).ownsRow 0 e 1 (.slice (some ⟨w.heap.size, 0, none⟩) n.toNat n.toNat) n.toNat (List.replicate n.toNat (Value.slice none 0 0)) :=
  ⟨by simp, .inr ⟨w.heap.size, n.toNat, _, rfl, Nat.zero_le _, heap_alloc_new w _, Nat.le_refl _, by simp [maxLen]; omega, by simp, by simp⟩⟩
 obtain ⟨C', s'⟩ := C.new (id := idOf dst) (v := .slice (some ⟨w.heap.size, 0, none⟩) n.toNat n.toNat) (b := .grid e d 0 none (List.replicate n.toNat [])) hnone (idOf_ge hm) hB (by simp) rfl rfl rfl (fun g hg => by simp [blk] at hg; omega) (by simp) (by
   refine ⟨_, by rw [setA_same, List.length_replicate]; exact hown, fun j l hj _ => ?_⟩
   obtain ⟨hj1, hj2⟩ := List.getElem?_eq_some_iff.1 hj
   rw [List.length_replicate] at hj1
   rw [List.getElem_replicate] at hj2
   subst hj2
   exact ⟨.slice none 0 0, [], by simp [hj1], World.ownsRow_nil _ _ _ _, rfl⟩) (by
   rintro j g ⟨k1, _, u, k2, k3⟩
   rw [List.length_replicate] at k1
   obtain ⟨u', hu1, hu2⟩ := ownsRow_get hown k1
   rw [hu2] at k2
   simp [k1] at hu1 k2
   subst hu1; subst k2
   simp [blk] at k3)
 refine ⟨_, .slice (some ⟨w.heap.size, 0, none⟩) n.toNat n.toNat, _, _, _, ?_, .inl rfl, C', s', ?_⟩
 ·simp [execOp, heq, hx, hy, hrun]
 ·simp [DR, LR, upd_same, setA_same, Value.oneCell']
theorem g_indexO {o : Oper} {t : TypeId} {x y : Operand} (heq : o.op = .indexAddr t x y) (hT : tbOk F.P E.T = true) (C : Core F α ok h w) (S : SR w α ok h s a) {g : Nat} (hx : oL s x = some (.own g)) {e d : TypeId} {v : Nat} {q : Option Nat} {ll : List (List Int)} (hh : h g = .grid e d v q ll)
  {ti : TI} (hti : E.T.get t = some ti) {e' : TypeId} (hk : ti.k = .slice e') {te : TI} (hte : E.T.get e' = some te) {n : Int} (hn : oI s y = some n) (h1 : te.size = 1) (h0 : 0 ≤ n) (hlt : n < (ll.length : Int)) :
  Done F o a α ok h w (.one (.ptr g n.toNat 0)) h := by
 have hu := (tb_get hT hti).slice hk
 have he := tb_get hT hte
 have hr := oL_ok S hx
 obtain ⟨k, hy⟩ := oI_ok S hn
 have hob := C.ob g
 simp only [LR, hh] at hr
 rw [hh] at hob
 obtain ⟨hs, how, _⟩ := hob
 obtain ⟨g', cap, cur, hv, _⟩ := owns_some how (by omega)
 have hrun : (execOp a.eval o).run F.P w = .ok (.value (.pointer (some ⟨g', 0 + n.toNat * te.size, none⟩))) w := by
  simp [execOp, heq, hr.2, hv, hy, run_indexAt_slice hu he h0 hlt]
 refine Done.of C hrun ?_
 simp only [DR, LR, PtrR, hh]
 exact ⟨⟨_, _, rfl⟩, by omega, g', 0, _, cap, hv, by rw [h1, Nat.add_zero]⟩
theorem g_indexI {o : Oper} {t : TypeId} {x y : Operand} (heq : o.op = .indexAddr t x y) (hT : tbOk F.P E.T = true) (C : Core F α ok h w) (S : SR w α ok h s a) {g i v : Nat} (hx : oL s x = some (.inn g i v)) {e d : TypeId} {q : Option Nat} {ll : List (List Int)} (hh : h g = .grid e d v q ll) (hq : q ≠ some i) {l : List Int} (hl : ll[i]? = some l)
  {ti : TI} (hti : E.T.get t = some ti) {e' : TypeId} (hk : ti.k = .slice e') {te : TI} (hte : E.T.get e' = some te) {n : Int} (hn : oI s y = some n) (h1 : te.size = 1) (h0 : 0 ≤ n) (hlt : n < (l.length : Int)) :
  Done F o a α ok h w (.one (.gp g i n.toNat v)) h := by
 have hu := (tb_get hT hti).slice hk
 have he := tb_get hT hte
 have hr := oL_ok S hx
 obtain ⟨k, hy⟩ := oI_ok S hn
 obtain ⟨hs, u, xs, how, hsi, hd, hown, hrow⟩ := cell_at C hh hq hl
 simp only [LR, hh] at hr
 have hux := hr.2.2 trivial
 rw [hd] at hux; simp at hux
 obtain ⟨g', cap, cur, hv, _⟩ := owns_some hown (by omega)
 have hrun : (execOp a.eval o).run F.P w = .ok (.value (.pointer (some ⟨g', 0 + n.toNat * te.size, none⟩))) w := by
  simp [execOp, heq, ← hux, hv, hy, run_indexAt_slice hu he h0 hlt]
 refine Done.of C hrun ?_
 simp only [DR, LR, hh]
 exact ⟨⟨_, _, rfl⟩, Nat.le_refl _, fun _ => ⟨u, hd, g', 0, _, cap, hv, by rw [h1, Nat.mul_one]⟩⟩
theorem g_loadP {o : Oper} {t : TypeId} {x : Operand} (heq : o.op = .load t x) (hT : tbOk F.P E.T = true) (C : Core F α ok h w) (S : SR w α ok h s a) {g i v : Nat} (hx : oL s x = some (.ptr g i 0)) {e d : TypeId} {q : Option Nat} {ll : List (List Int)} (hh : h g = .grid e d v q ll) (hq : q ≠ some i) {l : List Int} (hl : ll[i]? = some l)
  {ti : TI} (hti : E.T.get t = some ti) (h1 : ti.size = 1) (ha : ti.k.isAgg = false) : Done F o a α ok h w (.one (.inn g i v)) h := by
 have hr := oL_ok S hx
 obtain ⟨hs, u, xs, how, hsi, hd, hown, hrow⟩ := cell_at C hh hq hl
 simp only [LR, PtrR, hh] at hr
 obtain ⟨_, hi, g', off, m, kk, hα, hv⟩ := hr
 have hcell : w.cell? ⟨g', off + i, none⟩ = some u := by rw [hα] at hd; exact hd
 obtain ⟨v', hrun, hD⟩ := run_loadVar (w := w) (α := α) (ok := ok) (h := h) (tb_get hT hti) (g := g') (off := off + (i * 1 + 0)) (vs := [u]) (by rw [h1]; rfl) (fun j z hj => by
   match j, hj with
   | 0, hj => simp at hj; subst hj; simpa using hcell
   | j + 1, hj => simp at hj) (ls := [.inn g i v]) ⟨by simp only [LR, hh]; exact ⟨owns_one hown, Nat.le_refl _, fun _ => hd⟩, trivial⟩ (d := .one (.inn g i v)) (by rw [ha]; simp [mkD, NM.gives_pure])
 simp only [Nat.mul_one, Nat.add_zero, Nat.zero_add] at hrun
 exact Done.of C (v := v') (by simp only [execOp, heq, Instr.loadAt, hv, Instr.sureAddr]; simp [hrun]) hD
theorem g_loadG {o : Oper} {t : TypeId} {x : Operand} (heq : o.op = .load t x) (hT : tbOk F.P E.T = true) (C : Core F α ok h w) (S : SR w α ok h s a) {g i j v : Nat} (hx : oL s x = some (.gp g i j v)) {e d : TypeId} {q : Option Nat} {ll : List (List Int)} (hh : h g = .grid e d v q ll) (hq : q ≠ some i) {l : List Int} (hl : ll[i]? = some l) (hj : j < l.length)
  {ti : TI} (hti : E.T.get t = some ti) (h1 : ti.size = 1) (ha : ti.k.isAgg = false) : Done F o a α ok h w (.one (.pv i64 (l.getD j (0 : Int)))) h := by
 have hr := oL_ok S hx
 obtain ⟨hs, u, xs, how, hsi, hd, hown, hrow⟩ := cell_at C hh hq hl
 simp only [LR, hh] at hr
 obtain ⟨u', hu', g', off, m, kk, hα, hv⟩ := hr.2.2 trivial
 rw [hd] at hu'; simp at hu'; subst hu'
 obtain ⟨g2, cap, cur, hv2, hh2, hc1, hc2, hc3, ht⟩ := owns_some hown (by omega)
 rw [hv2] at hα; simp at hα
 obtain ⟨⟨rfl, rfl⟩, _, _⟩ := hα
 have hcell : w.cell? ⟨g2, 0 + j, none⟩ = some (.int .i64 (l.getD j 0)) := by
  rw [cell_of_row w g2 _ cur d (0, 0) hh2]
  have := ints_get hrow hj
  rw [← ht, List.getElem?_take] at this
  split at this
  ·simpa using this
  ·cases this
 obtain ⟨v', hrun, hD⟩ := run_loadVar (w := w) (α := α) (ok := ok) (h := h) (tb_get hT hti) (g := g2) (off := 0 + j) (vs := [.int .i64 (l.getD j 0)]) (by rw [h1]; rfl) (fun p z hp => by
   match p, hp with
   | 0, hp => simp at hp; subst hp; simpa using hcell
   | p + 1, hp => simp at hp) (ls := [.pv i64 (l.getD j (0 : Int))]) ⟨by simp [LR, Rep], trivial⟩ (d := .one (.pv i64 (l.getD j (0 : Int)))) (by rw [ha]; simp [mkD, NM.gives_pure])
 simp only [Nat.mul_one, Nat.add_zero, Nat.zero_add] at hrun
 exact Done.of C (v := v') (by simp only [execOp, heq, Instr.loadAt, hv, Instr.sureAddr]; simp [hrun]) hD
theorem set_mid (l : List Value) (i : Nat) (x : Value) (hi : i < l.length) : l.take i ++ [x] ++ l.drop (i + 1) = l.set i x := by
 rw [List.set_eq_take_append_cons_drop, if_pos hi]; simp
theorem owns_setRow {e : TypeId} {n : Nat} {g cap : Nat} {cur : Array Value} {xs : List Value} (hh : w.heap[g]? = some (.cells cur e (0, 0))) (hn : n ≤ cap) (hm : cap ≤ maxLen) (hc : cur.size = cap * 1) (ht : cur.toList.take (n * 1) = xs) {i : Nat} (hi : i < n) (x : Value) :
  (w.setRow g (cur.toList.take i ++ [x] ++ cur.toList.drop (i + 1)).toArray).ownsRow 0 e 1 (.slice (some ⟨g, 0, none⟩) n cap) n (xs.set i x) := by
 have hl : i < cur.toList.length := by rw [Array.length_toList, hc]; omega
 rw [set_mid _ _ _ hl]
 refine ⟨?_, .inr ⟨g, cap, _, rfl, Nat.zero_le _, setRow_heap w g cur _ e _ hh, hn, hm, by simp [hc], ?_⟩⟩
 ·rw [List.length_set, ← ht, List.length_take, Array.length_toList, hc]; omega
 ·rw [← ht]; simp [List.take_set]
theorem g_push {o : Oper} {t : TypeId} {x y : Operand} (heq : o.op = .store t x y) (hT : tbOk F.P E.T = true) (C : Core F α ok h w) (S : SR w α ok h s a) {g i v : Nat} (hx : oL s x = some (.ptr g i 0)) {e d : TypeId} {q : Option Nat} {ll : List (List Int)} (hh : h g = .grid e d v q ll)
  {r : Nat} {zs : List Int} (hy : oL s y = some (.own r)) (hr : h r = .row d i64 zs) (hq : ∀ p, q = some p → p = i) (hi : i < ll.length) {ti : TI} (hti : E.T.get t = some ti) (h1 : ti.size = 1) :
  Done F o a α ok h w (.one .skip) (upd (upd h r .gone) g (.grid e d (v + 1) none (ll.set i zs))) := by
 have kx := oL_ok S hx
 have ky := oL_ok S hy
 simp only [LR, PtrR, hh] at kx
 simp only [LR, hr] at ky
 obtain ⟨_, _, g', off, m, kk, hα, hv⟩ := kx
 have hob := C.ob g
 rw [hh] at hob
 obtain ⟨hs, how, _⟩ := hob
 obtain ⟨g2, cap, cur, hv2, hh2, hc1, hc2, hc3, ht⟩ := owns_some how (by omega)
 rw [hv2] at hα; simp at hα
 obtain ⟨⟨rfl, rfl⟩, _, _⟩ := hα
 have hrun := run_storeVar (w := w) (tb_get hT hti) (off := 0 + i) hh2 (v := a.eval y) (vs := [a.eval y]) (by rw [cells_one ky.1]) (by rw [h1]; rfl) (fun u hu => by simp at hu; subst hu; exact ky.1) (by rw [hc3]; simp; omega)
 simp only [Nat.zero_add, List.length_cons, List.length_nil] at hrun
 simp only [Nat.mul_one, Nat.add_zero, Nat.zero_add] at hv
 have hblk : blk (α g) = some g2 := by rw [hv2]; rfl
 have hown' := owns_setRow hh2 hc1 hc2 hc3 ht hi (a.eval y)
 rw [← hv2] at hown'
 obtain ⟨C', s'⟩ := C.push (w' := w.setRow g2 (cur.toList.take i ++ [a.eval y] ++ cur.toList.drop (i + 1)).toArray) hh hr hi hq hblk (fun k hk => setRow_other w g2 k _ hk) (heap_setRow_size _ _ _) rfl rfl rfl hown'
  (by rw [List.getElem?_set_self (by rw [how.1]; omega), ky.2]) (fun j u hj hjl hu => by
   obtain ⟨u', h3, h4⟩ := ownsRow_get how hjl
   rw [h4] at hu; simp at hu; subst hu
   rw [List.getElem?_set_ne (Ne.symm hj)]; exact h3)
 exact ⟨_, undef, _, α, ok, by simp [execOp, heq, Instr.storeAt, hv, Instr.sureAddr, hrun], .inr ⟨rfl, rfl⟩, C', s', rfl⟩
theorem g_poke {o : Oper} {t : TypeId} {x y : Operand} (heq : o.op = .store t x y) (hT : tbOk F.P E.T = true) (C : Core F α ok h w) (S : SR w α ok h s a) {g i j v : Nat} (hx : oL s x = some (.gp g i j v)) {e d : TypeId} {q : Option Nat} {ll : List (List Int)} (hh : h g = .grid e d v q ll) (hq : q ≠ some i)
  {l : List Int} (hl : ll[i]? = some l) (hj : j < l.length) {z : Int} (hy : oL s y = some (.pv i64 z)) {ti : TI} (hti : E.T.get t = some ti) (h1 : ti.size = 1) :
  Done F o a α ok h w (.one .skip) (upd h g (.grid e d v q (ll.set i (l.set j z)))) := by
 have kx := oL_ok S hx
 have ky := oL_ok S hy
 simp only [LR, hh] at kx
 simp only [LR, Rep, List.cons.injEq, and_true] at ky
 obtain ⟨hs, u, xs, how, hsi, hd, hown, hrow⟩ := cell_at C hh hq hl
 obtain ⟨u', hu', g', off, m, kk, hα, hv⟩ := kx.2.2 trivial
 rw [hd] at hu'; simp at hu'; subst hu'
 obtain ⟨g2, cap, cur, hv2, hh2, hc1, hc2, hc3, ht⟩ := owns_some hown (by omega)
 rw [hv2] at hα; simp at hα
 obtain ⟨⟨rfl, rfl⟩, _, _⟩ := hα
 have hrun := run_storeVar (w := w) (tb_get hT hti) (off := 0 + j) hh2 (v := a.eval y) (vs := [a.eval y]) (by rw [ky]; rfl) (by rw [h1]; rfl) (fun u hu => by simp at hu; subst hu; rw [ky]; rfl) (by rw [hc3]; simp; omega)
 simp only [Nat.zero_add, List.length_cons, List.length_nil] at hrun
 simp only [Nat.zero_add] at hv
 have hi : i < ll.length := (List.getElem?_eq_some_iff.1 hl).1
 have hI : Inn w (α g) (h g) i g2 := by rw [hh]; exact ⟨hi, hq, u, hd, by rw [hv2]; rfl⟩
 have hown' := owns_setRow hh2 hc1 hc2 hc3 ht hj (a.eval y)
 rw [← hv2] at hown'
 have hll : (ll.set i (l.set j z)).length = ll.length := by simp
 have hoth : ∀ k, k ≠ g2 → (w.setRow g2 (cur.toList.take j ++ [a.eval y] ++ cur.toList.drop (j + 1)).toArray).heap[k]? = w.heap[k]? := fun k hk => setRow_other w g2 k _ hk
 obtain ⟨C', s'⟩ := C.gpoke (w' := w.setRow g2 (cur.toList.take j ++ [a.eval y] ++ cur.toList.drop (j + 1)).toArray) hh hll hI hoth (heap_setRow_size _ _ _) rfl rfl rfl (by
  refine ⟨hs, by rw [hll]; exact ownsRow_move how fun b hb => hoth b fun e' => (C.gr hI).2.2.2.1 g (by rw [hh]; rfl) (e' ▸ hb), fun i' l' hl' hq' => ?_⟩
  by_cases e' : i' = i
  ·subst e'
   rw [List.getElem?_set_self hi] at hl'; simp at hl'; subst hl'
   refine ⟨u, _, hsi, by rw [List.length_set]; exact hown', ?_⟩
   rw [ky]; exact ints_set hrow
  ·rw [List.getElem?_set_ne (Ne.symm e')] at hl'
   obtain ⟨_, u2, xs2, _, hsi2, hd2, hown2, hrow2⟩ := cell_at C hh hq' hl'
   obtain ⟨hs2, u2, xs2, how2, hsi2, hd2, hown2, hrow2⟩ := cell_at C hh hq' hl'
   have hi2 : i' < ll.length := (List.getElem?_eq_some_iff.1 hl').1
   refine ⟨u2, xs2, ?_, ownsRow_move hown2 fun b hb => hoth b fun e2 => ?_, hrow2.flat rfl⟩
   ·obtain ⟨u3, h3, h4⟩ := ownsRow_get how hi2
    rw [hd2] at h4; simp at h4; subst h4; exact h3
   ·subst e2
    exact e' ((C.gr hI).2.2.2.2 g i' (by rw [hh]; exact ⟨hi2, hq', u2, hd2, hb⟩)).2)
 exact ⟨_, undef, _, α, ok, by simp [execOp, heq, Instr.storeAt, hv, Instr.sureAddr, hrun], .inr ⟨rfl, rfl⟩, C', s', rfl⟩
theorem len_owns {P : Program} {t ty e d : TypeId} {size n : Nat} {v : Value} {xs : List Value} (hown : w.ownsRow 0 d size v n xs) (hu : P.underlying t = some (.slice e)) : (Builtin.len_ #[t] ty #[v]).run P w = .ok (goInt n) w := by
 rcases hown.2 with ⟨rfl, rfl⟩ | ⟨g, cap, cur, rfl, _⟩ <;> simp [Builtin.len_, run_underlying hu]
theorem g_lenO {o : Oper} {x : Operand} {t : TypeId} (heq : o.op = .call ⟨.builtin .len, #[x], #[t]⟩) (hT : tbOk F.P E.T = true) (C : Core F α ok h w) (S : SR w α ok h s a) {g : Nat} (hx : oL s x = some (.own g)) {e d : TypeId} {v : Nat} {q : Option Nat} {ll : List (List Int)} (hh : h g = .grid e d v q ll)
  {ti : TI} (hti : E.T.get t = some ti) {e' : TypeId} (hk : ti.k = .slice e') : Done F o a α ok h w (.one (.pv i64 (ll.length : Int))) h := by
 have hr := oL_ok S hx
 simp only [LR, hh] at hr
 have hob := C.ob g
 rw [hh] at hob
 obtain ⟨hs, how, _⟩ := hob
 have := len_owns (ty := o.type) (P := F.P) how ((tb_get hT hti).slice hk)
 exact Done.of C (v := goInt ll.length) (by simp [execOp, heq, resolve, invoke, builtin, hr.2, this]) rfl
theorem g_lenI {o : Oper} {x : Operand} {t : TypeId} (heq : o.op = .call ⟨.builtin .len, #[x], #[t]⟩) (hT : tbOk F.P E.T = true) (C : Core F α ok h w) (S : SR w α ok h s a) {g i v : Nat} (hx : oL s x = some (.inn g i v)) {e d : TypeId} {q : Option Nat} {ll : List (List Int)} (hh : h g = .grid e d v q ll) (hq : q ≠ some i) {l : List Int} (hl : ll[i]? = some l)
  {ti : TI} (hti : E.T.get t = some ti) {e' : TypeId} (hk : ti.k = .slice e') : Done F o a α ok h w (.one (.pv i64 (l.length : Int))) h := by
 have hr := oL_ok S hx
 obtain ⟨hs, u, xs, how, hsi, hd, hown, hrow⟩ := cell_at C hh hq hl
 simp only [LR, hh] at hr
 have hux := hr.2.2 trivial
 rw [hd] at hux; simp at hux
 have := len_owns (ty := o.type) (P := F.P) hown ((tb_get hT hti).slice hk)
 exact Done.of C (v := goInt l.length) (by simp [execOp, heq, resolve, invoke, builtin, ← hux, this]) rfl
theorem g_append {o : Oper} {x y : Operand} {t : TypeId} (heq : o.op = .call ⟨.builtin .append, #[x, y], #[t, t]⟩) (hT : tbOk F.P E.T = true) (hm : F.m ≤ 100) (C : Core F α ok h w) (S : SR w α ok h s a) {g i v : Nat} (hx : oL s x = some (.inn g i v)) {e d : TypeId} {ll : List (List Int)} (hh : h g = .grid e d v none ll)
  {l : List Int} (hl : ll[i]? = some l) {ly : L} (hy : oL s y = some ly) {ys : List Int} (hys : rowOf h i64 ly = some ys) {ti : TI} (hti : E.T.get t = some ti) (hk : ti.k = .slice d) {te : TI} (hte : E.T.get d = some te) (hc : te.code = some i64) (hb1 : 1 ≤ te.bytes)
  (hbb : (l.length + ys.length) * te.bytes ≤ 140737488355328) {dst : Nat} (hn : upd h g (.grid e d v (some i) ll) (idOf dst) = .none) : Done F o a α ok h w (.one (.own (idOf dst))) (upd (upd h g (.grid e d v (some i) ll)) (idOf dst) (.row d i64 (l ++ ys))) := by
 have kx := oL_ok S hx
 have ky := oL_ok S hy
 have hu := (tb_get hT hti).slice hk
 have he := tb_get hT hte
 obtain ⟨hs, u, xs, how, hsi, hd, hown, hrow⟩ := cell_at C hh (by simp) hl
 simp only [LR, hh] at kx
 have hux := kx.2.2 trivial
 rw [hd] at hux; simp at hux
 have hnone : h (idOf dst) = .none := by
  rw [upd_eq] at hn
  split at hn
  ·cases hn
  ·exact hn
 obtain ⟨v', w', news, hrun, hr, hown', hg, hv⟩ := run_append_src (P := F.P) hu he hc hown (rowOf_ok C hys ky) hbb hb1 o.type
 have hB : ∀ k, k < w.heap.size → blk u ≠ some k → w'.heap[k]? = w.heap[k]? := fun k hk hk' => hg.block k hk (by rw [owns_blk hown]; exact fun e => hk' e.symm)
 have hi : i < ll.length := (List.getElem?_eq_some_iff.1 hl).1
 have hok : ∀ b, ok b → ok b ∧ w'.heap[b]? = w.heap[b]? := fun b hb => ⟨hb, hB b (C.okb b hb).1 fun e' => (C.gr (o := g) (i := i) (b := b) (by rw [hh]; exact ⟨hi, by simp, u, hd, e'⟩)).2.2.1 hb⟩
 obtain ⟨C', s'⟩ := C.pull (id := idOf dst) (l' := l ++ ys) (v' := v') hh hl hd hnone (idOf_ge hm) hB hg.size hg.os hg.tape hg.output hv ⟨xs ++ news, by rw [setA_same, List.length_append]; exact hown', (hrow.mono hok).append (hr.mono hok)⟩
 refine ⟨_, v', _, _, _, ?_, .inl rfl, C', s', ?_⟩
 ·simp [execOp, heq, resolve, invoke, builtin, ← hux, hrun]
 ·simp only [DR, LR, upd_same, setA_same]
  exact ⟨owns_one hown', trivial⟩
theorem gridK_ok {o : Oper} (hT : tbOk F.P E.T = true) (hm : F.m ≤ 100) (C : Core F α ok h w) (S : SR w α ok h s a) {m : NM (D × Heap)} (he : gridK E o ⟨s, h⟩ = some m) {d : D} (hg : m.gives (d, h')) : Done F o a α ok h w d h' := by
 unfold gridK at he
 simp only at he
 split at he
 ·rename_i t x y heq
  simp only [Option.bind_eq_some_iff] at he
  obtain ⟨ti, hti, he⟩ := he
  cases hi : (ti.ints && !ti.k.isAgg) with
  | false => rw [hi] at he; cases he
  | true =>
   rw [hi] at he
   simp only [cond_true, Option.some.injEq] at he
   subst he
   split at hg
   ·rename_i e hk
    simp only [NM.gives_bind, NM.gives_opt] at hg
    obtain ⟨te, hte, hg⟩ := hg
    split at hg
    ·simp only [NM.gives_bind, NM.gives_opt, NM.gives_guard, NM.gives_pure, Prod.mk.injEq, Bool.and_eq_true] at hg
     obtain ⟨td, htd, ⟨hc1, hc2⟩, dst, hdd, n, hn, n', hn', h1, h0, ⟨hb, hb1⟩, hh, hnew, rfl, rfl⟩ := hg
     obtain ⟨hnone, rfl⟩ := newOb_ok hnew
     exact g_make heq hT hm C S hti hk hte (of_decide_eq_true hc2) hn hn' (of_decide_eq_true h1) (of_decide_eq_true h0) (of_decide_eq_true hb) (Nat.le_of_ble_eq_true hb1) hnone
    ·exact absurd hg NM.gives_fail
   ·exact absurd hg NM.gives_fail
 ·rename_i t x y heq
  split at he
  ·rename_i g hx
   split at he
   ·rename_i e d' v q ll hh
    simp only [Option.some.injEq] at he
    subst he
    simp only [NM.gives_bind, NM.gives_opt] at hg
    obtain ⟨ti, hti, hg⟩ := hg
    split at hg
    ·rename_i e' hk
     simp only [NM.gives_bind, NM.gives_opt, NM.gives_guard, NM.gives_pure, Prod.mk.injEq] at hg
     obtain ⟨te, hte, n, hn, h1, h0, hlt, rfl, rfl⟩ := hg
     exact g_indexO heq hT C S hx hh hti hk hte hn (Nat.eq_of_beq_eq_true h1) (of_decide_eq_true h0) (of_decide_eq_true hlt)
    ·exact absurd hg NM.gives_fail
   ·cases he
  ·rename_i g i v hx
   simp only [Option.some.injEq] at he
   subst he
   simp only [NM.gives_bind, NM.gives_opt] at hg
   obtain ⟨ti, hti, hg⟩ := hg
   split at hg
   ·rename_i e' hk
    simp only [NM.gives_bind, NM.gives_opt, NM.gives_guard] at hg
    obtain ⟨te, hte, n, hn, h1, hg⟩ := hg
    obtain ⟨e, d', q, ll, hh, hq, hi, hl, hg⟩ := cellK_ok hg
    simp only [NM.gives_guard, NM.gives_pure, Prod.mk.injEq] at hg
    obtain ⟨h0, hlt, rfl, rfl⟩ := hg
    exact g_indexI heq hT C S hx hh hq hl hti hk hte hn (Nat.eq_of_beq_eq_true h1) (of_decide_eq_true h0) (of_decide_eq_true hlt)
   ·exact absurd hg NM.gives_fail
  ·cases he
 ·rename_i t x heq
  split at he
  ·rename_i g i j hx
   split at he
   ·rename_i e0 d0 v q0 ll0 hh0
    simp only [Option.some.injEq] at he
    subst he
    simp only [NM.gives_bind, NM.gives_opt, NM.gives_guard, Bool.and_eq_true, Bool.not_eq_true'] at hg
    obtain ⟨ti, hti, ⟨h1, hj, ha⟩, hg⟩ := hg
    obtain ⟨e, d', q, ll, hh, hq, hi, hl, hg⟩ := cellK_ok hg
    simp only [NM.gives_pure, Prod.mk.injEq] at hg
    obtain ⟨rfl, rfl⟩ := hg
    have hj := Nat.eq_of_beq_eq_true hj
    subst hj
    exact g_loadP heq hT C S hx hh hq hl hti (Nat.eq_of_beq_eq_true h1) ha
   ·cases he
  ·rename_i g i j v hx
   simp only [Option.some.injEq] at he
   subst he
   simp only [NM.gives_bind, NM.gives_opt, NM.gives_guard, Bool.and_eq_true, Bool.not_eq_true'] at hg
   obtain ⟨ti, hti, ⟨h1, ha⟩, hg⟩ := hg
   obtain ⟨e, d', q, ll, hh, hq, hi, hl, hg⟩ := cellK_ok hg
   simp only [NM.gives_guard, NM.gives_pure, Prod.mk.injEq] at hg
   obtain ⟨hj, rfl, rfl⟩ := hg
   exact g_loadG heq hT C S hx hh hq hl (of_decide_eq_true hj) hti (Nat.eq_of_beq_eq_true h1) ha
  ·cases he
 ·rename_i t x y heq
  split at he
  ·rename_i g i j hx
   split at he
   ·rename_i e d0 v q ll hh
    simp only [Option.some.injEq] at he
    subst he
    simp only [NM.gives_bind, NM.gives_opt, NM.gives_guard, Bool.and_eq_true] at hg
    obtain ⟨ti, hti, ⟨h1, hj⟩, hg⟩ := hg
    have hj := Nat.eq_of_beq_eq_true hj
    subst hj
    split at hg
    ·rename_i r hy
     split at hg
     ·rename_i d' zs hr
      simp only [NM.gives_guard, NM.gives_pure, Prod.mk.injEq, Bool.and_eq_true] at hg
      obtain ⟨⟨hd, hq, hi⟩, rfl, rfl⟩ := hg
      have hd := Nat.eq_of_beq_eq_true hd
      subst hd
      exact g_push heq hT C S hx hh hy hr (fun p hp => by subst hp; exact of_decide_eq_true hq) (of_decide_eq_true hi) hti (Nat.eq_of_beq_eq_true h1)
     ·exact absurd hg NM.gives_fail
    ·exact absurd hg NM.gives_fail
   ·cases he
  ·rename_i g i j v hx
   simp only [Option.some.injEq] at he
   subst he
   simp only [NM.gives_bind, NM.gives_opt, NM.gives_guard] at hg
   obtain ⟨ti, hti, h1, hg⟩ := hg
   split at hg
   ·rename_i z hy
    split at hg
    ·rename_i e0 d0 v0 q0 ll0 hh0
     obtain ⟨e, d', q, ll, hh, hq, hi, hl, hg⟩ := cellK_ok hg
     rw [hh0] at hh
     simp only [Ob.grid.injEq] at hh
     obtain ⟨rfl, rfl, rfl, rfl, rfl⟩ := hh
     simp only [NM.gives_guard, NM.gives_pure, Prod.mk.injEq] at hg
     obtain ⟨hj, rfl, rfl⟩ := hg
     exact g_poke heq hT C S hx hh0 hq hl (of_decide_eq_true hj) hy hti (Nat.eq_of_beq_eq_true h1)
    ·exact absurd hg NM.gives_fail
   ·exact absurd hg NM.gives_fail
  ·cases he
 ·rename_i args ts heq
  split at he
  ·rename_i x t hargs hts
   have ha : args = #[x] := Array.ext' hargs
   have ht : ts = #[t] := Array.ext' hts
   subst ha; subst ht
   split at he
   ·rename_i g hx
    split at he
    ·rename_i e d0 v q ll hh
     simp only [Option.some.injEq] at he
     subst he
     simp only [NM.gives_bind, NM.gives_opt] at hg
     obtain ⟨ti, hti, hg⟩ := hg
     split at hg
     ·rename_i e' hk
      simp only [NM.gives_pure, Prod.mk.injEq] at hg
      obtain ⟨rfl, rfl⟩ := hg
      exact g_lenO heq hT C S hx hh hti hk
     ·exact absurd hg NM.gives_fail
    ·cases he
   ·rename_i g i v hx
    simp only [Option.some.injEq] at he
    subst he
    simp only [NM.gives_bind, NM.gives_opt] at hg
    obtain ⟨ti, hti, hg⟩ := hg
    split at hg
    ·rename_i e' hk
     obtain ⟨e, d', q, ll, hh, hq, hi, hl, hg⟩ := cellK_ok hg
     simp only [NM.gives_pure, Prod.mk.injEq] at hg
     obtain ⟨rfl, rfl⟩ := hg
     exact g_lenI heq hT C S hx hh hq hl hti hk
    ·exact absurd hg NM.gives_fail
   ·cases he
  ·cases he
 ·rename_i args ts heq
  split at he
  ·rename_i x y t u hargs hts
   have ha : args = #[x, y] := Array.ext' hargs
   have ht : ts = #[t, u] := Array.ext' hts
   subst ha; subst ht
   split at he
   ·rename_i g i v hx
    simp only [Option.some.injEq] at he
    subst he
    simp only [NM.gives_bind, NM.gives_opt, NM.gives_guard] at hg
    obtain ⟨htu, ti, hti, hg⟩ := hg
    have htu := Nat.eq_of_beq_eq_true htu
    subst htu
    split at hg
    ·rename_i e' hk
     simp only [NM.gives_bind, NM.gives_opt, NM.gives_guard, Bool.and_eq_true] at hg
     obtain ⟨te, hte, dst, hdd, ly, hly, ys, hys, ⟨hb1, hc⟩, hg⟩ := hg
     obtain ⟨e, d', q, ll, hh, hq, hi, hl, hg2⟩ := cellK_ok hg
     clear hg
     rw [NM.gives_guard] at hg2
     obtain ⟨hd, hg⟩ := hg2
     have hd := Nat.eq_of_beq_eq_true hd
     subst hd
     split at hg
     ·rename_i e1 d1 v1 ll1 hh1
      rw [hh] at hh1
      simp only [Ob.grid.injEq] at hh1
      obtain ⟨rfl, rfl, rfl, rfl, rfl⟩ := hh1
      simp only [NM.gives_bind, NM.gives_guard, NM.gives_pure, Prod.mk.injEq] at hg
      obtain ⟨hbb, h2, hn, rfl, rfl⟩ := hg
      obtain ⟨hnone, rfl⟩ := newOb_ok hn
      exact g_append heq hT hm C S hx hh hl hly hys hti hk hte (of_decide_eq_true hc) (Nat.le_of_ble_eq_true hb1) (of_decide_eq_true hbb) hnone
     ·exact absurd hg NM.gives_fail
    ·exact absurd hg NM.gives_fail
   ·cases he
  ·cases he
 ·cases he
theorem stepM_ok {o : Oper} (hT : tbOk F.P E.T = true) (hm : F.m ≤ 100) (hst : opSt E.T o.op = true) (hK : EnvOK F.P F.tabs E) (C : Core F α ok h w) (S : SR w α ok h s a)
  (hg : (stepM E o ⟨s, h⟩).gives ⟨s', h'⟩) {next : Act → World → Prop} {Q : Exit → Act → World → Prop}
  (hn : ∀ v w' α' ok', Core F α' ok' h' w' → Stay w α ok h w' α' ok' h' → SR w' α' ok' h' s' (a.put o.dst v) → next (a.put o.dst v) w') : o.wp F.P a w next Q := by
 unfold stepM at hg
 split at hg
 ·rename_i m he
  simp only [NM.gives_bind, NM.gives_pure] at hg
  obtain ⟨⟨d, h1⟩, hop, hq⟩ := hg
  simp only [St.mk.injEq] at hq
  obtain ⟨rfl, rfl⟩ := hq
  obtain ⟨nx, v, w', α', ok', hr, hnx, C', S', kd⟩ := gridK_ok hT hm C S he hop
  unfold Oper.wp
  rw [hr]
  have hgo := hn v w' α' ok' C' S' ((S.stay S').put kd o.dst)
  rcases hnx with rfl | ⟨rfl, rfl⟩
  ·exact hgo
  ·exact hgo
 ·exact stepK_ok hT hm hst hK C S hg hn
end
end Go.VI
namespace Go.VI
open Go
section
variable {F : Fx} {α : Nat → Value} {ok : Nat → Prop} {h h' : Heap} {w : World} {s s' : List D} {a : Act} {E : Env}
theorem rows_ints : ∀ {zs : List Int}, Rows w ok (.int .i64) zs (zs.map (Value.int .i64))
 | [] => rfl
 | z :: r => ⟨[.int .i64 z], _, rfl, rfl, rows_ints⟩
theorem rows_ints_eq : ∀ {zs : List Int} {cs : List Value}, Rows w ok (.int .i64) zs cs → cs = zs.map (Value.int .i64)
 | [], cs, k => k
 | z :: r, cs, k => by
  obtain ⟨c1, c2, rfl, h1, h2⟩ := k
  simp only [Rep] at h1
  subst h1
  rw [rows_ints_eq h2]; rfl
theorem zI_eq : ∀ {cs : List Value}, zI cs = true → cs = (List.replicate cs.length (0 : Int)).map (Value.int .i64)
 | [], _ => rfl
 | v :: r, hz => by
  unfold zI at hz
  split at hz
  ·rename_i e; cases e
  ·rename_i n r' e
   simp only [List.cons.injEq] at e
   obtain ⟨rfl, rfl⟩ := e
   simp only [Bool.and_eq_true, decide_eq_true_eq] at hz
   obtain ⟨rfl, hz⟩ := hz
   have ih := zI_eq hz
   show Value.int .i64 0 :: r = _
   rw [List.length_cons, List.replicate_succ, List.map_cons, ← ih]
  ·cases hz
theorem wholeL_some {n : Nat} {l : L} {zs : List Int} (hg : (wholeL h n l).gives zs) : ∃ o e, l = .ptr o 0 0 ∧ h o = .row e (.int .i64) zs ∧ zs.length = n := by
 unfold wholeL at hg
 split at hg
 ·rename_i o i j
  split at hg
  ·rename_i e us hh
   simp only [NM.gives_guard, NM.gives_pure, Bool.and_eq_true] at hg
   obtain ⟨⟨h1, h2⟩, h3, rfl⟩ := hg
   have h1 := Nat.eq_of_beq_eq_true h1
   have h2 := Nat.eq_of_beq_eq_true h2
   have h3 := of_decide_eq_true h3
   subst h1 h2
   exact ⟨o, e, rfl, hh, by omega⟩
  ·exact absurd hg NM.gives_fail
 ·exact absurd hg NM.gives_fail
theorem whole_at (C : Core F α ok h w) {n : Nat} {l : L} {zs : List Int} (hg : (wholeL h n l).gives zs) {v : Value} (k : LR w α ok h l v) :
  ∃ g off, v = .pointer (some ⟨g, off, none⟩) ∧ zs.length = n ∧ ∀ (j : Nat) u, (zs.map (Value.int .i64))[j]? = some u → w.cell? ⟨g, off + j, none⟩ = some u := by
 obtain ⟨o, e, rfl, hh, hn⟩ := wholeL_some hg
 simp only [LR, PtrR, hh] at k
 obtain ⟨_, hi, g, off, m, kk, hα, rfl⟩ := k
 have hob := C.ob o
 rw [hh] at hob
 obtain ⟨xs, how, hr⟩ := hob
 rcases how.2 with ⟨hv, hz⟩ | ⟨g', cap, cur, hv, _, hc, _, _, _, ht⟩
 ·rw [hv] at hα; cases hα
 ·rw [hv] at hα; simp at hα; obtain ⟨⟨rfl, rfl⟩, rfl, rfl⟩ := hα
  refine ⟨g', 0 + (0 * (TC.int .i64).size + 0), rfl, hn, fun j u hu => ?_⟩
  rw [rows_ints_eq hr] at ht
  rw [cell_of_row w g' _ cur e (0, 0) hc]
  have h1 := hu
  rw [← ht, List.getElem?_take] at h1
  split at h1
  ·simpa using h1
  ·cases h1
theorem whole_load (hT : tbOk F.P E.T = true) (C : Core F α ok h w) {t : TypeId} {ti : TI} (hti : E.T.get t = some ti) (hi : (ti.ints && ti.k.isAgg) = true) {l : L} {zs : List Int} (hg : (wholeL h ti.size l).gives zs) {v : Value} (k : LR w α ok h l v) :
  ∃ g off, v = .pointer (some ⟨g, off, none⟩) ∧ (loadVar t ⟨g, off, none⟩).run F.P w = .ok (.agg (zs.map (Value.int .i64)).toArray) w := by
 obtain ⟨g, off, hv, hn, hc⟩ := whole_at C hg k
 have T := tb_get hT hti
 have ha : ti.k.isAgg = true := by
  simp only [Bool.and_eq_true] at hi
  exact hi.2
 have := run_loadCells_list (P := F.P) w ⟨g, off, none⟩ (zs.map (Value.int .i64)) (fun j u hj => by rw [Addr.add_lit]; exact hc j u hj)
 rw [List.length_map, hn] at this
 exact ⟨g, off, hv, by simp [loadVar, run_isAgg T, ha, run_size T, this]⟩
theorem storeW_ok (hT : tbOk F.P E.T = true) (C : Core F α ok h w) {t : TypeId} {ti : TI} (hti : E.T.get t = some ti) {zs : List Int} {l : L} (hg : (storeW h ti.size zs l).gives h') (h0 : 1 ≤ ti.size) {p : Value} (kp : LR w α ok h l p) :
  ∃ ad w', p = .pointer (some ad) ∧ (storeVar t ad (.agg (zs.map (Value.int .i64)).toArray)).run F.P w = .ok () w' ∧ Core F α ok h' w' ∧ Stay w α ok h w' α ok h' := by
 have T := tb_get hT hti
 unfold storeW at hg
 split at hg
 ·rename_i o i j
  split at hg
  ·rename_i e us hh
   simp only [NM.gives_guard, NM.gives_pure, Bool.and_eq_true] at hg
   obtain ⟨⟨h1, h2⟩, h3, h4, rfl⟩ := hg
   have h1 := Nat.eq_of_beq_eq_true h1
   have h2 := Nat.eq_of_beq_eq_true h2
   have h3 := of_decide_eq_true h3
   have h4 := of_decide_eq_true h4
   subst h1 h2
   have h3 : List.length (α := Int) us = ti.size := by omega
   have h4 : zs.length = ti.size := by omega
   simp only [LR, PtrR, hh] at kp
   obtain ⟨_, hi, g, off, m, kk, hα, rfl⟩ := kp
   have hob := C.ob o
   rw [hh] at hob
   obtain ⟨xs, how, hr⟩ := hob
   have hxs := rows_ints_eq hr
   rcases how.2 with ⟨hv, _⟩ | ⟨g', cap, cur, hv, hbase, hc, hnc, hcm, hcs, ht⟩
   ·rw [hv] at hα; cases hα
   ·rw [hv] at hα; simp at hα; obtain ⟨⟨rfl, rfl⟩, rfl, rfl⟩ := hα
    have hsz : (TC.int .i64).size = 1 := rfl
    rw [hsz, Nat.mul_one] at hcs ht
    have hn : (zs.map (Value.int .i64)).length = ti.size := by rw [List.length_map, h4]
    have hfit : 0 + (zs.map (Value.int .i64)).length ≤ cur.size := by rw [hn, hcs, ← h3]; omega
    have hrun := run_storeVar (w := w) T (off := 0) hc (v := .agg (zs.map (Value.int .i64)).toArray) (by simp [Value.cells]) hn (by intro u hu; simp at hu; obtain ⟨z, _, rfl⟩ := hu; rfl) hfit
    have hblk : blk (α o) = some g' := by rw [hv]; rfl
    simp only [List.take_zero, List.nil_append, Nat.zero_add] at hrun
    have hh2 := setRow_heap w g' cur (zs.map (Value.int .i64) ++ cur.toList.drop (zs.map (Value.int .i64)).length).toArray e _ hc
    have hpk := C.poke (o := o) (b := .row e (.int .i64) zs) (w' := w.setRow g' (zs.map (Value.int .i64) ++ cur.toList.drop (zs.map (Value.int .i64)).length).toArray)
     (by rw [hh]; rfl) (by rw [hh]; exact ⟨rfl, h3.trans h4.symm⟩) rfl rfl (fun k hk => setRow_other w g' k _ fun e => hk (by rw [hblk, e])) (heap_setRow_size _ _ _) rfl rfl rfl ?_ ?_
    ·exact ⟨_, _, rfl, hrun, hpk.1, hpk.2⟩
    ·have hlen : List.length (α := Int) zs = List.length (α := Int) us := h4.trans h3.symm
     refine ⟨zs.map (Value.int .i64), ⟨by rw [List.length_map, hsz, Nat.mul_one], .inr ⟨g', cap, _, ?_, hbase, hh2, ?_, hcm, ?_, ?_⟩⟩, rows_ints⟩
     ·exact hv.trans (by rw [show List.length (α := (TC.int IntKind.i64).α) zs = List.length (α := (TC.int IntKind.i64).α) us from hlen])
     ·exact Nat.le_trans (Nat.le_of_eq hlen) hnc
     ·rw [hsz, Nat.mul_one, ← hcs]; simp; simp at hfit; omega
     ·rw [hsz, Nat.mul_one]
      show (zs.map (Value.int .i64) ++ _).take zs.length = _
      exact List.take_left' (by rw [List.length_map])
    ·intro ls' g2 off' cs' e' h5 _ _
     rw [hh] at h5; cases h5
  ·exact absurd hg NM.gives_fail
 ·exact absurd hg NM.gives_fail
theorem arrK_ok {o : Oper} (hT : tbOk F.P E.T = true) (hm : F.m ≤ 100) (C : Core F α ok h w) (S : SR w α ok h s a) {m : NM (D × Heap)} (he : arrK E o ⟨s, h⟩ = some m) {d : D} (hg : m.gives (d, h')) :
  Done F o a α ok h w d h' := by
 unfold arrK at he
 split at he
 ·rename_i t heq
  simp only [Option.bind_eq_some_iff] at he
  obtain ⟨ti, hti, he⟩ := he
  have T := tb_get hT hti
  cases hi : (ti.ints && ti.k.isAgg) with
  | false => rw [hi] at he; cases he
  | true =>
   rw [hi] at he
   simp only [cond_true, Option.some.injEq] at he
   subst he
   simp only [NM.gives_bind, NM.gives_opt, NM.gives_pure, Prod.mk.injEq] at hg
   obtain ⟨dd, hdd, h1, hn, rfl, rfl⟩ := hg
   obtain ⟨hnone, rfl⟩ := newOb_ok hn
   obtain ⟨i, z, hi', hs, hb, hz, hzl, hc⟩ := T.info
   have hq := T.ints (by simp only [Bool.and_eq_true] at hi; exact hi.1)
   unfold intsOk at hq
   rw [hi, hi'] at hq
   simp only [Bool.not_true, Bool.false_or, Bool.and_eq_true, hz] at hq
   obtain ⟨⟨⟨_, h1⟩, h2⟩, h3⟩ := hq
   have h1 := Nat.le_of_ble_eq_true h1
   have h2 := Nat.le_of_ble_eq_true h2
   have hzc := zI_eq h3
   rw [hzl] at hzc
   have hrow : Rows w ok (.int .i64) (List.replicate ti.size (0 : Int)) z.cells.toList := by rw [hzc]; exact rows_ints
   obtain ⟨C', s'⟩ := new_row C (idOf_ge hm) hnone (e := t) hrow (by rw [List.length_replicate]; simp only [maxLen]; omega)
   refine ⟨_, .pointer (some ⟨w.heap.size, 0, none⟩), _, _, _, ?_, .inl rfl, C', s', ?_⟩
   ·simp [execOp, heq, Instr.alloc, zeroValue, typeInfo, hi', hz, newVar, newRow]
   ·simp only [DR, LR, PtrR, upd_same]
    exact ⟨⟨_, _, rfl⟩, by rw [List.length_replicate]; omega, w.heap.size, 0, (List.replicate ti.size (0 : Int)).length, (List.replicate ti.size (0 : Int)).length, setA_same _ _ _, by simp⟩
 ·rename_i t x heq
  simp only [Option.bind_eq_some_iff] at he
  obtain ⟨ti, hti, he⟩ := he
  cases hi : (ti.ints && ti.k.isAgg) with
  | false => rw [hi] at he; cases he
  | true =>
   rw [hi] at he
   simp only [cond_true, Option.some.injEq] at he
   subst he
   simp only [NM.gives_bind, NM.gives_opt, NM.gives_pure, Prod.mk.injEq] at hg
   obtain ⟨l, hl, zs, hz, rfl, rfl⟩ := hg
   obtain ⟨g, off, hv, hrun⟩ := whole_load hT C hti hi hz (oL_ok S hl)
   exact Done.of C (v := .agg (zs.map (Value.int .i64)).toArray) (by simp [execOp, heq, Instr.loadAt, hv, Instr.sureAddr, hrun]) rfl
 ·rename_i t x y heq
  split at he
  ·rename_i zs hzs
   simp only [Option.some.injEq] at he
   subst he
   have ky := oL_ok S hzs
   simp only [LR] at ky
   simp only [NM.gives_bind, NM.gives_opt, NM.gives_guard, NM.gives_pure, Prod.mk.injEq] at hg
   obtain ⟨ti, hti, l, hl, h0, h1, hs, rfl, rfl⟩ := hg
   obtain ⟨ad, w', hp, hrun, C', s'⟩ := storeW_ok hT C hti hs (Nat.le_of_ble_eq_true h0) (oL_ok S hl)
   exact ⟨_, undef, w', α, ok, by simp [execOp, heq, Instr.storeAt, hp, Instr.sureAddr, ky, hrun], .inr ⟨rfl, rfl⟩, C', s', rfl⟩
  ·cases he
 ·rename_i t x y heq
  split at he
  ·rename_i zs hzs
   simp only [Option.some.injEq] at he
   subst he
   have kx := oL_ok S hzs
   simp only [LR] at kx
   simp only [NM.gives_bind, NM.gives_opt] at hg
   obtain ⟨ti, hti, hg⟩ := hg
   split at hg
   ·rename_i kk e hk
    have hu := (tb_get hT hti).arr hk
    simp only [NM.gives_bind, NM.gives_opt, NM.gives_guard] at hg
    obtain ⟨te, hte, n, hn, h0, h1, hg⟩ := hg
    have h0 : (0 : Int) ≤ n := of_decide_eq_true h0
    have h1 : n < (kk : Int) := of_decide_eq_true h1
    obtain ⟨ki, hy⟩ := oI_ok S hn
    have Te := tb_get hT hte
    cases hag : te.k.isAgg with
    | true =>
     rw [hag] at hg
     simp only [cond_true, NM.gives_guard, NM.gives_pure, Prod.mk.injEq] at hg
     obtain ⟨hle, rfl, rfl⟩ := hg
     have hrun : (part e (zs.map (Value.int .i64)).toArray (n.toNat * te.size)).run F.P w = .ok (.agg (((zs.drop (n.toNat * te.size)).take te.size).map (Value.int .i64)).toArray) w := by
      simp [part, run_isAgg Te, hag, run_size Te]
     exact Done.of C (v := .agg (((zs.drop (n.toNat * te.size)).take te.size).map (Value.int .i64)).toArray)
      (by simp only [execOp, heq, kx, hy, Instr.index, asIntOf, Sem.run_bind, Sem.run_pure, Result.andThen_ok, run_underlying hu, if_pos (And.intro h0 h1), run_size Te, hrun]) rfl
    | false =>
     rw [hag] at hg
     simp only [cond_false, NM.gives_guard, NM.gives_pure, Prod.mk.injEq] at hg
     obtain ⟨hlt, rfl, rfl⟩ := hg
     have hlt : n.toNat < zs.length := by have := of_decide_eq_true hlt; omega
     have h1s := Te.one hag
     have hget : (zs.map (Value.int .i64)).toArray[n.toNat * te.size]? = some (.int .i64 (zs.getD n.toNat 0)) := by
      rw [h1s, Nat.mul_one]
      simp [List.getD, List.getElem?_eq_getElem hlt]
     have hrun : (part e (zs.map (Value.int .i64)).toArray (n.toNat * te.size)).run F.P w = .ok (.int .i64 (zs.getD n.toNat 0)) w := by
      unfold part
      rw [Sem.run_bind, run_isAgg Te, hag, Result.andThen_ok]
      simp only [Bool.false_eq_true, if_false, hget]
      rfl
     exact Done.of C (v := .int .i64 (zs.getD n.toNat 0))
      (by simp only [execOp, heq, kx, hy, Instr.index, asIntOf, Sem.run_bind, Sem.run_pure, Result.andThen_ok, run_underlying hu, if_pos (And.intro h0 h1), run_size Te, hrun]) (by simp [DR, LR, Rep])
   ·exact absurd hg NM.gives_fail
  ·cases he
 ·cases he
theorem stepA_ok {o : Oper} (hT : tbOk F.P E.T = true) (hm : F.m ≤ 100) (hst : opSt E.T o.op = true) (hK : EnvOK F.P F.tabs E) (C : Core F α ok h w) (S : SR w α ok h s a)
  (hg : (stepA E o ⟨s, h⟩).gives ⟨s', h'⟩) {next : Act → World → Prop} {Q : Exit → Act → World → Prop}
  (hn : ∀ v w' α' ok', Core F α' ok' h' w' → Stay w α ok h w' α' ok' h' → SR w' α' ok' h' s' (a.put o.dst v) → next (a.put o.dst v) w') : o.wp F.P a w next Q := by
 unfold stepA at hg
 split at hg
 ·rename_i m he
  simp only [NM.gives_bind, NM.gives_pure] at hg
  obtain ⟨⟨d, h1⟩, hop, hq⟩ := hg
  simp only [St.mk.injEq] at hq
  obtain ⟨rfl, rfl⟩ := hq
  obtain ⟨nx, v, w', α', ok', hr, hnx, C', S', kd⟩ := arrK_ok hT hm C S he hop
  unfold Oper.wp
  rw [hr]
  have hgo := hn v w' α' ok' C' S' ((S.stay S').put kd o.dst)
  rcases hnx with rfl | ⟨rfl, rfl⟩
  ·exact hgo
  ·exact hgo
 ·exact stepM_ok hT hm hst hK C S hg hn
end
end Go.VI
namespace Go.VI
open Go
section
variable {F : Fx} {α : Nat → Value} {ok : Nat → Prop} {h h' : Heap} {w : World} {s s' : List D} {a : Act}
theorem SameP.k' {a b : Ob} (ha : a.isGrid = false) (h : SameP a b) : SameK a b := by
 cases a <;> cases b <;> simp_all [SameP, SameK, Ob.isGrid]
theorem HLe.noGrid {a b : Ob} (hp : a.parOk = true) (h : HLe a b) : b.isGrid = false := by
 cases a <;> cases b <;> simp_all [HLe, Ob.parOk, Ob.isGrid]
theorem packed_inn {tr : List Nat} {obs : List Ob} (hl : obs.length = tr.length) (hp : ∀ (k : Nat) o, tr[k]? = some o → ∃ b, obs[k]? = some b ∧ PackedOb w h α ok tr o b) {k i g : Nat} (hI : Inn w (alphaOf α tr k) (heapOf obs k) i g) :
  ∃ o, tr[k]? = some o ∧ Inn w (α o) (h o) i g := by
 obtain ⟨o, ho, _⟩ := packed_ex hl hp hI.ex
 obtain ⟨s1, s2⟩ := packed_seat hp k o ho
 refine ⟨o, ho, ?_⟩
 rw [s2] at hI
 obtain ⟨e, d, n, q, ll, hb⟩ := hI.grid
 rw [hb] at s1 hI
 cases hh : h o <;> rw [hh] at s1 <;> simp only [SameP, reduceCtorEq] at s1
 obtain ⟨_, _, rfl, rfl, rfl⟩ := s1; exact hI
theorem repack (C : Core F α ok h w) {tr : List Nat} {ds ds' : List D} {obs : List Ob} (hg : (pack h (List.range F.m) ds).gives (ds', obs, tr)) :
  Core F (alphaOf α tr) ok (heapOf obs) w ∧ ∀ {vals : List Value}, F2 (DR w α ok h) ds vals → F2 (DR w (alphaOf α tr) ok (heapOf obs)) ds' vals := by
 obtain ⟨hl, hn, ⟨e, he, hal⟩, hp, kk⟩ := pack_ok (α := α) (ok := ok) (w := w) hg List.nodup_range
 have Se := packed_seat hp
 have hlow : ∀ k, k < F.m → tr[k]? = some k := fun k hk => by
  rw [he, List.getElem?_append_left (by simpa using hk)]; simp [hk]
 refine ⟨⟨fun k => packed_obR C (fun b hb => hb) hl hp k, fun k k' b e1 e2 b1 b2 => ?_, fun k b e1 b1 => ?_, C.okb, fun k hk => ?_, fun k b hk e1 b1 => ?_, C.fr, C.tab, fun {k i g} hI => ?_⟩, fun S => kk Se (fun b hb => hb) S⟩
 ·obtain ⟨o, ho, ho2⟩ := packed_ex hl hp e1
  obtain ⟨o', ho', ho2'⟩ := packed_ex hl hp e2
  rw [(Se k o ho).2] at b1; rw [(Se k' o' ho').2] at b2
  have := C.sep o o' b ho2 ho2' b1 b2
  subst this
  exact (List.getElem?_inj (List.getElem?_eq_some_iff.1 ho).1 hn).1 (ho.trans ho'.symm)
 ·obtain ⟨o, ho, ho2⟩ := packed_ex hl hp e1
  rw [(Se k o ho).2] at b1
  exact C.sepok o b ho2 b1
 ·obtain ⟨p1, p2, p3, p4⟩ := C.par k hk
  obtain ⟨s1, s2⟩ := Se k k (hlow k hk)
  have s1 := s1.k' (p2.noGrid p4)
  refine ⟨s2.trans p1, HLe.same (SameK.refl _) p2 s1, fun ls hls hg => ?_, p4⟩
  rcases s1.or with e' | ⟨x, y, e1, e2, _⟩
  ·exact p3 ls hls (by rw [e']; exact hg)
  ·rw [e2] at hg; cases hg
 ·obtain ⟨o, ho, ho2⟩ := packed_ex hl hp e1
  rw [(Se k o ho).2] at b1
  refine C.fresh o b ?_ ho2 b1
  rcases Nat.lt_or_ge o F.m with hlt | hge
  ·exfalso
   have h1 := hlow o hlt
   have := (List.getElem?_inj (List.getElem?_eq_some_iff.1 ho).1 hn).1 (ho.trans h1.symm)
   omega
  ·exact hge
 ·obtain ⟨o, ho, k1⟩ := packed_inn hl hp hI
  obtain ⟨g1, g2, g3, g4, g5⟩ := C.gr k1
  refine ⟨g1, g2, g3, fun x hx hxg => ?_, fun o' i' hI' => ?_⟩
  ·obtain ⟨y, hy, hy2⟩ := packed_ex hl hp hx
   rw [(Se x y hy).2] at hxg
   exact g4 y hy2 hxg
  ·obtain ⟨y, hy, k2⟩ := packed_inn hl hp hI'
   obtain ⟨e1, e2⟩ := g5 y i' k2
   subst e1
   exact ⟨(List.getElem?_inj (List.getElem?_eq_some_iff.1 hy).1 hn).1 (hy.trans ho.symm), e2⟩
theorem pick_ok (S : SR w α ok h s a) : ∀ {live : List Nat} {ds : List D}, pick s live = some ds → F2 (DR w α ok h) ds (live.map fun t => a.tmps.getD t undef)
 | [], ds, hp => by simp [pick] at hp; subst hp; trivial
 | t :: r, ds, hp => by
  simp only [pick, Option.bind_eq_some_iff, Option.some.injEq] at hp
  obtain ⟨d, hd, ds1, hr, rfl⟩ := hp
  obtain ⟨v, hv, k⟩ := F2.get S hd
  refine ⟨?_, pick_ok S hr⟩
  have : a.tmps[t]? = some v := by simpa using hv
  simpa [this] using k
theorem lay_ok : ∀ {live : List Nat} {ds s : List D}, F2 (DR w α ok h) ds (live.map fun t => a.tmps.getD t undef) → SR w α ok h s a → SR w α ok h (lay live ds s) a
 | [], [], s, k, S => S
 | [], _ :: _, s, k, S => k.elim
 | _ :: _, [], s, k, S => k.elim
 | t :: r, d :: ds, s, k, S => by
  simp only [lay]
  refine lay_ok k.2 ?_
  have hS := F2.set t S k.1
  have : a.tmps.toList.set t (a.tmps.getD t undef) = a.tmps.toList := by
   apply List.ext_getElem?
   intro i
   rw [List.getElem?_set]
   split
   ·rename_i e; subst e
    split
    ·rename_i hlt; simp at hlt; simp [hlt]
    ·rename_i hlt; simp at hlt; simp [hlt]
   ·rfl
  rw [this] at hS
  exact hS
theorem undefs_ok (n : Nat) : ∀ (vs : List Value), vs.length = n → F2 (DR w α ok h) (List.replicate n (.one .undef)) vs := by
 induction n with
 | zero => intro vs hv; cases vs with | nil => trivial | cons => simp at hv
 | succ n ih => intro vs hv; cases vs with | nil => simp at hv | cons v vs => exact ⟨trivial, ih vs (by simpa using hv)⟩
theorem lay_blank {N : Nat} (hN : a.tmps.size = N) {live : List Nat} {ds : List D} (k : F2 (DR w α ok h) ds (live.map fun t => a.tmps.getD t undef)) : SR w α ok h (lay live ds (List.replicate N (.one .undef))) a :=
 lay_ok k (undefs_ok N _ (by simpa using hN))
end
/-! ### a run of a piece of code -/
def Ex.out : Ex → Exit
 | .normal => .normal
 | .ret => .ret
 | .exit n => .exit n
def Runs (F : Fx) (N : Nat) (c : Code) (s : List D) (h : Heap) (ex : Ex) (s' : List D) (h' : Heap) : Prop :=
 ∀ (Q : Exit → Act → World → Prop) (α : Nat → Value) (ok : Nat → Prop) (w : World) (a : Act), Core F α ok h w → SR w α ok h s a → a.tmps.size = N → a.defers = [] →
  (∀ α' ok' w' a', Core F α' ok' h' w' → SR w' α' ok' h' s' a' → a'.tmps.size = N → a'.defers = [] → Q ex.out a' w') → c.wp F.P Q a w
end Go.VI
namespace Go.VI
open Go
section
variable {F : Fx} {α : Nat → Value} {ok : Nat → Prop} {h h' : Heap} {w : World} {s s' : List D} {a : Act}
theorem wanted_ok {X : Type} {ops : Array Oper} {o : Oper} {t e : NM X} {x : X} (S : SR w α ok h s a)
  (hg : (match o.guard with
   | none => t
   | some (j, want) => (NM.opt ((ops.toList[j]?).bind (·.dst))).bind fun d => (NM.opt ((s[d]?).bind D.leaf)).bind fun l => match l with
    | .pv .bool b => .cond (bif want then b else !b) t e
    | .skip => e
    | _ => .fail : NM X).gives x) : (Region.wanted o (yielded ops a.tmps) = true ∧ t.gives x) ∨ (Region.wanted o (yielded ops a.tmps) = false ∧ e.gives x) := by
 unfold Region.wanted
 split at hg
 ·rename_i hgd; rw [hgd]; exact .inl ⟨rfl, hg⟩
 ·rename_i j want hgd
  rw [hgd]
  simp only [NM.gives_bind, NM.gives_opt, Option.bind_eq_some_iff] at hg
  obtain ⟨d, ⟨oj, hoj, hd⟩, l, ⟨dd, hdd, hl⟩, hg⟩ := hg
  obtain ⟨v, hv, k⟩ := F2.get S hdd
  have hoj' : ops[j]? = some oj := by simpa using hoj
  have hv' : a.tmps[d]? = some v := by simpa using hv
  have hy : yielded ops a.tmps j = match v with | .bool b => some b | _ => none := by
   unfold yielded
   rw [hoj']
   simp only [Option.bind_some, hd, hv']
   cases v <;> rfl
  cases dd with
  | one l0 =>
   simp only [D.leaf, Option.some.injEq] at hl
   subst hl
   split at hg
   ·rename_i b
    simp only [DR, LR, Rep] at k
    simp at k; subst k
    simp only at hy
    rw [NM.gives_cond] at hg
    simp only [hy]
    cases want <;> cases b <;> simp at hg ⊢ <;> exact hg
   ·simp only [DR, LR] at k
    subst k
    simp only [undef] at hy
    simp only [hy]
    right
    exact ⟨rfl, hg⟩
   ·exact absurd hg NM.gives_fail
  | agg ls => simp [D.leaf] at hl
  | tup ls => simp [D.leaf] at hl
theorem put_size (a : Act) (dst : Option Tmp) (v : Value) : (a.put dst v).tmps.size = a.tmps.size := by
 cases dst <;> simp [Act.put]
theorem put_defers (a : Act) (dst : Option Tmp) (v : Value) : (a.put dst v).defers = a.defers := by
 cases dst <;> rfl
theorem skip_ok (S : SR w α ok h s a) (o : Oper) : SR w α ok h (skipped o ⟨s, h⟩).s (a.put o.dst undef) := by
 have := S.put (d := .one .skip) (v := undef) rfl o.dst
 unfold skipped
 exact this
def opsSt (T : Tb) (ops : List Oper) : Bool := ops.all fun o => opSt T o.op
theorem sharpK_gives {Z : Type} {z : Z} {b : Bool} {dst : Option Tmp} {σ : St} {k : St → NM Z} : (sharpK b dst σ k).gives z ↔ (k σ).gives z := by
 unfold sharpK
 split
 ·rename_i d
  split
  ·rename_i c hc
   have hs : ∀ c', c = c' → (⟨σ.s.set d (.one (.pv .bool c')), σ.h⟩ : St) = σ := by
    rintro _ rfl
    obtain ⟨s, h⟩ := σ
    simp only [St.mk.injEq, and_true]
    simp only at hc
    apply List.ext_getElem?
    intro i
    rw [List.getElem?_set]
    split
    ·rename_i e; subst e
     split
     ·exact hc.symm
     ·rename_i hlt; rw [List.getElem?_eq_none (by omega)]
    ·rfl
   rw [NM.gives_cond]
   constructor
   ·rintro (⟨h, hk⟩ | ⟨h, hk⟩)
    ·rw [hs true h] at hk; exact hk
    ·rw [hs false h] at hk; exact hk
   ·intro hk
    cases c with
    | true => left; rw [hs true rfl]; exact ⟨rfl, hk⟩
    | false => right; rw [hs false rfl]; exact ⟨rfl, hk⟩
  ·exact Iff.rfl
 ·exact Iff.rfl
theorem seqK_ok {E : Env} (hT : tbOk F.P E.T = true) (hm : F.m ≤ 100) (hK : EnvOK F.P F.tabs E) {ops : Array Oper} {Q : Exit → Act → World → Prop} {σ' : St} :
  ∀ {l : List Oper} {α : Nat → Value} {ok : Nat → Prop} {s : List D} {h : Heap} {w : World} {a : Act}, opsSt E.T l = true → (seqK E ops.toList l ⟨s, h⟩).gives σ' → Core F α ok h w → SR w α ok h s a → a.tmps.size = E.N → a.defers = [] →
   (∀ α' ok' w' a', Core F α' ok' σ'.h w' → SR w' α' ok' σ'.h σ'.s a' → a'.tmps.size = E.N → a'.defers = [] → Q .normal a' w') → wpList F.P ops Q l a w
 | [], α, ok, s, h, w, a, hs, hg, C, S, hN, hd, hq => by
  simp only [seqK, NM.gives_pure] at hg
  subst hg
  exact wpList_nil (hq α ok w a C S hN hd)
 | o :: r, α, ok, s, h, w, a, hs, hg, C, S, hN, hd, hq => by
  simp only [opsSt, List.all_cons, Bool.and_eq_true] at hs
  simp only [seqK, NM.gives_bind, sharpK_gives] at hg
  obtain ⟨σ1, h1, hr⟩ := hg
  have hw := wanted_ok (ops := ops) (o := o) (t := stepA E o ⟨s, h⟩) (e := .pure (skipped o ⟨s, h⟩)) (x := σ1) S h1
  refine wpList_step fun K hKK => ?_
  rcases hw with ⟨hw, ht⟩ | ⟨hw, he⟩
  ·rw [if_pos hw]
   obtain ⟨s1, h1'⟩ := σ1
   refine stepA_ok hT hm hs.1 hK C S ht fun v w' α' ok' C' _ S' => hKK _ _ ?_
   exact seqK_ok hT hm hK hs.2 hr C' S' (by rw [put_size]; exact hN) (by rw [put_defers]; exact hd) hq
  ·rw [if_neg (by rw [hw]; simp)]
   rw [NM.gives_pure] at he
   subst he
   refine hKK _ _ ?_
   exact seqK_ok hT hm hK hs.2 hr C (skip_ok S o) (by rw [put_size]; exact hN) (by rw [put_defers]; exact hd) hq
theorem region_runs {E : Env} (hT : tbOk F.P E.T = true) (hm : F.m ≤ 100) (hK : EnvOK F.P F.tabs E) {id : Nat} {ops : Array Oper} {σ' : St} (hs : opsSt E.T ops.toList = true) (hg : (seqK E ops.toList ops.toList ⟨s, h⟩).gives σ') :
  Runs F E.N (.region id ops false) s h .normal σ'.s σ'.h :=
 fun Q α ok w a C S hN hd hq => wp_region_list (seqK_ok hT hm hK hs hg C S hN hd hq)
end
end Go.VI
namespace Go.VI
open Go
section
variable {F : Fx} {α : Nat → Value} {ok : Nat → Prop} {h h' : Heap} {w : World}
theorem fitL_ok (C : Core F α ok h w) {os : List OS} {id : Nat} (hid : F.m ≤ id) {s : LS} {l l' : L} {v : Value} (hg : (fitL os id h s l).gives (l', h')) (k : LR w α ok h l v) :
  ∃ α' ok', Core F α' ok' h' w ∧ Stay w α ok h w α' ok' h' ∧ LR w α' ok' h' l' v := by
 unfold fitL at hg
 split at hg
 ·rename_i k0
  split at hg
  ·rename_i e c ho
   simp only [NM.gives_bind, NM.gives_pure, Prod.mk.injEq] at hg
   obtain ⟨h1, hn, rfl, rfl⟩ := hg
   obtain ⟨e1, rfl⟩ := newOb_ok hn
   simp only [LR] at k
   subst k
   obtain ⟨C', S'⟩ := C.new (v := .slice none 0 0) (b := .row e c []) e1 hid (fun _ _ => rfl) (Nat.le_refl _) rfl rfl rfl (fun g hg => by simp [blk] at hg) (by simp)
    ⟨[], ⟨by simp, .inl ⟨by simp, by simp⟩⟩, rfl⟩
   exact ⟨_, ok, C', S', by simp [LR, Value.oneCell']⟩
  ·exact absurd hg NM.gives_fail
 ·obtain ⟨ok1, C1, s1, _, k1⟩ := solid_ok C hg k
  exact ⟨α, ok1, C1, s1, k1⟩
 ·obtain ⟨ok1, C1, s1, _, k1⟩ := solid_ok C hg k
  exact ⟨α, ok1, C1, s1, k1⟩
 ·simp only [NM.gives_pure, Prod.mk.injEq] at hg
  obtain ⟨rfl, rfl⟩ := hg
  exact ⟨α, ok, C, .refl, k⟩
theorem fitLs_ok {os : List OS} : ∀ {ss : List LS} {ls ls' : List L} {id : Nat} {α : Nat → Value} {ok : Nat → Prop} {h h' : Heap} {vs : List Value}, Core F α ok h w → F.m ≤ id → (fitLs os id h ss ls).gives (ls', h') → LsR w α ok h ls vs →
  ∃ α' ok', Core F α' ok' h' w ∧ Stay w α ok h w α' ok' h' ∧ LsR w α' ok' h' ls' vs
 | s :: ss, l :: ls, ls', id, α, ok, h, h', vs, C, hid, hg, k => by
  cases vs with
  | nil => exact k.elim
  | cons v vs =>
   simp only [fitLs, NM.gives_bind, NM.gives_pure, Prod.mk.injEq] at hg
   obtain ⟨⟨l1, h1⟩, hl, ⟨ls1, h2⟩, hr, rfl, rfl⟩ := hg
   obtain ⟨α1, ok1, C1, s1, k1⟩ := fitL_ok C hid hl k.1
   obtain ⟨α2, ok2, C2, s2, k2⟩ := fitLs_ok C1 (by omega) hr (LsR.stay s1 k.2)
   exact ⟨α2, ok2, C2, s1.trans s2, k1.stay s2, k2⟩
 | [], ls, ls', id, α, ok, h, h', vs, C, hid, hg, k => by
  simp only [fitLs, NM.gives_pure, Prod.mk.injEq] at hg
  obtain ⟨rfl, rfl⟩ := hg
  exact ⟨α, ok, C, .refl, k⟩
 | s :: ss, [], ls', id, α, ok, h, h', vs, C, hid, hg, k => by
  simp only [fitLs, NM.gives_pure, Prod.mk.injEq] at hg
  obtain ⟨rfl, rfl⟩ := hg
  exact ⟨α, ok, C, .refl, k⟩
theorem fitDs_ok {os : List OS} : ∀ {ss : List DS} {ds ds' : List D} {id : Nat} {α : Nat → Value} {ok : Nat → Prop} {h h' : Heap} {vs : List Value}, Core F α ok h w → F.m ≤ id → (fitDs os id h ss ds).gives (ds', h') → F2 (DR w α ok h) ds vs →
  ∃ α' ok', Core F α' ok' h' w ∧ Stay w α ok h w α' ok' h' ∧ F2 (DR w α' ok' h') ds' vs
 | [], ds, ds', id, α, ok, h, h', vs, C, hid, hg, k => by
  cases ds <;> (simp only [fitDs, NM.gives_pure, Prod.mk.injEq] at hg; obtain ⟨rfl, rfl⟩ := hg; exact ⟨α, ok, C, .refl, k⟩)
 | s :: ss, [], ds', id, α, ok, h, h', vs, C, hid, hg, k => by
  cases s <;> (simp only [fitDs, NM.gives_pure, Prod.mk.injEq] at hg; obtain ⟨rfl, rfl⟩ := hg; exact ⟨α, ok, C, .refl, k⟩)
 | s :: ss, d :: ds, ds', id, α, ok, h, h', vs, C, hid, hg, k => by
  cases vs with
  | nil => exact k.elim
  | cons v vs =>
   have other : (∃ p, (fitDs os (id + 1) h ss ds).gives p ∧ (d :: p.1, p.2) = (ds', h')) → ∃ α' ok', Core F α' ok' h' w ∧ Stay w α ok h w α' ok' h' ∧ F2 (DR w α' ok' h') ds' (v :: vs) := by
    rintro ⟨⟨ds1, h2⟩, hr, he⟩
    simp only [Prod.mk.injEq] at he
    obtain ⟨rfl, rfl⟩ := he
    obtain ⟨α2, ok2, C2, s2, k2⟩ := fitDs_ok C (by omega) hr k.2
    exact ⟨α2, ok2, C2, s2, k.1.stay s2, k2⟩
   cases s with
   | one s =>
    cases d with
    | one l =>
     simp only [fitDs, NM.gives_bind, NM.gives_pure, Prod.mk.injEq] at hg
     obtain ⟨⟨l1, h1⟩, hl, ⟨ds1, h2⟩, hr, rfl, rfl⟩ := hg
     obtain ⟨α1, ok1, C1, s1, k1⟩ := fitL_ok C hid hl k.1
     obtain ⟨α2, ok2, C2, s2, k2⟩ := fitDs_ok C1 (by omega) hr (F2.mono (fun _ _ hr => DR.stay s1 hr) k.2)
     exact ⟨α2, ok2, C2, s1.trans s2, LR.stay s2 k1, k2⟩
    | agg ls => simp only [fitDs, NM.gives_bind, NM.gives_pure] at hg; exact other hg
    | tup ls => simp only [fitDs, NM.gives_bind, NM.gives_pure] at hg; exact other hg
   | agg ss' =>
    cases d with
    | agg ls =>
     simp only [fitDs, NM.gives_bind, NM.gives_pure, Prod.mk.injEq] at hg
     obtain ⟨⟨l1, h1⟩, hl, ⟨ds1, h2⟩, hr, rfl, rfl⟩ := hg
     obtain ⟨cs, hv, k0⟩ := k.1
     obtain ⟨α1, ok1, C1, s1, k1⟩ := fitLs_ok C hid hl k0
     obtain ⟨α2, ok2, C2, s2, k2⟩ := fitDs_ok C1 (by omega) hr (F2.mono (fun _ _ hr => DR.stay s1 hr) k.2)
     exact ⟨α2, ok2, C2, s1.trans s2, DR.stay s2 (d := .agg l1) ⟨cs, hv, k1⟩, k2⟩
    | one l => simp only [fitDs, NM.gives_bind, NM.gives_pure] at hg; exact other hg
    | tup ls => simp only [fitDs, NM.gives_bind, NM.gives_pure] at hg; exact other hg
theorem fitBoxes_ok {os : List OS} : ∀ {ss : List OS} {tr : List Nat} {id : Nat} {α : Nat → Value} {ok : Nat → Prop} {h h' : Heap}, Core F α ok h w → F.m ≤ id → (fitBoxes os id h ss tr).gives h' →
  ∃ α' ok', Core F α' ok' h' w ∧ Stay w α ok h w α' ok' h'
 | [], tr, id, α, ok, h, h', C, hid, hg => by
  simp only [fitBoxes, NM.gives_pure] at hg; subst hg; exact ⟨α, ok, C, .refl⟩
 | s :: ss, [], id, α, ok, h, h', C, hid, hg => by
  cases s <;> (simp only [fitBoxes, NM.gives_pure] at hg; subst hg; exact ⟨α, ok, C, .refl⟩)
 | .row .. :: ss, o :: tr, id, α, ok, h, h', C, hid, hg => by
  simp only [fitBoxes] at hg; exact fitBoxes_ok C hid hg
 | .gone :: ss, o :: tr, id, α, ok, h, h', C, hid, hg => by
  simp only [fitBoxes] at hg; exact fitBoxes_ok C hid hg
 | .grid .. :: ss, o :: tr, id, α, ok, h, h', C, hid, hg => by
  simp only [fitBoxes] at hg; exact fitBoxes_ok C hid hg
 | .box ls0 :: ss, o :: tr, id, α, ok, h, h', C, hid, hg => by
  simp only [fitBoxes] at hg
  split at hg
  ·rename_i ls ho
   simp only [NM.gives_bind] at hg
   obtain ⟨⟨ls', h1⟩, hl, hg⟩ := hg
   simp only at hg
   split at hg
   ·rename_i ls1 ho1
    simp only [NM.gives_guard] at hg
    obtain ⟨hlen, hg⟩ := hg
    have hlen := Nat.eq_of_beq_eq_true hlen
    have hob := C.ob o
    rw [ho] at hob
    obtain ⟨g, off, cs, e, hα, hh, vs, hLs, hcs⟩ := hob
    obtain ⟨α1, ok1, C1, s1, k1⟩ := fitLs_ok C hid hl hLs
    have hα1 : α1 o = .pointer (some ⟨g, off, none⟩) := by rw [s1.al o (by rw [ho]; simp)]; exact hα
    have hle : HLe (h1 o) (.box ls') := by rw [ho1]; exact hlen
    have S0 : Stay w α1 ok1 h1 w α1 ok1 (upd h1 o (.box ls')) := ⟨fun b hb => ⟨hb, rfl⟩, HLe.upd hle, fun _ _ => rfl, fun _ _ _ _ => rfl⟩
    obtain ⟨C2, s2⟩ := C1.poke (o := o) (b := .box ls') (w' := w) (by rw [ho1]; rfl) hle rfl rfl (fun _ _ => rfl) rfl rfl rfl rfl
     ⟨g, off, cs, e, hα1, hh, vs, LsR.stay S0 k1, hcs⟩ (fun ls g' off' cs' e' _ _ h3 => ⟨cs', h3, rfl, fun _ _ => rfl⟩)
    obtain ⟨α3, ok3, C3, s3⟩ := fitBoxes_ok C2 (by omega) hg
    exact ⟨α3, ok3, C3, (s1.trans s2).trans s3⟩
   ·exact absurd hg NM.gives_fail
  ·exact fitBoxes_ok C hid hg
theorem fitAll_ok (C : Core F α ok h w) (hm : F.m ≤ 100) {m : Nat} {sh : Sh} {ds ds' : List D} {vs : List Value} (hg : (fitAll m sh h ds).gives (ds', h')) (k : F2 (DR w α ok h) ds vs) :
  ∃ α' ok', Core F α' ok' h' w ∧ Stay w α ok h w α' ok' h' ∧ F2 (DR w α' ok' h') ds' vs := by
 unfold fitAll at hg
 simp only [NM.gives_bind] at hg
 obtain ⟨⟨ds1, h1⟩, hf, hg⟩ := hg
 obtain ⟨α1, ok1, C1, s1, k1⟩ := fitDs_ok C (by unfold fitBase; omega) hf k
 simp only at hg
 split at hg
 ·simp only [NM.gives_pure, Prod.mk.injEq] at hg
  obtain ⟨rfl, rfl⟩ := hg
  exact ⟨α1, ok1, C1, s1, k1⟩
 ·simp only [NM.gives_bind, NM.gives_pure, Prod.mk.injEq] at hg
  obtain ⟨p, _, h2, hb, rfl, rfl⟩ := hg
  obtain ⟨α2, ok2, C2, s2⟩ := fitBoxes_ok C1 (by unfold fitBase; omega) hb
  exact ⟨α2, ok2, C2, s1.trans s2, F2.mono (fun _ _ hr => DR.stay s2 hr) k1⟩
end
end Go.VI
namespace Go.VI
open Go
def RoundOK (E : Env) (id : Nat) (live : List Nat) (outs : List (Nat × List Nat)) (loop : Bool) (body : IR) : Prop :=
 ∃ (sh : Sh) (es : List (Ex × Sh)) (F : sh.X → Option (sumX es)), E.LP id = some (LE.of sh es F) ∧ ∃ G : Nat → sh.X → Option (sumX es), (∀ x, G 0 x = none) ∧ (∀ x y, F x = some y → ∃ k, G k x = some y) ∧
  ∀ k x y, G (k + 1) x = some y → (roundK E sh live outs loop body es (G k) x).gives y
def IR.known (E : Env) : IR → Prop
 | .seq a b => a.known E ∧ b.known E
 | .cond _ a b => a.known E ∧ b.known E
 | .block _ a => a.known E
 | .atom id live outs loop body => RoundOK E id live outs loop body ∧ body.known E
 | _ => True
def DrawSound (F : Fx) (E : Env) : Prop := ∀ (id : Nat) (ops : Array Oper) (s : List D) (h : Heap) (σ' : St) (tc : List Foot), opsSt E.T ops.toList = true → ordersOk ops (orders ops.toList) 0 ops.toList = true →
 (traceK E ops.toList ops.toList ⟨s, h⟩ []).gives (σ', tc) → (pairsFrom ops.toList (orders ops.toList) 0 ops.toList).all (apartT tc) = true → Runs F E.N (.region id ops true) s h .normal σ'.s σ'.h
def codeSt (T : Tb) : Code → Bool
 | .seq a b => codeSt T a && codeSt T b
 | .cond _ a b => codeSt T a && codeSt T b
 | .block _ a => codeSt T a
 | .loop a => codeSt T a
 | .region _ ops _ => opsSt T ops.toList
 | _ => true
section
variable {F : Fx} {E : Env} {s s' : List D} {h h' : Heap}
theorem told_state {α : Nat → Value} {ok : Nat → Prop} {w : World} {a : Act} {N : Nat} (hm : F.m ≤ 100) (C : Core F α ok h w) (S : SR w α ok h s a) (hN : a.tmps.size = N) {sh shf : Sh} {m : Nat} {live tr : List Nat} {ds0 ds ds' : List D} {h1 : Heap} {obs : List Ob} {x : sh.X}
  (hp : pick s live = some ds0) (hf : (fitAll m shf h ds0).gives (ds, h1)) (hk : (pack h1 (List.range F.m) ds).gives (ds', obs, tr)) (hd : sh.dec ds' obs = some x) :
  ∃ α' ok', Core F α' ok' (heapOf (osEnc sh.os x.2)) w ∧ SR w α' ok' (heapOf (osEnc sh.os x.2)) (lay live (dsEnc sh.ds x.1) (List.replicate N (.one .undef))) a := by
 obtain ⟨α0, ok0, C0, S0, k0⟩ := fitAll_ok C hm hf (pick_ok S hp)
 obtain ⟨C1, k1⟩ := repack C0 hk
 have k2 := k1 k0
 simp only [Sh.dec, Option.bind_eq_some_iff, Option.some.injEq] at hd
 obtain ⟨x1, hx1, x2, hx2, rfl⟩ := hd
 obtain ⟨C2, S2⟩ := C1.told (heapOf_told (ossdec_ok hx2))
 exact ⟨_, _, C2, lay_blank hN (dssdec_ok hx1 (F2.mono (fun _ _ hr => DR.stay S2 hr) k2))⟩
def PostK (F : Fx) (N : Nat) (outs : List (Nat × List Nat)) (r : Ex × List D × List Ob) (Q : Exit → Act → World → Prop) : Prop :=
 ∀ out α' ok' w' a', outsOf outs r.1.num = some out → Core F α' ok' (heapOf r.2.2) w' → SR w' α' ok' (heapOf r.2.2) (lay out r.2.1 (List.replicate N (.one .undef))) a' → a'.tmps.size = N → a'.defers = [] → Q r.1.out a' w'
theorem Ex.num_zero {e : Ex} (h : Nat.beq e.num 0 = true) : e = .normal := by
 cases e <;> simp_all [Ex.num]
theorem Ex.then_out {e : Ex} (h : ¬ Nat.beq e.num 0 = true) {next : Act → World → Prop} {Q : Exit → Act → World → Prop} {a : Act} {w : World} (hq : Q e.out a w) : Exit.then next Q e.out a w := by
 cases e with
 | normal => exact absurd rfl h
 | ret => exact hq
 | exit n => exact hq
theorem encS_dec : ∀ {es : List (Ex × Sh)} {ex : Ex} {ds : List D} {obs : List Ob} {y : sumX es}, decS es ex ds obs = some y → ∃ (sh : Sh) (x : sh.X), sh.dec ds obs = some x ∧ encS es y = (ex, dsEnc sh.ds x.1, osEnc sh.os x.2)
 | [], ex, ds, obs, y, hd => by cases hd
 | p :: r, ex, ds, obs, y, hd => by
  simp only [decS] at hd
  cases hn : Nat.beq p.1.num ex.num with
  | true =>
   rw [hn] at hd
   simp only [cond_true, Option.map_eq_some_iff] at hd
   obtain ⟨x, hx, rfl⟩ := hd
   have he : p.1 = ex := by
    have := Nat.eq_of_beq_eq_true hn
    cases h1 : p.1 <;> cases ex <;> rw [h1] at this <;> simp_all [Ex.num]
   exact ⟨p.2, x, hx, by rw [← he]; rfl⟩
  | false =>
   rw [hn] at hd
   simp only [cond_false, Option.map_eq_some_iff] at hd
   obtain ⟨x, hx, rfl⟩ := hd
   obtain ⟨sh, z, h1, h2⟩ := encS_dec hx
   exact ⟨sh, z, h1, h2⟩
theorem out_dec {α : Nat → Value} {ok : Nat → Prop} {w : World} {a : Act} {N : Nat} (hm : F.m ≤ 100) (C : Core F α ok h w) (S : SR w α ok h s a) (hN : a.tmps.size = N) {shf : Sh} {m : Nat} {out tr : List Nat} {ds0 ds ds' : List D} {h1 : Heap} {obs : List Ob} {es : List (Ex × Sh)} {ex : Ex} {y : sumX es}
  (hp : pick s out = some ds0) (hf : (fitAll m shf h ds0).gives (ds, h1)) (hk : (pack h1 (List.range F.m) ds).gives (ds', obs, tr)) (hd : decS es ex ds' obs = some y) :
  ∃ α' ok', (encS es y).1 = ex ∧ Core F α' ok' (heapOf (encS es y).2.2) w ∧ SR w α' ok' (heapOf (encS es y).2.2) (lay out (encS es y).2.1 (List.replicate N (.one .undef))) a := by
 obtain ⟨sh, x, hx, he⟩ := encS_dec hd
 obtain ⟨α', ok', C', S'⟩ := told_state hm C S hN hp hf hk hx
 rw [he]
 exact ⟨α', ok', rfl, C', S'⟩
theorem round_runs (hE : E.m = F.m) (hm : F.m ≤ 100) {c : Code} {sh : Sh} {es : List (Ex × Sh)} {live : List Nat} {outs : List (Nat × List Nat)} {body : IR} {G : Nat → sh.X → Option (sumX es)}
  (hb : ∀ s h ex s' h', (ev E body ⟨s, h⟩).gives (ex, ⟨s', h'⟩) → Runs F E.N c s h ex s' h') (h0 : ∀ x, G 0 x = none)
  (hG : ∀ k x y, G (k + 1) x = some y → (roundK E sh live outs true body es (G k) x).gives y) :
  ∀ (k : Nat) (x : sh.X) (y : sumX es), G k x = some y → ∀ (Q : Exit → Act → World → Prop) (α : Nat → Value) (ok : Nat → Prop) (w : World) (a : Act), Core F α ok (heapOf (osEnc sh.os x.2)) w →
   SR w α ok (heapOf (osEnc sh.os x.2)) (lay live (dsEnc sh.ds x.1) (List.replicate E.N (.one .undef))) a → a.tmps.size = E.N → a.defers = [] → PostK F E.N outs (encS es y) Q → Code.rounds F.P c Q k a w := by
 intro k
 induction k with
 | zero => intro x y hx; rw [h0] at hx; cases hx
 | succ k ih =>
  intro x y hx Q α ok w a C S hN hd hq
  have hr := hG k x y hx
  simp only [roundK, NM.gives_bind, NM.gives_cond, NM.gives_opt, NM.gives_pure, Bool.true_and] at hr
  obtain ⟨⟨ex, s1, h1⟩, hev, hr⟩ := hr
  refine hb _ _ _ _ _ hev _ α ok w a C S hN hd ?_
  intro α1 ok1 w1 a1 C1 S1 hN1 hd1
  rcases hr with ⟨hz, ds0, hp, ⟨ds, h2⟩, hfit, ⟨ds', obs, tr⟩, hpk, x', hx', hy'⟩ | ⟨hz, out, ho, ds0, hp, osh, _, ⟨ds, h2⟩, hfit, ⟨ds', obs, tr⟩, hpk, he⟩
  ·have hz := Ex.num_zero hz
   simp only at hz; subst hz
   rw [hE] at hpk
   obtain ⟨α2, ok2, C2, S2⟩ := told_state hm C1 S1 hN1 hp hfit hpk hx'
   exact ih x' y hy' Q α2 ok2 w1 a1 C2 S2 hN1 hd1 hq
  ·rw [hE] at hpk
   obtain ⟨α2, ok2, e1, C2, S2⟩ := out_dec hm C1 S1 hN1 hp hfit hpk he
   refine Ex.then_out (by simp only at hz; rw [hz]; simp) ?_
   have := hq out α2 ok2 w1 a1 (by rw [e1]; exact ho) C2 S2 hN1 hd1
   rw [e1] at this
   exact this
theorem sumK_gives {Z : Type} {z : Z} : ∀ {es : List (Ex × Sh)} {y : sumX es} {k : Ex × List D × List Ob → NM Z}, (sumK es y k).gives z ↔ (k (encS es y)).gives z
 | [], y, k => nomatch y
 | p :: r, .inl y, k => Iff.rfl
 | p :: r, .inr y, k => (sumK_gives (es := r) (y := y) (k := k))
theorem atom_enter (hE : E.m = F.m) (hm : F.m ≤ 100) {le : LE} {live : List Nat} {outs : List (Nat × List Nat)} {ex : Ex} (hg : (atomK E le live outs ⟨s, h⟩).gives (ex, ⟨s', h'⟩)) {Q : Exit → Act → World → Prop} {α : Nat → Value} {ok : Nat → Prop} {w : World} {a : Act}
  (C : Core F α ok h w) (S : SR w α ok h s a) (hN : a.tmps.size = E.N) (hq : ∀ α' ok' w' a', Core F α' ok' h' w' → SR w' α' ok' h' s' a' → a'.tmps.size = E.N → a'.defers = [] → Q ex.out a' w') :
  ∃ x y α' ok', le.F x = some y ∧ Core F α' ok' (heapOf (osEnc le.sh.os x.2)) w ∧ SR w α' ok' (heapOf (osEnc le.sh.os x.2)) (lay live (dsEnc le.sh.ds x.1) (List.replicate E.N (.one .undef))) a ∧ PostK F E.N outs (encS le.es y) Q := by
 simp only [atomK, NM.gives_bind, NM.gives_opt, NM.gives_guard, NM.gives_pure, sumK_gives] at hg
 obtain ⟨ds0, hp, ⟨ds, h2⟩, hfit, ⟨ds', obs, tr⟩, hpk, x, hx, y, hy, out, ho, _, he⟩ := hg
 simp only [Prod.mk.injEq, St.mk.injEq] at he
 obtain ⟨e1, e2, e3⟩ := he
 rw [hE] at hpk
 obtain ⟨α', ok', C', S'⟩ := told_state hm C S hN hp hfit hpk hx
 refine ⟨x, y, α', ok', hy, C', S', ?_⟩
 intro out' α2 ok2 w2 a2 ho2 C2 S2 hN2 hd2
 rw [ho] at ho2; simp at ho2; subst ho2
 rw [e1]
 rw [e3] at C2 S2; rw [e2] at S2
 exact hq α2 ok2 w2 a2 C2 S2 hN2 hd2
theorem loop_runs (hE : E.m = F.m) (hm : F.m ≤ 100) {c : Code} {id : Nat} {live : List Nat} {outs : List (Nat × List Nat)} {body : IR} (hR : RoundOK E id live outs true body)
  (hb : ∀ s h ex s' h', (ev E body ⟨s, h⟩).gives (ex, ⟨s', h'⟩) → Runs F E.N c s h ex s' h') {ex : Ex} (hg : (ev E (.atom id live outs true body) ⟨s, h⟩).gives (ex, ⟨s', h'⟩)) : Runs F E.N (.loop c) s h ex s' h' := by
 obtain ⟨sh, es, F0, hle, G, h0, hF, hG⟩ := hR
 intro Q α ok w a C S hN hd hq
 simp only [ev, hle] at hg
 obtain ⟨x, y, α', ok', hy, C', S', hpost⟩ := atom_enter hE hm hg C S hN hq
 obtain ⟨k, hk⟩ := hF x y hy
 exact wp_loop_rounds k (round_runs hE hm hb h0 hG k x y hk Q α' ok' w a C' S' hN hd hpost)
theorem cut_runs (hE : E.m = F.m) (hm : F.m ≤ 100) {c : Code} {id : Nat} {live : List Nat} {outs : List (Nat × List Nat)} {body : IR} (hR : RoundOK E id live outs false body)
  (hb : ∀ s h ex s' h', (ev E body ⟨s, h⟩).gives (ex, ⟨s', h'⟩) → Runs F E.N c s h ex s' h') {ex : Ex} (hg : (ev E (.atom id live outs false body) ⟨s, h⟩).gives (ex, ⟨s', h'⟩)) : Runs F E.N c s h ex s' h' := by
 obtain ⟨sh, es, F0, hle, G, h0, hF, hG⟩ := hR
 intro Q α ok w a C S hN hd hq
 simp only [ev, hle] at hg
 obtain ⟨x, y, α', ok', hy, C', S', hpost⟩ := atom_enter hE hm hg C S hN hq
 obtain ⟨k, hk⟩ := hF x y hy
 cases k with
 | zero => rw [h0] at hk; cases hk
 | succ k =>
  have hr := hG k x y hk
  simp only [roundK, NM.gives_bind, NM.gives_cond, NM.gives_opt, NM.gives_pure, Bool.false_and] at hr
  obtain ⟨⟨ex1, s1, h1⟩, hev, hr⟩ := hr
  refine hb _ _ _ _ _ hev _ α' ok' w a C' S' hN hd ?_
  intro α1 ok1 w1 a1 C1 S1 hN1 hd1
  rcases hr with ⟨hz, _⟩ | ⟨_, out, ho, ds0, hp, osh, _, ⟨ds, h2⟩, hfit, ⟨ds', obs, tr⟩, hpk, he⟩
  ·cases hz
  ·rw [hE] at hpk
   obtain ⟨α2, ok2, e1, C2, S2⟩ := out_dec hm C1 S1 hN1 hp hfit hpk he
   have := hpost out α2 ok2 w1 a1 (by show outsOf outs (encS es y).1.num = some out; rw [e1]; exact ho) C2 S2 hN1 hd1
   have e2 : (encS es y).1.out = ex1.out := by rw [e1]
   rw [← e2]
   exact this
theorem cutAt_runs (hE : E.m = F.m) (hm : F.m ≤ 100) {hs : List Hint} {p : List Nat} {c : Code} {body : IR} (hk : (cutAt hs p body).known E)
  (hb : body.known E → ∀ s h ex s' h', (ev E body ⟨s, h⟩).gives (ex, ⟨s', h'⟩) → Runs F E.N c s h ex s' h') {ex : Ex} (hg : (ev E (cutAt hs p body) ⟨s, h⟩).gives (ex, ⟨s', h'⟩)) : Runs F E.N c s h ex s' h' := by
 unfold cutAt at hk hg
 split at hk
 ·rename_i x hx
  rw [hx] at hg
  exact cut_runs hE hm hk.1 (hb hk.2) hg
 ·rename_i hx
  rw [hx] at hg
  exact hb hk _ _ _ _ _ hg
theorem ev_ok (hE : E.m = F.m) (hT : tbOk F.P E.T = true) (hm : F.m ≤ 100) (hK : EnvOK F.P F.tabs E) (hD : DrawSound F E) {hs : List Hint} :
  ∀ (c : Code) (p : List Nat), codeSt E.T c = true → (mk hs c p).known E → ∀ (s : List D) (h : Heap) (ex : Ex) (s' : List D) (h' : Heap), (ev E (mk hs c p) ⟨s, h⟩).gives (ex, ⟨s', h'⟩) → Runs F E.N c s h ex s' h'
 | .skip, p, hst, hk, s, h, ex, s', h', hg => by
  simp only [mk, ev, NM.gives_pure, Prod.mk.injEq, St.mk.injEq] at hg
  obtain ⟨rfl, rfl, rfl⟩ := hg
  intro Q α ok w a C S hN hd hq
  exact wp_skip (hq α ok w a C S hN hd)
 | .ret, p, hst, hk, s, h, ex, s', h', hg => by
  simp only [mk, ev, NM.gives_pure, Prod.mk.injEq, St.mk.injEq] at hg
  obtain ⟨rfl, rfl, rfl⟩ := hg
  intro Q α ok w a C S hN hd hq
  exact wp_ret (hq α ok w a C S hN hd)
 | .exit n, p, hst, hk, s, h, ex, s', h', hg => by
  simp only [mk, ev, NM.gives_pure, Prod.mk.injEq, St.mk.injEq] at hg
  obtain ⟨rfl, rfl, rfl⟩ := hg
  intro Q α ok w a C S hN hd hq
  exact wp_exit (hq α ok w a C S hN hd)
 | .seq x y, p, hst, hk, s, h, ex, s', h', hg => by
  simp only [codeSt, Bool.and_eq_true] at hst
  simp only [mk, IR.known] at hk
  simp only [mk, ev, NM.gives_bind] at hg
  obtain ⟨⟨e1, s1, h1⟩, hx, hy⟩ := hg
  intro Q α ok w a C S hN hd hq
  refine wp_seq (ev_ok hE hT hm hK hD x _ hst.1 hk.1 _ _ _ _ _ hx _ α ok w a C S hN hd ?_)
  intro α1 ok1 w1 a1 C1 S1 hN1 hd1
  cases e1 with
  | normal => exact ev_ok hE hT hm hK hD y _ hst.2 hk.2 _ _ _ _ _ hy Q α1 ok1 w1 a1 C1 S1 hN1 hd1 hq
  | ret =>
   simp only [NM.gives_pure, Prod.mk.injEq, St.mk.injEq] at hy
   obtain ⟨rfl, rfl, rfl⟩ := hy
   exact hq α1 ok1 w1 a1 C1 S1 hN1 hd1
  | exit n =>
   simp only [NM.gives_pure, Prod.mk.injEq, St.mk.injEq] at hy
   obtain ⟨rfl, rfl, rfl⟩ := hy
   exact hq α1 ok1 w1 a1 C1 S1 hN1 hd1
 | .cond c x y, p, hst, hk, s, h, ex, s', h', hg => by
  simp only [codeSt, Bool.and_eq_true] at hst
  simp only [mk] at hk hg
  refine cutAt_runs hE hm hk (fun hk s h ex s' h' hg => ?_) hg
  simp only [IR.known] at hk
  simp only [ev, NM.gives_bind, NM.gives_opt, NM.gives_cond] at hg
  obtain ⟨t, ht, hg⟩ := hg
  intro Q α ok w a C S hN hd hq
  have hb := oBool_ok S ht
  rcases hg with ⟨rfl, hg⟩ | ⟨rfl, hg⟩
  ·exact wp_cond_true hb (ev_ok hE hT hm hK hD x _ hst.1 hk.1 _ _ _ _ _ hg Q α ok w a C S hN hd hq)
  ·exact wp_cond_false hb (ev_ok hE hT hm hK hD y _ hst.2 hk.2 _ _ _ _ _ hg Q α ok w a C S hN hd hq)
 | .block id x, p, hst, hk, s, h, ex, s', h', hg => by
  simp only [codeSt] at hst
  simp only [mk] at hk hg
  refine cutAt_runs hE hm hk (fun hk s h ex s' h' hg => ?_) hg
  simp only [IR.known] at hk
  simp only [ev, NM.gives_bind] at hg
  obtain ⟨⟨e1, s1, h1⟩, hx, hy⟩ := hg
  intro Q α ok w a C S hN hd hq
  refine wp_block (ev_ok hE hT hm hK hD x _ hst hk _ _ _ _ _ hx _ α ok w a C S hN hd ?_)
  intro α1 ok1 w1 a1 C1 S1 hN1 hd1
  cases e1 with
  | normal =>
   simp only [NM.gives_pure, Prod.mk.injEq, St.mk.injEq] at hy
   obtain ⟨rfl, rfl, rfl⟩ := hy
   exact hq α1 ok1 w1 a1 C1 S1 hN1 hd1
  | ret =>
   simp only [NM.gives_pure, Prod.mk.injEq, St.mk.injEq] at hy
   obtain ⟨rfl, rfl, rfl⟩ := hy
   exact hq α1 ok1 w1 a1 C1 S1 hN1 hd1
  | exit n =>
   simp only [NM.gives_cond, NM.gives_pure, Prod.mk.injEq, St.mk.injEq, Nat.beq_eq] at hy
   rcases hy with ⟨hn, rfl, rfl, rfl⟩ | ⟨hn, rfl, rfl, rfl⟩
   ·subst hn
    simp only [Ex.out, Exit.inBlock, if_true]
    exact hq α1 ok1 w1 a1 C1 S1 hN1 hd1
   ·have hne : n ≠ id := fun e => by subst e; simp at hn
    simp only [Ex.out, Exit.inBlock, if_neg hne]
    exact hq α1 ok1 w1 a1 C1 S1 hN1 hd1
 | .region id ops draw, p, hst, hk, s, h, ex, s', h', hg => by
  simp only [codeSt] at hst
  simp only [mk] at hk hg
  refine cutAt_runs hE hm hk (fun hk s h ex s' h' hg => ?_) hg
  cases draw with
  | false =>
   simp only [cond_false, ev, NM.gives_bind, NM.gives_pure, Prod.mk.injEq] at hg
   obtain ⟨σ', hg, rfl, rfl⟩ := hg
   exact region_runs hT hm hK hst hg
  | true =>
   simp only [cond_true, drawIR] at hg
   cases ho : ordersOk ops (orders ops.toList) 0 ops.toList with
   | false => rw [ho] at hg; exact absurd hg NM.gives_fail
   | true =>
    rw [ho] at hg
    simp only [cond_true, ev, NM.gives_bind, NM.gives_guard, NM.gives_pure, Prod.mk.injEq] at hg
    obtain ⟨⟨st, tc⟩, htr, hpa, e1, e2⟩ := hg
    simp only at htr hpa e1 e2
    subst e1
    have := hD id ops s h st tc hst ho htr hpa
    rw [e2] at this
    exact this
 | .loop x, p, hst, hk, s, h, ex, s', h', hg => by
  simp only [codeSt] at hst
  simp only [mk] at hk hg
  split at hk
  ·rename_i hi hx
   rw [hx] at hg
   simp only [IR.known] at hk
   exact loop_runs hE hm hk.1 (fun s h ex s' h' hg => ev_ok hE hT hm hK hD x _ hst hk.2 s h ex s' h' hg) hg
  ·rename_i hx
   rw [hx] at hg
   exact absurd hg NM.gives_fail
 | .rangeFunc .., p, hst, hk, s, h, ex, s', h', hg => by simp only [mk, ev] at hg; exact absurd hg NM.gives_fail
 | .scope _, p, hst, hk, s, h, ex, s', h', hg => by simp only [mk, ev] at hg; exact absurd hg NM.gives_fail
 | .label _, p, hst, hk, s, h, ex, s', h', hg => by simp only [mk, ev] at hg; exact absurd hg NM.gives_fail
 | .goto _, p, hst, hk, s, h, ex, s', h', hg => by simp only [mk, ev] at hg; exact absurd hg NM.gives_fail
 | .refuse _, p, hst, hk, s, h, ex, s', h', hg => by simp only [mk, ev] at hg; exact absurd hg NM.gives_fail
end
end Go.VI
