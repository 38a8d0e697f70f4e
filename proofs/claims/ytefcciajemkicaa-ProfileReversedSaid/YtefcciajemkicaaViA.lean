/- A value semantics of the machine's code, and its proof. -/
import Derived.Orders
import Derived.Below
import Derived.Laws.AppendOwn
import Derived.Laws.OwnMore
import Derived.Laws.MakeOwn
import Derived.Laws.CopyOwn
import Derived.Laws.StructEq
set_option linter.unusedVariables false
set_option linter.unusedSimpArgs false
namespace Go.VI
open Go

/-! ### types of data -/
inductive TC where
 | int (k : IntKind) | bool | str | err (t : TypeId) | list (c : TC) | pair (a b : TC)
 deriving DecidableEq
@[reducible] def TC.α : TC → Type
 | .int _ => Int | .bool => Bool | .str => ByteArray | .err _ => Bool | .list c => List c.α | .pair a b => a.α × b.α
def TC.size : TC → Nat
 | .pair a b => a.size + b.size
 | _ => 1
def TC.dflt : (c : TC) → c.α
 | .int _ => (0 : Int) | .bool => false | .str => (⟨#[]⟩ : ByteArray) | .err _ => false | .list c => ([] : List c.α) | .pair a b => (a.dflt, b.dflt)

/-! ### what a slot holds -/
inductive L where
 | pv (c : TC) (x : c.α)
 | nils
 | own (o : Nat)
 | sub (o lo hi : Nat)
 | ptr (o i j : Nat)
 | iptr (c : TC) (x : c.α) (j : Nat)
 | fn (f : Nat) (caps : List (Nat × Nat))
 | gptr (g : Nat)
 | nilp
 | nilI
 | fmap (es : List (Int × Nat × List (Nat × Nat)))
 | arr (l : List Int)
 | inn (o i n : Nat)
 | gp (o i j n : Nat)
 | skip
 | undef
inductive D where
 | one (l : L)
 | agg (ls : List L)
 | tup (ds : List (Bool × List L))
inductive Ob where
 | none
 | gone
 | box (ls : List L)
 | row (e : TypeId) (c : TC) (l : List c.α)
 | ice (c : TC) (l : List c.α)
 | lock (c : TC) (l : List c.α)
 | grid (e d : TypeId) (n : Nat) (hole : Option Nat) (ll : List (List Int))
def Ob.isGrid : Ob → Bool
 | .grid .. => true
 | _ => false
abbrev Heap := Nat → Ob
structure St where
 s : List D
 h : Heap

/-! ### results that may fail, told to what follows -/
structure NM (X : Type) where
 run : (R : Type) → (X → Option R) → Option R
 nat : ∀ R K, run R K = (run X some).bind K
namespace NM
variable {X Y : Type}
def pure (x : X) : NM X := ⟨fun _ K => K x, fun _ _ => rfl⟩
def fail : NM X := ⟨fun _ _ => none, fun _ _ => rfl⟩
def bind (m : NM X) (f : X → NM Y) : NM Y :=
 ⟨fun R K => m.run R fun x => (f x).run R K, fun R K => by
  rw [m.nat R, m.nat Y]
  cases m.run X some with
  | none => rfl
  | some x => exact (f x).nat R K⟩
def cond (b : Bool) (t e : NM X) : NM X :=
 ⟨fun R K => bif b then t.run R K else e.run R K, fun R K => by cases b; exact e.nat R K; exact t.nat R K⟩
def guard (b : Bool) (t : NM X) : NM X :=
 ⟨fun R K => bif b then t.run R K else none, fun R K => by cases b; rfl; exact t.nat R K⟩
def opt (o : Option X) : NM X := ⟨fun _ K => o.bind K, fun _ _ => by cases o <;> rfl⟩
def sum {A B : Type} (y : A ⊕ B) (f : A → NM X) (g : B → NM X) : NM X :=
 ⟨fun R K => match y with | .inl a => (f a).run R K | .inr b => (g b).run R K, fun R K => by cases y with | inl a => exact (f a).nat R K | inr b => exact (g b).nat R K⟩
def absurd (y : Empty) : NM X := ⟨fun _ _ => y.elim, fun _ _ => y.elim⟩
def gives (m : NM X) (x : X) : Prop := m.run X some = some x
end NM

/-! ### tables -/
inductive TK where
 | int (k : IntKind) | bool | str | slice (e : TypeId) | arr (n : Nat) (e : TypeId) | struct (fs : List (Nat × TypeId)) | ptr (e : TypeId) | fn | err | map (k e : TypeId) | other
structure TI where
 k : TK
 size : Nat
 bytes : Nat
 code : Option TC
 eq : Bool
 ints : Bool      -- an array of numbers that is held as a row
abbrev Tb := List (Nat × TI)
def Tb.get : Tb → Nat → Option TI
 | [], _ => none
 | (k, i) :: r, t => bif Nat.beq k t then some i else Tb.get r t
def TK.isAgg : TK → Bool
 | .arr .. | .struct _ => true
 | _ => false

/-! ### leaves -/
def leaves : (c : TC) → c.α → List L
 | .pair a b, x => leaves a x.1 ++ leaves b x.2
 | .int k, x => [.pv (.int k) x]
 | .bool, x => [.pv .bool x]
 | .str, x => [.pv .str x]
 | .err t, x => [.pv (.err t) x]
 | .list c, x => [.pv (.list c) x]
def zleaves : TC → List L
 | .pair a b => zleaves a ++ zleaves b
 | .list _ => [.nils]
 | .int k => [.pv (.int k) (0 : Int)]
 | .bool => [.pv .bool false]
 | .str => [.pv .str (⟨#[]⟩ : ByteArray)]
 | .err t => [.pv (.err t) false]
def unL : (c : TC) → L → Option c.α
 | c, .pv c' x => if h : c' = c then some (h ▸ x) else none
 | .list _, .nils => some []
 | .err _, .nilI => some false
 | _, _ => none
def unleaves : (c : TC) → List L → Option c.α
 | .pair a b, ls => (unleaves a (ls.take a.size)).bind fun x => (unleaves b (ls.drop a.size)).bind fun y => some (x, y)
 | .int k, [l] => unL (.int k) l
 | .bool, [l] => unL .bool l
 | .str, [l] => unL .str l
 | .err t, [l] => unL (.err t) l
 | .list c, [l] => unL (.list c) l
 | _, _ => none
def D.ls : D → List L
 | .one l => [l]
 | .agg ls => ls
 | .tup _ => []
def D.leaf : D → Option L
 | .one l => some l
 | _ => none
def upd (h : Heap) (o : Nat) (b : Ob) : Heap := fun x => bif Nat.beq x o then b else h x
def solid (h : Heap) : L → NM (L × Heap)
 | .own o => match h o with
  | .row _ c l => .pure (.pv (.list c) l, upd h o (.ice c l))
  | .ice c l => .pure (.pv (.list c) l, h)
  | .grid _ _ _ none ll => .pure (.pv (.list (.list (.int .i64))) ll, upd h o (.ice (.list (.int .i64)) ll))
  | _ => .fail
 | .sub o lo hi => match h o with
  | .row _ c l => .pure (.pv (.list c) ((l.take hi).drop lo), upd h o (.ice c l))
  | .ice c l => .pure (.pv (.list c) ((l.take hi).drop lo), h)
  | _ => .fail
 | l => .pure (l, h)
def solids (h : Heap) : List L → NM (List L × Heap)
 | [] => .pure ([], h)
 | l :: r => (solid h l).bind fun (l', h') => (solids h' r).bind fun (r', h'') => .pure (l' :: r', h'')
def lend (h : Heap) : L → Option L
 | .own o => match h o with
  | .row _ c l => some (.pv (.list c) l)
  | .ice c l => some (.pv (.list c) l)
  | .grid _ _ _ none ll => some (.pv (.list (.list (.int .i64))) ll)
  | _ => none
 | .sub o lo hi => match h o with
  | .row _ c l => some (.pv (.list c) ((l.take hi).drop lo))
  | .ice c l => some (.pv (.list c) ((l.take hi).drop lo))
  | _ => none
 | l => some l
def lend0 (h : Heap) : L → Option L
 | .own o => match h o with
  | .row _ c l => some (.pv (.list c) l)
  | .ice c l => some (.pv (.list c) l)
  | _ => none
 | .sub o lo hi => match h o with
  | .row _ c l => some (.pv (.list c) ((l.take hi).drop lo))
  | .ice c l => some (.pv (.list c) ((l.take hi).drop lo))
  | _ => none
 | l => some l
def D.lend (h : Heap) : D → Option D
 | .one l => (VI.lend h l).map .one
 | .agg ls => (ls.mapM (VI.lend h)).map .agg
 | .tup _ => none

/-! ### operands -/
def constL : Value → L
 | .int k n => .pv (.int k) n
 | .bool b => .pv .bool b
 | .string s => .pv .str s
 | .slice none 0 0 => .nils
 | .pointer none => .nilp
 | .nilIface => .nilI
 | .func (.func f) a b => bif Nat.beq a.size 0 && Nat.beq b.size 0 then .fn f [] else .undef
 | _ => .undef
def operand (s : List D) : Operand → Option D
 | .tmp t => s[t]?
 | .const v => some (.one (constL v))
 | .global g => some (.one (.gptr g))
 | .func f => some (.one (.fn f []))
def oL (s : List D) (x : Operand) : Option L := (operand s x).bind D.leaf
def oInt (s : List D) (x : Operand) : Option (IntKind × Int) :=
 (oL s x).bind fun | .pv (.int k) n => some (k, n) | _ => none
def oI (s : List D) (x : Operand) : Option Int := (oInt s x).map (·.2)
def oBool (s : List D) (x : Operand) : Option Bool :=
 (oL s x).bind fun | .pv .bool b => some b | _ => none

/-! ### operations -/
def binL (op : BinOp) : L → L → NM L
 | .pv (.int k) a, .pv (.int k') b =>
  match op with
  | .shl => .guard (decide (0 ≤ b)) (.pure (.pv (.int k) (k.wrap (a * 2 ^ (min b.toNat k.bits)))))
  | .shr => .guard (decide (0 ≤ b)) (.pure (.pv (.int k) (a.fdiv (2 ^ (min b.toNat k.bits)))))
  | _ => .guard (decide (k = k')) (match op with
   | .add => .pure (.pv (.int k) (k.wrap (a + b)))
   | .sub => .pure (.pv (.int k) (k.wrap (a - b)))
   | .mul => .pure (.pv (.int k) (k.wrap (a * b)))
   | .quo => .guard (!decide (b = 0)) (.pure (.pv (.int k) (k.wrap (a.tdiv b))))
   | .rem => .guard (!decide (b = 0)) (.pure (.pv (.int k) (a.tmod b)))
   | .and => .pure (.pv (.int k) (k.wrap ((BitVec.ofInt k.bits a &&& BitVec.ofInt k.bits b).toNat)))
   | .or => .pure (.pv (.int k) (k.wrap ((BitVec.ofInt k.bits a ||| BitVec.ofInt k.bits b).toNat)))
   | .xor => .pure (.pv (.int k) (k.wrap ((BitVec.ofInt k.bits a ^^^ BitVec.ofInt k.bits b).toNat)))
   | .andNot => .pure (.pv (.int k) (k.wrap ((BitVec.ofInt k.bits a &&& ~~~(BitVec.ofInt k.bits b)).toNat)))
   | .eql => .pure (.pv .bool (a == b))
   | .neq => .pure (.pv .bool (a != b))
   | .lss => .pure (.pv .bool (decide (a < b)))
   | .leq => .pure (.pv .bool (decide (a ≤ b)))
   | .gtr => .pure (.pv .bool (decide (a > b)))
   | .geq => .pure (.pv .bool (decide (a ≥ b)))
   | _ => .fail)
 | .pv .bool a, .pv .bool b =>
  match op with
  | .eql => .pure (.pv .bool (a == b))
  | .neq => .pure (.pv .bool (!(a == b)))
  | _ => .fail
 | .pv .str a, .pv .str b =>
  match op with
  | .add => .guard (decide (a.size + b.size ≤ 9223372036854775807)) (.pure (.pv .str (a ++ b)))
  | .eql => .pure (.pv .bool (a.toList == b.toList))
  | .neq => .pure (.pv .bool (!(a.toList == b.toList)))
  | .lss => .pure (.pv .bool (Op.bytesLess a.toList b.toList))
  | .leq => .pure (.pv .bool (Op.bytesLess a.toList b.toList || a.toList == b.toList))
  | .gtr => .pure (.pv .bool (!(Op.bytesLess a.toList b.toList || a.toList == b.toList)))
  | .geq => .pure (.pv .bool (!Op.bytesLess a.toList b.toList))
  | _ => .fail
 | _, _ => .fail
def eqFs (f : TypeId → List L → List L → Option Bool) (T : Tb) : List (Nat × TypeId) → List L → List L → Option Bool
 | [], _, _ => some true
 | (off, t) :: r, ls, ls' => (T.get t).bind fun ti => bif Nat.ble 1 ti.size && (Nat.ble (off + ti.size) ls.length && Nat.ble (off + ti.size) ls'.length) then
   (f t ((ls.drop off).take ti.size) ((ls'.drop off).take ti.size)).bind fun b => (eqFs f T r ls ls').map fun c => b && c else none
def eqT (T : Tb) : Nat → TypeId → List L → List L → Option Bool
 | 0, _, _, _ => none
 | d + 1, t, ls, ls' => (T.get t).bind fun ti => match ti.k, ls, ls' with
  | .int _, [.pv (.int k) a], [.pv (.int k') b] => if k = k' then some (a == b) else none
  | .bool, [.pv .bool a], [.pv .bool b] => some (a == b)
  | .str, [.pv .str a], [.pv .str b] => some (a.toList == b.toList)
  | .struct fs, ls, ls' => bif ti.eq then eqFs (eqT T d) T fs ls ls' else none
  | _, _, _ => none
def boolT (T : Tb) (t : TypeId) : L → Bool
 | .pv .bool _ => match T.get t with
  | some ti => match ti.k with | .bool => true | _ => false
  | none => false
 | _ => true
def aggT (T : Tb) (t : TypeId) : Bool := match T.get t with
 | some ti => ti.k.isAgg && ti.eq
 | none => false
def binD (T : Tb) (op : BinOp) (t : TypeId) : D → D → NM D
 | .one a, .one b => .guard (boolT T t a) ((binL op a b).bind fun l => .pure (.one l))
 | .agg a, .agg b =>
  match op with
  | .eql => .guard (aggT T t) ((NM.opt (eqT T 20 t a b)).bind fun t => .pure (.one (.pv .bool t)))
  | .neq => .guard (aggT T t) ((NM.opt (eqT T 20 t a b)).bind fun t => .pure (.one (.pv .bool (!t))))
  | _ => .fail
 | _, _ => .fail
def errD (T : Tb) (op : BinOp) (t : TypeId) (y : Operand) : D → Option D
 | .one (.pv (.err _) b) => match y with
  | .const .nilIface => (T.get t).bind fun ti => match ti.k with
   | .err => match op with
    | .eql => some (.one (.pv .bool (!b)))
    | .neq => some (.one (.pv .bool b))
    | _ => none
   | _ => none
  | _ => none
 | _ => none
def binDE (T : Tb) (op : BinOp) (t : TypeId) (y : Operand) (a b : D) : NM D := match errD T op t y a with
 | some d => .pure d
 | none => binD T op t a b
def mkD (isAgg : Bool) (ls : List L) : NM D :=
 match isAgg, ls with
 | true, ls => .pure (.agg ls)
 | false, [l] => .pure (.one l)
 | _, _ => .fail
def newOb (h : Heap) (id : Nat) (ob : Ob) : NM Heap :=
 match h id with
 | .none => .pure (upd h id ob)
 | _ => .fail
def idOf (d : Nat) : Nat := 100 + 8 * d
def loadL (h : Heap) (n : Nat) : L → NM (List L)
 | .ptr o i j => match h o with
  | .box ls => .guard (Nat.ble (j + n) ls.length) (.pure ((ls.drop j).take n))
  | .row _ c l => .guard (Nat.ble (j + n) c.size) (.pure (((leaves c (l.getD i c.dflt)).drop j).take n))
  | .ice c l => .guard (Nat.ble (j + n) c.size) (.pure (((leaves c (l.getD i c.dflt)).drop j).take n))
  | _ => .fail
 | .iptr c x j => .guard (Nat.ble (j + n) c.size) (.pure (((leaves c x).drop j).take n))
 | _ => .fail
def storeL (h : Heap) (ls : List L) : L → NM Heap
 | .ptr o i j => match h o with
  | .box bs => .guard (Nat.ble (j + ls.length) bs.length) (.pure (upd h o (.box (bs.take j ++ ls ++ bs.drop (j + ls.length)))))
  | .row e c l => (solids h ls).bind fun (ls', h') =>
   .guard (Nat.ble (j + ls.length) c.size) ((NM.opt (unleaves c ((leaves c (l.getD i c.dflt)).take j ++ ls' ++ (leaves c (l.getD i c.dflt)).drop (j + ls'.length)))).bind fun x =>
   match h' o with
   | .row _ _ _ => .pure (upd h' o (.row e c (l.set i x)))
   | _ => .fail)
  | _ => .fail
 | _ => .fail
def lenL (h : Heap) : L → NM Int
 | .pv (.list _) l => .pure (l.length : Int)
 | .own o => match h o with
  | .row _ _ l => .pure (l.length : Int)
  | .ice _ l => .pure (l.length : Int)
  | _ => .fail
 | .sub o lo hi => match h o with
  | .row .. => .pure ((hi - lo : Nat) : Int)
  | .ice .. => .pure ((hi - lo : Nat) : Int)
  | _ => .fail
 | .nils => .pure 0
 | _ => .fail
def indexL (h : Heap) (size : Nat) (i : Int) : L → NM L
 | .pv (.list c) l => .guard (Nat.beq c.size size) (.guard (decide (0 ≤ i)) (.guard (decide (i < (l.length : Int))) (.pure (.iptr c (l.getD i.toNat c.dflt) 0))))
 | .own o => match h o with
  | .row _ c l => .guard (Nat.beq c.size size) (.guard (decide (0 ≤ i)) (.guard (decide (i < (l.length : Int))) (.pure (.ptr o i.toNat 0))))
  | .ice c l => .guard (Nat.beq c.size size) (.guard (decide (0 ≤ i)) (.guard (decide (i < (l.length : Int))) (.pure (.ptr o i.toNat 0))))
  | _ => .fail
 | .sub o lo hi => match h o with
  | .row _ c l => .guard (Nat.beq c.size size) (.guard (decide (0 ≤ i)) (.guard (decide (i < ((hi - lo : Nat) : Int))) (.pure (.ptr o (lo + i.toNat) 0))))
  | .ice c l => .guard (Nat.beq c.size size) (.guard (decide (0 ≤ i)) (.guard (decide (i < ((hi - lo : Nat) : Int))) (.pure (.ptr o (lo + i.toNat) 0))))
  | _ => .fail
 | _ => .fail
def bounds (n : Int) (lo hi : Option Int) (k : Int → Int → NM L) : NM L :=
 let a := lo.getD 0
 let b := hi.getD n
 let low (m : NM L) : NM L := match lo with | none => m | some a => .guard (decide (0 ≤ a)) m
 let mid (m : NM L) : NM L := match lo with
  | some a => .guard (decide (a ≤ b)) m
  | none => match hi with
   | some b => .guard (decide (0 ≤ b)) m
   | none => m
 let high (m : NM L) : NM L := match hi with | none => m | some b => .guard (decide (b ≤ n)) m
 low (mid (high (k a b)))
def sliceL (h : Heap) (size : Nat) (lo hi : Option Int) : L → NM L
 | .pv (.list c) l => .guard (Nat.beq c.size size) (bounds (l.length : Int) lo hi fun a b => .pure (.pv (.list c) ((l.take b.toNat).drop a.toNat)))
 | .own o => match h o with
  | .row _ c l => .guard (Nat.beq c.size size) (bounds (l.length : Int) lo hi fun a b => .pure (.sub o a.toNat b.toNat))
  | .ice c l => .guard (Nat.beq c.size size) (bounds (l.length : Int) lo hi fun a b => .pure (.sub o a.toNat b.toNat))
  | _ => .fail
 | .sub o p q => match h o with
  | .row _ c l => .guard (Nat.beq c.size size) (bounds ((q - p : Nat) : Int) lo hi fun a b => .pure (.sub o (p + a.toNat) (p + b.toNat)))
  | .ice c l => .guard (Nat.beq c.size size) (bounds ((q - p : Nat) : Int) lo hi fun a b => .pure (.sub o (p + a.toNat) (p + b.toNat)))
  | _ => .fail
 | .nils => bounds 0 lo hi fun a b => .pure .nils
 | _ => .fail
def sliceS (lo hi : Option Int) : L → NM L
 | .pv .str s => bounds (s.size : Int) lo hi fun a b => .pure (.pv .str (s.extract a.toNat b.toNat))
 | _ => .fail
def oOpt (s : List D) : Option Operand → Option (Option Int)
 | none => some none
 | some x => (oI s x).map some
def rowOf (h : Heap) (c : TC) : L → Option (List c.α)
 | .nils => some []
 | l => (lend0 h l).bind fun l' => unL (.list c) l'
def appendL (h : Heap) (id : Nat) (e : TypeId) (c : TC) (bytes : Nat) (y : L) : L → NM (L × Heap)
 | .nils => (NM.opt (rowOf h c y)).bind fun ys => .guard (decide (ys.length * bytes ≤ 140737488355328)) ((newOb h id (.row e c ys)).bind fun h' => .pure (.own id, h'))
 | .own o => match h o with
  | .row e' c' l => (NM.opt (rowOf h c y)).bind fun ys =>
   if hc : c' = c then .guard (Nat.beq e' e) (.guard (decide ((l.length + ys.length) * bytes ≤ 140737488355328)) ((newOb (upd h o .gone) id (.row e c ((hc ▸ l) ++ ys))).bind fun h' => .pure (.own id, h')))
   else .fail
  | _ => .fail
 | _ => .fail
def fineL : L → Bool
 | .undef => false
 | .skip => false
 | .arr _ => false
 | .inn .. => false
 | .gp .. => false
 | _ => true
def fieldsAt : List (Nat × TypeId) → Nat → Option (Nat × TypeId)
 | [], _ => none
 | x :: _, 0 => some x
 | _ :: r, n + 1 => fieldsAt r n
def arrFs (n : Nat) (e : TypeId) (size : Nat) : List (Nat × TypeId) := (List.range n).map fun i => (i * size, e)
def buildLs (T : Tb) (fs : List (Nat × TypeId)) (s : List D) : List (Nat × Operand) → List L → Option (List L)
 | [], acc => some acc
 | (i, x) :: r, acc => (fieldsAt fs i).bind fun (off, t) => (T.get t).bind fun ti => (operand s x).bind fun d =>
  bif Nat.beq d.ls.length ti.size && (Nat.ble (off + ti.size) acc.length && (d.ls.all fineL && Nat.ble 1 ti.size)) then buildLs T fs s r (acc.take off ++ d.ls ++ acc.drop (off + ti.size)) else none
def buildRow (c : TC) (s : List D) (h : Heap) : Nat → List (Nat × Operand) → NM (List c.α × Heap)
 | _, [] => .pure ([], h)
 | n, (i, x) :: r => .guard (Nat.beq i n) ((NM.opt (operand s x)).bind fun d => (solids h d.ls).bind fun (ls, h') => (NM.opt (unleaves c ls)).bind fun v =>
   (buildRow c s h' (n + 1) r).bind fun (vs, h'') => .pure (v :: vs, h''))
def lookL (n : Int) : List (Int × Nat × List (Nat × Nat)) → NM L
 | [] => .fail
 | e :: r => .cond (n == e.1) (.pure (.fn e.2.1 e.2.2)) (lookL n r)
def mapT (T : Tb) (t : TypeId) : Bool := match T.get t with
 | some ti => (match ti.k with
  | .map k _ => (match T.get k with
   | some tk => (match tk.k with | .int .i64 => true | _ => false)
   | none => false)
  | _ => false)
 | none => false
def mn (a b : Int) : Int := if b < a then b else a
def mx (a b : Int) : Int := if b > a then b else a

/-! ### what calls and loops do -/
inductive LS where
 | pv (c : TC) | is (l : L) | arr
@[reducible] def LS.X : LS → Type
 | .pv c => c.α
 | .is _ => Unit
 | .arr => List Int
inductive DS where
 | one (l : LS) | agg (ls : List LS)
inductive OS where
 | box (ls : List LS) | row (e : TypeId) (c : TC) | gone | grid (e d : TypeId)
@[reducible] def lsX : List LS → Type
 | [] => Unit
 | l :: r => l.X × lsX r
@[reducible] def DS.X : DS → Type
 | .one l => l.X
 | .agg ls => lsX ls
@[reducible] def OS.X : OS → Type
 | .box ls => lsX ls
 | .row _ c => List c.α
 | .gone => Unit
 | .grid _ _ => List (List Int)
@[reducible] def dsX : List DS → Type
 | [] => Unit
 | d :: r => d.X × dsX r
@[reducible] def osX : List OS → Type
 | [] => Unit
 | d :: r => d.X × osX r
def sameL : L → L → Bool
 | .nils, .nils => true
 | .own a, .own b => Nat.beq a b
 | .sub a b c, .sub a' b' c' => Nat.beq a a' && (Nat.beq b b' && Nat.beq c c')
 | .ptr a b c, .ptr a' b' c' => Nat.beq a a' && (Nat.beq b b' && Nat.beq c c')
 | .nilp, .nilp => true
 | .nilI, .nilI => true
 | .fmap a, .fmap b => decide (a = b)
 | .undef, _ => true
 | .gptr a, .gptr b => Nat.beq a b
 | .fn f cs, .fn f' cs' => Nat.beq f f' && (Nat.beq cs.length cs'.length && (cs.zip cs').all fun p => Nat.beq p.1.1 p.2.1 && Nat.beq p.1.2 p.2.2)
 | _, _ => false
def LS.dec : (s : LS) → L → Option s.X
 | .pv c, l => unL c l
 | .is l', l => bif sameL l' l then some () else none
 | .arr, .arr x => some x
 | .arr, _ => none
def LS.enc : (s : LS) → s.X → L
 | .pv c, x => .pv c x
 | .is l, _ => l
 | .arr, x => .arr x
def lsDec : (ss : List LS) → List L → Option (lsX ss)
 | [], [] => some ()
 | s :: r, l :: t => (s.dec l).bind fun x => (lsDec r t).bind fun y => some (x, y)
 | _, _ => none
def lsEnc : (ss : List LS) → lsX ss → List L
 | [], _ => []
 | s :: r, x => s.enc x.1 :: lsEnc r x.2
def DS.dec : (s : DS) → D → Option s.X
 | .one s, .one l => s.dec l
 | .agg ss, .agg ls => lsDec ss ls
 | _, _ => none
def DS.enc : (s : DS) → s.X → D
 | .one s, x => .one (s.enc x)
 | .agg ss, x => .agg (lsEnc ss x)
def OS.dec : (s : OS) → Ob → Option s.X
 | .box ss, .box ls => lsDec ss ls
 | .row e c, .row e' c' l => if h : c' = c then (bif Nat.beq e' e then some (h ▸ l) else none) else none
 | .gone, .gone => some ()
 | .grid e d, .grid e' d' n none ll => bif Nat.beq e' e && (Nat.beq d' d && Nat.beq n 0) then some ll else none
 | _, _ => none
def OS.enc : (s : OS) → s.X → Ob
 | .box ss, x => .box (lsEnc ss x)
 | .row e c, l => .row e c l
 | .gone, _ => .gone
 | .grid e d, ll => .grid e d 0 none ll
def dsDec : (ss : List DS) → List D → Option (dsX ss)
 | [], [] => some ()
 | s :: r, l :: t => (s.dec l).bind fun x => (dsDec r t).bind fun y => some (x, y)
 | _, _ => none
def dsEnc : (ss : List DS) → dsX ss → List D
 | [], _ => []
 | s :: r, x => s.enc x.1 :: dsEnc r x.2
def osDec : (ss : List OS) → List Ob → Option (osX ss)
 | [], [] => some ()
 | s :: r, l :: t => (s.dec l).bind fun x => (osDec r t).bind fun y => some (x, y)
 | _, _ => none
def osEnc : (ss : List OS) → osX ss → List Ob
 | [], _ => []
 | s :: r, x => s.enc x.1 :: osEnc r x.2
structure Sh where
 ds : List DS
 os : List OS
@[reducible] def Sh.X (s : Sh) : Type := dsX s.ds × osX s.os
def Sh.dec (s : Sh) (ds : List D) (os : List Ob) : Option s.X :=
 (dsDec s.ds ds).bind fun x => (osDec s.os os).bind fun y => some (x, y)
inductive Ex where
 | normal | ret | exit (n : Nat)
structure FE where
 lend : List Bool
 ret : Bool
 sh : Sh
 Y : Type
 F : sh.X → Option Y
 enc : sh.X → Y → List D × List Ob
@[reducible] def FE.of (lend : List Bool) (ret : Bool) (sh osh : Sh) (F : sh.X → Option osh.X) : FE := ⟨lend, ret, sh, osh.X, F, fun _ y => (dsEnc osh.ds y.1, osEnc osh.os y.2)⟩
@[reducible] def sumX : List (Ex × Sh) → Type
 | [] => Empty
 | p :: r => p.2.X ⊕ sumX r
def encS : (es : List (Ex × Sh)) → sumX es → Ex × List D × List Ob
 | [], y => nomatch y
 | p :: _, .inl y => (p.1, dsEnc p.2.ds y.1, osEnc p.2.os y.2)
 | _ :: r, .inr y => encS r y
def Ex.num : Ex → Nat
 | .normal => 0
 | .ret => 1
 | .exit n => n + 2
def decS : (es : List (Ex × Sh)) → Ex → List D → List Ob → Option (sumX es)
 | [], _, _, _ => none
 | p :: r, ex, ds, obs => bif Nat.beq p.1.num ex.num then (p.2.dec ds obs).map .inl else (decS r ex ds obs).map .inr
structure LE where
 sh : Sh
 es : List (Ex × Sh)
 F : sh.X → Option (sumX es)
@[reducible] def LE.of (sh : Sh) (es : List (Ex × Sh)) (F : sh.X → Option (sumX es)) : LE := ⟨sh, es, F⟩
def sumK {Z : Type} : (es : List (Ex × Sh)) → sumX es → (Ex × List D × List Ob → NM Z) → NM Z
 | [], y, _ => NM.absurd y
 | p :: r, y, k => NM.sum y (fun a => k (p.1, dsEnc p.2.ds a.1, osEnc p.2.os a.2)) (fun b => sumK r b k)

/-! ### packing -/
def idx (o : Nat) : List Nat → Nat → Option Nat
 | [], _ => none
 | x :: r, n => bif Nat.beq x o then some n else idx o r (n + 1)
def place (o : Nat) (tr : List Nat) : Nat × List Nat :=
 match idx o tr 0 with
 | some k => (k, tr)
 | none => (tr.length, tr ++ [o])
def packCaps (h : Heap) : List (Nat × Nat) → List Nat → NM (List (Nat × Nat) × List Nat)
 | [], tr => .pure ([], tr)
 | (o, j) :: r, tr => match h o with
  | .box _ => (packCaps h r (place o tr).2).bind fun (r', tr') => .pure (((place o tr).1, j) :: r', tr')
  | _ => .fail
def packL (h : Heap) (tr : List Nat) : L → NM (L × List Nat)
 | .own o => match h o with
  | .none => .fail
  | .gone => .pure (.undef, tr)
  | .lock .. => .pure (.undef, tr)
  | _ => .pure (.own (place o tr).1, (place o tr).2)
 | .sub o lo hi => match h o with
  | .none => .fail
  | .gone => .pure (.undef, tr)
  | .lock .. => .pure (.undef, tr)
  | _ => .pure (.sub (place o tr).1 lo hi, (place o tr).2)
 | .ptr o i j => match h o with
  | .none => .fail
  | .gone => .pure (.undef, tr)
  | .lock .. => .pure (.undef, tr)
  | _ => .pure (.ptr (place o tr).1 i j, (place o tr).2)
 | .fn f caps => (packCaps h caps tr).bind fun (cs, tr') => .pure (.fn f cs, tr')
 | .fmap _ => .fail
 | .inn .. => .pure (.undef, tr)
 | .gp .. => .pure (.undef, tr)
 | l => .pure (l, tr)
def packLs (h : Heap) : List Nat → List L → NM (List L × List Nat)
 | tr, [] => .pure ([], tr)
 | tr, l :: r => (packL h tr l).bind fun (l', tr') => (packLs h tr' r).bind fun (r', tr'') => .pure (l' :: r', tr'')
def packD (h : Heap) (tr : List Nat) : D → NM (D × List Nat)
 | .one l => (packL h tr l).bind fun (l', tr') => .pure (.one l', tr')
 | .agg ls => (packLs h tr ls).bind fun (ls', tr') => .pure (.agg ls', tr')
 | .tup _ => .fail
def packDs (h : Heap) : List Nat → List D → NM (List D × List Nat)
 | tr, [] => .pure ([], tr)
 | tr, l :: r => (packD h tr l).bind fun (l', tr') => (packDs h tr' r).bind fun (r', tr'') => .pure (l' :: r', tr'')
def packObs (h : Heap) : Nat → Nat → List Nat → NM (List Ob × List Nat)
 | 0, _, _ => .fail
 | f + 1, k, tr => match tr[k]? with
  | none => .pure ([], tr)
  | some o => match h o with
   | .box ls => (packLs h tr ls).bind fun (ls', tr') => (packObs h f (k + 1) tr').bind fun (obs, tr'') => .pure (.box ls' :: obs, tr'')
   | .none => .fail
   | .lock .. => .fail
   | .grid e d _ hole ll => .guard hole.isNone ((packObs h f (k + 1) tr).bind fun (obs, tr'') => .pure (.grid e d 0 none ll :: obs, tr''))
   | ob => (packObs h f (k + 1) tr).bind fun (obs, tr'') => .pure (ob :: obs, tr'')
def pack (h : Heap) (tr0 : List Nat) (ds : List D) : NM (List D × List Ob × List Nat) :=
 (packDs h tr0 ds).bind fun (ds', tr) => (packObs h 40 0 tr).bind fun (obs, tr') => .pure (ds', obs, tr')
def heapOf (obs : List Ob) : Heap := fun k => (obs[k]?).getD .none
def pick (s : List D) : List Nat → Option (List D)
 | [] => some []
 | t :: r => (s[t]?).bind fun d => (pick s r).bind fun ds => some (d :: ds)
def lay : List Nat → List D → List D → List D
 | t :: r, d :: ds, s => lay r ds (s.set t d)
 | _, _, s => s
end Go.VI
namespace Go.VI
open Go

structure Env where
 T : Tb
 C : Nat → List Nat → Option FE
 LP : Nat → Option LE
 N : Nat
 m : Nat        -- how many objects came in
 G : Nat → Option (IntKind × List Int)   -- tables of numbers

def bytesOf (bs : List Int) : ByteArray := ⟨(bs.map fun n => UInt8.ofNat n.toNat).toArray⟩
def bytesIn (T : Tb) (h : Heap) (src : TypeId) (l : L) : Option (List Int) :=
 (T.get src).bind fun si => match si.k with
  | .slice e => (T.get e).bind fun te => match te.k with
   | .int .u8 => rowOf h (.int .u8) l
   | _ => none
  | _ => none
def flatP (h : Heap) (o a j d : Nat) : NM L := match h o with
 | .row _ (.int _) zs => .guard (Nat.beq j 0) (.guard (decide (((a + d : Nat) : Int) < (zs.length : Int))) (.pure (.ptr o (a + d) 0)))
 | _ => .pure (.ptr o a (j + d))
def atK {Z : Type} (n : Int) (k : Nat → NM Z) : Nat → Nat → NM Z
 | 0, _ => .fail
 | f + 1, i => .cond (n == (i : Int)) (k i) (atK n k f (i + 1))
def opK (E : Env) (o : Oper) (σ : St) : NM (D × Heap) :=
 let s := σ.s
 let h := σ.h
 match o.op with
 | .move x => (NM.opt (operand s x)).bind fun d => .pure (d, h)
 | .assign x => (NM.opt (operand s x)).bind fun d => .pure (d, h)
 | .pick c a b => (NM.opt (oBool s c)).bind fun t => (NM.opt (operand s a)).bind fun da => (NM.opt (operand s b)).bind fun db =>
   .cond t (.pure (da, h)) (.pure (db, h))
 | .alloc t => (NM.opt (E.T.get t)).bind fun ti => (NM.opt o.dst).bind fun d =>
   (newOb h (idOf d) (.box (match ti.code with | some c => zleaves c | none => List.replicate ti.size .undef))).bind fun h' => .pure (.one (.ptr (idOf d) 0 0), h')
 | .box t x => (NM.opt (operand s x)).bind fun v => (NM.opt o.dst).bind fun d =>
   .guard ((match v with | .tup _ => false | _ => true) && v.ls.all fineL) ((newOb h (idOf d) (.box v.ls)).bind fun h' => .pure (.one (.ptr (idOf d) 0 0), h'))
 | .build t parts => (NM.opt (E.T.get t)).bind fun ti => (NM.opt ti.code).bind fun c =>
   match ti.k with
   | .struct fs => .guard (fs.all fun p => (E.T.get p.2).isSome) ((NM.opt (buildLs E.T fs s parts.toList (zleaves c))).bind fun ls => .pure (.agg ls, h))
   | .arr n e => (NM.opt (E.T.get e)).bind fun te => (NM.opt (buildLs E.T (arrFs n e te.size) s parts.toList (zleaves c))).bind fun ls => .pure (.agg ls, h)
   | _ => .fail
 | .buildSlice t len parts => (NM.opt (E.T.get t)).bind fun ti =>
   match ti.k with
   | .slice e => (NM.opt (E.T.get e)).bind fun te => (NM.opt te.code).bind fun c => (NM.opt o.dst).bind fun d =>
     .guard (Nat.beq len parts.toList.length && Nat.ble (len * te.size) 16777216) ((buildRow c s h 0 parts.toList).bind fun (l, h') =>
      (newOb h' (idOf d) (.row e c l)).bind fun h'' => .pure (.one (.own (idOf d)), h''))
   | _ => .fail
 | .load t a => (NM.opt (E.T.get t)).bind fun ti => (NM.opt (oL s a)).bind fun l => (loadL h ti.size l).bind fun ls => (mkD ti.k.isAgg ls).bind fun d => .pure (d, h)
 | .store t a x => (NM.opt (E.T.get t)).bind fun ti => (NM.opt (oL s a)).bind fun l => (NM.opt (operand s x)).bind fun v =>
   .guard (Nat.beq v.ls.length ti.size && (Nat.ble 1 ti.size && v.ls.all fineL)) ((storeL h v.ls l).bind fun h' => .pure (.one .skip, h'))
 | .nilCheck x => (NM.opt (oL s x)).bind fun l => match l with
   | .ptr .. => .pure (.one l, h)
   | .iptr .. => .pure (.one l, h)
   | .gptr .. => .pure (.one l, h)
   | .fn .. => .pure (.one l, h)
   | _ => .fail
 | .binOp op t x y _ => (NM.opt (operand s x)).bind fun a => (NM.opt (operand s y)).bind fun b => (binDE E.T op t y a b).bind fun d => .pure (d, h)
 | .unOp op t x => (NM.opt (oL s x)).bind fun l => match op, l with
   | .neg, .pv (.int k) n => .pure (.one (.pv (.int k) (k.wrap (0 - n))), h)
   | .not, .pv .bool b => .pure (.one (.pv .bool (!b)), h)
   | _, _ => .fail
 | .convert src dst x => (NM.opt (E.T.get dst)).bind fun ti => (NM.opt (oL s x)).bind fun l => match ti.k, l with
   | .int k, .pv (.int _) n => .pure (.one (.pv (.int k) (k.wrap n)), h)
   | .str, .pv .str b => .pure (.one (.pv .str b), h)
   | .str, l => (NM.opt (bytesIn E.T h src l)).bind fun bs => .pure (.one (.pv .str (bytesOf bs)), h)
   | _, _ => .fail
 | .makeFunc (.func f) first captured => .guard (Nat.beq first.size 0) ((NM.opt (captured.toList.mapM fun x => (oL s x).bind fun | .ptr o 0 j => some (o, j) | _ => none)).bind fun cs => .pure (.one (.fn f cs), h))
 | .makeSlice t len cap => (NM.opt (E.T.get t)).bind fun ti =>
   match ti.k with
   | .slice e => (NM.opt (E.T.get e)).bind fun te => (NM.opt te.code).bind fun c => (NM.opt o.dst).bind fun d => (NM.opt (oI s len)).bind fun n => (NM.opt (oI s cap)).bind fun m =>
     .guard (decide (n = m)) (.guard (decide (0 ≤ n)) (.guard (decide ((te.bytes : Int) * n ≤ 281474976710656) && Nat.ble 1 te.bytes) ((newOb h (idOf d) (.row e c (List.replicate n.toNat c.dflt))).bind fun h' => .pure (.one (.own (idOf d)), h'))))
   | _ => .fail
 | .slice t x lo hi mx => (NM.opt (E.T.get t)).bind fun ti => (NM.opt (oL s x)).bind fun l => (NM.opt (oOpt s lo)).bind fun lo' => (NM.opt (oOpt s hi)).bind fun hi' => .guard mx.isNone
   (match ti.k with
   | .str => (sliceS lo' hi' l).bind fun l' => .pure (.one l', h)
   | .slice e => (NM.opt (E.T.get e)).bind fun te => (sliceL h te.size lo' hi' l).bind fun l' => .pure (.one l', h)
   | _ => .fail)
 | .fieldAddr t x f => (NM.opt (E.T.get t)).bind fun ti => (NM.opt (oL s x)).bind fun l =>
   match ti.k with
   | .struct fs => (NM.opt (fieldsAt fs f)).bind fun (off, ft) => (NM.opt (E.T.get ft)).bind fun fi => .guard (Nat.ble 1 fi.size) (match l with
     | .ptr o i j => .pure (.one (.ptr o i (j + off)), h)
     | .iptr c y j => .pure (.one (.iptr c y (j + off)), h)
     | _ => .fail)
   | _ => .fail
 | .field t x f => (NM.opt (E.T.get t)).bind fun ti => (NM.opt (operand s x)).bind fun v =>
   match ti.k, v with
   | .struct fs, .agg ls => (NM.opt (fieldsAt fs f)).bind fun (off, ft) => (NM.opt (E.T.get ft)).bind fun fi =>
     .guard (Nat.ble 1 fi.size && Nat.ble (off + fi.size) ls.length) ((mkD fi.k.isAgg ((ls.drop off).take fi.size)).bind fun d => .pure (d, h))
   | _, _ => .fail
 | .indexAddr t x i => (NM.opt (E.T.get t)).bind fun ti => (NM.opt (oL s x)).bind fun l => (NM.opt (oI s i)).bind fun n =>
   match ti.k with
   | .slice e => (NM.opt (E.T.get e)).bind fun te => (indexL h te.size n l).bind fun l' => .pure (.one l', h)
   | .arr k e => (NM.opt (E.T.get e)).bind fun te => match l with
     | .ptr o a j => .guard (decide (0 ≤ n)) (.guard (decide (n < (k : Int))) ((flatP h o a j (n.toNat * te.size)).bind fun l' => .pure (.one l', h)))
     | .gptr g => (NM.opt (E.G g)).bind fun p => .guard (Nat.beq te.size 1 && Nat.beq k p.2.length) (.guard (decide (0 ≤ n)) (.guard (decide (n < (k : Int))) (.pure (.one (.iptr (.int p.1) (p.2.getD n.toNat (0 : Int)) 0), h))))
     | _ => .fail
   | _ => .fail
 | .index t x i => (NM.opt (E.T.get t)).bind fun ti => (NM.opt (oI s i)).bind fun n =>
   match ti.k with
   | .str => (NM.opt (oL s x)).bind fun l => (match l with
     | .pv .str b => .guard (decide (0 ≤ n)) (.guard (decide (n < (b.size : Int))) (.pure (.one (.pv (.int .u8) ((b.data.getD n.toNat 0).toNat : Int)), h)))
     | _ => .fail)
   | .arr k e => (NM.opt (E.T.get e)).bind fun te => (NM.opt (operand s x)).bind fun v => (match v with
     | .agg ls => .guard (decide (0 ≤ n)) (.guard (decide (n < (k : Int))) (atK n (fun j => .guard (Nat.ble 1 te.size && Nat.ble (j * te.size + te.size) ls.length) ((mkD te.k.isAgg ((ls.drop (j * te.size)).take te.size)).bind fun d => .pure (d, h))) k 0))
     | _ => .fail)
   | _ => .fail
 | .lookup t x i c => .guard (mapT E.T t && !c) ((NM.opt (oL s x)).bind fun l => (NM.opt (oInt s i)).bind fun p => match l with
   | .fmap es => .guard (decide (p.1 = .i64)) ((lookL p.2 es).bind fun l' => .pure (.one l', h))
   | _ => .fail)
 | .extract x i => (NM.opt (operand s x)).bind fun v => match v with
   | .tup ds => (NM.opt (ds[i]?)).bind fun (a, ls) => (mkD a ls).bind fun d => .pure (d, h)
   | _ => .fail
 | .call { callee := .builtin b, args, argTypes } =>
   match b, args.toList, argTypes.toList with
   | .len, [x], [t] => (NM.opt (E.T.get t)).bind fun ti => (NM.opt (oL s x)).bind fun l => (match ti.k, l with
     | .str, .pv .str b => NM.pure (b.size : Int)
     | .slice _, .pv .str _ => .fail
     | .slice _, l => lenL h l
     | _, _ => .fail).bind fun n => .pure (.one (.pv (.int .i64) n), h)
   | .append, [x, y], [t, u] => .guard (Nat.beq t u) ((NM.opt (E.T.get t)).bind fun ti => match ti.k with
     | .slice e => (NM.opt (E.T.get e)).bind fun te => (NM.opt te.code).bind fun c => (NM.opt o.dst).bind fun d =>
       (NM.opt (oL s x)).bind fun l => (NM.opt (oL s y)).bind fun ly => .guard (Nat.ble 1 te.bytes) ((appendL h (idOf d) e c te.bytes ly l).bind fun (l', h') => .pure (.one l', h'))
     | _ => .fail)
   | .min, [x, y], _ => (NM.opt (oInt s x)).bind fun (k, a) => (NM.opt (oInt s y)).bind fun (k', b) => .pure (.one (.pv (.int k) (mn a b)), h)
   | .max, [x, y], _ => (NM.opt (oInt s x)).bind fun (k, a) => (NM.opt (oInt s y)).bind fun (k', b) => .pure (.one (.pv (.int k) (mx a b)), h)
   | .min, [x, y, z], _ => (NM.opt (oInt s x)).bind fun (k, a) => (NM.opt (oInt s y)).bind fun (_, b) => (NM.opt (oInt s z)).bind fun (_, c) => .pure (.one (.pv (.int k) (mn (mn a b) c)), h)
   | .max, [x, y, z], _ => (NM.opt (oInt s x)).bind fun (k, a) => (NM.opt (oInt s y)).bind fun (_, b) => (NM.opt (oInt s z)).bind fun (_, c) => .pure (.one (.pv (.int k) (mx (mx a b) c)), h)
   | _, _, _ => .fail
 | _ => .fail

/-! ### arrays of numbers that are held as rows -/
def wholeL (h : Heap) (n : Nat) : L → NM (List Int)
 | .ptr o i j => match h o with
  | .row _ (.int .i64) zs => .guard (Nat.beq i 0 && Nat.beq j 0) (.guard (decide ((zs.length : Int) = (n : Int))) (.pure zs))
  | _ => .fail
 | _ => .fail
def storeW (h : Heap) (n : Nat) (zs : List Int) : L → NM Heap
 | .ptr o i j => match h o with
  | .row e (.int .i64) us => .guard (Nat.beq i 0 && Nat.beq j 0) (.guard (decide ((us.length : Int) = (n : Int))) (.guard (decide ((zs.length : Int) = (n : Int))) (.pure (upd h o (.row e (.int .i64) zs)))))
  | _ => .fail
 | _ => .fail
def arrK (E : Env) (o : Oper) (σ : St) : Option (NM (D × Heap)) := match o.op with
 | .alloc t => (E.T.get t).bind fun ti => bif ti.ints && ti.k.isAgg then some ((NM.opt o.dst).bind fun d => (newOb σ.h (idOf d) (.row t (.int .i64) (List.replicate ti.size (0 : Int)))).bind fun h' => .pure (.one (.ptr (idOf d) 0 0), h')) else none
 | .load t a => (E.T.get t).bind fun ti => bif ti.ints && ti.k.isAgg then some ((NM.opt (oL σ.s a)).bind fun l => (wholeL σ.h ti.size l).bind fun zs => .pure (.one (.arr zs), σ.h)) else none
 | .store t a x => match oL σ.s x with
  | some (.arr zs) => some ((NM.opt (E.T.get t)).bind fun ti => (NM.opt (oL σ.s a)).bind fun l => .guard (Nat.ble 1 ti.size) ((storeW σ.h ti.size zs l).bind fun h' => .pure (.one .skip, h')))
  | _ => none
 | .index t x i => match oL σ.s x with
  | some (.arr zs) => some ((NM.opt (E.T.get t)).bind fun ti => match ti.k with
   | .arr k e => (NM.opt (E.T.get e)).bind fun te => (NM.opt (oI σ.s i)).bind fun n => .guard (decide (0 ≤ n)) (.guard (decide (n < (k : Int))) (bif te.k.isAgg
     then .guard (decide (((n.toNat * te.size + te.size : Nat) : Int) ≤ (zs.length : Int))) (.pure (.one (.arr ((zs.drop (n.toNat * te.size)).take te.size)), σ.h))
     else .guard (decide (n < (zs.length : Int))) (.pure (.one (.pv (.int .i64) (zs.getD n.toNat (0 : Int))), σ.h))))
   | _ => .fail)
  | _ => none
 | _ => none

/-! ### rows of rows of numbers -/
abbrev i64 : TC := .int .i64
def cellK {Z : Type} (h : Heap) (g i n : Nat) (k : TypeId → TypeId → List (List Int) → List Int → NM Z) : NM Z := match h g with
 | .grid e d n' hole ll => .guard (Nat.beq n n' && ((match hole with | none => true | some q => !decide (q = i)) && decide (i < ll.length))) (k e d ll (ll.getD i []))
 | _ => .fail
def gridK (E : Env) (o : Oper) (σ : St) : Option (NM (D × Heap)) :=
 let s := σ.s
 let h := σ.h
 match o.op with
 | .makeSlice t len cap => (E.T.get t).bind fun ti => bif ti.ints && !ti.k.isAgg then some (match ti.k with
   | .slice e => (NM.opt (E.T.get e)).bind fun te => match te.k with
    | .slice d => (NM.opt (E.T.get d)).bind fun td => .guard (decide (td.code = some i64) && decide (te.code = some (.list i64)))
      ((NM.opt o.dst).bind fun dst => (NM.opt (oI s len)).bind fun n => (NM.opt (oI s cap)).bind fun m =>
      .guard (decide (n = m)) (.guard (decide (0 ≤ n)) (.guard (decide ((te.bytes : Int) * n ≤ 281474976710656) && Nat.ble 1 te.bytes)
       ((newOb h (idOf dst) (.grid e d 0 none (List.replicate n.toNat []))).bind fun h' => .pure (.one (.own (idOf dst)), h')))))
    | _ => .fail
   | _ => .fail) else none
 | .indexAddr t x i => match oL s x with
   | some (.own g) => (match h g with
    | .grid e d v hole ll => some ((NM.opt (E.T.get t)).bind fun ti => match ti.k with
     | .slice e' => (NM.opt (E.T.get e')).bind fun te => (NM.opt (oI s i)).bind fun n => .guard (Nat.beq te.size 1) (.guard (decide (0 ≤ n)) (.guard (decide (n < (ll.length : Int))) (.pure (.one (.ptr g n.toNat 0), h))))
     | _ => .fail)
    | _ => none)
   | some (.inn g a v) => some ((NM.opt (E.T.get t)).bind fun ti => match ti.k with
     | .slice e' => (NM.opt (E.T.get e')).bind fun te => (NM.opt (oI s i)).bind fun n => .guard (Nat.beq te.size 1) (cellK h g a v fun _ _ _ l => .guard (decide (0 ≤ n)) (.guard (decide (n < (l.length : Int))) (.pure (.one (.gp g a n.toNat v), h))))
     | _ => .fail)
   | _ => none
 | .load t a => match oL s a with
   | some (.ptr g i j) => (match h g with
    | .grid e d v hole ll => some ((NM.opt (E.T.get t)).bind fun ti => .guard (Nat.beq ti.size 1 && (Nat.beq j 0 && !ti.k.isAgg)) (cellK h g i v fun _ _ _ _ => .pure (.one (.inn g i v), h)))
    | _ => none)
   | some (.gp g i j v) => some ((NM.opt (E.T.get t)).bind fun ti => .guard (Nat.beq ti.size 1 && !ti.k.isAgg) (cellK h g i v fun _ _ _ l => .guard (decide (j < l.length)) (.pure (.one (.pv i64 (l.getD j (0 : Int))), h))))
   | _ => none
 | .store t a x => match oL s a with
   | some (.ptr g i j) => (match h g with
    | .grid e d v hole ll => some ((NM.opt (E.T.get t)).bind fun ti => .guard (Nat.beq ti.size 1 && Nat.beq j 0) (match oL s x with
     | some (.own r) => (match h r with
      | .row d' (.int .i64) zs => .guard (Nat.beq d' d && ((match hole with | none => true | some q => decide (q = i)) && decide (i < ll.length))) (.pure (.one .skip, upd (upd h r .gone) g (.grid e d (v + 1) none (ll.set i zs))))
      | _ => .fail)
     | _ => .fail))
    | _ => none)
   | some (.gp g i j v) => some ((NM.opt (E.T.get t)).bind fun ti => .guard (Nat.beq ti.size 1) (match oL s x with
     | some (.pv (.int .i64) z) => (match h g with
      | .grid e d v' hole ll => cellK h g i v fun _ _ _ l => .guard (decide (j < l.length)) (.pure (.one .skip, upd h g (.grid e d v' hole (ll.set i (l.set j (z : Int))))))
      | _ => .fail)
     | _ => .fail))
   | _ => none
 | .call { callee := .builtin .len, args, argTypes } => match args.toList, argTypes.toList with
   | [x], [t] => (match oL s x with
    | some (.own g) => (match h g with
     | .grid e d v hole ll => some ((NM.opt (E.T.get t)).bind fun ti => match ti.k with
      | .slice _ => .pure (.one (.pv i64 (ll.length : Int)), h)
      | _ => .fail)
     | _ => none)
    | some (.inn g i v) => some ((NM.opt (E.T.get t)).bind fun ti => match ti.k with
      | .slice _ => cellK h g i v fun _ _ _ l => .pure (.one (.pv i64 (l.length : Int)), h)
      | _ => .fail)
    | _ => none)
   | _, _ => none
 | .call { callee := .builtin .append, args, argTypes } => match args.toList, argTypes.toList with
   | [x, y], [t, u] => (match oL s x with
    | some (.inn g i v) => some (.guard (Nat.beq t u) ((NM.opt (E.T.get t)).bind fun ti => match ti.k with
     | .slice e' => (NM.opt (E.T.get e')).bind fun te => (NM.opt o.dst).bind fun dst => (NM.opt (oL s y)).bind fun ly => (NM.opt (rowOf h i64 ly)).bind fun ys =>
       .guard (Nat.ble 1 te.bytes && decide (te.code = some i64)) (cellK h g i v fun e d ll l => .guard (Nat.beq d e') (match h g with
        | .grid _ _ _ none _ => .guard (decide ((l.length + ys.length) * te.bytes ≤ 140737488355328)) ((newOb (upd h g (.grid e d v (some i) ll)) (idOf dst) (.row d i64 (l ++ ys))).bind fun h' => .pure (.one (.own (idOf dst)), h'))
        | _ => .fail))
     | _ => .fail))
    | _ => none)
   | _, _ => none
 | _ => none

/-! ### calls -/
structure Part where
 id : Nat
 o : Nat
 i : Nat
 j : Nat
 n : Nat
 e : TypeId
 c : TC
 l : List c.α
def partL (T : Tb) (h : Heap) (id : Nat) (t : TypeId) (o i j : Nat) : NM (L × Heap × List Part) :=
 (NM.opt (T.get t)).bind fun ti => match ti.k with
  | .ptr e => (NM.opt (T.get e)).bind fun te => match h o with
   | .box ls => .guard (Nat.beq j 0 && Nat.beq ls.length te.size) (.pure (.ptr o i j, h, []))
   | .row e' c l => (loadL h te.size (.ptr o i j)).bind fun ls' => (newOb (upd h o (.lock c l)) id (.box ls')).bind fun h' => .pure (.ptr id 0 0, h', [⟨id, o, i, j, te.size, e', c, l⟩])
   | _ => .fail
  | _ => .fail
def lentL : L → List Nat
 | .own o => [o]
 | .sub o _ _ => [o]
 | _ => []
def argD (T : Tb) (h : Heap) (id : Nat) (lend : Bool) (t : TypeId) (d : D) : NM (D × Heap × List Part × List Nat) :=
 match d with
 | .one (.ptr o i j) => (partL T h id t o i j).bind fun (l, h', ps) => .pure (.one l, h', ps, [])
 | d => bif lend then (NM.opt (d.lend h)).bind fun d' => .pure (d', h, [], d.ls.flatMap lentL) else .pure (d, h, [], [])
def argDs (T : Tb) : Heap → Nat → List Bool → List TypeId → List D → NM (List D × Heap × List Part × List Nat)
 | h, _, _, _, [] => .pure ([], h, [], [])
 | h, id, b, t, d :: r => (argD T h id (b.headD true) (t.headD 0) d).bind fun (d', h', ps, is) => (argDs T h' (id + 1) b.tail t.tail r).bind fun (ds, h'', qs, js) => .pure (d' :: ds, h'', ps ++ qs, is ++ js)
def disjointL : List Nat → List Nat → Bool
 | [], _ => true
 | x :: r, l => !(l.any (Nat.beq x)) && disjointL r l
def backN (tr : List Nat) (new k : Nat) : Nat := match tr[k]? with | some o => o | none => new + (k - tr.length)
def backL (tr : List Nat) (new : Nat) : L → L
 | .own k => .own (backN tr new k)
 | .sub k a b => .sub (backN tr new k) a b
 | .ptr k i j => .ptr (backN tr new k) i j
 | .fn f cs => .fn f (cs.map fun p => (backN tr new p.1, p.2))
 | .fmap es => .fmap (es.map fun e => (e.1, e.2.1, e.2.2.map fun p => (backN tr new p.1, p.2)))
 | .inn .. => .undef
 | .gp .. => .undef
 | l => l
def backD (tr : List Nat) (new : Nat) : D → D
 | .one l => .one (backL tr new l)
 | .agg ls => .agg (ls.map (backL tr new))
 | .tup ds => .tup ds
def backO (tr : List Nat) (new : Nat) : Ob → Ob
 | .box ls => .box (ls.map (backL tr new))
 | ob => ob
def backH (tr : List Nat) (new : Nat) (h : Heap) : Nat → List Ob → NM Heap
 | _, [] => .pure h
 | k, ob :: r => match tr[k]? with
  | some o => backH tr new (upd h o (backO tr new ob)) (k + 1) r
  | none => (newOb h (backN tr new k) (backO tr new ob)).bind fun h' => backH tr new h' (k + 1) r
def backP : List Part → Heap → NM Heap
 | [], h => .pure h
 | p :: r, h => match h p.id with
  | .box ls => .guard (Nat.beq ls.length p.n && Nat.ble (p.j + p.n) p.c.size) ((solids h ls).bind fun (ls', h') =>
    (NM.opt (unleaves p.c ((leaves p.c (p.l.getD p.i p.c.dflt)).take p.j ++ ls' ++ (leaves p.c (p.l.getD p.i p.c.dflt)).drop (p.j + ls'.length)))).bind fun x =>
     backP r (upd (upd h' p.id .gone) p.o (.row p.e p.c (p.l.set p.i x))))
  | _ => .fail
def D.part : D → Option (Bool × List L)
 | .one l => some (false, [l])
 | .agg ls => some (true, ls)
 | .tup _ => none
def tupD : List D → NM D
 | [d] => .guard d.part.isSome (.pure d)
 | ds => (NM.opt (ds.mapM D.part)).bind fun l => .pure (.tup l)
def noList : TC → Bool
 | .list _ => false
 | .pair a b => noList a && noList b
 | _ => true
def flatL : L → Bool
 | .pv c _ => noList c
 | .iptr .. => false
 | .fmap _ => false
 | _ => true
def dsFlat : List D → Bool
 | [] => true
 | d :: r => d.ls.all flatL && dsFlat r
def obsFlat : List Ob → Bool
 | [] => true
 | .box ls :: r => ls.all flatL && obsFlat r
 | .row _ c _ :: r => noList c && obsFlat r
 | .ice .. :: _ => false
 | .grid .. :: _ => false
 | _ :: r => obsFlat r
def sepIds (new n : Nat) : List Nat → Bool
 | [] => true
 | o :: r => (Nat.blt o new || Nat.ble (new + n) o) && sepIds new n r
def callK (E : Env) (dst : Nat) (fe : FE) (ts : List TypeId) (ds caps : List D) (h : Heap) : NM (D × Heap) :=
 (argDs E.T h (idOf dst + 5000000) fe.lend ts ds).bind fun (ds1, h1, ps, lent) => (pack h1 [] (ds1 ++ caps)).bind fun (ds2, obs, tr) =>
  .guard (disjointL lent tr && (disjointL lent (ps.map (·.o)) && (Nat.ble ps.length 1 && ((!fe.ret || lent.isEmpty) && obs.all fun b => !b.isGrid)))) ((NM.opt (fe.sh.dec ds2 obs)).bind fun x => (NM.opt (fe.F x)).bind fun y => .guard (sepIds (idOf dst) (fe.enc x y).2.length tr && (Nat.ble ((fe.enc x y).2.length) (tr.length + 16)) && ((fe.ret || (dsFlat (fe.enc x y).1 && obsFlat (fe.enc x y).2)) && (fe.enc x y).2.all fun b => !b.isGrid))
   ((backH tr (idOf dst) h1 0 (fe.enc x y).2).bind fun h2 => (backP ps h2).bind fun h3 => (tupD ((fe.enc x y).1.map (backD tr (idOf dst)))).bind fun d => .pure (d, h3)))
def freezeDs : Heap → List Bool → List D → NM (List D × Heap)
 | h, _, [] => .pure ([], h)
 | h, b, .one l :: r => .cond (b.headD true) ((solid h l).bind fun (l', h') => (freezeDs h' b.tail r).bind fun (ds, h'') => .pure (.one l' :: ds, h'')) ((freezeDs h b.tail r).bind fun (ds, h'') => .pure (.one l :: ds, h''))
 | h, b, .agg ls :: r => .cond (b.headD true) ((solids h ls).bind fun (ls', h') => (freezeDs h' b.tail r).bind fun (ds, h'') => .pure (.agg ls' :: ds, h'')) ((freezeDs h b.tail r).bind fun (ds, h'') => .pure (.agg ls :: ds, h''))
 | _, _, .tup _ :: _ => .fail
def opnds (s : List D) (xs : List Operand) : Option (List D) := xs.mapM (operand s)
def fnKey (s : List D) (xs : List Operand) : List Nat := xs.flatMap fun x => match operand s x with | some d => d.ls.filterMap (fun | .fn f _ => some f | _ => none) | none => []
def stepK (E : Env) (o : Oper) (σ : St) : NM St :=
 match o.op with
 | .call { callee := .value f, args, argTypes } => (NM.opt (oL σ.s f)).bind fun l => match l with
  | .fn g caps => match E.C g (fnKey σ.s args.toList) with
   | none => .fail
   | some fe => (NM.opt (opnds σ.s args.toList)).bind fun ds =>
    (NM.cond fe.ret (freezeDs σ.h fe.lend ds) (.pure (ds, σ.h))).bind fun (ds', h') =>
    (callK E (o.dst.getD 0) fe argTypes.toList ds' (caps.map fun p => .one (.ptr p.1 0 p.2)) h').bind fun (d, h'') =>
     .pure ⟨match o.dst with | some t => σ.s.set t d | none => σ.s, h''⟩
  | _ => .fail
 | _ => (opK E o σ).bind fun (d, h') => .pure ⟨match o.dst with | some t => σ.s.set t d | none => σ.s, h'⟩

def stepM (E : Env) (o : Oper) (σ : St) : NM St := match gridK E o σ with
 | some m => m.bind fun (d, h') => .pure ⟨match o.dst with | some t => σ.s.set t d | none => σ.s, h'⟩
 | none => stepK E o σ
def stepA (E : Env) (o : Oper) (σ : St) : NM St := match arrK E o σ with
 | some m => m.bind fun (d, h') => .pure ⟨match o.dst with | some t => σ.s.set t d | none => σ.s, h'⟩
 | none => stepM E o σ

/-! ### regions -/
def handles : L → List Nat
 | .own o => [o]
 | .sub o _ _ => [o]
 | .ptr o _ _ => [o]
 | .fn _ cs => cs.map (·.1)
 | .fmap es => es.flatMap fun e => e.2.2.map (·.1)
 | .inn o _ _ => [o]
 | .gp o _ _ _ => [o]
 | _ => []
def heapless : Op → Bool
 | .move _ | .assign _ | .pick .. | .binOp .. | .unOp .. | .extract .. | .field .. | .fieldAddr .. | .makeFunc .. | .nilCheck _ | .build .. | .index .. | .lookup .. => true
 | .call c => match c.callee with | .builtin .min => true | .builtin .max => true | _ => false
 | _ => false
def mutates : Op → Bool
 | .load .. | .slice .. | .indexAddr .. | .convert .. => false
 | .call c => match c.callee with | .builtin .len => false | _ => true
 | _ => true
def handlesOf (s : List D) (x : Operand) : List Nat := match operand s x with | some d => d.ls.flatMap handles | none => []
structure Foot where
 R : List Nat
 W : List Nat
 full : Bool
def newIds (dst : Option Tmp) : List Nat := match dst with | some d => [idOf d] | none => []
def objHandles : Ob → List Nat
 | .box ls => ls.flatMap handles
 | _ => []
def callFoot (E : Env) (o : Oper) (f : Operand) (args : Array Operand) (ts : Array TypeId) (σ : St) : NM Foot :=
 (NM.opt (oL σ.s f)).bind fun l => match l with
  | .fn g caps => match E.C g (fnKey σ.s args.toList) with
   | none => .fail
   | some fe => (NM.opt (opnds σ.s args.toList)).bind fun ds =>
    (NM.cond fe.ret (freezeDs σ.h fe.lend ds) (.pure (ds, σ.h))).bind fun (ds', h') =>
    (argDs E.T h' (idOf (o.dst.getD 0) + 5000000) fe.lend ts.toList ds').bind fun (ds1, h1, ps, _) => (pack h1 [] (ds1 ++ caps.map fun p => .one (.ptr p.1 0 p.2))).bind fun (_, _, tr) =>
     .cond ps.isEmpty (.pure ⟨args.toList.flatMap (handlesOf σ.s) ++ (caps.map (·.1) ++ tr.flatMap (fun o => objHandles (h' o))), (bif fe.ret then args.toList.flatMap (handlesOf σ.s) else []) ++ (tr ++ (List.range 16).map (idOf (o.dst.getD 0) + ·)), true⟩)
      (.guard (ps.all fun p => noList p.c) (.pure ⟨[], (bif fe.ret then args.toList.flatMap (handlesOf σ.s) else []) ++ (tr ++ ((List.range 16).map (idOf (o.dst.getD 0) + ·) ++ (ps.map (·.o) ++ ps.map (·.id)))), false⟩))
  | _ => .fail
def foot (E : Env) (o : Oper) (σ : St) : NM Foot :=
 bif heapless o.op then .pure ⟨[], [], true⟩ else
 match o.op with
 | .load _ a => .pure ⟨handlesOf σ.s a, [], true⟩
 | .slice _ x _ _ _ => .pure ⟨handlesOf σ.s x, [], true⟩
 | .indexAddr _ x _ => .pure ⟨handlesOf σ.s x, [], true⟩
 | .convert _ _ x => .pure ⟨handlesOf σ.s x, [], true⟩
 | .alloc _ => .pure ⟨[], newIds o.dst, true⟩
 | .box _ _ => .pure ⟨[], newIds o.dst, true⟩
 | .makeSlice .. => .pure ⟨[], newIds o.dst, true⟩
 | .buildSlice _ _ ps => .pure ⟨[], newIds o.dst ++ (ps.toList.map (·.2)).flatMap (handlesOf σ.s), true⟩
 | .store _ a x => .pure ⟨[], handlesOf σ.s a ++ handlesOf σ.s x, false⟩
 | .call { callee := .builtin .len, args, .. } => .pure ⟨args.toList.flatMap (handlesOf σ.s), [], true⟩
 | .call { callee := .builtin .append, args, .. } => match args.toList with
  | [x, y] => .pure ⟨handlesOf σ.s y, newIds o.dst ++ handlesOf σ.s x, true⟩
  | _ => .fail
 | .call { callee := .value f, args, argTypes } => callFoot E o f args argTypes σ
 | _ => .fail
def apartT (tc : List Foot) (p : Nat × Nat) : Bool :=
 match tc[p.1]?, tc[p.2]? with
 | some a, some b => disjointL a.W (b.R ++ b.W) && (disjointL b.W (a.R ++ a.W) && ((a.full || b.W.isEmpty) && (b.full || a.W.isEmpty)))
 | _, _ => false
def wantedK (ops : List Oper) (s : List D) (o : Oper) (t e : NM St) : NM St :=
 match o.guard with
 | none => t
 | some (j, want) => (NM.opt ((ops[j]?).bind (·.dst))).bind fun d => (NM.opt ((s[d]?).bind D.leaf)).bind fun l => match l with
  | .pv .bool b => .cond (bif want then b else !b) t e
  | .skip => e
  | _ => .fail
def skipped (o : Oper) (σ : St) : St := ⟨match o.dst with | some t => σ.s.set t (.one .skip) | none => σ.s, σ.h⟩
def guards (all : List Oper) (dst : Option Tmp) : Bool := match dst with
 | none => false
 | some d => all.any fun p => match p.guard with
  | some (j, _) => (match (all[j]?).bind (·.dst) with | some e => Nat.beq d e | none => false)
  | none => false
def sharpK {Z : Type} (b : Bool) (dst : Option Tmp) (σ : St) (k : St → NM Z) : NM Z :=
 match b, dst with
 | true, some d => (match σ.s[d]? with
  | some (.one (.pv .bool c)) => .cond c (k ⟨σ.s.set d (.one (.pv .bool true)), σ.h⟩) (k ⟨σ.s.set d (.one (.pv .bool false)), σ.h⟩)
  | _ => k σ)
 | _, _ => k σ
def seqK (E : Env) (all : List Oper) : List Oper → St → NM St
 | [], σ => .pure σ
 | o :: r, σ => (wantedK all σ.s o (stepA E o σ) (.pure (skipped o σ))).bind fun σ' => sharpK (guards all o.dst) o.dst σ' (seqK E all r)
def traceK (E : Env) (all : List Oper) : List Oper → St → List Foot → NM (St × List Foot)
 | [], σ, tc => .pure (σ, tc)
 | o :: r, σ, tc => (wantedF all σ.s o ((foot E o σ).bind fun ft => (stepM E o σ).bind fun σ' => .pure (σ', ft)) (.pure (skipped o σ, ⟨[], [], true⟩))).bind fun (σ', ft) => sharpK (guards all o.dst) o.dst σ' fun σ'' => traceK E all r σ'' (tc ++ [ft])
where
 wantedF (ops : List Oper) (s : List D) (o : Oper) (t e : NM (St × Foot)) : NM (St × Foot) :=
  match o.guard with
  | none => t
  | some (j, want) => (NM.opt ((ops[j]?).bind (·.dst))).bind fun d => (NM.opt ((s[d]?).bind D.leaf)).bind fun l => match l with
   | .pv .bool b => .cond (bif want then b else !b) t e
   | .skip => e
   | _ => .fail
inductive IR where
 | skip | ret | exit (n : Nat)
 | seq (a b : IR)
 | cond (c : Operand) (a b : IR)
 | block (id : Nat) (a : IR)
 | region (draw : Bool) (ops : List Oper) (pairs : List (Nat × Nat))
 | atom (id : Nat) (live : List Nat) (outs : List (Nat × List Nat)) (loop : Bool) (body : IR)
 | bad
def outsOf : List (Nat × List Nat) → Nat → Option (List Nat)
 | [], _ => none
 | (k, l) :: r, n => bif Nat.beq k n then some l else outsOf r n
def fitL (os : List OS) (id : Nat) (h : Heap) (s : LS) (l : L) : NM (L × Heap) :=
 match s, l with
 | .is (.own k), .nils => match os[k]? with
  | some (.row e c) => (newOb h id (.row e c [])).bind fun h' => .pure (.own id, h')
  | _ => .fail
 | .pv (.list _), .own o => solid h (.own o)
 | .pv (.list _), .sub o a b => solid h (.sub o a b)
 | _, l => .pure (l, h)
def fitLs (os : List OS) : Nat → Heap → List LS → List L → NM (List L × Heap)
 | id, h, s :: ss, l :: ls => (fitL os id h s l).bind fun (l', h') => (fitLs os (id + 1) h' ss ls).bind fun (ls', h'') => .pure (l' :: ls', h'')
 | _, h, _, ls => .pure (ls, h)
def fitDs (os : List OS) : Nat → Heap → List DS → List D → NM (List D × Heap)
 | id, h, .one s :: ss, .one l :: ds => (fitL os id h s l).bind fun (l', h') => (fitDs os (id + 1) h' ss ds).bind fun (ds', h'') => .pure (.one l' :: ds', h'')
 | id, h, .agg ls :: ss, .agg ms :: ds => (fitLs os id h ls ms).bind fun (ms', h') => (fitDs os (id + ms.length) h' ss ds).bind fun (ds', h'') => .pure (.agg ms' :: ds', h'')
 | id, h, _ :: ss, d :: ds => (fitDs os (id + 1) h ss ds).bind fun (ds', h'') => .pure (d :: ds', h'')
 | _, h, [], ds => .pure (ds, h)
 | _, h, _, [] => .pure ([], h)
def fitBase : Nat := 9000000
def fitBoxes (os : List OS) : Nat → Heap → List OS → List Nat → NM Heap
 | id, h, .box ss :: r, o :: tr => match h o with
  | .box ls => (fitLs os id h ss ls).bind fun (ls', h') => match h' o with
   | .box ls0 => .guard (Nat.beq ls0.length ls'.length) (fitBoxes os (id + ls.length) (upd h' o (.box ls')) r tr)
   | _ => .fail
  | _ => fitBoxes os id h r tr
 | id, h, _ :: r, _ :: tr => fitBoxes os id h r tr
 | _, h, _, _ => .pure h
def LS.fits : LS → Bool
 | .pv (.list _) => true
 | .is (.own _) => true
 | _ => false
def OS.fits : OS → Bool
 | .box ss => ss.any LS.fits
 | _ => false
def fitAll (m : Nat) (sh : Sh) (h : Heap) (ds0 : List D) : NM (List D × Heap) :=
 (fitDs sh.os fitBase h sh.ds ds0).bind fun (ds, h1) => match sh.os.any OS.fits with
  | false => .pure (ds, h1)
  | true => (pack h1 (List.range m) ds).bind fun (_, _, tr) => (fitBoxes sh.os (fitBase + 1000) h1 sh.os tr).bind fun h2 => .pure (ds, h2)
def outSh : List (Ex × Sh) → Nat → Option Sh
 | [], _ => none
 | p :: r, n => bif Nat.beq p.1.num n then some p.2 else outSh r n
def atomK (E : Env) (le : LE) (live : List Nat) (outs : List (Nat × List Nat)) (σ : St) : NM (Ex × St) :=
 (NM.opt (pick σ.s live)).bind fun ds0 => (fitAll E.m le.sh σ.h ds0).bind fun (ds, h1) => (pack h1 (List.range E.m) ds).bind fun (ds', obs, _) => (NM.opt (le.sh.dec ds' obs)).bind fun x => (NM.opt (le.F x)).bind fun y =>
  sumK le.es y fun r => (NM.opt (outsOf outs r.1.num)).bind fun out => .guard (Nat.beq out.length r.2.1.length)
   (.pure (r.1, ⟨lay out r.2.1 (List.replicate E.N (.one .undef)), heapOf r.2.2⟩))
def ev (E : Env) : IR → St → NM (Ex × St)
 | .skip, σ => .pure (.normal, σ)
 | .ret, σ => .pure (.ret, σ)
 | .exit n, σ => .pure (.exit n, σ)
 | .seq a b, σ => (ev E a σ).bind fun (x, σ') => match x with
  | .normal => ev E b σ'
  | .ret => .pure (.ret, σ')
  | .exit n => .pure (.exit n, σ')
 | .cond c a b, σ => (NM.opt (oBool σ.s c)).bind fun t => .cond t (ev E a σ) (ev E b σ)
 | .block id a, σ => (ev E a σ).bind fun (x, σ') => match x with
  | .normal => .pure (.normal, σ')
  | .ret => .pure (.ret, σ')
  | .exit n => .cond (Nat.beq n id) (.pure (.normal, σ')) (.pure (.exit n, σ'))
 | .region false ops _, σ => (seqK E ops ops σ).bind fun σ' => .pure (.normal, σ')
 | .region true ops pairs, σ => (traceK E ops ops σ []).bind fun (σ', tc) => .guard (pairs.all (apartT tc)) (.pure (.normal, σ'))
 | .atom id live outs _ _, σ => match E.LP id with
  | some le => atomK E le live outs σ
  | none => .fail
 | .bad, _ => .fail
def roundK (E : Env) (sh : Sh) (live : List Nat) (outs : List (Nat × List Nat)) (loop : Bool) (body : IR) (es : List (Ex × Sh)) (F : sh.X → Option (sumX es)) (x : sh.X) : NM (sumX es) :=
 (ev E body ⟨lay live (dsEnc sh.ds x.1) (List.replicate E.N (.one .undef)), heapOf (osEnc sh.os x.2)⟩).bind fun (ex, σ') =>
  .cond (loop && Nat.beq ex.num 0)
   ((NM.opt (VI.pick σ'.s live)).bind fun ds0 => (fitAll E.m sh σ'.h ds0).bind fun (ds, h1) => (pack h1 (List.range E.m) ds).bind fun (ds', obs, _) => (NM.opt (sh.dec ds' obs)).bind fun x' => NM.opt (F x'))
   ((NM.opt (outsOf outs ex.num)).bind fun out => (NM.opt (VI.pick σ'.s out)).bind fun ds0 => (NM.opt (outSh es ex.num)).bind fun osh => (fitAll E.m osh σ'.h ds0).bind fun (ds, h1) =>
    (pack h1 (List.range E.m) ds).bind fun (ds', obs, _) => NM.opt (decS es ex ds' obs))
def resD (T : Tb) (σ : St) : List ResultVar → NM (List D)
 | [] => .pure []
 | .tmp t :: r => (NM.opt (σ.s[t]?)).bind fun d => (resD T σ r).bind fun ds => .pure (d :: ds)
 | .cell a t :: r => (NM.opt (T.get t)).bind fun ti => (NM.opt ((σ.s[a]?).bind D.leaf)).bind fun l => match ti.ints && ti.k.isAgg with
  | true => (wholeL σ.h ti.size l).bind fun zs => (resD T σ r).bind fun ds => .pure (.one (.arr zs) :: ds)
  | false => (loadL σ.h ti.size l).bind fun ls => (mkD ti.k.isAgg ls).bind fun d =>
   (resD T σ r).bind fun ds => .pure (d :: ds)
def bodyO (E : Env) (ir : IR) (res : List ResultVar) (sh osh : Sh) (x : sh.X) : NM osh.X :=
 (ev E ir ⟨dsEnc sh.ds x.1 ++ List.replicate (E.N - (dsEnc sh.ds x.1).length) (.one .undef), heapOf (osEnc sh.os x.2)⟩).bind fun (ex, σ') =>
  .guard (Nat.blt ex.num 2) ((resD E.T σ' res).bind fun rs0 => (fitAll E.m osh σ'.h rs0).bind fun (rs, h1) => (pack h1 (List.range E.m) rs).bind fun (rs', obs', _) => NM.opt (osh.dec rs' obs'))

/-! ### from the machine's code -/
def edgesOf (o : Oper) : List Edge := o.after.toList.filter (Region.binds .any)
def orders (ops : List Oper) : List Nat :=
 ops.foldl (fun acc o => acc ++ [(edgesOf o).foldl (fun m e => Nat.lor m (Nat.lor (Nat.shiftLeft 1 e.on) (acc.getD e.on 0))) 0]) []
def bit (m j : Nat) : Bool := Nat.beq (Nat.mod (Nat.shiftRight m j) 2) 1
def ordersOk (all : Array Oper) (ms : List Nat) : Nat → List Oper → Bool
 | _, [] => true
 | i, o :: r => (edgesOf o).all (fun e => Nat.blt e.on i) &&
   ((List.range i).all (fun j => bif bit (ms.getD i 0) j then (edgesOf o).any (fun e => Nat.beq e.on j || (Nat.blt j e.on && bit (ms.getD e.on 0) j))
    else match all[j]? with | some p => Oper.apart all p o | none => false) && ordersOk all ms (i + 1) r)
def pairsFrom (all : List Oper) (ms : List Nat) : Nat → List Oper → List (Nat × Nat)
 | _, [] => []
 | i, o :: r => (List.range i).filterMap (fun j => bif bit (ms.getD i 0) j then none else match all[j]? with
   | some p => bif (mutates o.op || mutates p.op) && (!(heapless o.op) && !(heapless p.op)) then some (j, i) else none
   | none => none) ++ pairsFrom all ms (i + 1) r
def drawIR (ops : Array Oper) : IR := bif ordersOk ops (orders ops.toList) 0 ops.toList then .region true ops.toList (pairsFrom ops.toList (orders ops.toList) 0 ops.toList) else .bad
structure Hint where
 path : List Nat
 id : Nat
 live : List Nat
 outs : List (Nat × List Nat)
def eqPath : List Nat → List Nat → Bool
 | [], [] => true
 | a :: r, b :: s => Nat.beq a b && eqPath r s
 | _, _ => false
def hintAt : List Hint → List Nat → Option Hint
 | [], _ => none
 | x :: r, p => bif eqPath x.path p then some x else hintAt r p
def cutAt (hs : List Hint) (p : List Nat) (c : IR) : IR := match hintAt hs p with | some x => .atom x.id x.live x.outs false c | none => c
def mk (hs : List Hint) : Code → List Nat → IR
 | .skip, _ => .skip
 | .ret, _ => .ret
 | .exit n, _ => .exit n
 | .label _, _ => .bad
 | .seq a b, p => .seq (mk hs a (0 :: p)) (mk hs b (1 :: p))
 | .cond c a b, p => cutAt hs p (.cond c (mk hs a (0 :: p)) (mk hs b (1 :: p)))
 | .block id a, p => cutAt hs p (.block id (mk hs a (0 :: p)))
 | .region _ ops draw, p => cutAt hs p (bif draw then drawIR ops else .region false ops.toList [])
 | .loop a, p => match hintAt hs p with
  | some x => .atom x.id x.live x.outs true (mk hs a (0 :: p))
  | none => .bad
 | _, _ => .bad
def IR.atoms : IR → List IR
 | .seq a b => a.atoms ++ b.atoms
 | .cond _ a b => a.atoms ++ b.atoms
 | .block _ a => a.atoms
 | .atom i l o b body => .atom i l o b body :: body.atoms
 | _ => []
def IR.body : IR → IR
 | .atom _ _ _ _ b => b
 | x => x
end Go.VI
namespace Go.VI
open Go

/-! ### NM -/
namespace NM
variable {X Y : Type}
theorem gives_pure {x y : X} : (NM.pure x).gives y ↔ x = y := by simp [gives, NM.pure]
theorem gives_fail {y : X} : ¬ (NM.fail : NM X).gives y := by simp [gives, NM.fail]
theorem run_iff {m : NM X} {R : Type} {K : X → Option R} {r : R} : m.run R K = some r ↔ ∃ x, m.gives x ∧ K x = some r := by
 rw [m.nat]; cases h : m.run X some <;> simp [gives, h]
theorem gives_bind {m : NM X} {f : X → NM Y} {y : Y} : (m.bind f).gives y ↔ ∃ x, m.gives x ∧ (f x).gives y := by
 show m.run Y _ = some y ↔ _
 rw [run_iff]; rfl
theorem gives_guard {b : Bool} {m : NM X} {x : X} : (NM.guard b m).gives x ↔ b = true ∧ m.gives x := by
 cases b <;> simp [gives, NM.guard]
theorem gives_cond {b : Bool} {m n : NM X} {x : X} : (NM.cond b m n).gives x ↔ (b = true ∧ m.gives x) ∨ (b = false ∧ n.gives x) := by
 cases b <;> simp [gives, NM.cond]
theorem gives_opt {o : Option X} {x : X} : (NM.opt o).gives x ↔ o = some x := by
 cases o <;> simp [gives, NM.opt]
theorem gives_unique {m : NM X} {x y : X} (h : m.gives x) (k : m.gives y) : x = y := by
 simp only [gives] at h k; rw [h] at k; exact Option.some.inj k
end NM

/-! ### two lists, place by place -/
def F2 {A B : Type} (R : A → B → Prop) : List A → List B → Prop
 | [], [] => True
 | a :: as, b :: bs => R a b ∧ F2 R as bs
 | _, _ => False
namespace F2
variable {A B : Type} {R S : A → B → Prop}
theorem length : ∀ {as : List A} {bs : List B}, F2 R as bs → as.length = bs.length
 | [], [], _ => rfl
 | a :: as, b :: bs, h => by simp [length h.2]
 | [], _ :: _, h => h.elim
 | _ :: _, [], h => h.elim
theorem mono (hm : ∀ a b, R a b → S a b) : ∀ {as : List A} {bs : List B}, F2 R as bs → F2 S as bs
 | [], [], _ => trivial
 | a :: as, b :: bs, h => ⟨hm _ _ h.1, mono hm h.2⟩
 | [], _ :: _, h => h.elim
 | _ :: _, [], h => h.elim
theorem mono' : ∀ {as : List A} {bs : List B}, (∀ a ∈ as, ∀ b, R a b → S a b) → F2 R as bs → F2 S as bs
 | [], [], _, _ => trivial
 | a :: as, b :: bs, hm, h => ⟨hm _ (by simp) _ h.1, mono' (fun x hx => hm x (by simp [hx])) h.2⟩
 | [], _ :: _, _, h => h.elim
 | _ :: _, [], _, h => h.elim
theorem get : ∀ {as : List A} {bs : List B} {i : Nat} {a : A}, F2 R as bs → as[i]? = some a → ∃ b, bs[i]? = some b ∧ R a b
 | a' :: as, b :: bs, 0, a, h, e => by simp at e; subst e; exact ⟨b, rfl, h.1⟩
 | a' :: as, b :: bs, i + 1, a, h, e => by simp at e; simpa using get h.2 e
 | [], _, _, _, _, e => by simp at e
 | _ :: _, [], _, _, h, _ => h.elim
theorem get' : ∀ {as : List A} {bs : List B} {i : Nat} {b : B}, F2 R as bs → bs[i]? = some b → ∃ a, as[i]? = some a ∧ R a b
 | a' :: as, b' :: bs, 0, b, h, e => by simp at e; subst e; exact ⟨a', rfl, h.1⟩
 | a' :: as, b' :: bs, i + 1, b, h, e => by simp at e; simpa using get' h.2 e
 | _, [], _, _, _, e => by simp at e
 | [], _ :: _, _, _, h, _ => h.elim
theorem append : ∀ {as : List A} {bs : List B} {as' : List A} {bs' : List B}, F2 R as bs → F2 R as' bs' → F2 R (as ++ as') (bs ++ bs')
 | [], [], _, _, _, k => k
 | a :: as, b :: bs, _, _, h, k => ⟨h.1, append h.2 k⟩
 | [], _ :: _, _, _, h, _ => h.elim
 | _ :: _, [], _, _, h, _ => h.elim
theorem take : ∀ (n : Nat) {as : List A} {bs : List B}, F2 R as bs → F2 R (as.take n) (bs.take n)
 | 0, _, _, _ => trivial
 | n + 1, [], [], _ => trivial
 | n + 1, a :: as, b :: bs, h => ⟨h.1, take n h.2⟩
 | _ + 1, [], _ :: _, h => h.elim
 | _ + 1, _ :: _, [], h => h.elim
theorem drop : ∀ (n : Nat) {as : List A} {bs : List B}, F2 R as bs → F2 R (as.drop n) (bs.drop n)
 | 0, _, _, h => h
 | n + 1, [], [], _ => trivial
 | n + 1, a :: as, b :: bs, h => by simpa using drop n h.2
 | _ + 1, [], _ :: _, h => h.elim
 | _ + 1, _ :: _, [], h => h.elim
theorem set : ∀ (n : Nat) {as : List A} {bs : List B} {a : A} {b : B}, F2 R as bs → R a b → F2 R (as.set n a) (bs.set n b)
 | _, [], [], _, _, _, _ => trivial
 | 0, a :: as, b :: bs, _, _, h, k => ⟨k, h.2⟩
 | n + 1, a :: as, b :: bs, _, _, h, k => ⟨h.1, set n h.2 k⟩
 | _, [], _ :: _, _, _, h, _ => h.elim
 | _, _ :: _, [], _, _, h, _ => h.elim
theorem replicate (n : Nat) {a : A} {b : B} (h : R a b) : F2 R (List.replicate n a) (List.replicate n b) := by
 induction n with
 | zero => trivial
 | succ n ih => exact ⟨h, ih⟩
theorem of_get : ∀ {as : List A} {bs : List B}, as.length = bs.length → (∀ (i : Nat) (a : A) (b : B), as[i]? = some a → bs[i]? = some b → R a b) → F2 R as bs
 | [], [], _, _ => trivial
 | a :: as, b :: bs, hl, h => ⟨h 0 a b rfl rfl, of_get (by simpa using hl) fun i x y hx hy => h (i + 1) x y (by simpa using hx) (by simpa using hy)⟩
 | [], _ :: _, hl, _ => by simp at hl
 | _ :: _, [], hl, _ => by simp at hl
theorem map_left {C : Type} {f : C → A} : ∀ {cs : List C} {bs : List B}, F2 R (cs.map f) bs ↔ F2 (fun c b => R (f c) b) cs bs
 | [], [] => Iff.rfl
 | c :: cs, b :: bs => by simp only [List.map_cons, F2]; exact and_congr_right fun _ => map_left
 | [], _ :: _ => Iff.rfl
 | _ :: _, [] => Iff.rfl
end F2

/-! ### data in memory -/
def Rep (w : World) (ok : Nat → Prop) : (c : TC) → c.α → List Value → Prop
 | .int k, n, cs => cs = [.int k n]
 | .bool, b, cs => cs = [.bool b]
 | .str, s, cs => cs = [.string s]
 | .err _, o, cs => ∃ v : Value, cs = [v] ∧ v.oneCell' = true ∧ ((o : Bool) = false → v = .nilIface) ∧ ((o : Bool) = true → ∃ t x, v = .iface t x)
 | .pair a b, x, cs => ∃ c1 c2, cs = c1 ++ c2 ∧ Rep w ok a x.1 c1 ∧ Rep w ok b x.2 c2
 | .list c, l, cs => ∃ a n cap, cs = [.slice a n cap] ∧ n = List.length (α := c.α) l ∧ n ≤ cap ∧ cap ≤ maxLen ∧ (a = none → cap = 0) ∧
   (n ≠ 0 → ∃ g off, a = some ⟨g, off, none⟩ ∧ ok g ∧ ∀ (i : Nat) (x : c.α), (l : List c.α)[i]? = some x →
    ∃ ci, Rep w ok c x ci ∧ ∀ (j : Nat) v, ci[j]? = some v → w.cell? ⟨g, off + i * c.size + j, none⟩ = some v)
theorem size_pos : ∀ c : TC, 0 < c.size
 | .pair a b => by have := size_pos a; simp [TC.size]; omega
 | .int _ | .bool | .str | .err _ | .list _ => by simp [TC.size]
theorem Rep.length {w : World} {ok : Nat → Prop} : ∀ {c : TC} {x : c.α} {cs : List Value}, Rep w ok c x cs → cs.length = c.size
 | .int _, _, _, h => by simp only [Rep] at h; subst h; rfl
 | .bool, _, _, h => by simp only [Rep] at h; subst h; rfl
 | .str, _, _, h => by simp only [Rep] at h; subst h; rfl
 | .err _, _, _, h => by simp only [Rep] at h; obtain ⟨v, rfl, _⟩ := h; rfl
 | .pair a b, x, cs, h => by
  simp only [Rep] at h
  obtain ⟨c1, c2, rfl, h1, h2⟩ := h
  simp [TC.size, Rep.length h1, Rep.length h2]
 | .list c, _, _, h => by
  simp only [Rep] at h
  obtain ⟨a, n, cap, rfl, _⟩ := h; rfl
theorem Rep.mono {w w' : World} {ok ok' : Nat → Prop} (H : ∀ b, ok b → ok' b ∧ w'.heap[b]? = w.heap[b]?) : ∀ {c : TC} {x : c.α} {cs : List Value}, Rep w ok c x cs → Rep w' ok' c x cs
 | .int _, _, _, h => h
 | .bool, _, _, h => h
 | .str, _, _, h => h
 | .err _, _, _, h => h
 | .pair a b, x, cs, h => by
  simp only [Rep] at h ⊢
  obtain ⟨c1, c2, rfl, h1, h2⟩ := h
  exact ⟨c1, c2, rfl, Rep.mono H h1, Rep.mono H h2⟩
 | .list c, l, cs, h => by
  simp only [Rep] at h ⊢
  obtain ⟨a, n, cap, rfl, hn, hc, hm, ha, hx⟩ := h
  refine ⟨a, n, cap, rfl, hn, hc, hm, ha, fun h0 => ?_⟩
  obtain ⟨g, off, rfl, hg, hcell⟩ := hx h0
  refine ⟨g, off, rfl, (H g hg).1, fun i x hi => ?_⟩
  obtain ⟨ci, hr, hv⟩ := hcell i x hi
  exact ⟨ci, Rep.mono H hr, fun j v hj => (World.cell?_of_block (H g hg).2).trans (hv j v hj)⟩
theorem Rep.flat {w w' : World} {ok ok' : Nat → Prop} : ∀ {c : TC} {x : c.α} {cs : List Value}, noList c = true → Rep w ok c x cs → Rep w' ok' c x cs
 | .int _, _, _, _, h => h
 | .bool, _, _, _, h => h
 | .str, _, _, _, h => h
 | .err _, _, _, _, h => h
 | .pair a b, x, cs, hn, h => by
  simp only [Rep] at h ⊢
  simp only [noList, Bool.and_eq_true] at hn
  obtain ⟨c1, c2, rfl, h1, h2⟩ := h
  exact ⟨c1, c2, rfl, Rep.flat hn.1 h1, Rep.flat hn.2 h2⟩
theorem Rep.one {w : World} {ok : Nat → Prop} : ∀ {c : TC} {x : c.α} {cs : List Value}, Rep w ok c x cs → ∀ v ∈ cs, v.oneCell' = true
 | .int _, _, _, h => by simp only [Rep] at h; subst h; simp [Value.oneCell']
 | .bool, _, _, h => by simp only [Rep] at h; subst h; simp [Value.oneCell']
 | .str, _, _, h => by simp only [Rep] at h; subst h; simp [Value.oneCell']
 | .err _, x, _, h => by
  simp only [Rep] at h
  obtain ⟨v, rfl, h1, _⟩ := h
  intro u hu
  simp at hu; subst hu; exact h1
 | .pair a b, x, cs, h => by
  simp only [Rep] at h
  obtain ⟨c1, c2, rfl, h1, h2⟩ := h
  intro v hv
  rcases List.mem_append.1 hv with hv | hv
  ·exact Rep.one h1 v hv
  ·exact Rep.one h2 v hv
 | .list c, _, _, h => by
  simp only [Rep] at h
  obtain ⟨a, n, cap, rfl, _⟩ := h; simp [Value.oneCell']
def Rows (w : World) (ok : Nat → Prop) (c : TC) : List c.α → List Value → Prop
 | [], cs => cs = []
 | x :: l, cs => ∃ c1 c2, cs = c1 ++ c2 ∧ Rep w ok c x c1 ∧ Rows w ok c l c2
namespace Rows
variable {w w' : World} {ok ok' : Nat → Prop} {c : TC}
theorem length : ∀ {l : List c.α} {cs : List Value}, Rows w ok c l cs → cs.length = l.length * c.size
 | [], cs, h => by simp only [Rows] at h; subst h; simp
 | x :: l, cs, h => by
  simp only [Rows] at h
  obtain ⟨c1, c2, rfl, h1, h2⟩ := h
  simp [Rep.length h1, length h2, Nat.add_mul, Nat.add_comm]
theorem mono (H : ∀ b, ok b → ok' b ∧ w'.heap[b]? = w.heap[b]?) : ∀ {l : List c.α} {cs : List Value}, Rows w ok c l cs → Rows w' ok' c l cs
 | [], cs, h => h
 | x :: l, cs, h => by
  simp only [Rows] at h ⊢
  obtain ⟨c1, c2, rfl, h1, h2⟩ := h
  exact ⟨c1, c2, rfl, h1.mono H, mono H h2⟩
theorem flat (hn : noList c = true) : ∀ {l : List c.α} {cs : List Value}, Rows w ok c l cs → Rows w' ok' c l cs
 | [], cs, h => h
 | x :: l, cs, h => by
  simp only [Rows] at h ⊢
  obtain ⟨c1, c2, rfl, h1, h2⟩ := h
  exact ⟨c1, c2, rfl, h1.flat hn, flat hn h2⟩
theorem append : ∀ {l m : List c.α} {cs ds : List Value}, Rows w ok c l cs → Rows w ok c m ds → Rows w ok c (l ++ m) (cs ++ ds)
 | [], m, cs, ds, h, k => by simp only [Rows] at h; subst h; exact k
 | x :: l, m, cs, ds, h, k => by
  simp only [Rows] at h
  obtain ⟨c1, c2, rfl, h1, h2⟩ := h
  exact ⟨c1, c2 ++ ds, by simp, h1, append h2 k⟩
theorem get : ∀ {l : List c.α} {cs : List Value} {i : Nat} {x : c.α}, Rows w ok c l cs → l[i]? = some x →
  ∃ ci, Rep w ok c x ci ∧ ∀ (j : Nat) v, ci[j]? = some v → cs[i * c.size + j]? = some v
 | [], _, _, _, _, e => by simp at e
 | y :: l, cs, 0, x, h, e => by
  simp only [Rows] at h
  obtain ⟨c1, c2, rfl, h1, h2⟩ := h
  simp at e; subst e
  refine ⟨c1, h1, fun j v hj => ?_⟩
  rw [Nat.zero_mul, Nat.zero_add, List.getElem?_append_left (List.getElem?_eq_some_iff.1 hj).1]; exact hj
 | y :: l, cs, i + 1, x, h, e => by
  simp only [Rows] at h
  obtain ⟨c1, c2, rfl, h1, h2⟩ := h
  simp at e
  obtain ⟨ci, hr, hv⟩ := get h2 e
  refine ⟨ci, hr, fun j v hj => ?_⟩
  have h3 := hv j v hj
  rw [List.getElem?_append_right (by rw [h1.length, Nat.add_mul]; omega), h1.length, show (i + 1) * c.size + j - c.size = i * c.size + j by rw [Nat.add_mul]; omega]
  exact h3
theorem one : ∀ {l : List c.α} {cs : List Value}, Rows w ok c l cs → ∀ v ∈ cs, v.oneCell' = true
 | [], cs, h => by simp only [Rows] at h; subst h; simp
 | x :: l, cs, h => by
  simp only [Rows] at h
  obtain ⟨c1, c2, rfl, h1, h2⟩ := h
  intro v hv
  rcases List.mem_append.1 hv with hv | hv
  ·exact h1.one v hv
  ·exact one h2 v hv
theorem set : ∀ {l : List c.α} {cs : List Value} {i : Nat} {y : c.α} {ci : List Value}, Rows w ok c l cs → i < l.length → Rep w ok c y ci →
  Rows w ok c (l.set i y) (cs.take (i * c.size) ++ ci ++ cs.drop (i * c.size + ci.length))
 | [], _, _, _, _, _, e, _ => by simp at e
 | x :: l, cs, 0, y, ci, h, e, hy => by
  simp only [Rows] at h
  obtain ⟨c1, c2, rfl, h1, h2⟩ := h
  refine ⟨ci, c2, ?_, hy, h2⟩
  rw [Nat.zero_mul, List.take_zero, List.nil_append, Nat.zero_add, hy.length, ← h1.length, List.drop_left]
 | x :: l, cs, i + 1, y, ci, h, e, hy => by
  simp only [Rows] at h
  obtain ⟨c1, c2, rfl, h1, h2⟩ := h
  refine ⟨c1, c2.take (i * c.size) ++ ci ++ c2.drop (i * c.size + ci.length), ?_, h1, set h2 (by simpa using e) hy⟩
  have e1 : (i + 1) * c.size = c1.length + i * c.size := by rw [h1.length, Nat.add_mul]; omega
  rw [e1, List.take_length_add_append, Nat.add_assoc, List.drop_length_add_append]
  simp
theorem take : ∀ (n : Nat) {l : List c.α} {cs : List Value}, Rows w ok c l cs → Rows w ok c (l.take n) (cs.take (n * c.size))
 | 0, l, cs, h => by simp [Rows]
 | n + 1, [], cs, h => by simp only [Rows] at h; subst h; simp [Rows]
 | n + 1, x :: l, cs, h => by
  simp only [Rows] at h
  obtain ⟨c1, c2, rfl, h1, h2⟩ := h
  refine ⟨c1, c2.take (n * c.size), ?_, h1, take n h2⟩
  have e1 : (n + 1) * c.size = c1.length + n * c.size := by rw [h1.length, Nat.add_mul]; omega
  rw [e1, List.take_length_add_append]
theorem drop : ∀ (n : Nat) {l : List c.α} {cs : List Value}, Rows w ok c l cs → Rows w ok c (l.drop n) (cs.drop (n * c.size))
 | 0, l, cs, h => by simpa using h
 | n + 1, [], cs, h => by simp only [Rows] at h; subst h; simp [Rows]
 | n + 1, x :: l, cs, h => by
  simp only [Rows] at h
  obtain ⟨c1, c2, rfl, h1, h2⟩ := h
  have e1 : (n + 1) * c.size = c1.length + n * c.size := by rw [h1.length, Nat.add_mul]; omega
  rw [e1, List.drop_length_add_append]
  simpa using drop n h2
end Rows

/-! ### slots and objects in memory -/
def blk : Value → Option Nat
 | .slice (some a) _ _ => some a.block
 | .pointer (some a) => some a.block
 | _ => none
def Ob.ex : Ob → Bool
 | .box _ | .row .. | .grid .. => true
 | _ => false
def Ob.parOk : Ob → Bool
 | .none => false
 | .lock .. => false
 | .grid .. => false
 | _ => true
def hdr (w : World) (a : Value) (i : Nat) : Option Value := match a with
 | .slice (some ⟨g, off, none⟩) _ _ => w.cell? ⟨g, off + i, none⟩
 | _ => none
theorem hdr_same {w w' : World} {a : Value} (H : ∀ g, blk a = some g → w'.heap[g]? = w.heap[g]?) (i : Nat) : hdr w' a i = hdr w a i := by
 unfold hdr
 split
 ·rename_i g off m k
  exact World.cell?_of_block (H g rfl)
 ·rfl
def SubR (a : Value) (size n lo hi : Nat) (v : Value) : Prop :=
 lo ≤ hi ∧ hi ≤ n ∧ ∃ B cap, v = .slice B (hi - lo) cap ∧ hi - lo ≤ cap ∧ cap ≤ maxLen ∧ (B = none → cap = 0) ∧
  (lo < hi → ∃ g off m k, a = .slice (some ⟨g, off, none⟩) m k ∧ B = some ⟨g, off + lo * size, none⟩)
def RowPtr (a : Value) (at_ : Nat) (v : Value) : Prop := ∃ g off n k, a = .slice (some ⟨g, off, none⟩) n k ∧ v = .pointer (some ⟨g, off + at_, none⟩)
def BoxPtr (a : Value) (j : Nat) (v : Value) : Prop := ∃ g off, a = .pointer (some ⟨g, off, none⟩) ∧ v = .pointer (some ⟨g, off + j, none⟩)
def PtrR (α : Nat → Value) (h : Heap) (o i j : Nat) (v : Value) : Prop := (∃ g off, v = .pointer (some ⟨g, off, none⟩)) ∧ match h o with
 | .gone => True
 | .box _ => i = 0 ∧ BoxPtr (α o) j v
 | .row _ c l => i < l.length ∧ RowPtr (α o) (i * c.size + j) v
 | .ice c l => i < l.length ∧ RowPtr (α o) (i * c.size + j) v
 | .lock c l => i < l.length ∧ RowPtr (α o) (i * c.size + j) v
 | .grid _ _ _ _ ll => i < ll.length ∧ RowPtr (α o) (i * 1 + j) v
 | .none => False
def EntR (α : Nat → Value) (h : Heap) (e : Int × Nat × List (Nat × Nat)) (m : MapEntry) : Prop :=
 m.key = .int .i64 e.1 ∧ ∃ vs : Array Value, m.val = .func (.func e.2.1) #[] vs ∧ F2 (fun (p : Nat × Nat) u => PtrR α h p.1 0 p.2 u) e.2.2 vs.toList
def LR (w : World) (α : Nat → Value) (ok : Nat → Prop) (h : Heap) : L → Value → Prop
 | .pv c x, v => Rep w ok c x [v]
 | .nils, v => v = .slice none 0 0
 | .own o, v => v.oneCell' = true ∧ match h o with
  | .gone => True
  | .row .. => v = α o
  | .ice .. => v = α o
  | .lock .. => v = α o
  | .grid .. => v = α o
  | _ => False
 | .sub o lo hi, v => v.oneCell' = true ∧ match h o with
  | .gone => True
  | .row _ c l => SubR (α o) c.size l.length lo hi v
  | .ice c l => SubR (α o) c.size l.length lo hi v
  | .lock c l => SubR (α o) c.size l.length lo hi v
  | _ => False
 | .ptr o i j, v => PtrR α h o i j v
 | .iptr c x j, v => ∃ g off cs, v = .pointer (some ⟨g, off + j, none⟩) ∧ ok g ∧ Rep w ok c x cs ∧ ∀ (i : Nat) u, cs[i]? = some u → w.cell? ⟨g, off + i, none⟩ = some u
 | .fn f caps, v => ∃ vs : Array Value, v = .func (.func f) #[] vs ∧ F2 (fun (p : Nat × Nat) u => PtrR α h p.1 0 p.2 u) caps vs.toList
 | .gptr g, v => v = .pointer (some ⟨g, 0, none⟩)
 | .fmap es, v => ∃ b ms clock, v = .map (some b) ∧ ok b ∧ w.heap[b]? = some (.map ms clock) ∧ F2 (EntR α h) es ms.toList
 | .nilp, v => v = .pointer none
 | .nilI, v => v = .nilIface
 | .arr zs, v => v = .agg (zs.map (Value.int .i64)).toArray
 | .inn o i n, v => v.oneCell' = true ∧ match h o with
  | .gone => True
  | .ice .. => True
  | .grid _ _ n' _ _ => n ≤ n' ∧ (n = n' → hdr w (α o) i = some v)
  | _ => False
 | .gp o i j n, v => (∃ g off, v = .pointer (some ⟨g, off, none⟩)) ∧ match h o with
  | .gone => True
  | .ice .. => True
  | .grid _ _ n' _ _ => n ≤ n' ∧ (n = n' → ∃ u, hdr w (α o) i = some u ∧ RowPtr u j v)
  | _ => False
 | .skip, v => v = undef
 | .undef, _ => True
def LsR (w : World) (α : Nat → Value) (ok : Nat → Prop) (h : Heap) (ls : List L) (vs : List Value) : Prop := F2 (LR w α ok h) ls vs
def PartR (w : World) (α : Nat → Value) (ok : Nat → Prop) (h : Heap) (p : Bool × List L) (v : Value) : Prop :=
 match p with
 | (true, ls) => ∃ cs : Array Value, v = .agg cs ∧ LsR w α ok h ls cs.toList
 | (false, ls) => ∃ l, ls = [l] ∧ LR w α ok h l v
def DR (w : World) (α : Nat → Value) (ok : Nat → Prop) (h : Heap) : D → Value → Prop
 | .one l, v => LR w α ok h l v
 | .agg ls, v => ∃ cs : Array Value, v = .agg cs ∧ LsR w α ok h ls cs.toList
 | .tup ds, v => ∃ vs : Array Value, v = .tuple vs ∧ F2 (PartR w α ok h) ds vs.toList
def ObR (w : World) (α : Nat → Value) (ok : Nat → Prop) (h : Heap) (o : Nat) : Ob → Prop
 | .box ls => ∃ g off cs e, α o = .pointer (some ⟨g, off, none⟩) ∧ w.heap[g]? = some (.cells cs e (0, 0)) ∧ ∃ vs, LsR w α ok h ls vs ∧ ∀ (j : Nat) v, vs[j]? = some v → cs[off + j]? = some v
 | .row e c l => ∃ xs, w.ownsRow 0 e c.size (α o) l.length xs ∧ Rows w ok c l xs
 | .ice c l => Rep w ok (.list c) l [α o]
 | .grid e d n hole ll => ∃ hs, w.ownsRow 0 e 1 (α o) ll.length hs ∧ ∀ i l, ll[i]? = some l → hole ≠ some i → ∃ u xs, hs[i]? = some u ∧ w.ownsRow 0 d 1 u l.length xs ∧ Rows w ok i64 l xs
 | _ => True
def Inn (w : World) (a : Value) (b : Ob) (i g : Nat) : Prop := match b with
 | .grid _ _ _ hole ll => i < ll.length ∧ hole ≠ some i ∧ ∃ u, hdr w a i = some u ∧ blk u = some g
 | _ => False
theorem Inn.grid {w : World} {a : Value} {b : Ob} {i g : Nat} (k : Inn w a b i g) : ∃ e d n hole ll, b = .grid e d n hole ll := by
 cases b <;> simp [Inn] at k
 exact ⟨_, _, _, _, _, rfl⟩
theorem Inn.ex {w : World} {a : Value} {b : Ob} {i g : Nat} (k : Inn w a b i g) : b.ex = true := by
 obtain ⟨_, _, _, _, _, rfl⟩ := k.grid; rfl
theorem Inn.same {w w' : World} {a : Value} {b : Ob} {i g : Nat} (H : ∀ g, blk a = some g → w'.heap[g]? = w.heap[g]?) : Inn w' a b i g ↔ Inn w a b i g := by
 cases b <;> simp only [Inn]
 rw [hdr_same H]
theorem Inn.not {w : World} {a : Value} {b : Ob} (hb : b.isGrid = false) {i g : Nat} : ¬ Inn w a b i g := by
 cases b <;> simp_all [Inn, Ob.isGrid]
theorem ownsRow_move {w w' : World} {m : Nat} {e : TypeId} {s : Nat} {v : Value} {n : Nat} {xs : List Value} (k : w.ownsRow m e s v n xs) (H : ∀ g, blk v = some g → w'.heap[g]? = w.heap[g]?) : w'.ownsRow m e s v n xs := by
 refine ⟨k.1, k.2.imp id ?_⟩
 rintro ⟨g, cap, cur, hv, hg, hh, r⟩
 exact ⟨g, cap, cur, hv, hg, by rw [H g (by rw [hv]; rfl)]; exact hh, r⟩
theorem ownsRow_hdr {w : World} {m : Nat} {e : TypeId} {v : Value} {n : Nat} {xs : List Value} (k : w.ownsRow m e 1 v n xs) {i : Nat} {u : Value} (hu : xs[i]? = some u) : hdr w v i = some u := by
 rcases k.2 with ⟨_, hn⟩ | ⟨g, cap, cur, hv, _, hh, _, _, _, ht⟩
 ·have := k.1; subst hn
  have := (List.getElem?_eq_some_iff.1 hu).1
  omega
 ·subst hv
  show w.cell? ⟨g, 0 + i, none⟩ = some u
  simp only [World.cell?, hh]
  rw [← ht, List.getElem?_take] at hu
  split at hu
  ·simpa using hu
  ·cases hu
theorem ownsRow_get {w : World} {m : Nat} {e : TypeId} {v : Value} {n : Nat} {xs : List Value} (k : w.ownsRow m e 1 v n xs) {i : Nat} (hi : i < n) : ∃ u, xs[i]? = some u ∧ hdr w v i = some u := by
 have h1 : i < xs.length := by rw [k.1]; omega
 exact ⟨xs[i], List.getElem?_eq_getElem h1, ownsRow_hdr k (List.getElem?_eq_getElem h1)⟩
def HLe : Ob → Ob → Prop
 | .none, _ => True
 | _, .gone => True
 | .box a, .box b => a.length = b.length
 | .row _ c l, .row _ c' l' => c = c' ∧ l.length = l'.length
 | .row _ c l, .ice c' l' => c = c' ∧ l.length = l'.length
 | .ice c l, .ice c' l' => c = c' ∧ l.length = l'.length
 | .row _ c l, .lock c' l' => c = c' ∧ l.length = l'.length
 | .lock c l, .lock c' l' => c = c' ∧ l.length = l'.length
 | .lock c l, .row _ c' l' => c = c' ∧ l.length = l'.length
 | .lock c l, .ice c' l' => c = c' ∧ l.length = l'.length
 | .grid e d n _ ll, .grid e' d' n' _ ll' => e = e' ∧ d = d' ∧ n ≤ n' ∧ ll.length = ll'.length
 | .grid _ _ _ _ ll, .ice c' l' => c' = .list i64 ∧ ll.length = l'.length
 | _, _ => False
theorem HLe.refl : ∀ o : Ob, HLe o o
 | .none | .gone => trivial
 | .box _ => rfl
 | .row .. | .ice .. | .lock .. => ⟨rfl, rfl⟩
 | .grid .. => ⟨rfl, rfl, Nat.le_refl _, rfl⟩
theorem HLe.trans {a b c : Ob} (h : HLe a b) (k : HLe b c) (hb : a ≠ .none → b ≠ .none) : HLe a c := by
 cases a <;> cases b <;> cases c <;> try (simp_all [HLe]; done)
 all_goals (simp only [HLe] at h k ⊢)
 ·exact ⟨h.1.trans k.1, h.2.1.trans k.2.1, Nat.le_trans h.2.2.1 k.2.2.1, h.2.2.2.trans k.2.2.2⟩
theorem HLe.ne {a b : Ob} (h : HLe a b) (ha : a ≠ .none) : b ≠ .none := by
 cases a <;> cases b <;> simp_all [HLe]
def sameV : Ob → Ob → Prop
 | .grid _ _ n _ _, .grid _ _ n' _ _ => n = n'
 | _, _ => False
structure Stay (w : World) (α : Nat → Value) (ok : Nat → Prop) (h : Heap) (w' : World) (α' : Nat → Value) (ok' : Nat → Prop) (h' : Heap) : Prop where
 ok : ∀ b, ok b → ok' b ∧ w'.heap[b]? = w.heap[b]?
 le : ∀ o, HLe (h o) (h' o)
 al : ∀ o, h o ≠ .none → α' o = α o
 gr : ∀ o g, sameV (h o) (h' o) → blk (α o) = some g → w'.heap[g]? = w.heap[g]?
section
variable {w w' w'' : World} {α α' α'' : Nat → Value} {ok ok' ok'' : Nat → Prop} {h h' h'' : Heap}
theorem Stay.refl : Stay w α ok h w α ok h := ⟨fun b hb => ⟨hb, rfl⟩, fun o => .refl _, fun _ _ => rfl, fun _ _ _ _ => rfl⟩
theorem Stay.trans (s : Stay w α ok h w' α' ok' h') (t : Stay w' α' ok' h' w'' α'' ok'' h'') : Stay w α ok h w'' α'' ok'' h'' :=
 ⟨fun b hb => ⟨(t.ok b (s.ok b hb).1).1, ((t.ok b (s.ok b hb).1).2).trans (s.ok b hb).2⟩, fun o => (s.le o).trans (t.le o) fun ha => (s.le o).ne ha,
  fun o ha => (t.al o ((s.le o).ne ha)).trans (s.al o ha), fun o g hv hg => by
  have h1 := s.le o
  have h2 := t.le o
  have h3 := s.al o
  have h4 := s.gr o g
  have h5 := t.gr o g
  cases e : h o <;> rw [e] at h1 h3 h4 hv <;> cases e'' : h'' o <;> rw [e''] at h2 h5 hv <;> simp only [sameV] at hv
  cases e' : h' o <;> rw [e'] at h1 h2 h4 h5 <;> simp only [HLe] at h1 h2
  have hn := h3 (by simp)
  simp only [sameV] at h4 h5
  rw [hn] at h5
  exact (h5 (by omega) hg).trans (h4 (by omega) hg)⟩
theorem PtrR.stay (s : Stay w α ok h w' α' ok' h') {o i j : Nat} {v : Value} (k : PtrR α h o i j v) : PtrR α' h' o i j v := by
 have hle := s.le o; have hal := s.al o
 simp only [PtrR] at k ⊢
 refine ⟨k.1, ?_⟩
 have k := k.2
 by_cases hg : ∃ e d n q ll, h o = .grid e d n q ll
 ·obtain ⟨e, d, n, q, ll, hg⟩ := hg
  rw [hg] at hle k hal
  rw [hal (by simp)]
  cases ho' : h' o <;> rw [ho'] at hle <;> simp only [HLe] at hle ⊢
  ·obtain ⟨rfl, hl⟩ := hle
   exact ⟨hl ▸ k.1, k.2⟩
  ·exact ⟨hle.2.2.2 ▸ k.1, k.2⟩
 ·cases ho : h o <;> cases ho' : h' o <;> simp_all [HLe] <;> (obtain ⟨rfl, hl⟩ := hle; simp_all)
theorem LR.stay (s : Stay w α ok h w' α' ok' h') : ∀ {l : L} {v : Value}, LR w α ok h l v → LR w' α' ok' h' l v
 | .pv c x, v, k => Rep.mono s.ok k
 | .nils, v, k => k
 | .own o, v, k => by
  have hle := s.le o; have hal := s.al o
  simp only [LR] at k ⊢
  refine ⟨k.1, ?_⟩
  cases ho : h o <;> cases ho' : h' o <;> simp_all [HLe]
 | .sub o lo hi, v, k => by
  have hle := s.le o; have hal := s.al o
  simp only [LR] at k ⊢
  refine ⟨k.1, ?_⟩
  cases ho : h o <;> cases ho' : h' o <;> simp_all [HLe] <;> (obtain ⟨rfl, hl⟩ := hle; simp_all)
 | .ptr o i j, v, k => PtrR.stay s k
 | .iptr c x j, v, k => by
  simp only [LR] at k ⊢
  obtain ⟨g, off, cs, rfl, hg, hr, hc⟩ := k
  exact ⟨g, off, cs, rfl, (s.ok g hg).1, hr.mono s.ok, fun i u hu => (World.cell?_of_block (s.ok g hg).2).trans (hc i u hu)⟩
 | .fn f caps, v, k => by
  simp only [LR] at k ⊢
  obtain ⟨vs, rfl, hF⟩ := k
  exact ⟨vs, rfl, hF.mono fun p u hu => PtrR.stay s hu⟩
 | .gptr g, v, k => k
 | .fmap es, v, k => by
  simp only [LR] at k ⊢
  obtain ⟨b, ms, clock, rfl, hb, hm, hF⟩ := k
  exact ⟨b, ms, clock, rfl, (s.ok b hb).1, (s.ok b hb).2.trans hm, hF.mono fun e m hr => by
   obtain ⟨h1, vs, h2, h3⟩ := hr
   exact ⟨h1, vs, h2, h3.mono fun p u hu => PtrR.stay s hu⟩⟩
 | .nilp, v, k => k
 | .nilI, v, k => k
 | .arr zs, v, k => k
 | .inn o i n, v, k => by
  have hle := s.le o; have hal := s.al o; have hgr := s.gr o
  simp only [LR] at k ⊢
  refine ⟨k.1, ?_⟩
  have k := k.2
  cases ho : h o <;> rw [ho] at k hle hal hgr <;> simp only at k <;> cases ho' : h' o <;> rw [ho'] at hle hgr <;> simp only [HLe] at hle ⊢
  simp only [sameV] at hgr
  refine ⟨by omega, fun e => ?_⟩
  rw [hal (by simp), hdr_same (fun g hg => hgr g (by omega) hg)]
  exact k.2 (by omega)
 | .gp o i j n, v, k => by
  have hle := s.le o; have hal := s.al o; have hgr := s.gr o
  simp only [LR] at k ⊢
  refine ⟨k.1, ?_⟩
  have k := k.2
  cases ho : h o <;> rw [ho] at k hle hal hgr <;> simp only at k <;> cases ho' : h' o <;> rw [ho'] at hle hgr <;> simp only [HLe] at hle ⊢
  simp only [sameV] at hgr
  refine ⟨by omega, fun e => ?_⟩
  rw [hal (by simp), hdr_same (fun g hg => hgr g (by omega) hg)]
  exact k.2 (by omega)
 | .skip, v, k => k
 | .undef, _, _ => trivial
theorem LsR.stay (s : Stay w α ok h w' α' ok' h') {ls : List L} {vs : List Value} (k : LsR w α ok h ls vs) : LsR w' α' ok' h' ls vs := F2.mono (fun _ _ => LR.stay s) k
theorem PartR.stay (s : Stay w α ok h w' α' ok' h') {p : Bool × List L} {v : Value} (k : PartR w α ok h p v) : PartR w' α' ok' h' p v := by
 obtain ⟨b, ls⟩ := p
 cases b <;> simp only [PartR] at k ⊢
 ·obtain ⟨l, rfl, k⟩ := k; exact ⟨l, rfl, k.stay s⟩
 ·obtain ⟨cs, rfl, k⟩ := k; exact ⟨cs, rfl, k.stay s⟩
theorem DR.stay (s : Stay w α ok h w' α' ok' h') {d : D} {v : Value} (k : DR w α ok h d v) : DR w' α' ok' h' d v := by
 cases d <;> simp only [DR] at k ⊢
 ·exact k.stay s
 ·obtain ⟨cs, rfl, k⟩ := k; exact ⟨cs, rfl, k.stay s⟩
 ·obtain ⟨vs, rfl, k⟩ := k; exact ⟨vs, rfl, k.mono fun _ _ => PartR.stay s⟩
theorem ObR.stay (s : Stay w α ok h w' α' ok' h') {o : Nat} {b : Ob} (hb : ∀ g, b.ex = true → blk (α o) = some g → w'.heap[g]? = w.heap[g]?) (ha : b ≠ .none → b ≠ .gone → α' o = α o)
  (hi : ∀ i g, Inn w (α o) b i g → w'.heap[g]? = w.heap[g]?) (k : ObR w α ok h o b) : ObR w' α' ok' h' o b := by
 cases b with
 | none => trivial
 | gone => trivial
 | box ls =>
  simp only [ObR] at k ⊢
  obtain ⟨g, off, cs, e, hα, hg, vs, hl, hv⟩ := k
  exact ⟨g, off, cs, e, by rw [ha (by simp) (by simp)]; exact hα, by rw [hb g rfl (by rw [hα]; rfl)]; exact hg, vs, hl.stay s, hv⟩
 | row e c l =>
  simp only [ObR] at k ⊢
  obtain ⟨xs, ho, hr⟩ := k
  refine ⟨xs, ?_, hr.mono s.ok⟩
  rw [ha (by simp) (by simp)]
  refine ⟨ho.1, ho.2.imp id ?_⟩
  rintro ⟨g, cap, cur, hv, hg, hh, r⟩
  exact ⟨g, cap, cur, hv, hg, by rw [hb g rfl (by rw [hv]; rfl)]; exact hh, r⟩
 | ice c l =>
  simp only [ObR] at k ⊢
  rw [ha (by simp) (by simp)]
  exact k.mono s.ok
 | lock c l => trivial
 | grid e d n hole ll =>
  simp only [ObR] at k ⊢
  obtain ⟨hs, ho, hr⟩ := k
  refine ⟨hs, ?_, fun i l hl hh => ?_⟩
  ·rw [ha (by simp) (by simp)]
   exact ownsRow_move ho fun g hg => hb g rfl hg
  ·obtain ⟨u, xs, hu, h1, h2⟩ := hr i l hl hh
   exact ⟨u, xs, hu, ownsRow_move h1 fun g hg => hi i g ⟨(List.getElem?_eq_some_iff.1 hl).1, hh, u, ownsRow_hdr ho hu, hg⟩, h2.mono s.ok⟩
end
end Go.VI
namespace Go.VI
open Go

structure Fx where
 P : Program
 tabs : List (Nat × Obj)
 w0 : World
 m : Nat
 α0 : Nat → Value
 h0 : Heap
 ok0 : Nat → Prop
structure Fr (F : Fx) (w : World) : Prop where
 os : w.os = F.w0.os
 tape : w.tape = F.w0.tape
 output : w.output = F.w0.output
 size : F.w0.heap.size ≤ w.heap.size
 block : ∀ b, b < F.w0.heap.size → (∀ k, k < F.m → (F.h0 k).ex = true → blk (F.α0 k) ≠ some b) → w.heap[b]? = F.w0.heap[b]?
 part : ∀ k ls g off cs e, k < F.m → F.h0 k = .box ls → F.α0 k = .pointer (some ⟨g, off, none⟩) → F.w0.heap[g]? = some (.cells cs e (0, 0)) →
  ∃ cs' : Array Value, w.heap[g]? = some (.cells cs' e (0, 0)) ∧ cs'.size = cs.size ∧ ∀ j, (j < off ∨ off + ls.length ≤ j) → cs'[j]? = cs[j]?
structure Core (F : Fx) (α : Nat → Value) (ok : Nat → Prop) (h : Heap) (w : World) : Prop where
 ob : ∀ o, ObR w α ok h o (h o)
 sep : ∀ o o' b, (h o).ex = true → (h o').ex = true → blk (α o) = some b → blk (α o') = some b → o = o'
 sepok : ∀ o b, (h o).ex = true → blk (α o) = some b → ¬ ok b
 okb : ∀ b, ok b → b < w.heap.size ∧ (b < F.w0.heap.size → F.ok0 b ∨ ∃ k, k < F.m ∧ (F.h0 k).ex = true ∧ blk (F.α0 k) = some b)
 par : ∀ k, k < F.m → α k = F.α0 k ∧ HLe (F.h0 k) (h k) ∧ (∀ ls, F.h0 k = .box ls → h k ≠ .gone) ∧ (F.h0 k).parOk = true
 fresh : ∀ o b, F.m ≤ o → (h o).ex = true → blk (α o) = some b → F.w0.heap.size ≤ b ∨ ∃ k, k < F.m ∧ (F.h0 k).ex = true ∧ blk (F.α0 k) = some b
 fr : Fr F w
 tab : ∀ p ∈ F.tabs, w.heap[p.1]? = some p.2 ∧ ok p.1
 gr : ∀ {o i b}, Inn w (α o) (h o) i b → (b < F.w0.heap.size → ∃ k, k < F.m ∧ (F.h0 k).ex = true ∧ blk (F.α0 k) = some b) ∧ b < w.heap.size ∧ ¬ ok b ∧
  (∀ x, (h x).ex = true → blk (α x) ≠ some b) ∧ ∀ o' i', Inn w (α o') (h o') i' b → o' = o ∧ i' = i
def setA (α : Nat → Value) (o : Nat) (v : Value) : Nat → Value := fun x => if x = o then v else α x
@[simp] theorem setA_same (α : Nat → Value) (o : Nat) (v : Value) : setA α o v o = v := by simp [setA]
theorem setA_other {α : Nat → Value} {o x : Nat} {v : Value} (h : x ≠ o) : setA α o v x = α x := by simp [setA, h]
theorem upd_eq (h : Heap) (o : Nat) (b : Ob) (x : Nat) : upd h o b x = if x = o then b else h x := by
 unfold upd
 by_cases e : x = o
 ·subst e; rw [if_pos rfl]; have : Nat.beq x x = true := Nat.beq_refl x; rw [this]; rfl
 ·rw [if_neg e]
  cases hb : Nat.beq x o with
  | false => rfl
  | true => exact absurd (Nat.eq_of_beq_eq_true hb) e
@[simp] theorem upd_same (h : Heap) (o : Nat) (b : Ob) : upd h o b o = b := by rw [upd_eq, if_pos rfl]
theorem upd_other {h : Heap} {o x : Nat} {b : Ob} (hx : x ≠ o) : upd h o b x = h x := by rw [upd_eq, if_neg hx]
theorem HLe.upd {h : Heap} {o : Nat} {b : Ob} (hl : HLe (h o) b) (x : Nat) : HLe (h x) (VI.upd h o b x) := by
 rw [upd_eq]; split
 ·rename_i e; rw [e]; exact hl
 ·exact .refl _
theorem lt_of_heap {w : World} {b : Nat} {o : Obj} (h : w.heap[b]? = some o) : b < w.heap.size := (Array.getElem?_eq_some_iff.1 h).1
section
variable {F : Fx} {α : Nat → Value} {ok : Nat → Prop} {h : Heap} {w : World}
theorem Core.gr_of (C : Core F α ok h w) {w' : World} {α' : Nat → Value} {ok' : Nat → Prop} {h' : Heap} (hs : w.heap.size ≤ w'.heap.size) (H : ∀ o i g, Inn w' (α' o) (h' o) i g → Inn w (α o) (h o) i g)
  (hok : ∀ o i g, Inn w' (α' o) (h' o) i g → Inn w (α o) (h o) i g → ¬ ok' g) (hx : ∀ o i g, Inn w (α o) (h o) i g → ∀ x, (h' x).ex = true → blk (α' x) ≠ some g) :
  ∀ {o i b}, Inn w' (α' o) (h' o) i b → (b < F.w0.heap.size → ∃ k, k < F.m ∧ (F.h0 k).ex = true ∧ blk (F.α0 k) = some b) ∧ b < w'.heap.size ∧ ¬ ok' b ∧
  (∀ x, (h' x).ex = true → blk (α' x) ≠ some b) ∧ ∀ o' i', Inn w' (α' o') (h' o') i' b → o' = o ∧ i' = i := by
 intro o i b k
 obtain ⟨h1, h2, h3, h4, h5⟩ := C.gr (H _ _ _ k)
 exact ⟨h1, Nat.lt_of_lt_of_le h2 hs, hok _ _ _ k (H _ _ _ k), hx _ _ _ (H _ _ _ k), fun o' i' k' => h5 o' i' (H _ _ _ k')⟩
theorem ObR.lt {o : Nat} {b : Ob} {g : Nat} (k : ObR w α ok h o b) (he : b.ex = true) (hg : blk (α o) = some g) : g < w.heap.size := by
 cases b with
 | box ls =>
  obtain ⟨g', off, cs, e, hα, hh, _⟩ := k
  rw [hα] at hg; simp [blk] at hg; subst hg; exact lt_of_heap hh
 | row e c l =>
  obtain ⟨xs, ho, _⟩ := k
  rcases ho.2 with ⟨hv, _⟩ | ⟨g', cap, cur, hv, _, hh, _⟩
  ·rw [hv] at hg; simp [blk] at hg
  ·rw [hv] at hg; simp [blk] at hg; subst hg; exact lt_of_heap hh
 | grid e d n q ll =>
  obtain ⟨xs, ho, _⟩ := k
  rcases ho.2 with ⟨hv, _⟩ | ⟨g', cap, cur, hv, _, hh, _⟩
  ·rw [hv] at hg; simp [blk] at hg
  ·rw [hv] at hg; simp [blk] at hg; subst hg; exact lt_of_heap hh
 | _ => simp [Ob.ex] at he
theorem Core.lt (C : Core F α ok h w) {o g : Nat} (he : (h o).ex = true) (hg : blk (α o) = some g) : g < w.heap.size := (C.ob o).lt he hg
theorem Core.same (C : Core F α ok h w) {w' : World} (hh : w'.heap = w.heap) (ho : w'.os = w.os) (ht : w'.tape = w.tape) (hu : w'.output = w.output) :
  Core F α ok h w' ∧ Stay w α ok h w' α ok h := by
 have s : Stay w α ok h w' α ok h := ⟨fun b hb => ⟨hb, by rw [hh]⟩, fun o => .refl _, fun _ _ => rfl, fun _ _ _ _ => by rw [hh]⟩
 refine ⟨⟨fun o => (C.ob o).stay s (fun g _ _ => by rw [hh]) (fun _ _ => rfl) (fun _ _ _ => by rw [hh]), C.sep, C.sepok, fun b hb => by rw [hh]; exact C.okb b hb, C.par, C.fresh, ?_, fun p hp => by rw [hh]; exact C.tab p hp,
  C.gr_of (by rw [hh]; exact Nat.le_refl _) (fun o i g k => (Inn.same fun g _ => by rw [hh]).1 k) (fun o i g _ k => (C.gr k).2.2.1) (fun o i g k => (C.gr k).2.2.2.1)⟩, s⟩
 exact ⟨ho.trans C.fr.os, ht.trans C.fr.tape, hu.trans C.fr.output, by rw [hh]; exact C.fr.size, fun b hb hk => by rw [hh]; exact C.fr.block b hb hk,
  fun k ls g off cs e h1 h2 h3 h4 => by rw [hh]; exact C.fr.part k ls g off cs e h1 h2 h3 h4⟩
theorem Core.drew (C : Core F α ok h w) : Core F α ok h w.drew ∧ Stay w α ok h w.drew α ok h := C.same rfl rfl rfl rfl
theorem Core.newS (C : Core F α ok h w) {id : Nat} (hid : h id = .none) {w' : World} {v : Value} {b : Ob} (hB : ∀ k, k < w.heap.size → w'.heap[k]? = w.heap[k]?) : Stay w α ok h w' (setA α id v) ok (upd h id b) :=
 ⟨fun g hg => ⟨hg, hB g (C.okb g hg).1⟩, HLe.upd (by rw [hid]; trivial), fun o h1 => setA_other (fun e => h1 (e ▸ hid)), fun o g hv hg => hB g (C.lt (o := o) (by cases e : h o <;> rw [e] at hv <;> simp_all [sameV, Ob.ex]) hg)⟩
theorem Core.new (C : Core F α ok h w) {id : Nat} (hid : h id = .none) (hm : F.m ≤ id) {w' : World} {v : Value} {b : Ob} (hB : ∀ k, k < w.heap.size → w'.heap[k]? = w.heap[k]?)
  (hs : w.heap.size ≤ w'.heap.size) (ho : w'.os = w.os) (ht : w'.tape = w.tape) (hu : w'.output = w.output)
  (hv : ∀ g, blk v = some g → w.heap.size ≤ g) (hn : b ≠ .none) (hb : ObR w' (setA α id v) ok (upd h id b) id b) (hng : ∀ i g, ¬ Inn w' v b i g := by intro i g; exact Inn.not rfl) :
  Core F (setA α id v) ok (upd h id b) w' ∧ Stay w α ok h w' (setA α id v) ok (upd h id b) := by
 have s : Stay w α ok h w' (setA α id v) ok (upd h id b) :=
  ⟨fun g hg => ⟨hg, hB g (C.okb g hg).1⟩, HLe.upd (by rw [hid]; trivial), fun o h1 => setA_other (fun e => h1 (e ▸ hid)), fun o g hv hg => hB g (C.lt (o := o) (by cases e : h o <;> rw [e] at hv <;> simp_all [sameV, Ob.ex]) hg)⟩
 have hI : ∀ o i g, Inn w' (setA α id v o) (upd h id b o) i g → Inn w (α o) (h o) i g := fun o i g k => by
  by_cases e : o = id
  ·subst e; rw [upd_same, setA_same] at k; exact absurd k (hng i g)
  ·rw [upd_other e, setA_other e] at k
   exact (Inn.same fun g hg => hB g (C.lt k.ex hg)).1 k
 refine ⟨⟨fun o => ?_, fun o o' g h1 h2 h3 h4 => ?_, fun o g h1 h2 => ?_, fun g hg => ⟨Nat.lt_of_lt_of_le (C.okb g hg).1 hs, (C.okb g hg).2⟩, fun k hk => ?_, fun o g h1 h2 h3 => ?_, ?_, fun p hp => ?_, C.gr_of hs hI (fun o i g _ k => (C.gr k).2.2.1) (fun o i g k x hx hg => ?_)⟩, s⟩
 ·by_cases e : o = id
  ·subst e; rw [upd_same]; exact hb
  ·rw [upd_other e]
   exact (C.ob o).stay s (fun g he hg => hB g (C.lt he hg)) (fun _ _ => setA_other e) (fun i g k => hB g (C.gr k).2.1)
 ·by_cases e : o = id <;> by_cases e' : o' = id
  ·rw [e, e']
  ·subst e; rw [setA_same] at h3; rw [upd_other e'] at h2; rw [setA_other e'] at h4
   have := hv g h3; have := C.lt h2 h4; omega
  ·subst e'; rw [setA_same] at h4; rw [upd_other e] at h1; rw [setA_other e] at h3
   have := hv g h4; have := C.lt h1 h3; omega
  ·rw [upd_other e] at h1; rw [upd_other e'] at h2; rw [setA_other e] at h3; rw [setA_other e'] at h4
   exact C.sep o o' g h1 h2 h3 h4
 ·by_cases e : o = id
  ·subst e; rw [setA_same] at h2; intro hk
   have := hv g h2; have := (C.okb g hk).1; omega
  ·rw [upd_other e] at h1; rw [setA_other e] at h2; exact C.sepok o g h1 h2
 ·have e : k ≠ id := by omega
  rw [upd_other e, setA_other e]; exact C.par k hk
 ·by_cases e : o = id
  ·subst e; rw [setA_same] at h3; exact .inl (Nat.le_trans C.fr.size (hv g h3))
  ·rw [upd_other e] at h2; rw [setA_other e] at h3; exact C.fresh o g h1 h2 h3
 ·refine ⟨ho.trans C.fr.os, ht.trans C.fr.tape, hu.trans C.fr.output, Nat.le_trans C.fr.size hs, fun g hg hk => (hB g (Nat.lt_of_lt_of_le hg C.fr.size)).trans (C.fr.block g hg hk), fun k ls g off cs e h1 h2 h3 h4 => ?_⟩
  obtain ⟨cs', h5, h6⟩ := C.fr.part k ls g off cs e h1 h2 h3 h4
  exact ⟨cs', (hB g (lt_of_heap h5)).trans h5, h6⟩
 ·exact ⟨(hB p.1 (C.okb _ (C.tab p hp).2).1).trans (C.tab p hp).1, (C.tab p hp).2⟩
 ·by_cases e : x = id
  ·subst e; rw [setA_same] at hg; have := hv g hg; have := (C.gr k).2.1; omega
  ·rw [upd_other e] at hx; rw [setA_other e] at hg; exact (C.gr k).2.2.2.1 x hx hg
theorem Core.pokeS (C : Core F α ok h w) {o : Nat} {b : Ob} (he : (h o).ex = true) (hle : HLe (h o) b) (hng : b.isGrid = false) {w' : World}
  (hB : ∀ k, blk (α o) ≠ some k → w'.heap[k]? = w.heap[k]?) : Stay w α ok h w' α ok (upd h o b) :=
 ⟨fun g hg => ⟨hg, hB g fun e => C.sepok o g he e hg⟩, HLe.upd hle, fun _ _ => rfl, fun x g hv hg => hB g fun e' => by
  have hxo : x ≠ o := fun e => by
   subst e; rw [upd_same] at hv
   cases b <;> cases hh : h x <;> rw [hh] at hv <;> simp_all [sameV, Ob.isGrid]
  rw [upd_other hxo] at hv
  exact hxo (C.sep x o g (by cases hh : h x <;> rw [hh] at hv <;> simp_all [sameV, Ob.ex]) he hg e')⟩
theorem Core.poke (C : Core F α ok h w) {o : Nat} {b : Ob} (he : (h o).ex = true) (hle : HLe (h o) b) (hbe : b.ex = true) (hng : b.isGrid = false) {w' : World}
  (hB : ∀ k, blk (α o) ≠ some k → w'.heap[k]? = w.heap[k]?) (hs : w'.heap.size = w.heap.size) (ho : w'.os = w.os) (ht : w'.tape = w.tape) (hu : w'.output = w.output)
  (hb : ObR w' α ok (upd h o b) o b)
  (hp : ∀ ls g off cs e, h o = .box ls → α o = .pointer (some ⟨g, off, none⟩) → w.heap[g]? = some (.cells cs e (0, 0)) → ∃ cs' : Array Value, w'.heap[g]? = some (.cells cs' e (0, 0)) ∧ cs'.size = cs.size ∧ ∀ j, (j < off ∨ off + ls.length ≤ j) → cs'[j]? = cs[j]?) :
  Core F α ok (upd h o b) w' ∧ Stay w α ok h w' α ok (upd h o b) := by
 have hok : ∀ g, ok g → w'.heap[g]? = w.heap[g]? := fun g hg => hB g fun e => C.sepok o g he e hg
 have s : Stay w α ok h w' α ok (upd h o b) := ⟨fun g hg => ⟨hg, hok g hg⟩, HLe.upd hle, fun _ _ => rfl, fun x g hv hg => hB g fun e' => by
  have hxo : x ≠ o := fun e => by
   subst e; rw [upd_same] at hv
   cases b <;> cases hh : h x <;> rw [hh] at hv <;> simp_all [sameV, Ob.isGrid]
  rw [upd_other hxo] at hv
  exact hxo (C.sep x o g (by cases hh : h x <;> rw [hh] at hv <;> simp_all [sameV, Ob.ex]) he hg e')⟩
 have hex : ∀ x, (upd h o b x).ex = true → (h x).ex = true := fun x hx => by
  by_cases e : x = o
  ·rw [e]; exact he
  ·rwa [upd_other e] at hx
 have hbox : ∀ k, k < F.m → k = o → ∀ ls, F.h0 k = .box ls → ∃ ls', h o = .box ls' ∧ ls'.length = ls.length := fun k hk e ls hls => by
  have h1 := (C.par k hk).2.1
  rw [hls, e] at h1
  cases hh : h o <;> rw [hh] at h1 he <;> simp_all [HLe, Ob.ex, Ob.parOk]
 refine ⟨⟨fun x => ?_, fun x y g h1 h2 => C.sep x y g (hex x h1) (hex y h2), fun x g h1 => C.sepok x g (hex x h1), fun g hg => by rw [hs]; exact C.okb g hg, fun k hk => ?_, fun x g h1 h2 => C.fresh x g h1 (hex x h2), ?_, fun p hp => ⟨(hok p.1 (C.tab p hp).2).trans (C.tab p hp).1, (C.tab p hp).2⟩,
  C.gr_of (Nat.le_of_eq hs.symm) (fun x i g k => ?_) (fun _ i g _ k => (C.gr k).2.2.1) (fun _ i g k x hx => (C.gr k).2.2.2.1 x (hex x hx))⟩, s⟩
 ·by_cases e : x = o
  ·subst e; rw [upd_same]; exact hb
  ·rw [upd_other e]
   refine (C.ob x).stay s (fun g hx hg => hB g fun e' => e (C.sep x o g hx he hg e')) (fun _ _ => rfl) (fun i g k => hB g ((C.gr k).2.2.2.1 o he))
 ·refine ⟨(C.par k hk).1, ?_, fun ls hls => ?_, (C.par k hk).2.2.2⟩
  ·by_cases e : k = o
   ·subst e; rw [upd_same]; exact (C.par k hk).2.1.trans hle fun hne => (C.par k hk).2.1.ne hne
   ·rw [upd_other e]; exact (C.par k hk).2.1
  ·by_cases e : k = o
   ·subst e; rw [upd_same]; intro hg; rw [hg] at hbe; simp [Ob.ex] at hbe
   ·rw [upd_other e]; exact (C.par k hk).2.2.1 ls hls
 ·refine ⟨ho.trans C.fr.os, ht.trans C.fr.tape, hu.trans C.fr.output, by rw [hs]; exact C.fr.size, fun g hg hk => ?_, fun k ls g off cs e h1 h2 h3 h4 => ?_⟩
  ·rw [hB g fun e => ?_]; exact C.fr.block g hg hk
   by_cases hom : F.m ≤ o
   ·rcases C.fresh o g hom he e with hf | ⟨k, hk1, hk2, hk3⟩
    ·omega
    ·exact hk k hk1 hk2 hk3
   ·have hom : o < F.m := by omega
    refine hk o hom ?_ ((C.par o hom).1 ▸ e)
    have h1 := (C.par o hom).2.1
    have h2 := (C.par o hom).2.2.2
    clear hk hex hp hB hbe hle hb s hok hbox
    cases hh : F.h0 o <;> cases hh' : h o <;> rw [hh'] at he h1 <;> rw [hh] at h1 h2 <;> simp_all [HLe, Ob.ex, Ob.parOk]
  ·obtain ⟨cs', h5, h6, h7⟩ := C.fr.part k ls g off cs e h1 h2 h3 h4
   by_cases hgo : blk (α o) = some g
   ·have hko : k = o := by
     have hk1 : (h k).ex = true := by
      have h8 := (C.par k h1).2.1
      have h9 := (C.par k h1).2.2.1 ls h2
      rw [h2] at h8
      cases hh : h k <;> rw [hh] at h8 h9 <;> simp_all [HLe, Ob.ex, Ob.parOk]
     exact C.sep k o g hk1 he (by rw [(C.par k h1).1, h3]; rfl) hgo
    obtain ⟨ls', hls', hlen⟩ := hbox k h1 hko ls h2
    subst hko
    obtain ⟨cs'', h8, h9, h10⟩ := hp ls' g off cs' e hls' ((C.par k h1).1.trans h3) h5
    exact ⟨cs'', h8, h9.trans h6, fun j hj => (h10 j (by rw [hlen]; exact hj)).trans (h7 j hj)⟩
   ·exact ⟨cs', (hB g hgo).trans h5, h6, h7⟩
 ·by_cases e : x = o
  ·subst e; rw [upd_same] at k; exact absurd k (Inn.not hng)
  ·rw [upd_other e] at k
   exact (Inn.same fun g hg => hB g fun e' => e (C.sep x o g k.ex he hg e')).1 k

theorem row_rep {o : Nat} {e : TypeId} {c : TC} {l : List c.α} (k : ObR w α ok h o (.row e c l)) {ok' : Nat → Prop} (hok : ∀ b, ok b → ok' b) (hk : ∀ g, blk (α o) = some g → ok' g) :
  Rep w ok' (.list c) l [α o] := by
 obtain ⟨xs, ho, hr⟩ := k
 simp only [Rep]
 rcases ho.2 with ⟨hv, hn⟩ | ⟨g, cap, cur, hv, _, hh, hnc, hcm, hcs, ht⟩
 ·exact ⟨none, 0, 0, by rw [hv], hn.symm, Nat.le_refl _, by simp [maxLen], fun _ => rfl, fun h => absurd rfl h⟩
 ·refine ⟨some ⟨g, 0, none⟩, l.length, cap, by rw [hv], rfl, hnc, hcm, fun h => by simp at h, fun h0 => ⟨g, 0, rfl, hk g (by rw [hv]; rfl), fun i x hi => ?_⟩⟩
  obtain ⟨ci, hrep, hc⟩ := hr.get hi
  refine ⟨ci, hrep.mono fun b hb => ⟨hok b hb, rfl⟩, fun j v hj => ?_⟩
  have h1 := hc j v hj
  rw [cell_of_row w g _ cur e (0, 0) hh]
  rw [← ht, List.getElem?_take] at h1
  split at h1
  ·simpa using h1
  ·cases h1
theorem Core.freeze (C : Core F α ok h w) {o : Nat} {e : TypeId} {c : TC} {l : List c.α} (ho : h o = .row e c l) :
  Core F α (fun b => ok b ∨ blk (α o) = some b) (upd h o (.ice c l)) w ∧ Stay w α ok h w α (fun b => ok b ∨ blk (α o) = some b) (upd h o (.ice c l)) := by
 have he : (h o).ex = true := by rw [ho]; rfl
 have s : Stay w α ok h w α (fun b => ok b ∨ blk (α o) = some b) (upd h o (.ice c l)) := ⟨fun g hg => ⟨.inl hg, rfl⟩, HLe.upd (by rw [ho]; exact ⟨rfl, rfl⟩), fun _ _ => rfl, fun _ _ _ _ => rfl⟩
 have hex : ∀ x, (upd h o (.ice c l) x).ex = true → (h x).ex = true ∧ x ≠ o := fun x hx => by
  by_cases e : x = o
  ·rw [e, upd_same] at hx; simp [Ob.ex] at hx
  ·rw [upd_other e] at hx; exact ⟨hx, e⟩
 have hbound : ∀ b, blk (α o) = some b → b < F.w0.heap.size → ∃ k, k < F.m ∧ (F.h0 k).ex = true ∧ blk (F.α0 k) = some b := fun b hb hlt => by
  by_cases hom : F.m ≤ o
  ·rcases C.fresh o b hom he hb with hf | hf
   ·omega
   ·exact hf
  ·have hom : o < F.m := by omega
   refine ⟨o, hom, ?_, (C.par o hom).1 ▸ hb⟩
   have h1 := (C.par o hom).2.1
   have h2 := (C.par o hom).2.2.2
   rw [ho] at h1
   cases hh : F.h0 o <;> rw [hh] at h1 h2 <;> simp_all [HLe, Ob.ex, Ob.parOk]
 refine ⟨⟨fun x => ?_, fun x y g h1 h2 => C.sep x y g (hex x h1).1 (hex y h2).1, fun x g h1 h2 h3 => ?_, fun g hg => ?_, fun k hk => ?_, fun x g h1 h2 => C.fresh x g h1 (hex x h2).1, C.fr, fun p hp => ⟨(C.tab p hp).1, .inl (C.tab p hp).2⟩,
  C.gr_of (Nat.le_refl _) (fun x i g k => ?_) (fun x i g _ k h3 => Or.elim h3 (C.gr k).2.2.1 ((C.gr k).2.2.2.1 o he)) (fun x i g k y hy => (C.gr k).2.2.2.1 y (hex y hy).1)⟩, s⟩
 ·by_cases e' : x = o
  ·subst e'; rw [upd_same]
   exact row_rep (ho ▸ C.ob x) (fun b hb => .inl hb) (fun g hg => .inr hg)
  ·rw [upd_other e']; exact (C.ob x).stay s (fun _ _ _ => rfl) (fun _ _ => rfl) (fun _ _ _ => rfl)
 ·rcases h3 with h3 | h3
  ·exact C.sepok x g (hex x h1).1 h2 h3
  ·exact (hex x h1).2 (C.sep x o g (hex x h1).1 he h2 h3)
 ·rcases hg with hg | hg
  ·exact C.okb g hg
  ·exact ⟨C.lt he hg, fun hlt => .inr (hbound g hg hlt)⟩
 ·refine ⟨(C.par k hk).1, ?_, fun ls hls => ?_, (C.par k hk).2.2.2⟩
  ·by_cases e' : k = o
   ·subst e'; rw [upd_same]; exact (C.par k hk).2.1.trans (by rw [ho]; exact ⟨rfl, rfl⟩) fun hne => (C.par k hk).2.1.ne hne
   ·rw [upd_other e']; exact (C.par k hk).2.1
  ·by_cases e' : k = o
   ·subst e'; rw [upd_same]; simp
   ·rw [upd_other e']; exact (C.par k hk).2.2.1 ls hls
 ·by_cases e' : x = o
  ·subst e'; rw [upd_same] at k; exact k.elim
  ·rwa [upd_other e'] at k
theorem Core.move (C : Core F α ok h w) {o id : Nat} {e : TypeId} {c : TC} {l : List c.α} (hrow : h o = .row e c l) (hid : h id = .none) (hm : F.m ≤ id) {w' : World} {v : Value} {b : Ob}
  (hB : ∀ k, k < w.heap.size → blk (α o) ≠ some k → w'.heap[k]? = w.heap[k]?) (hs : w.heap.size ≤ w'.heap.size) (ho : w'.os = w.os) (ht : w'.tape = w.tape) (hu : w'.output = w.output)
  (hv : ∀ g, blk v = some g → w.heap.size ≤ g ∨ blk (α o) = some g) (hn : b ≠ .none) (hb : ObR w' (setA α id v) ok (upd (upd h o .gone) id b) id b) (hng : b.isGrid = false := by rfl) :
  Core F (setA α id v) ok (upd (upd h o .gone) id b) w' ∧ Stay w α ok h w' (setA α id v) ok (upd (upd h o .gone) id b) := by
 have he : (h o).ex = true := by rw [hrow]; rfl
 have hoid : o ≠ id := fun e => by rw [e, hid] at hrow; cases hrow
 have hok : ∀ g, ok g → w'.heap[g]? = w.heap[g]? := fun g hg => hB g (C.okb g hg).1 fun e => C.sepok o g he e hg
 have hval : ∀ x, upd (upd h o .gone) id b x = if x = id then b else if x = o then .gone else h x := fun x => by rw [upd_eq, upd_eq]
 have s : Stay w α ok h w' (setA α id v) ok (upd (upd h o .gone) id b) := by
  refine ⟨fun g hg => ⟨hg, hok g hg⟩, fun x => ?_, fun x h1 => setA_other (fun e => h1 (e ▸ hid)), fun x g hv' hg => ?_⟩
  rotate_left
  ·rw [hval] at hv'
   have hx : (h x).ex = true ∧ x ≠ o := by
    cases hh : h x <;> rw [hh] at hv' <;> simp only [sameV] at hv'
    refine ⟨rfl, fun e => ?_⟩
    rw [e, hrow] at hh; cases hh
   exact hB g (C.lt hx.1 hg) fun h3 => hx.2 (C.sep x o g hx.1 he hg h3)
  rw [hval]; split
  ·rename_i e'; rw [e', hid]; trivial
  ·split
   ·cases h x <;> trivial
   ·exact .refl _
 have hex : ∀ x, x ≠ id → (upd (upd h o .gone) id b x).ex = true → (h x).ex = true ∧ x ≠ o := fun x hx1 hx => by
  rw [hval, if_neg hx1] at hx
  split at hx
  ·simp [Ob.ex] at hx
  ·rename_i e; exact ⟨hx, e⟩
 refine ⟨⟨fun x => ?_, fun x y g h1 h2 h3 h4 => ?_, fun x g h1 h2 => ?_, fun g hg => ⟨Nat.lt_of_lt_of_le (C.okb g hg).1 hs, (C.okb g hg).2⟩, fun k hk => ?_, fun x g h1 h2 h3 => ?_, ?_, fun p hp => ⟨(hok p.1 (C.tab p hp).2).trans (C.tab p hp).1, (C.tab p hp).2⟩,
  C.gr_of hs (fun x i g k => ?_) (fun x i g _ k => (C.gr k).2.2.1) (fun x i g k y hy hg => ?_)⟩, s⟩
 ·rw [hval]; split
  ·rename_i e; subst e; exact hb
  ·rename_i e
   split
   ·trivial
   ·rename_i e'
    exact (C.ob x).stay s (fun g hx hg => hB g (C.lt hx hg) fun h3 => e' (C.sep x o g hx he hg h3)) (fun _ _ => setA_other e) (fun i g k => hB g (C.gr k).2.1 ((C.gr k).2.2.2.1 o he))
 ·by_cases e : x = id <;> by_cases e' : y = id
  ·rw [e, e']
  ·obtain ⟨h5, h6⟩ := hex y e' h2
   subst e; rw [setA_same] at h3; rw [setA_other e'] at h4
   rcases hv g h3 with h7 | h7
   ·have := C.lt h5 h4; omega
   ·exact absurd (C.sep y o g h5 he h4 h7) h6
  ·obtain ⟨h5, h6⟩ := hex x e h1
   subst e'; rw [setA_same] at h4; rw [setA_other e] at h3
   rcases hv g h4 with h7 | h7
   ·have := C.lt h5 h3; omega
   ·exact absurd (C.sep x o g h5 he h3 h7) h6
  ·rw [setA_other e] at h3; rw [setA_other e'] at h4
   exact C.sep x y g (hex x e h1).1 (hex y e' h2).1 h3 h4
 ·by_cases e : x = id
  ·subst e; rw [setA_same] at h2; intro hk
   rcases hv g h2 with h7 | h7
   ·have := (C.okb g hk).1; omega
   ·exact C.sepok o g he h7 hk
  ·rw [setA_other e] at h2; exact C.sepok x g (hex x e h1).1 h2
 ·have e : k ≠ id := by omega
  rw [setA_other e]
  refine ⟨(C.par k hk).1, ?_, fun ls hls => ?_, (C.par k hk).2.2.2⟩
  ·rw [hval, if_neg e]; split
   ·cases F.h0 k <;> trivial
   ·exact (C.par k hk).2.1
  ·rw [hval, if_neg e]; split
   ·rename_i e'; subst e'
    have h1 := (C.par k hk).2.1
    rw [hls, hrow] at h1; exact h1.elim
   ·exact (C.par k hk).2.2.1 ls hls
 ·by_cases e : x = id
  ·subst e; rw [setA_same] at h3
   rcases hv g h3 with h7 | h7
   ·exact .inl (Nat.le_trans C.fr.size h7)
   ·by_cases hom : F.m ≤ o
    ·exact C.fresh o g hom he h7
    ·have hom : o < F.m := by omega
     refine .inr ⟨o, hom, ?_, (C.par o hom).1 ▸ h7⟩
     have h1 := (C.par o hom).2.1
     have h2 := (C.par o hom).2.2.2
     rw [hrow] at h1
     cases hh : F.h0 o <;> rw [hh] at h1 h2 <;> simp_all [HLe, Ob.ex, Ob.parOk]
  ·rw [setA_other e] at h3; exact C.fresh x g h1 (hex x e h2).1 h3
 ·refine ⟨ho.trans C.fr.os, ht.trans C.fr.tape, hu.trans C.fr.output, Nat.le_trans C.fr.size hs, fun g hg hk => ?_, fun k ls g off cs e' h1 h2 h3 h4 => ?_⟩
  ·rw [hB g (Nat.lt_of_lt_of_le hg C.fr.size) fun h7 => ?_]; exact C.fr.block g hg hk
   by_cases hom : F.m ≤ o
   ·rcases C.fresh o g hom he h7 with hf | ⟨k, hk1, hk2, hk3⟩
    ·omega
    ·exact hk k hk1 hk2 hk3
   ·have hom : o < F.m := by omega
    refine hk o hom ?_ ((C.par o hom).1 ▸ h7)
    have h1 := (C.par o hom).2.1
    have h2 := (C.par o hom).2.2.2
    rw [hrow] at h1
    clear hk hex hB hb s hok hval
    cases hh : F.h0 o <;> rw [hh] at h1 h2 <;> simp_all [HLe, Ob.ex, Ob.parOk]
  ·obtain ⟨cs', h5, h6, h7⟩ := C.fr.part k ls g off cs e' h1 h2 h3 h4
   refine ⟨cs', (hB g (lt_of_heap h5) fun h8 => ?_).trans h5, h6, h7⟩
   have h9 := (C.par k h1).2.1
   have h10 := (C.par k h1).2.2.1 ls h2
   rw [h2] at h9
   have hkx : (h k).ex = true := by cases hh : h k <;> rw [hh] at h9 h10 <;> simp_all [HLe, Ob.ex, Ob.parOk]
   have hko : k = o := C.sep k o g hkx he (by rw [(C.par k h1).1, h3]; rfl) h8
   rw [hko, hrow] at h9; exact h9.elim
 ·rw [hval] at k
  split at k
  ·exact absurd k (Inn.not hng)
  ·rename_i e
   split at k
   ·exact k.elim
   ·rename_i e'
    rw [setA_other e] at k
    exact (Inn.same fun g hg => hB g (C.lt k.ex hg) fun h3 => e' (C.sep x o g k.ex he hg h3)).1 k
 ·by_cases e : y = id
  ·subst e; rw [setA_same] at hg
   rcases hv g hg with h7 | h7
   ·have := (C.gr k).2.1; omega
   ·exact (C.gr k).2.2.2.1 o he h7
  ·rw [setA_other e] at hg
   exact (C.gr k).2.2.2.1 y (hex y e hy).1 hg
theorem grid_rep {o : Nat} {e d : TypeId} {n : Nat} {ll : List (List Int)} (k : ObR w α ok h o (.grid e d n none ll)) {ok' : Nat → Prop} (hok : ∀ b, ok b → ok' b) (hk : ∀ g, blk (α o) = some g → ok' g)
  (hi : ∀ i g, Inn w (α o) (.grid e d n none ll) i g → ok' g) : Rep w ok' (.list (.list i64)) ll [α o] := by
 obtain ⟨hs, ho, hr⟩ := k
 have hR : ∀ i l, ll[i]? = some l → ∃ u, hs[i]? = some u ∧ Rep w ok' (.list i64) l [u] := fun i l hl => by
  obtain ⟨u, xs, hu, h1, h2⟩ := hr i l hl (by simp)
  exact ⟨u, hu, row_rep (o := 0) (α := fun _ => u) (h := h) (e := d) ⟨xs, h1, h2⟩ hok (fun g hg => hi i g ⟨(List.getElem?_eq_some_iff.1 hl).1, by simp, u, ownsRow_hdr ho hu, hg⟩)⟩
 unfold Rep
 rcases ho.2 with ⟨hv, hn⟩ | ⟨g, cap, cur, hv, _, hh, hnc, hcm, hcs, ht⟩
 ·exact ⟨none, 0, 0, by rw [hv], hn.symm, Nat.le_refl _, by simp [maxLen], fun _ => rfl, fun h => absurd rfl h⟩
 ·refine ⟨some ⟨g, 0, none⟩, ll.length, cap, by rw [hv], rfl, hnc, hcm, fun h => by simp at h, fun h0 => ⟨g, 0, rfl, hk g (by rw [hv]; rfl), fun i x hi => ?_⟩⟩
  obtain ⟨u, hu, hrep⟩ := hR i x hi
  refine ⟨[u], hrep, fun j v hj => ?_⟩
  match j, hj with
  | 0, hj =>
   simp at hj; subst hj
   have h1 := ownsRow_hdr ho hu
   rw [hv] at h1
   simpa [hdr, TC.size] using h1
  | j + 1, hj => simp at hj
theorem Core.freezeG (C : Core F α ok h w) {o : Nat} {e d : TypeId} {n : Nat} {ll : List (List Int)} (ho : h o = .grid e d n none ll) :
  Core F α (fun b => ok b ∨ blk (α o) = some b ∨ ∃ i, Inn w (α o) (h o) i b) (upd h o (.ice (.list i64) ll)) w ∧
  Stay w α ok h w α (fun b => ok b ∨ blk (α o) = some b ∨ ∃ i, Inn w (α o) (h o) i b) (upd h o (.ice (.list i64) ll)) := by
 have he : (h o).ex = true := by rw [ho]; rfl
 have hle : HLe (h o) (.ice (.list i64) ll) := by rw [ho]; exact ⟨rfl, rfl⟩
 have s : Stay w α ok h w α (fun b => ok b ∨ blk (α o) = some b ∨ ∃ i, Inn w (α o) (h o) i b) (upd h o (.ice (.list i64) ll)) := ⟨fun g hg => ⟨.inl hg, rfl⟩, HLe.upd hle, fun _ _ => rfl, fun _ _ _ _ => rfl⟩
 have hex : ∀ x, (upd h o (.ice (.list i64) ll) x).ex = true → (h x).ex = true ∧ x ≠ o := fun x hx => by
  by_cases e : x = o
  ·rw [e, upd_same] at hx; simp [Ob.ex] at hx
  ·rw [upd_other e] at hx; exact ⟨hx, e⟩
 have hI : ∀ x i g, Inn w (α x) (upd h o (.ice (.list i64) ll) x) i g → Inn w (α x) (h x) i g ∧ x ≠ o := fun x i g k => by
  by_cases e : x = o
  ·subst e; rw [upd_same] at k; exact k.elim
  ·rw [upd_other e] at k; exact ⟨k, e⟩
 have hbound : ∀ b, blk (α o) = some b → b < F.w0.heap.size → ∃ k, k < F.m ∧ (F.h0 k).ex = true ∧ blk (F.α0 k) = some b := fun b hb hlt => by
  by_cases hom : F.m ≤ o
  ·rcases C.fresh o b hom he hb with hf | hf
   ·omega
   ·exact hf
  ·have hom : o < F.m := by omega
   refine ⟨o, hom, ?_, (C.par o hom).1 ▸ hb⟩
   have h1 := (C.par o hom).2.1
   have h2 := (C.par o hom).2.2.2
   rw [ho] at h1
   cases hh : F.h0 o <;> rw [hh] at h1 h2 <;> simp_all [HLe, Ob.ex, Ob.parOk]
 refine ⟨⟨fun x => ?_, fun x y g h1 h2 => C.sep x y g (hex x h1).1 (hex y h2).1, fun x g h1 h2 h3 => ?_, fun g hg => ?_, fun k hk => ?_, fun x g h1 h2 => C.fresh x g h1 (hex x h2).1, C.fr, fun p hp => ⟨(C.tab p hp).1, .inl (C.tab p hp).2⟩,
  C.gr_of (ok' := fun b => ok b ∨ blk (α o) = some b ∨ ∃ i, Inn w (α o) (h o) i b) (Nat.le_refl _) (fun x i g k => (hI x i g k).1) (fun x i g k' k h3 => ?_) (fun x i g k y hy => (C.gr k).2.2.2.1 y (hex y hy).1)⟩, s⟩
 ·by_cases e' : x = o
  ·subst e'; rw [upd_same]
   have hx := C.ob x
   rw [ho] at hx
   exact grid_rep hx (fun b hb => .inl hb) (fun g hg => .inr (.inl hg)) (fun i g hg => .inr (.inr ⟨i, by rw [ho]; exact hg⟩))
  ·rw [upd_other e']; exact (C.ob x).stay s (fun _ _ _ => rfl) (fun _ _ => rfl) (fun _ _ _ => rfl)
 ·rcases h3 with h3 | h3 | ⟨i, h3⟩
  ·exact C.sepok x g (hex x h1).1 h2 h3
  ·exact (hex x h1).2 (C.sep x o g (hex x h1).1 he h2 h3)
  ·exact (C.gr h3).2.2.2.1 x (hex x h1).1 h2
 ·rcases hg with hg | hg | ⟨i, hg⟩
  ·exact C.okb g hg
  ·exact ⟨C.lt he hg, fun hlt => .inr (hbound g hg hlt)⟩
  ·exact ⟨(C.gr hg).2.1, fun hlt => .inr ((C.gr hg).1 hlt)⟩
 ·refine ⟨(C.par k hk).1, ?_, fun ls hls => ?_, (C.par k hk).2.2.2⟩
  ·by_cases e' : k = o
   ·subst e'; rw [upd_same]; exact (C.par k hk).2.1.trans hle fun hne => (C.par k hk).2.1.ne hne
   ·rw [upd_other e']; exact (C.par k hk).2.1
  ·by_cases e' : k = o
   ·subst e'; rw [upd_same]; simp
   ·rw [upd_other e']; exact (C.par k hk).2.2.1 ls hls
 ·rcases h3 with h3 | h3 | ⟨i', h3⟩
  ·exact (C.gr k).2.2.1 h3
  ·exact (C.gr k).2.2.2.1 o he h3
  ·exact (hI x i g k').2 ((C.gr h3).2.2.2.2 x i k).1
end
end Go.VI
namespace Go.VI
open Go

/-! ### the table of types -/
def zEq : TC → List Value → Bool
 | .pair a b, cs => zEq a (cs.take a.size) && zEq b (cs.drop a.size)
 | .int k, [.int k' n] => decide (k' = k) && decide (n = 0)
 | .bool, [.bool b] => !b
 | .str, [.string s] => Nat.beq s.data.toList.length 0
 | .err _, [.nilIface] => true
 | .list _, [.slice none 0 0] => true
 | _, _ => false
def fieldsEq : List Field → List (Nat × TypeId) → Bool
 | [], [] => true
 | f :: r, (o, t) :: s => Nat.beq f.offset o && (Nat.beq f.type t && fieldsEq r s)
 | _, _ => false
def tkOk : Option TypeDesc → TK → Bool
 | some (.int k'), .int k => decide (k' = k)
 | some .bool, .bool => true
 | some .string, .str => true
 | some (.slice e'), .slice e => Nat.beq e' e
 | some (.array n' e'), .arr n e => Nat.beq n' n && Nat.beq e' e
 | some (.struct fs'), .struct fs => fieldsEq fs'.toList fs
 | some (.pointer e'), .ptr e => Nat.beq e' e
 | some (.func ..), .fn => true
 | some (.interface _), .err => true
 | some (.map ..), .other => true
 | some (.map k' e'), .map k e => Nat.beq k' k && Nat.beq e' e
 | some (.tuple _), .other => true
 | _, _ => false
def eqOk (P : Program) (t : TypeId) : Bool :=
 !P.stoodInHeld t && (!P.eqGuardType P.depth t && (P.fieldsOf t).toList.all fun f => f.name != "_")
def zI : List Value → Bool
 | [] => true
 | .int .i64 n :: r => decide (n = 0) && zI r
 | _ :: _ => false
def intsOk (P : Program) (t : TypeId) (ti : TI) : Bool := !(ti.ints && ti.k.isAgg) || (ti.k.isAgg && Nat.ble 1 ti.size && Nat.ble ti.size 65536 && match P.info? t with
 | some i => match i.zero with
  | some z => zI z.cells.toList
  | none => false
 | none => false)
def tiOk (P : Program) (t : TypeId) (ti : TI) : Bool :=
 tkOk (P.underlying t) ti.k && (!ti.eq || eqOk P t) && (ti.k.isAgg || Nat.beq ti.size 1) && intsOk P t ti && match P.info? t with
  | some i => Nat.beq i.size ti.size && (Nat.beq i.bytes ti.bytes && match i.zero with
   | some z => Nat.beq z.cells.toList.length ti.size && match ti.code with
    | some c => Nat.beq c.size ti.size && zEq c z.cells.toList
    | none => true
   | none => false)
  | none => false
def tbOk (P : Program) : Tb → Bool
 | [] => true
 | (t, ti) :: r => tiOk P t ti && tbOk P r
structure TIok (P : Program) (t : TypeId) (ti : TI) : Prop where
 k : tkOk (P.underlying t) ti.k = true
 eq : ti.eq = true → eqOk P t = true
 one : ti.k.isAgg = false → ti.size = 1
 ints : ti.ints = true → intsOk P t ti = true
 info : ∃ i z, P.info? t = some i ∧ i.size = ti.size ∧ i.bytes = ti.bytes ∧ i.zero = some z ∧ z.cells.toList.length = ti.size ∧ ∀ c, ti.code = some c → c.size = ti.size ∧ zEq c z.cells.toList = true
theorem tiOk_spec {P : Program} {t : TypeId} {ti : TI} (h : tiOk P t ti = true) : TIok P t ti := by
 simp only [tiOk, Bool.and_eq_true] at h
 obtain ⟨⟨⟨⟨hk, he⟩, h1⟩, hz⟩, h⟩ := h
 refine ⟨hk, fun e => by simpa [e] using he, fun e => by rw [e] at h1; exact Nat.eq_of_beq_eq_true (by simpa using h1), fun _ => hz, ?_⟩
 cases hi : P.info? t with
 | none => rw [hi] at h; simp at h
 | some i =>
  rw [hi] at h
  simp only [Bool.and_eq_true] at h
  obtain ⟨h1, h2, h3⟩ := h
  cases hz : i.zero with
  | none => rw [hz] at h3; simp at h3
  | some z =>
   rw [hz] at h3
   simp only [Bool.and_eq_true] at h3
   refine ⟨i, z, rfl, Nat.eq_of_beq_eq_true h1, Nat.eq_of_beq_eq_true h2, hz, Nat.eq_of_beq_eq_true h3.1, fun c hc => ?_⟩
   have h4 := h3.2
   rw [hc] at h4
   simp only [Bool.and_eq_true] at h4
   exact ⟨Nat.eq_of_beq_eq_true h4.1, h4.2⟩
theorem tb_get {P : Program} : ∀ {T : Tb} {t : Nat} {ti : TI}, tbOk P T = true → T.get t = some ti → TIok P t ti
 | [], _, _, _, h => by simp [Tb.get] at h
 | (k, i) :: r, t, ti, hb, h => by
  simp only [tbOk, Bool.and_eq_true] at hb
  simp only [Tb.get] at h
  cases hk : Nat.beq k t with
  | true => rw [hk] at h; simp at h; subst h; have := Nat.eq_of_beq_eq_true hk; subst this; exact tiOk_spec hb.1
  | false => rw [hk] at h; exact tb_get hb.2 (by simpa using h)
section
variable {P : Program} {w : World} {t : TypeId} {ti : TI}
theorem TIok.slice (h : TIok P t ti) {e : TypeId} (hk : ti.k = .slice e) : P.underlying t = some (.slice e) := by
 have := h.k; rw [hk] at this
 cases hu : P.underlying t with
 | none => rw [hu] at this; simp [tkOk] at this
 | some d => cases d <;> rw [hu] at this <;> simp [tkOk] at this; rw [this]
theorem TIok.arr (h : TIok P t ti) {n : Nat} {e : TypeId} (hk : ti.k = .arr n e) : P.underlying t = some (.array n e) := by
 have := h.k; rw [hk] at this
 cases hu : P.underlying t with
 | none => rw [hu] at this; simp [tkOk] at this
 | some d => cases d <;> rw [hu] at this <;> simp [tkOk] at this; rw [this.1, this.2]
theorem TIok.int (h : TIok P t ti) {k : IntKind} (hk : ti.k = .int k) : P.underlying t = some (.int k) := by
 have := h.k; rw [hk] at this
 cases hu : P.underlying t with
 | none => rw [hu] at this; simp [tkOk] at this
 | some d => cases d <;> rw [hu] at this <;> simp [tkOk] at this; rw [this]
theorem TIok.str (h : TIok P t ti) (hk : ti.k = .str) : P.underlying t = some .string := by
 have := h.k; rw [hk] at this
 cases hu : P.underlying t with
 | none => rw [hu] at this; simp [tkOk] at this
 | some d => cases d <;> rw [hu] at this <;> simp [tkOk] at this
theorem fieldsEq_get : ∀ {fs : List Field} {gs : List (Nat × TypeId)} {i : Nat} {o : Nat} {t : TypeId}, fieldsEq fs gs = true → fieldsAt gs i = some (o, t) → ∃ f, fs[i]? = some f ∧ f.offset = o ∧ f.type = t
 | [], [], _, _, _, _, h => by simp [fieldsAt] at h
 | f :: r, (o', t') :: s, 0, o, t, hb, h => by
  simp only [fieldsEq, Bool.and_eq_true] at hb
  simp only [fieldsAt, Option.some.injEq, Prod.mk.injEq] at h
  exact ⟨f, rfl, (Nat.eq_of_beq_eq_true hb.1).trans h.1, (Nat.eq_of_beq_eq_true hb.2.1).trans h.2⟩
 | f :: r, (o', t') :: s, i + 1, o, t, hb, h => by
  simp only [fieldsEq, Bool.and_eq_true] at hb
  simp only [fieldsAt] at h
  simpa using fieldsEq_get hb.2.2 h
 | [], _ :: _, _, _, _, hb, _ => by simp [fieldsEq] at hb
 | _ :: _, [], _, _, _, hb, _ => by simp [fieldsEq] at hb
theorem TIok.struct (h : TIok P t ti) {fs : List (Nat × TypeId)} (hk : ti.k = .struct fs) : ∃ F : Array Field, P.underlying t = some (.struct F) ∧ fieldsEq F.toList fs = true := by
 have := h.k; rw [hk] at this
 cases hu : P.underlying t with
 | none => rw [hu] at this; simp [tkOk] at this
 | some d => cases d <;> rw [hu] at this <;> simp [tkOk] at this; exact ⟨_, rfl, this⟩
theorem run_isAgg (h : TIok P t ti) : (isAgg t).run P w = .ok ti.k.isAgg w := by
 have hk := h.k
 cases hu : P.underlying t with
 | none => rw [hu] at hk; cases hk' : ti.k <;> rw [hk'] at hk <;> simp [tkOk] at hk
 | some d =>
  rw [hu] at hk
  cases d <;> cases hk' : ti.k <;> rw [hk'] at hk <;> simp [tkOk] at hk <;> simp [isAgg, run_underlying hu, TK.isAgg]
theorem run_size (h : TIok P t ti) : (sizeOf t).run P w = .ok ti.size w := by
 obtain ⟨i, z, hi, hs, _⟩ := h.info
 simp [sizeOf, typeInfo, hi, hs]
end

/-! ### leaves and cells -/
section
variable {w : World} {α : Nat → Value} {ok : Nat → Prop} {h : Heap}
theorem leaves_ok : ∀ {c : TC} {x : c.α} {cs : List Value}, Rep w ok c x cs → LsR w α ok h (leaves c x) cs
 | .int k, x, cs, k' => by simp only [Rep] at k'; subst k'; exact ⟨rfl, trivial⟩
 | .bool, x, cs, k' => by simp only [Rep] at k'; subst k'; exact ⟨rfl, trivial⟩
 | .str, x, cs, k' => by simp only [Rep] at k'; subst k'; exact ⟨rfl, trivial⟩
 | .err t, x, cs, k' => by
  have k2 := k'
  simp only [Rep] at k'
  obtain ⟨v, rfl, _⟩ := k'
  exact ⟨k2, trivial⟩
 | .list c, x, cs, k' => by
  have k2 := k'
  simp only [Rep] at k'
  obtain ⟨a, n, cap, rfl, _⟩ := k'
  exact ⟨k2, trivial⟩
 | .pair a b, x, cs, k' => by
  simp only [Rep] at k'
  obtain ⟨c1, c2, rfl, h1, h2⟩ := k'
  exact (leaves_ok h1).append (leaves_ok h2)
theorem leaves_length : ∀ (c : TC) (x : c.α), (leaves c x).length = c.size
 | .int k, x => rfl
 | .bool, x => rfl
 | .str, x => rfl
 | .err t, x => rfl
 | .list c, x => rfl
 | .pair a b, x => by simp [leaves, TC.size, leaves_length a, leaves_length b]
theorem rep_nil (c : TC) : Rep w ok (.list c) ([] : List c.α) [.slice none 0 0] := by
 simp only [Rep]
 exact ⟨none, 0, 0, rfl, rfl, Nat.le_refl _, by simp [maxLen], fun _ => rfl, fun hh => absurd rfl hh⟩
theorem zEq_ok : ∀ {c : TC} {cs : List Value}, zEq c cs = true → Rep w ok c c.dflt cs ∧ LsR w α ok h (zleaves c) cs
 | .pair a b, cs, hz => by
  simp only [zEq, Bool.and_eq_true] at hz
  have h1 := zEq_ok hz.1
  have h2 := zEq_ok hz.2
  have e : cs = cs.take a.size ++ cs.drop a.size := (List.take_append_drop _ _).symm
  refine ⟨?_, ?_⟩
  ·simp only [Rep]; exact ⟨_, _, e, h1.1, h2.1⟩
  ·rw [e]; exact h1.2.append h2.2
 | .int k, cs, hz => by
  unfold zEq at hz
  split at hz <;> simp_all [Rep, LsR, F2, zleaves, LR, TC.dflt]
 | .bool, cs, hz => by
  unfold zEq at hz
  split at hz <;> simp_all [Rep, LsR, F2, zleaves, LR, TC.dflt]
 | .str, cs, hz => by
  unfold zEq at hz
  split at hz <;> simp_all [Rep, LsR, F2, zleaves, LR, TC.dflt]
  rename_i s
  rfl
 | .err t, cs, hz => by
  unfold zEq at hz
  split at hz <;> simp_all [Rep, LsR, F2, zleaves, LR, TC.dflt, Value.oneCell']
 | .list c, cs, hz => by
  unfold zEq at hz
  split at hz <;> simp_all [LsR, F2, zleaves, LR, TC.dflt]
  exact rep_nil c
theorem unL_ok {c : TC} {l : L} {x : c.α} {v : Value} (hu : unL c l = some x) (k : LR w α ok h l v) : Rep w ok c x [v] := by
 unfold unL at hu
 split at hu
 ·split at hu
  ·rename_i e; subst e; simp at hu; subst hu; exact k
  ·cases hu
 ·simp at hu; subst hu; simp only [LR] at k; subst k; exact rep_nil _
 ·simp at hu; subst hu; simp only [LR] at k; subst k; exact ⟨_, rfl, rfl, fun _ => rfl, fun h => by cases h⟩
 ·cases hu
theorem unleaves_ok : ∀ {c : TC} {ls : List L} {x : c.α} {vs : List Value}, unleaves c ls = some x → LsR w α ok h ls vs → Rep w ok c x vs
 | .pair a b, ls, x, vs, hu, k => by
  simp only [unleaves, Option.bind_eq_some_iff] at hu
  obtain ⟨p, hp, q, hq, e⟩ := hu
  simp at e; subst e
  simp only [Rep]
  exact ⟨vs.take a.size, vs.drop a.size, (List.take_append_drop _ _).symm, unleaves_ok hp (k.take _), unleaves_ok hq (k.drop _)⟩
 | .int k', ls, x, vs, hu, k => by
  match ls, vs, hu, k with
  | [l], [v], hu, k => exact unL_ok hu k.1
  | [_], [], _, k => exact k.elim
  | [_], _ :: _ :: _, _, k => exact k.2.elim
 | .bool, ls, x, vs, hu, k => by
  match ls, vs, hu, k with
  | [l], [v], hu, k => exact unL_ok hu k.1
  | [_], [], _, k => exact k.elim
  | [_], _ :: _ :: _, _, k => exact k.2.elim
 | .str, ls, x, vs, hu, k => by
  match ls, vs, hu, k with
  | [l], [v], hu, k => exact unL_ok hu k.1
  | [_], [], _, k => exact k.elim
  | [_], _ :: _ :: _, _, k => exact k.2.elim
 | .err t, ls, x, vs, hu, k => by
  match ls, vs, hu, k with
  | [l], [v], hu, k => exact unL_ok hu k.1
  | [_], [], _, k => exact k.elim
  | [_], _ :: _ :: _, _, k => exact k.2.elim
 | .list c, ls, x, vs, hu, k => by
  match ls, vs, hu, k with
  | [l], [v], hu, k => exact unL_ok hu k.1
  | [_], [], _, k => exact k.elim
  | [_], _ :: _ :: _, _, k => exact k.2.elim
theorem LR.one {l : L} {v : Value} (hf : fineL l = true) (k : LR w α ok h l v) : v.oneCell' = true := by
 cases l <;> simp only [LR, fineL] at k hf
 case pv c x => exact k.one v (by simp)
 case nils => subst k; rfl
 case own => exact k.1
 case sub => exact k.1
 case ptr => obtain ⟨⟨g, off, rfl⟩, _⟩ := k; rfl
 case iptr => obtain ⟨g, off, cs, rfl, _⟩ := k; rfl
 case fn => obtain ⟨vs, rfl, _⟩ := k; rfl
 case gptr => subst k; rfl
 case inn => cases hf
 case gp => cases hf
 case fmap => obtain ⟨b, ms, clock, rfl, _⟩ := k; rfl
 case nilp => subst k; rfl
 case nilI => subst k; rfl
 case arr => cases hf
 case skip => cases hf
 case undef => cases hf
theorem LsR.one {ls : List L} {vs : List Value} (hf : ls.all fineL = true) (k : LsR w α ok h ls vs) : ∀ v ∈ vs, v.oneCell' = true := by
 intro v hv
 obtain ⟨i, hi⟩ := List.getElem?_of_mem hv
 obtain ⟨l, hl, hr⟩ := F2.get' k hi
 exact hr.one (List.all_eq_true.1 hf l (List.mem_of_getElem? hl))
theorem cells_one {v : Value} (hv : v.oneCell' = true) : v.cells = #[v] := by cases v <;> simp [Value.oneCell', Value.cells] at *
theorem DR.cells {d : D} {v : Value} (hf : d.ls.all fineL = true) (ht : ∀ ds, d ≠ .tup ds) (k : DR w α ok h d v) : LsR w α ok h d.ls v.cells.toList := by
 cases d with
 | one l =>
  simp only [D.ls, List.all_cons, List.all_nil, Bool.and_true] at hf
  rw [cells_one (LR.one hf k)]
  exact ⟨k, trivial⟩
 | agg ls => obtain ⟨cs, rfl, k⟩ := k; exact k
 | tup ds => exact absurd rfl (ht ds)
end
section
variable {F : Fx} {α : Nat → Value} {ok : Nat → Prop} {h : Heap} {w : World}
theorem loadL_ok (C : Core F α ok h w) {n : Nat} {l : L} {ls : List L} {v : Value} (hl : (loadL h n l).gives ls) (k : LR w α ok h l v) :
  ∃ g off vs, v = .pointer (some ⟨g, off, none⟩) ∧ LsR w α ok h ls vs ∧ vs.length = n ∧ ∀ (j : Nat) u, vs[j]? = some u → w.cell? ⟨g, off + j, none⟩ = some u := by
 unfold loadL at hl
 split at hl
 ·rename_i o i j
  simp only [LR, PtrR] at k
  obtain ⟨_, k⟩ := k
  split at hl
  ·rename_i bs hb
   rw [NM.gives_guard, NM.gives_pure] at hl
   obtain ⟨hg, rfl⟩ := hl
   have hg := Nat.le_of_ble_eq_true hg
   rw [hb] at k
   have hob := C.ob o
   rw [hb] at hob
   obtain ⟨g, off, cs, e, hα, hh, us, hls, hcs⟩ := hob
   obtain ⟨rfl, g', off', hα', rfl⟩ := k
   rw [hα] at hα'; simp at hα'; obtain ⟨rfl, rfl⟩ := hα'
   refine ⟨g, off + j, (us.drop j).take n, rfl, (hls.drop j).take n, ?_, fun i u hu => ?_⟩
   ·have := F2.length hls; simp; omega
   ·rw [cell_of_row w g _ cs e (0, 0) hh]
    rw [List.getElem?_take] at hu
    split at hu
    ·rw [List.getElem?_drop] at hu
     rw [Nat.add_assoc]; exact hcs _ _ hu
    ·cases hu
  ·rename_i e c l hb
   rw [NM.gives_guard, NM.gives_pure] at hl
   obtain ⟨hg, rfl⟩ := hl
   have hg := Nat.le_of_ble_eq_true hg
   rw [hb] at k
   have hob := C.ob o
   rw [hb] at hob
   obtain ⟨hi, g, off, m, kk, hα, rfl⟩ := k
   obtain ⟨xs, how, hr⟩ := hob
   rcases how.2 with ⟨hv, _⟩ | ⟨g', cap, cur, hv, _, hh, _, _, _, ht⟩
   ·rw [hv] at hα; cases hα
   ·rw [hv] at hα; simp at hα; obtain ⟨⟨rfl, rfl⟩, rfl, rfl⟩ := hα
    obtain ⟨x, hx⟩ : ∃ x, l[i]? = some x := ⟨l[i], List.getElem?_eq_getElem hi⟩
    obtain ⟨ci, hrep, hc⟩ := hr.get hx
    have hd : l.getD i c.dflt = x := by simp [List.getD, hx]
    rw [hd]
    refine ⟨g', 0 + (i * c.size + j), (ci.drop j).take n, rfl, ((leaves_ok hrep).drop j).take n, ?_, fun q u hu => ?_⟩
    ·have := hrep.length; simp; omega
    ·rw [List.getElem?_take] at hu
     split at hu
     ·rw [List.getElem?_drop] at hu
      have h1 := hc _ _ hu
      rw [cell_of_row w g' _ cur e (0, 0) hh]
      rw [← ht, List.getElem?_take] at h1
      split at h1
      ·rw [show 0 + (i * c.size + j) + q = i * c.size + (j + q) by omega]; simpa using h1
      ·cases h1
     ·cases hu
  ·rename_i c l hb
   rw [NM.gives_guard, NM.gives_pure] at hl
   obtain ⟨hg, rfl⟩ := hl
   have hg := Nat.le_of_ble_eq_true hg
   rw [hb] at k
   have hob := C.ob o
   rw [hb] at hob
   obtain ⟨hi, g, off, m, kk, hα, rfl⟩ := k
   simp only [ObR, Rep] at hob
   obtain ⟨a, n', cap, ha, hn, _, _, _, hx⟩ := hob
   simp at ha
   rw [hα] at ha; simp at ha; obtain ⟨rfl, rfl, rfl⟩ := ha
   obtain ⟨g', off', hag, hok, hcell⟩ := hx (by omega)
   simp at hag; obtain ⟨rfl, rfl⟩ := hag
   obtain ⟨x, hx⟩ : ∃ x, l[i]? = some x := ⟨l[i], List.getElem?_eq_getElem hi⟩
   obtain ⟨ci, hrep, hc⟩ := hcell i x hx
   have hd : l.getD i c.dflt = x := by simp [List.getD, hx]
   rw [hd]
   refine ⟨g, off + (i * c.size + j), (ci.drop j).take n, rfl, ((leaves_ok hrep).drop j).take n, ?_, fun q u hu => ?_⟩
   ·have := hrep.length; simp; omega
   ·rw [List.getElem?_take] at hu
    split at hu
    ·rw [List.getElem?_drop] at hu
     have h1 := hc _ _ hu
     rw [show off + (i * c.size + j) + q = off + i * c.size + (j + q) by omega]; exact h1
    ·cases hu
  ·exact absurd hl NM.gives_fail
 ·rename_i c x j
  rw [NM.gives_guard, NM.gives_pure] at hl
  obtain ⟨hg, rfl⟩ := hl
  have hg := Nat.le_of_ble_eq_true hg
  simp only [LR] at k
  obtain ⟨g, off, cs, rfl, hok, hrep, hc⟩ := k
  refine ⟨g, off + j, (cs.drop j).take n, rfl, ((leaves_ok hrep).drop j).take n, ?_, fun q u hu => ?_⟩
  ·have := hrep.length; simp; omega
  ·rw [List.getElem?_take] at hu
   split at hu
   ·rw [List.getElem?_drop] at hu
    rw [Nat.add_assoc]; exact hc _ _ hu
   ·cases hu
 ·exact absurd hl NM.gives_fail
theorem run_loadVar {P : Program} {t : TypeId} {ti : TI} (hT : TIok P t ti) {g off : Nat} {vs : List Value} (hn : vs.length = ti.size) (hc : ∀ (j : Nat) u, vs[j]? = some u → w.cell? ⟨g, off + j, none⟩ = some u)
  {ls : List L} (hls : LsR w α ok h ls vs) {d : D} (hd : (mkD ti.k.isAgg ls).gives d) : ∃ v, (loadVar t ⟨g, off, none⟩).run P w = .ok v w ∧ DR w α ok h d v := by
 cases ha : ti.k.isAgg with
 | true =>
  rw [ha] at hd
  simp only [mkD, NM.gives_pure] at hd
  subst hd
  have := run_loadCells_list (P := P) w ⟨g, off, none⟩ vs (fun j v hj => by rw [Addr.add_lit]; exact hc j v hj)
  rw [hn] at this
  exact ⟨.agg vs.toArray, by simp [loadVar, run_isAgg hT, ha, run_size hT, this], vs.toArray, rfl, by simpa using hls⟩
 | false =>
  rw [ha] at hd
  match ls, vs, hls with
  | [l], [v], hls =>
   simp only [mkD, NM.gives_pure] at hd
   subst hd
   have := hc 0 v rfl
   exact ⟨v, by simp [loadVar, run_isAgg hT, ha]; rw [show (⟨g, off, none⟩ : Addr) = ⟨g, off + 0, none⟩ by simp, this], hls.1⟩
  | [], _, _ => exact absurd hd (by simp [mkD, NM.gives_fail])
  | _ :: _ :: _, _, _ => exact absurd hd (by simp [mkD, NM.gives_fail])
  | [_], [], hls => exact hls.elim
  | [_], _ :: _ :: _, hls => exact hls.2.elim
end
end Go.VI
namespace Go.VI
open Go
section
variable {F : Fx} {α : Nat → Value} {ok : Nat → Prop} {h : Heap} {w : World}
theorem sub_rep {c : TC} {l : List c.α} {a v : Value} {lo hi : Nat} (k : Rep w ok (.list c) l [a]) (s : SubR a c.size l.length lo hi v) : Rep w ok (.list c) ((l.take hi).drop lo) [v] := by
 obtain ⟨h1, h2, B, cap, rfl, h3, h4, h5, h6⟩ := s
 simp only [Rep] at k ⊢
 obtain ⟨A, n, cap', ha, hn, hc, hm, hA, hx⟩ := k
 simp at ha; subst ha
 refine ⟨B, hi - lo, cap, rfl, by simp; omega, h3, h4, h5, fun h0 => ?_⟩
 obtain ⟨g, off, m, k', hAe, hB⟩ := h6 (by omega)
 simp at hAe; obtain ⟨rfl, rfl, rfl⟩ := hAe
 obtain ⟨g', off', hg, hok, hcell⟩ := hx (by omega)
 simp at hg; obtain ⟨rfl, rfl⟩ := hg
 refine ⟨g, off + lo * c.size, hB, hok, fun i x hi' => ?_⟩
 rw [List.getElem?_drop, List.getElem?_take] at hi'
 split at hi'
 ·obtain ⟨ci, hr, hv⟩ := hcell _ x hi'
  refine ⟨ci, hr, fun j v hj => ?_⟩
  have := hv j v hj
  rw [show off + lo * c.size + i * c.size + j = off + (lo + i) * c.size + j by rw [Nat.add_mul]; omega]; exact this
 ·cases hi'
def Iced (h h' : Heap) : Prop := ∀ o, h' o = h o ∨ (∃ e c l, h o = .row e c l ∧ h' o = .ice c l) ∨ ∃ e d n ll, h o = .grid e d n none ll ∧ h' o = .ice (.list i64) ll
theorem Iced.refl (h : Heap) : Iced h h := fun _ => .inl rfl
theorem Iced.trans {h h' h'' : Heap} (a : Iced h h') (b : Iced h' h'') : Iced h h'' := fun o => by
 rcases b o with e | ⟨e, c, l, h1, h2⟩ | ⟨e, d, n, ll, h1, h2⟩
 ·rw [e]; exact a o
 ·rcases a o with e' | ⟨e', c', l', h3, h4⟩ | ⟨e', d', n', ll', h3, h4⟩
  ·exact .inr (.inl ⟨e, c, l, e' ▸ h1, h2⟩)
  ·rw [h4] at h1; cases h1
  ·rw [h4] at h1; cases h1
 ·rcases a o with e' | ⟨e', c', l', h3, h4⟩ | ⟨e', d', n', ll', h3, h4⟩
  ·exact .inr (.inr ⟨e, d, n, ll, e' ▸ h1, h2⟩)
  ·rw [h4] at h1; cases h1
  ·rw [h4] at h1; cases h1
theorem Iced.upd {h : Heap} {o : Nat} {e : TypeId} {c : TC} {l : List c.α} (ho : h o = .row e c l) : Iced h (VI.upd h o (.ice c l)) := fun x => by
 by_cases e' : x = o
 ·subst e'; exact .inr (.inl ⟨e, c, l, ho, by rw [upd_same]⟩)
 ·exact .inl (by rw [upd_other e'])
theorem Iced.updG {h : Heap} {o : Nat} {e d : TypeId} {n : Nat} {ll : List (List Int)} (ho : h o = .grid e d n none ll) : Iced h (VI.upd h o (.ice (.list i64) ll)) := fun x => by
 by_cases e' : x = o
 ·subst e'; exact .inr (.inr ⟨e, d, n, ll, ho, by rw [upd_same]⟩)
 ·exact .inl (by rw [upd_other e'])
theorem solid_ok (C : Core F α ok h w) {l l' : L} {h' : Heap} {v : Value} (hl : (solid h l).gives (l', h')) (k : LR w α ok h l v) :
  ∃ ok', Core F α ok' h' w ∧ Stay w α ok h w α ok' h' ∧ Iced h h' ∧ LR w α ok' h' l' v := by
 unfold solid at hl
 split at hl
 ·rename_i o
  simp only [LR] at k
  split at hl
  ·rename_i e c l hb
   rw [NM.gives_pure] at hl; simp at hl; obtain ⟨rfl, rfl⟩ := hl
   rw [hb] at k; obtain ⟨_, rfl⟩ := k
   obtain ⟨C', s⟩ := C.freeze hb
   refine ⟨_, C', s, Iced.upd hb, ?_⟩
   have hob := C'.ob o; rw [upd_same] at hob
   exact hob
  ·rename_i c l hb
   rw [NM.gives_pure] at hl; simp at hl; obtain ⟨rfl, rfl⟩ := hl
   rw [hb] at k; obtain ⟨_, rfl⟩ := k
   have hob := C.ob o; rw [hb] at hob
   exact ⟨ok, C, .refl, .refl _, hob⟩
  ·rename_i e d n ll hb
   rw [NM.gives_pure] at hl; simp at hl; obtain ⟨rfl, rfl⟩ := hl
   rw [hb] at k; obtain ⟨_, rfl⟩ := k
   obtain ⟨C', s⟩ := C.freezeG hb
   refine ⟨_, C', s, Iced.updG hb, ?_⟩
   have hob := C'.ob o; rw [upd_same] at hob
   exact hob
  ·exact absurd hl NM.gives_fail
 ·rename_i o lo hi
  simp only [LR] at k
  split at hl
  ·rename_i e c l hb
   rw [NM.gives_pure] at hl; simp at hl; obtain ⟨rfl, rfl⟩ := hl
   rw [hb] at k; obtain ⟨_, k⟩ := k
   obtain ⟨C', s⟩ := C.freeze hb
   refine ⟨_, C', s, Iced.upd hb, ?_⟩
   have hob := C'.ob o; rw [upd_same] at hob
   exact sub_rep hob k
  ·rename_i c l hb
   rw [NM.gives_pure] at hl; simp at hl; obtain ⟨rfl, rfl⟩ := hl
   rw [hb] at k; obtain ⟨_, k⟩ := k
   have hob := C.ob o; rw [hb] at hob
   exact ⟨ok, C, .refl, .refl _, sub_rep hob k⟩
  ·exact absurd hl NM.gives_fail
 ·rw [NM.gives_pure] at hl; simp at hl; obtain ⟨rfl, rfl⟩ := hl
  exact ⟨ok, C, .refl, .refl _, k⟩
theorem solids_ok : ∀ {ls ls' : List L} {h h' : Heap} {ok : Nat → Prop} {vs : List Value}, Core F α ok h w → (solids h ls).gives (ls', h') → LsR w α ok h ls vs →
  ∃ ok', Core F α ok' h' w ∧ Stay w α ok h w α ok' h' ∧ Iced h h' ∧ LsR w α ok' h' ls' vs
 | [], ls', h, h', ok, vs, C, hl, k => by
  simp only [solids, NM.gives_pure, Prod.mk.injEq] at hl
  obtain ⟨rfl, rfl⟩ := hl
  exact ⟨ok, C, .refl, .refl _, k⟩
 | l :: r, ls', h, h', ok, vs, C, hl, k => by
  simp only [solids, NM.gives_bind] at hl
  obtain ⟨⟨l1, h1⟩, hl1, ⟨r1, h2⟩, hr1, he⟩ := hl
  rw [NM.gives_pure] at he; simp at he; obtain ⟨rfl, rfl⟩ := he
  match vs, k with
  | [], k => exact k.elim
  | v :: vs, k =>
   obtain ⟨ok1, C1, s1, i1, k1⟩ := solid_ok C hl1 k.1
   obtain ⟨ok2, C2, s2, i2, k2⟩ := solids_ok C1 hr1 (LsR.stay s1 k.2)
   exact ⟨ok2, C2, s1.trans s2, i1.trans i2, k1.stay s2, k2⟩
theorem Rows.split {c : TC} : ∀ {l : List c.α} {cs : List Value} {i : Nat} {x : c.α}, Rows w ok c l cs → l[i]? = some x →
  ∃ A ci B, cs = A ++ ci ++ B ∧ A.length = i * c.size ∧ Rep w ok c x ci ∧ ∀ {ok'} y ci', (∀ b, ok b → ok' b) → Rep w ok' c y ci' → Rows w ok' c (l.set i y) (A ++ ci' ++ B)
 | [], _, _, _, _, e => by simp at e
 | y :: l, cs, 0, x, k, e => by
  simp only [Rows] at k
  obtain ⟨c1, c2, rfl, h1, h2⟩ := k
  simp at e; subst e
  refine ⟨[], c1, c2, rfl, by simp, h1, fun {ok'} z ci' ho hz => ?_⟩
  exact ⟨ci', c2, rfl, hz, h2.mono fun b hb => ⟨ho b hb, rfl⟩⟩
 | y :: l, cs, i + 1, x, k, e => by
  simp only [Rows] at k
  obtain ⟨c1, c2, rfl, h1, h2⟩ := k
  simp at e
  obtain ⟨A, ci, B, rfl, hA, hr, hs⟩ := Rows.split h2 e
  refine ⟨c1 ++ A, ci, B, by simp, by rw [List.length_append, hA, h1.length, Nat.add_mul]; omega, hr, fun {ok'} z ci' ho hz => ?_⟩
  exact ⟨c1, A ++ ci' ++ B, by simp, h1.mono fun b hb => ⟨ho b hb, rfl⟩, hs z ci' ho hz⟩
theorem mid_take (A ci B : List Value) (j : Nat) (hj : j ≤ ci.length) : (A ++ ci ++ B).take (A.length + j) = A ++ ci.take j := by
 rw [List.append_assoc, List.take_length_add_append, List.take_append_of_le_length hj]
theorem mid_drop (A ci B : List Value) (j : Nat) (hj : j ≤ ci.length) : (A ++ ci ++ B).drop (A.length + j) = ci.drop j ++ B := by
 rw [List.append_assoc, List.drop_length_add_append, List.drop_append_of_le_length hj]
theorem row_new {cur A ci B vs : List Value} {j N : Nat} (hcur : cur.take N = A ++ ci ++ B) (hN : N = (A ++ ci ++ B).length) (hj : j + vs.length ≤ ci.length) :
  (cur.take (A.length + j) ++ vs ++ cur.drop (A.length + j + vs.length)).take N = A ++ (ci.take j ++ vs ++ ci.drop (j + vs.length)) ++ B := by
 obtain ⟨D, hD⟩ : ∃ D, cur = A ++ ci ++ (B ++ D) := ⟨cur.drop N, by rw [← List.append_assoc, ← hcur, List.take_append_drop]⟩
 rw [hD, mid_take _ _ _ _ (by omega), Nat.add_assoc, mid_drop _ _ _ _ hj]
 have e : A ++ ci.take j ++ vs ++ (ci.drop (j + vs.length) ++ (B ++ D)) = (A ++ (ci.take j ++ vs ++ ci.drop (j + vs.length)) ++ B) ++ D := by simp
 rw [e]
 refine List.take_left' ?_
 rw [hN]; simp; omega
theorem run_storeVar {P : Program} {t : TypeId} {ti : TI} (hT : TIok P t ti) {g off : Nat} {e : TypeId} {cur : Array Value} (hg : w.heap[g]? = some (.cells cur e (0, 0))) {v : Value} {vs : List Value} (hvs : v.cells.toList = vs)
  (hn : vs.length = ti.size) (h1 : ∀ u ∈ vs, u.oneCell' = true) (hfit : off + vs.length ≤ cur.size) :
  (storeVar t ⟨g, off, none⟩ v).run P w = .ok () (w.setRow g (cur.toList.take off ++ vs ++ cur.toList.drop (off + vs.length)).toArray) := by
 subst hvs
 have := run_storeCells_at P g off e v.cells.toList 0 cur w hg (by simpa using hfit) h1
 simp only [Nat.add_zero] at this
 have hn' : v.cells.size = ti.size := by simpa using hn
 simp only [storeVar, Sem.run_bind, run_size hT, Result.andThen_ok, hn']
 simp [this]
theorem heap_setRow_size (w : World) (g : Nat) (cs : Array Value) : (w.setRow g cs).heap.size = w.heap.size := by simp [World.setRow]
theorem storeL_ok (C : Core F α ok h w) {t : TypeId} {ti : TI} (hT : TIok F.P t ti) {ls : List L} {l : L} {h' : Heap} {p v : Value} (hs : (storeL h ls l).gives h') (hf : ls.all fineL = true)
  (hn : ls.length = ti.size) (h0 : 0 < ti.size) (kp : LR w α ok h l p) (kv : LsR w α ok h ls v.cells.toList) :
  ∃ a w' ok', p = .pointer (some a) ∧ (storeVar t a v).run F.P w = .ok () w' ∧ Core F α ok' h' w' ∧ Stay w α ok h w' α ok' h' := by
 obtain ⟨vs, hvs⟩ : ∃ vs, v.cells.toList = vs := ⟨_, rfl⟩
 rw [hvs] at kv
 have hvn : vs.length = ti.size := (F2.length kv).symm.trans hn
 have hv1 := LsR.one hf kv
 unfold storeL at hs
 split at hs
 ·rename_i o i j
  simp only [LR, PtrR] at kp
  obtain ⟨_, kp⟩ := kp
  split at hs
  ·rename_i bs hb
   rw [NM.gives_guard, NM.gives_pure] at hs
   obtain ⟨hg, rfl⟩ := hs
   have hg := Nat.le_of_ble_eq_true hg
   rw [hb] at kp
   have hob := C.ob o; rw [hb] at hob
   obtain ⟨g, off, cs, e, hα, hh, us, hls, hcs⟩ := hob
   obtain ⟨rfl, g', off', hα', rfl⟩ := kp
   rw [hα] at hα'; simp at hα'; obtain ⟨rfl, rfl⟩ := hα'
   have hul := F2.length hls
   have hfit : off + us.length ≤ cs.size := by
    rcases Nat.eq_zero_or_pos us.length with h0' | h0'
    ·omega
    ·obtain ⟨u, hu⟩ : ∃ u, us[us.length - 1]? = some u := ⟨us[us.length - 1], List.getElem?_eq_getElem (by omega)⟩
     have := (Array.getElem?_eq_some_iff.1 (hcs _ _ hu)).1; omega
   have hrun := run_storeVar (w := w) hT (off := off + j) hh hvs hvn hv1 (by omega)
   have hblk : blk (α o) = some g := by rw [hα]; rfl
   have hnew : ∀ q, ((cs.toList.take (off + j) ++ vs ++ cs.toList.drop (off + j + vs.length)).toArray)[q]? = if off + j ≤ q ∧ q < off + j + vs.length then vs[q - (off + j)]? else cs[q]? := by
    intro q
    rw [List.getElem?_toArray, List.append_assoc, List.getElem?_append]
    have hlt : (cs.toList.take (off + j)).length = off + j := by simp; omega
    rw [hlt]
    split
    ·rename_i h7; rw [if_neg (by omega), List.getElem?_take, if_pos h7]; simp
    ·rename_i h7
     rw [List.getElem?_append]
     split
     ·rename_i h8; rw [if_pos (by omega)]
     ·rename_i h8; rw [if_neg (by omega), List.getElem?_drop]; simp; congr 1; simp at h8; omega
   refine ⟨_, _, ok, rfl, hrun, C.poke (by rw [hb]; rfl) (by rw [hb]; simp [HLe]; omega) rfl rfl (fun k hk => setRow_other w g k _ fun e => hk (by rw [hblk, e])) (heap_setRow_size _ _ _) rfl rfl rfl ?_ ?_⟩
   ·have s : Stay w α ok h (w.setRow g (cs.toList.take (off + j) ++ vs ++ cs.toList.drop (off + j + vs.length)).toArray) α ok (upd h o (.box (bs.take j ++ ls ++ bs.drop (j + ls.length)))) :=
     C.pokeS (by rw [hb]; rfl) (by rw [hb]; simp [HLe]; omega) rfl (fun k hk => setRow_other w g k _ fun e => hk (by rw [hblk, e]))
    refine ⟨g, off, _, e, hα, setRow_heap w g cs _ e _ hh, us.take j ++ vs ++ us.drop (j + ls.length), ?_, ?_⟩
    ·exact ((LsR.stay s (hls.take j)).append (LsR.stay s kv)).append (LsR.stay s (hls.drop _))
    ·intro q u hq
     rw [hnew]
     have hvl : vs.length = ls.length := by omega
     rw [List.append_assoc, List.getElem?_append] at hq
     have hlt : (us.take j).length = j := by simp; omega
     rw [hlt] at hq
     split at hq
     ·rename_i h7; rw [if_neg (by omega)]; rw [List.getElem?_take, if_pos h7] at hq; exact hcs q u hq
     ·rename_i h7
      rw [List.getElem?_append] at hq
      split at hq
      ·rename_i h8; rw [if_pos (by omega)]; rw [show off + q - (off + j) = q - j by omega]; exact hq
      ·rename_i h8; rw [if_neg (by omega)]; rw [List.getElem?_drop] at hq
       have := hcs _ u hq
       rw [show off + (j + ls.length + (q - j - vs.length)) = off + q by omega] at this; exact this
   ·intro ls' g' off' cs' e' h1 h2 h3
    rw [hb] at h1; simp at h1; subst h1
    rw [hα] at h2; simp at h2; obtain ⟨rfl, rfl⟩ := h2
    rw [hh] at h3; simp at h3; obtain ⟨rfl, rfl⟩ := h3
    refine ⟨_, setRow_heap w g cs _ e _ hh, by simp; omega, fun q hq => ?_⟩
    rw [hnew, if_neg (by omega)]
  ·rename_i e c l hb
   rw [NM.gives_bind] at hs
   obtain ⟨⟨ls1, h1⟩, hsol, hs⟩ := hs
   simp only [NM.gives_guard, NM.gives_bind, NM.gives_opt] at hs
   obtain ⟨hg, x, hx, hs⟩ := hs
   have hg := Nat.le_of_ble_eq_true hg
   split at hs
   ·rename_i e2 c2 l2 hb2
    rw [NM.gives_pure] at hs; subst hs
    rw [hb] at kp
    obtain ⟨hi, g, off, m, kk, hα, rfl⟩ := kp
    obtain ⟨ok1, C1, s1, i1, k1⟩ := solids_ok C hsol kv
    have hrow : h1 o = .row e c l := by
     rcases i1 o with e' | ⟨e', c', l', h3, h4⟩ | ⟨e', d', n', ll', h3, h4⟩
     ·rw [e', hb]
     ·rw [h4] at hb2; cases hb2
     ·rw [h4] at hb2; cases hb2
    have hob := C1.ob o; rw [hrow] at hob
    obtain ⟨xs, how, hr⟩ := hob
    rcases how.2 with ⟨hv, _⟩ | ⟨g', cap, cur, hv, hbase, hh, hnc, hcm, hcs, ht⟩
    ·rw [hv] at hα; cases hα
    ·have hα0 := hα
     rw [hv] at hα; simp at hα; obtain ⟨⟨rfl, rfl⟩, rfl, rfl⟩ := hα
     obtain ⟨y, hy⟩ : ∃ y, l[i]? = some y := ⟨l[i], List.getElem?_eq_getElem hi⟩
     have hd : l.getD i c.dflt = y := by simp [List.getD, hy]
     rw [hd] at hx
     obtain ⟨A, ci, B, hxs, hA, hrep, hset⟩ := hr.split hy
     have hcl := hrep.length
     have hl1 : ls1.length = vs.length := F2.length k1
     have hls : ls.length = vs.length := F2.length kv
     have hnew : Rep w ok1 c x (ci.take j ++ vs ++ ci.drop (j + ls1.length)) :=
      unleaves_ok hx ((((leaves_ok (α := α) (h := h1) hrep).take j).append k1).append ((leaves_ok hrep).drop _))
     have hxl : xs.length = A.length + ci.length + B.length := by rw [hxs]; simp; omega
     have hcl2 : xs.length ≤ cur.size := by rw [← ht, hcs]; simp; omega
     have hrun := run_storeVar (w := w) hT (off := i * c.size + j) hh hvs hvn hv1 (by omega)
     have hblk : blk (α o) = some g' := by rw [hv]; rfl
     have hlen2 : (l.set i x).length = l.length := by simp
     have hxs2 : (cur.toList.take (i * c.size + j) ++ vs ++ cur.toList.drop (i * c.size + j + vs.length)).take (l.length * c.size) = A ++ (ci.take j ++ vs ++ ci.drop (j + ls1.length)) ++ B := by
      rw [← hA, hl1]
      exact row_new (by rw [ht, hxs]) (by rw [← hxs]; exact how.1.symm) (by omega)
     have hh2 := setRow_heap w g' cur (cur.toList.take (i * c.size + j) ++ vs ++ cur.toList.drop (i * c.size + j + vs.length)).toArray e _ hh
     have hpk := C1.poke (o := o) (b := .row e c (l.set i x)) (w' := w.setRow g' (cur.toList.take (i * c.size + j) ++ vs ++ cur.toList.drop (i * c.size + j + vs.length)).toArray)
      (by rw [hrow]; rfl) (by rw [hrow]; simp [HLe]) rfl rfl (fun k hk => setRow_other w g' k _ fun e => hk (by rw [hblk, e])) (heap_setRow_size _ _ _) rfl rfl rfl ?_ ?_
     ·rw [show 0 + (i * c.size + j) = i * c.size + j by omega]
      exact ⟨_, _, ok1, rfl, hrun, hpk.1, s1.trans hpk.2⟩
     ·refine ⟨_, ⟨?_, .inr ⟨g', cap, _, by rw [hlen2]; exact hv, hbase, hh2, by rw [hlen2]; exact hnc, hcm, by rw [← hcs]; simp; omega, rfl⟩⟩, ?_⟩
      ·rw [hlen2, hxs2, ← how.1, hxl]; simp; omega
      ·rw [hlen2]
       have : (cur.toList.take (i * c.size + j) ++ vs ++ cur.toList.drop (i * c.size + j + vs.length)).toArray.toList.take (l.length * c.size) = A ++ (ci.take j ++ vs ++ ci.drop (j + ls1.length)) ++ B := hxs2
       rw [this]
       refine (hset x _ (fun b hb => hb) hnew).mono fun b hb' => ⟨hb', setRow_other w g' b _ fun e => C1.sepok o g' (by rw [hrow]; rfl) hblk (e ▸ hb')⟩
     ·intro ls' g2 off' cs' e' h4 _ _
      rw [hrow] at h4; cases h4
   ·exact absurd hs NM.gives_fail
  ·exact absurd hs NM.gives_fail
 ·exact absurd hs NM.gives_fail
end
end Go.VI
namespace Go.VI
open Go
section
variable {F : Fx} {α : Nat → Value} {ok : Nat → Prop} {h : Heap} {w : World} {s : List D} {a : Act}
abbrev SR (w : World) (α : Nat → Value) (ok : Nat → Prop) (h : Heap) (s : List D) (a : Act) : Prop := F2 (DR w α ok h) s a.tmps.toList
theorem constL_ok (v : Value) : LR w α ok h (constL v) v := by
 cases v with
 | int k n => simp [constL, LR, Rep]
 | bool b => simp [constL, LR, Rep]
 | string s => simp [constL, LR, Rep]
 | slice a n c =>
  cases a with
  | some a => simp [constL, LR]
  | none => cases n <;> cases c <;> simp [constL, LR]
 | pointer a => cases a <;> simp [constL, LR]
 | nilIface => simp [constL, LR]
 | func fn x y =>
  cases fn with
  | func f =>
   simp only [constL]
   cases hx : Nat.beq x.size 0 <;> cases hy : Nat.beq y.size 0 <;> simp [LR]
   have h1 : x.size = 0 := Nat.eq_of_beq_eq_true hx
   have h2 : y.size = 0 := Nat.eq_of_beq_eq_true hy
   have h1 : x = #[] := by simpa using h1
   have h2 : y = #[] := by simpa using h2
   subst h1; subst h2
   exact ⟨#[], ⟨rfl, rfl⟩, trivial⟩
  | _ => simp [constL, LR]
 | _ => simp [constL, LR]
theorem operand_ok (S : SR w α ok h s a) {x : Operand} {d : D} (hd : operand s x = some d) : DR w α ok h d (a.eval x) := by
 cases x with
 | tmp t =>
  simp only [operand] at hd
  obtain ⟨v, hv, hr⟩ := F2.get S hd
  have : a.tmps[t]? = some v := by simpa using hv
  simpa [Act.eval, this] using hr
 | const v => simp only [operand, Option.some.injEq] at hd; subst hd; exact constL_ok v
 | global g => simp only [operand, Option.some.injEq] at hd; subst hd; rfl
 | func f => simp only [operand, Option.some.injEq] at hd; subst hd; exact ⟨#[], rfl, trivial⟩
theorem oL_ok (S : SR w α ok h s a) {x : Operand} {l : L} (hd : oL s x = some l) : LR w α ok h l (a.eval x) := by
 simp only [oL, Option.bind_eq_some_iff] at hd
 obtain ⟨d, hd, hl⟩ := hd
 have := operand_ok S hd
 cases d <;> simp [D.leaf] at hl
 subst hl; exact this
theorem oInt_ok (S : SR w α ok h s a) {x : Operand} {k : IntKind} {n : Int} (hd : oInt s x = some (k, n)) : a.eval x = .int k n := by
 simp only [oInt, Option.bind_eq_some_iff] at hd
 obtain ⟨l, hl, hk⟩ := hd
 have := oL_ok S hl
 split at hk
 ·simp at hk; obtain ⟨rfl, rfl⟩ := hk; simpa [LR, Rep] using this
 ·cases hk
theorem oI_ok (S : SR w α ok h s a) {x : Operand} {n : Int} (hd : oI s x = some n) : ∃ k, a.eval x = .int k n := by
 simp only [oI, Option.map_eq_some_iff] at hd
 obtain ⟨⟨k, m⟩, hk, rfl⟩ := hd
 exact ⟨k, oInt_ok S hk⟩
theorem oBool_ok (S : SR w α ok h s a) {x : Operand} {b : Bool} (hd : oBool s x = some b) : a.eval x = .bool b := by
 simp only [oBool, Option.bind_eq_some_iff] at hd
 obtain ⟨l, hl, hk⟩ := hd
 have := oL_ok S hl
 split at hk
 ·simp at hk; subst hk; simpa [LR, Rep] using this
 ·cases hk

def Done (F : Fx) (o : Oper) (a : Act) (α : Nat → Value) (ok : Nat → Prop) (h : Heap) (w : World) (d : D) (h' : Heap) : Prop :=
 ∃ nx v w' α' ok', (execOp a.eval o).run F.P w = .ok nx w' ∧ (nx = .value v ∨ (nx = .skip ∧ v = undef)) ∧ Core F α' ok' h' w' ∧ Stay w α ok h w' α' ok' h' ∧ DR w' α' ok' h' d v
theorem Done.of (C : Core F α ok h w) {o : Oper} {d : D} {v : Value} (hr : (execOp a.eval o).run F.P w = .ok (.value v) w) (hd : DR w α ok h d v) : Done F o a α ok h w d h :=
 ⟨_, v, w, α, ok, hr, .inl rfl, C, .refl, hd⟩

/-! ### binary operations -/
theorem run_eqGuard_plain {P : Program} {op : BinOp} {t : TypeId} {x y : Operand} {u v : Value} (h1 : ¬ (u = .nilIface ∧ v = .nilIface)) (h2 : ¬ ∃ cs ds, u = .agg cs ∧ v = .agg ds) : (eqGuard op t x y u v).run P w = .ok () w := by
 cases op <;> cases u <;> cases v <;> simp_all [eqGuard]
theorem binL_ok {P : Program} {op : BinOp} {t : TypeId} {ti : TI} {x y l : L} {u v : Value} (hb : (binL op x y).gives l) (hB : ∀ b c, x = .pv .bool b → y = .pv .bool c → P.underlying t = some .bool)
  (kx : LR w α ok h x u) (ky : LR w α ok h y v) :
  (∀ X Y, (eqGuard op t X Y u v).run P w = .ok () w) ∧ ∃ r, (binOp op t u v).run P w = .ok r w ∧ LR w α ok h l r := by
 unfold binL at hb
 split at hb
 ·rename_i k p k' q
  change Int at p q
  simp only [LR, Rep, List.cons.injEq, and_true] at kx ky
  subst kx; subst ky
  refine ⟨fun X Y => run_eqGuard_plain (by simp) (by simp), ?_⟩
  split at hb
  ·rw [NM.gives_guard, NM.gives_pure] at hb
   obtain ⟨hg, rfl⟩ := hb
   have hg : (0 : Int) ≤ q := of_decide_eq_true hg
   exact ⟨_, (by simp only [binOp, Op.shift]; rw [if_neg (by omega)]; rfl), rfl⟩
  ·rw [NM.gives_guard, NM.gives_pure] at hb
   obtain ⟨hg, rfl⟩ := hb
   have hg : (0 : Int) ≤ q := of_decide_eq_true hg
   exact ⟨_, (by simp only [binOp, Op.shift]; rw [if_neg (by omega)]; rfl), rfl⟩
  ·rename_i n1 n2
   rw [NM.gives_guard] at hb
   obtain ⟨hk, hb⟩ := hb
   have hk := of_decide_eq_true hk
   subst hk
   cases op <;> simp only at hb <;> (try exact absurd rfl n1) <;> (try exact absurd rfl n2) <;> try (exact absurd hb NM.gives_fail)
   case h_3.quo =>
    rw [NM.gives_guard, NM.gives_pure] at hb
    obtain ⟨hg, rfl⟩ := hb
    have : ¬ q = 0 := by simpa using hg
    exact ⟨_, (by simp only [binOp, Op.intDiv]; rw [if_neg (by simp), if_neg this]; rfl), rfl⟩
   case h_3.rem =>
    rw [NM.gives_guard, NM.gives_pure] at hb
    obtain ⟨hg, rfl⟩ := hb
    have : ¬ q = 0 := by simpa using hg
    exact ⟨_, (by simp only [binOp, Op.intDiv]; rw [if_neg (by simp), if_neg this]; rfl), rfl⟩
   all_goals
    rw [NM.gives_pure] at hb; subst hb
    exact ⟨_, (by simp only [binOp]; rw [if_neg (by simp)]; rfl), rfl⟩
 ·rename_i p q
  simp only [LR, Rep, List.cons.injEq, and_true] at kx ky
  subst kx; subst ky
  refine ⟨fun X Y => run_eqGuard_plain (by simp) (by simp), ?_⟩
  have hu := hB p q rfl rfl
  cases op <;> simp only at hb <;> try (exact absurd hb NM.gives_fail)
  case eql => rw [NM.gives_pure] at hb; subst hb; exact ⟨_, run_eql_bool w t p q hu, by simp [LR, Rep]⟩
  case neq => rw [NM.gives_pure] at hb; subst hb; exact ⟨_, run_neq_bool w t p q hu, by simp [LR, Rep]⟩
 ·rename_i p q
  change ByteArray at p q
  simp only [LR, Rep, List.cons.injEq, and_true] at kx ky
  subst kx; subst ky
  refine ⟨fun X Y => run_eqGuard_plain (by simp) (by simp), ?_⟩
  cases op <;> simp only at hb <;> try (exact absurd hb NM.gives_fail)
  case add =>
   rw [NM.gives_guard, NM.gives_pure] at hb
   obtain ⟨hg, rfl⟩ := hb
   have hg := of_decide_eq_true hg
   have h1 : ¬ (((p.size + q.size : Nat) : Int) > IntKind.i64.max) := by
    have : IntKind.i64.max = 9223372036854775807 := by decide
    rw [this]; omega
   exact ⟨_, (by simp only [binOp, Op.stringOp, if_neg h1]; rfl), rfl⟩
  all_goals
   rw [NM.gives_pure] at hb; subst hb
   exact ⟨_, (by simp only [binOp, Op.stringOp]; rfl), rfl⟩
 ·exact absurd hb NM.gives_fail
theorem run_part {P : Program} {t : TypeId} {ti : TI} (hT : TIok P t ti) {off : Nat} {ls : List L} {cs : List Value} (hls : LsR w α ok h ls cs) (h0 : 0 < ti.size) (hle : off + ti.size ≤ ls.length) :
  ∃ v, (part t cs.toArray off).run P w = .ok v w ∧ (ti.k.isAgg = true → v = .agg ((cs.drop off).take ti.size).toArray) ∧ (ti.k.isAgg = false → cs[off]? = some v) := by
 have hl := F2.length hls
 cases ha : ti.k.isAgg with
 | true =>
  refine ⟨.agg (cs.toArray.extract off (off + ti.size)), by simp only [part, Sem.run_bind, run_isAgg hT, ha, Result.andThen_ok, if_true, run_size hT, Sem.run_pure], fun _ => ?_, by simp⟩
  congr 1
  apply Array.ext'
  rw [Array.toList_extract, List.extract_eq_take_drop, Nat.add_sub_cancel_left]
 | false =>
  have hlt : off < cs.length := by omega
  refine ⟨cs[off], ?_, by simp, fun _ => List.getElem?_eq_getElem hlt⟩
  simp [part, run_isAgg hT, ha, List.getElem?_eq_getElem hlt]
theorem part_D {ti : TI} {off : Nat} {ls : List L} {cs : List Value} (hls : LsR w α ok h ls cs) {d : D} (hd : (mkD ti.k.isAgg ((ls.drop off).take ti.size)).gives d) {v : Value}
  (h1 : ti.k.isAgg = true → v = .agg ((cs.drop off).take ti.size).toArray) (h2 : ti.k.isAgg = false → cs[off]? = some v) : DR w α ok h d v := by
 cases ha : ti.k.isAgg with
 | true =>
  rw [ha] at hd
  simp only [mkD, NM.gives_pure] at hd
  subst hd
  exact ⟨_, h1 ha, by simpa [LsR] using (hls.drop off).take ti.size⟩
 | false =>
  rw [ha] at hd
  have hv := h2 ha
  match hl : (ls.drop off).take ti.size, hd with
  | [l], hd =>
   simp only [mkD, NM.gives_pure] at hd
   subst hd
   have hl0 : ls[off]? = some l := by
    have : ((ls.drop off).take ti.size)[0]? = some l := by rw [hl]; rfl
    rw [List.getElem?_take] at this
    split at this
    ·simpa using this
    ·cases this
   obtain ⟨u, hu, hr⟩ := F2.get hls hl0
   rw [hv] at hu; simp at hu; subst hu; exact hr
  | [], hd => exact absurd hd (by simp [mkD, NM.gives_fail])
  | _ :: _ :: _, hd => exact absurd hd (by simp [mkD, NM.gives_fail])
end
end Go.VI
namespace Go.VI
open Go
section
variable {F : Fx} {α : Nat → Value} {ok : Nat → Prop} {h : Heap} {w : World} {s : List D} {a : Act} {E : Env}
/-! ### structs, compared -/
theorem eqFs_ok {P : Program} {T : Tb} (hT : tbOk P T = true) {f : TypeId → List L → List L → Option Bool} {n : Nat}
  (hf : ∀ {t : TypeId} {ls ls' : List L} {b : Bool} {ti : TI} {u v : Value}, T.get t = some ti → f t ls ls' = some b → (ti.k.isAgg = true → ∃ cs ds : Array Value, u = .agg cs ∧ v = .agg ds ∧ LsR w α ok h ls cs.toList ∧ LsR w α ok h ls' ds.toList) →
   (ti.k.isAgg = false → LsR w α ok h ls [u] ∧ LsR w α ok h ls' [v]) → (Op.equalIn n t u v).run P w = .ok b w)
  : ∀ {fs : List Field} {gs : List (Nat × TypeId)} {ls ls' : List L} {b : Bool} {cs ds : Array Value}, fieldsEq fs gs = true → (∀ x ∈ fs, x.name ≠ "_") → eqFs f T gs ls ls' = some b → LsR w α ok h ls cs.toList → LsR w α ok h ls' ds.toList →
   (Op.eqFields n cs ds fs).run P w = .ok b w
 | [], [], ls, ls', b, cs, ds, _, _, he, _, _ => by simp [eqFs] at he; subst he; simp [Op.eqFields]
 | [], _ :: _, _, _, _, _, _, hb, _, _, _, _ => by simp [fieldsEq] at hb
 | _ :: _, [], _, _, _, _, _, hb, _, _, _, _ => by simp [fieldsEq] at hb
 | x :: fs, (o, t) :: gs, ls, ls', b, cs, ds, hb, hn, he, hc, hd => by
  simp only [fieldsEq, Bool.and_eq_true] at hb
  have ho := Nat.eq_of_beq_eq_true hb.1
  have ht := Nat.eq_of_beq_eq_true hb.2.1
  subst ho; subst ht
  simp only [eqFs, Option.bind_eq_some_iff] at he
  obtain ⟨ti, hti, he⟩ := he
  cases hle : (Nat.ble 1 ti.size && (Nat.ble (x.offset + ti.size) ls.length && Nat.ble (x.offset + ti.size) ls'.length)) with
  | false => rw [hle] at he; simp at he
  | true =>
   rw [hle] at he
   simp only [cond_true, Option.bind_eq_some_iff, Option.map_eq_some_iff] at he
   obtain ⟨b1, h1, b2, h2, rfl⟩ := he
   simp only [Bool.and_eq_true] at hle
   have l0 : 0 < ti.size := Nat.le_of_ble_eq_true hle.1
   have l1 := Nat.le_of_ble_eq_true hle.2.1
   have l2 := Nat.le_of_ble_eq_true hle.2.2
   have hti' := tb_get hT hti
   obtain ⟨u, hu, hu1, hu2⟩ := run_part (w := w) hti' hc l0 l1
   obtain ⟨v, hv, hv1, hv2⟩ := run_part (w := w) hti' hd l0 l2
   have hl1 := F2.length hc
   have hl2 := F2.length hd
   have hrun := hf hti h1 (u := u) (v := v)
    (fun ha => ⟨_, _, hu1 ha, hv1 ha, by simpa [LsR] using (hc.drop x.offset).take ti.size, by simpa [LsR] using (hd.drop x.offset).take ti.size⟩)
    (fun ha => by
     have hs1 := hti'.one ha
     have e1 : (cs.toList.drop x.offset).take 1 = [u] := by
      have := hu2 ha
      rw [List.take_one, List.head?_drop, this]; rfl
     have e2 : (ds.toList.drop x.offset).take 1 = [v] := by
      have := hv2 ha
      rw [List.take_one, List.head?_drop, this]; rfl
     rw [hs1]
     exact ⟨by rw [← e1]; exact (hc.drop x.offset).take 1, by rw [← e2]; exact (hd.drop x.offset).take 1⟩)
   have hu' : (part x.type cs x.offset).run P w = .ok u w := by simpa using hu
   have hv' : (part x.type ds x.offset).run P w = .ok v w := by simpa using hv
   have hnx : x.name ≠ "_" := hn x (by simp)
   have ih := eqFs_ok hT hf hb.2.2 (fun y hy => hn y (by simp [hy])) h2 hc hd
   simp only [Op.eqFields, if_pos hnx, Sem.run_bind, hu', hv', hrun, Result.andThen_ok]
   cases b1 with
   | false => simp
   | true => simpa using ih
theorem eqT_ok {P : Program} {T : Tb} (hT : tbOk P T = true) : ∀ (d n : Nat) {t : TypeId} {ls ls' : List L} {b : Bool} {ti : TI} {u v : Value}, d ≤ n → T.get t = some ti → eqT T d t ls ls' = some b →
  (ti.k.isAgg = true → ∃ cs ds : Array Value, u = .agg cs ∧ v = .agg ds ∧ LsR w α ok h ls cs.toList ∧ LsR w α ok h ls' ds.toList) → (ti.k.isAgg = false → LsR w α ok h ls [u] ∧ LsR w α ok h ls' [v]) →
  (Op.equalIn n t u v).run P w = .ok b w
 | 0, _, _, _, _, _, _, _, _, _, _, he, _, _ => by simp [eqT] at he
 | d + 1, 0, _, _, _, _, _, _, _, hn, _, _, _, _ => by omega
 | d + 1, n + 1, t, ls, ls', b, ti, u, v, hn, hti, he, k1, k2 => by
  have hti' := tb_get hT hti
  simp only [eqT, hti, Option.bind_some] at he
  split at he
  ·rename_i k x y k' x1 y1 heq
   split at he
   ·rename_i e; subst e
    simp at he; subst he
    obtain ⟨k3, k4⟩ := k2 (by rw [heq]; rfl)
    have k3 := k3.1; have k4 := k4.1
    simp only [LR, Rep, List.cons.injEq, and_true] at k3 k4
    subst k3; subst k4
    exact run_equalIn_int w n t _ _ _ _ (hti'.int heq)
   ·cases he
  ·rename_i x y heq
   simp at he; subst he
   obtain ⟨k3, k4⟩ := k2 (by rw [heq]; rfl)
   have k3 := k3.1; have k4 := k4.1
   simp only [LR, Rep, List.cons.injEq, and_true] at k3 k4
   subst k3; subst k4
   refine run_equalIn_bool' w n t _ _ ?_
   have := hti'.k; rw [heq] at this
   cases hu : P.underlying t with
   | none => rw [hu] at this; simp [tkOk] at this
   | some d => cases d <;> rw [hu] at this <;> simp [tkOk] at this
  ·rename_i x y heq
   simp at he; subst he
   obtain ⟨k3, k4⟩ := k2 (by rw [heq]; rfl)
   have k3 := k3.1; have k4 := k4.1
   simp only [LR, Rep, List.cons.injEq, and_true] at k3 k4
   subst k3; subst k4
   exact run_equalIn_string w n t _ _ (hti'.str heq)
  ·rename_i fs heq
   cases hq : ti.eq with
   | false => rw [hq] at he; simp at he
   | true =>
    rw [hq] at he
    simp only [cond_true] at he
    have heq' := hti'.eq hq
    simp only [eqOk, Bool.and_eq_true, Bool.not_eq_true'] at heq'
    obtain ⟨fields, hu, hfe⟩ := hti'.struct heq
    have hfo : P.fieldsOf t = fields := by simp [Program.fieldsOf, hu]
    obtain ⟨cs, ds, rfl, rfl, k3, k4⟩ := k1 (by rw [heq]; rfl)
    rw [run_equalIn_struct w n t cs ds (by rw [hfo]; exact hu) heq'.1, hfo]
    refine eqFs_ok hT (fun {t ls ls' b ti u v} h1 h2 h3 h4 => eqT_ok hT d n (by omega) h1 h2 h3 h4) hfe (fun x hx => ?_) he k3 k4
    have := List.all_eq_true.1 heq'.2.2 x (by rw [hfo]; exact hx)
    simpa using this
  ·cases he
end
end Go.VI
namespace Go.VI
open Go
section
variable {F : Fx} {α : Nat → Value} {ok : Nat → Prop} {h h' : Heap} {w : World} {s : List D} {a : Act} {E : Env} {d : D}
 {dst : Option Tmp} {ty : TypeId} {pos : String} {aft : Array Edge} {gd : Option (Nat × Bool)}
theorem op_move {x : Operand} (C : Core F α ok h w) (S : SR w α ok h s a) (hop : (opK E ⟨dst, .move x, ty, pos, aft, gd⟩ ⟨s, h⟩).gives (d, h')) : Done F ⟨dst, .move x, ty, pos, aft, gd⟩ a α ok h w d h' := by
 simp only [opK, NM.gives_bind, NM.gives_opt, NM.gives_pure, Prod.mk.injEq] at hop
 obtain ⟨d0, hd, rfl, rfl⟩ := hop
 exact Done.of C rfl (operand_ok S hd)
theorem op_assign {x : Operand} (C : Core F α ok h w) (S : SR w α ok h s a) (hop : (opK E ⟨dst, .assign x, ty, pos, aft, gd⟩ ⟨s, h⟩).gives (d, h')) : Done F ⟨dst, .assign x, ty, pos, aft, gd⟩ a α ok h w d h' := by
 simp only [opK, NM.gives_bind, NM.gives_opt, NM.gives_pure, Prod.mk.injEq] at hop
 obtain ⟨d0, hd, rfl, rfl⟩ := hop
 exact Done.of C rfl (operand_ok S hd)
theorem op_pick {c x y : Operand} (C : Core F α ok h w) (S : SR w α ok h s a) (hop : (opK E ⟨dst, .pick c x y, ty, pos, aft, gd⟩ ⟨s, h⟩).gives (d, h')) : Done F ⟨dst, .pick c x y, ty, pos, aft, gd⟩ a α ok h w d h' := by
 simp only [opK, NM.gives_bind, NM.gives_opt, NM.gives_cond, NM.gives_pure, Prod.mk.injEq] at hop
 obtain ⟨t, ht, dx, hx, dy, hy, hop⟩ := hop
 have hc := oBool_ok S ht
 rcases hop with ⟨rfl, rfl, rfl⟩ | ⟨rfl, rfl, rfl⟩
 ·exact Done.of C (v := a.eval x) (by simp [execOp, hc, asBool]) (operand_ok S hx)
 ·exact Done.of C (v := a.eval y) (by simp [execOp, hc, asBool]) (operand_ok S hy)
theorem op_load {t : TypeId} {x : Operand} (hT : tbOk F.P E.T = true) (C : Core F α ok h w) (S : SR w α ok h s a) (hop : (opK E ⟨dst, .load t x, ty, pos, aft, gd⟩ ⟨s, h⟩).gives (d, h')) : Done F ⟨dst, .load t x, ty, pos, aft, gd⟩ a α ok h w d h' := by
 simp only [opK, NM.gives_bind, NM.gives_opt, NM.gives_pure, Prod.mk.injEq] at hop
 obtain ⟨ti, hti, l, hl, ls, hls, d0, hd, rfl, rfl⟩ := hop
 obtain ⟨g, off, vs, hv, hr, hn, hc⟩ := loadL_ok C hls (oL_ok S hl)
 obtain ⟨v, hrun, hD⟩ := run_loadVar (tb_get hT hti) hn hc hr hd
 exact Done.of C (v := v) (by simp [execOp, Instr.loadAt, hv, Instr.sureAddr, hrun]) hD
theorem op_store {t : TypeId} {x y : Operand} (hT : tbOk F.P E.T = true) (C : Core F α ok h w) (S : SR w α ok h s a) (hop : (opK E ⟨dst, .store t x y, ty, pos, aft, gd⟩ ⟨s, h⟩).gives (d, h')) : Done F ⟨dst, .store t x y, ty, pos, aft, gd⟩ a α ok h w d h' := by
 simp only [opK, NM.gives_bind, NM.gives_opt, NM.gives_guard, NM.gives_pure, Prod.mk.injEq, Bool.and_eq_true] at hop
 obtain ⟨ti, hti, l, hl, dv, hd, ⟨h1, h2, h3⟩, h1', hs, rfl, rfl⟩ := hop
 have hD := operand_ok S hd
 have hne : ∀ ds, dv ≠ .tup ds := by
  rintro ds rfl
  have := Nat.eq_of_beq_eq_true h1
  have := Nat.le_of_ble_eq_true h2
  simp [D.ls] at *; omega
 obtain ⟨ad, w', ok', hp, hrun, C', s'⟩ := storeL_ok C (tb_get hT hti) hs h3 (Nat.eq_of_beq_eq_true h1) (Nat.le_of_ble_eq_true h2) (oL_ok S hl) (DR.cells h3 hne hD)
 exact ⟨_, undef, w', α, ok', by simp [execOp, Instr.storeAt, hp, Instr.sureAddr, hrun], .inr ⟨rfl, rfl⟩, C', s', rfl⟩
theorem op_nilCheck {x : Operand} (C : Core F α ok h w) (S : SR w α ok h s a) (hop : (opK E ⟨dst, .nilCheck x, ty, pos, aft, gd⟩ ⟨s, h⟩).gives (d, h')) : Done F ⟨dst, .nilCheck x, ty, pos, aft, gd⟩ a α ok h w d h' := by
 simp only [opK, NM.gives_bind, NM.gives_opt] at hop
 obtain ⟨l, hl, hop⟩ := hop
 have hr := oL_ok S hl
 split at hop
 ·rename_i o i j
  simp only [NM.gives_pure, Prod.mk.injEq] at hop
  obtain ⟨rfl, rfl⟩ := hop
  obtain ⟨⟨g, off, had⟩, _⟩ := id hr
  exact Done.of C (v := a.eval x) (by simp [execOp, had]) hr
 ·rename_i c y j
  simp only [NM.gives_pure, Prod.mk.injEq] at hop
  obtain ⟨rfl, rfl⟩ := hop
  have hr2 := hr
  simp only [LR] at hr
  obtain ⟨g, off, cs, hv, _⟩ := hr
  exact Done.of C (v := a.eval x) (by simp [execOp, hv]) hr2
 ·rename_i g
  simp only [NM.gives_pure, Prod.mk.injEq] at hop
  obtain ⟨rfl, rfl⟩ := hop
  have hr2 := hr
  simp only [LR] at hr
  exact Done.of C (v := a.eval x) (by simp [execOp, hr]) hr2
 ·rename_i f cs
  simp only [NM.gives_pure, Prod.mk.injEq] at hop
  obtain ⟨rfl, rfl⟩ := hop
  have hr2 := hr
  simp only [LR] at hr
  obtain ⟨vs, hv, _⟩ := hr
  exact Done.of C (v := a.eval x) (by simp [execOp, hv]) hr2
 ·exact absurd hop NM.gives_fail
theorem run_equal_nil {P : Program} {t : TypeId} {ms : Array (String × TypeId)} (hu : P.underlying t = some (.interface ms)) : (Op.equal t .nilIface .nilIface).run P w = .ok true w := by
 show (Op.equalIn (9999 + 1) t _ _).run P w = _
 unfold Op.equalIn
 simp [run_underlying hu]
theorem run_equal_iface {P : Program} {t tt : TypeId} {xx : Value} {ms : Array (String × TypeId)} (hu : P.underlying t = some (.interface ms)) : (Op.equal t (.iface tt xx) .nilIface).run P w = .ok false w := by
 show (Op.equalIn (9999 + 1) t _ _).run P w = _
 unfold Op.equalIn
 simp [run_underlying hu]
theorem run_err {P : Program} {op : BinOp} {t : TypeId} {v : Value} {b : Bool} (hop : op = .eql ∨ op = .neq) (he : (Op.equal t v .nilIface).run P w = .ok b w) (hv : v = .nilIface ∨ ∃ tt xx, v = .iface tt xx) :
  (binOp op t v .nilIface).run P w = .ok (.bool (if op = .eql then b else !b)) w := by
 rcases hop with rfl | rfl <;> rcases hv with rfl | ⟨tt, xx, rfl⟩
 ·show (do pure (Value.bool (← Op.equal t .nilIface .nilIface)) : Sem Value).run P w = _
  simp [he]
 ·show (do pure (Value.bool (← Op.equal t (.iface tt xx) .nilIface)) : Sem Value).run P w = _
  simp [he]
 ·show (do pure (Value.bool (!(← Op.equal t .nilIface .nilIface))) : Sem Value).run P w = _
  simp [he]
 ·show (do pure (Value.bool (!(← Op.equal t (.iface tt xx) .nilIface))) : Sem Value).run P w = _
  simp [he]
theorem run_guard_err {P : Program} {op : BinOp} {t : TypeId} {x : Operand} {v : Value} (hv : v = .nilIface ∨ ∃ tt xx, v = .iface tt xx) : (eqGuard op t x (.const .nilIface) v .nilIface).run P w = .ok () w := by
 rcases hv with rfl | ⟨tt, xx, rfl⟩
 ·cases op <;> simp [eqGuard]
 ·exact run_eqGuard_plain (by simp) (by simp)
theorem op_err {op : BinOp} {t u : TypeId} {x y : Operand} {dx d1 : D} (hT : tbOk F.P E.T = true) (C : Core F α ok h w) (he : errD E.T op t y dx = some d1) (kx : DR w α ok h dx (a.eval x)) : Done F ⟨dst, .binOp op t x y u, ty, pos, aft, gd⟩ a α ok h w d1 h := by
 unfold errD at he
 split at he
 ·rename_i te b
  split at he
  ·rw [Option.bind_eq_some_iff] at he
   obtain ⟨ti, hti, he⟩ := he
   split at he
   ·rename_i hk
    have hu : ∃ ms, F.P.underlying t = some (.interface ms) := by
     have := (tb_get hT hti).k
     rw [hk] at this
     cases hu : F.P.underlying t with
     | none => rw [hu] at this; simp [tkOk] at this
     | some d => cases d <;> rw [hu] at this <;> simp [tkOk] at this; exact ⟨_, rfl⟩
    obtain ⟨ms, hu⟩ := hu
    obtain ⟨v, hv, _, h0, h1⟩ := kx
    simp only [List.cons.injEq, and_true] at hv
    have hv2 : a.eval x = .nilIface ∨ ∃ tt xx, a.eval x = .iface tt xx := by
     cases hb : b with
     | false => exact .inl (hv.trans (h0 hb))
     | true => obtain ⟨tt, xx, h2⟩ := h1 hb; exact .inr ⟨tt, xx, hv.trans h2⟩
    have he2 : (Op.equal t (a.eval x) .nilIface).run F.P w = .ok (!b) w := by
     cases hb : b with
     | false => rw [hv.trans (h0 hb)]; exact run_equal_nil hu
     | true => obtain ⟨tt, xx, h2⟩ := h1 hb; rw [hv.trans h2]; exact run_equal_iface hu
    have hg := run_guard_err (P := F.P) (w := w) (op := op) (t := t) (x := x) hv2
    have hy : a.eval (.const .nilIface) = .nilIface := rfl
    split at he
    ·cases he
     have hr := run_err (op := .eql) (.inl rfl) he2 hv2
     exact Done.of C (v := .bool (!b)) (by simp only [execOp, hy]; rw [Sem.run_bind, Sem.run_bind, hg, Result.andThen_ok, hr]; rfl) (by simp [DR, LR, Rep])
    ·cases he
     have hr := run_err (op := .neq) (.inr rfl) he2 hv2
     exact Done.of C (v := .bool b) (by simp only [execOp, hy]; rw [Sem.run_bind, Sem.run_bind, hg, Result.andThen_ok, hr]; simp) (by simp [DR, LR, Rep])
    ·cases he
   ·cases he
  ·cases he
 ·cases he
theorem op_binOp {op : BinOp} {t u : TypeId} {x y : Operand} (hT : tbOk F.P E.T = true) (C : Core F α ok h w) (S : SR w α ok h s a)
  (hop : (opK E ⟨dst, .binOp op t x y u, ty, pos, aft, gd⟩ ⟨s, h⟩).gives (d, h')) : Done F ⟨dst, .binOp op t x y u, ty, pos, aft, gd⟩ a α ok h w d h' := by
 simp only [opK, NM.gives_bind, NM.gives_opt, NM.gives_pure, Prod.mk.injEq] at hop
 obtain ⟨dx, hx, dy, hy, d0, hd, rfl, rfl⟩ := hop
 have kx := operand_ok S hx
 have ky := operand_ok S hy
 unfold binDE at hd
 split at hd
 ·rename_i d1 he
  rw [NM.gives_pure] at hd; subst hd
  exact op_err hT C he kx
 rename_i hne
 clear hne
 unfold binD at hd
 split at hd
 ·rename_i lx ly
  simp only [NM.gives_guard, NM.gives_bind, NM.gives_pure] at hd
  obtain ⟨hb, l, hl, rfl⟩ := hd
  have hB : ∀ b c, lx = .pv .bool b → ly = .pv .bool c → F.P.underlying t = some .bool := by
   rintro b c rfl rfl
   simp only [boolT] at hb
   split at hb
   ·rename_i ti hti
    split at hb
    ·rename_i hk
     have := (tb_get hT hti).k
     rw [hk] at this
     cases hu : F.P.underlying t with
     | none => rw [hu] at this; simp [tkOk] at this
     | some d => cases d <;> rw [hu] at this <;> simp [tkOk] at this; try rfl
    ·cases hb
   ·cases hb
  obtain ⟨hg, r, hrun, hr⟩ := binL_ok (P := F.P) (t := t) (ti := ⟨.bool, 1, 1, none, false, false⟩) hl hB kx ky
  exact Done.of C (v := r) (by simp [execOp, hg, hrun]) hr
 ·rename_i lx ly
  obtain ⟨cs, hcs, k1⟩ := kx
  obtain ⟨ds, hds, k2⟩ := ky
  have key : ∀ b, aggT E.T t = true → eqT E.T 20 t lx ly = some b → F.P.eqGuardType F.P.depth t = false ∧ (Op.equalIn 10000 t (.agg cs) (.agg ds)).run F.P w = .ok b w := by
   intro b hag hb
   unfold aggT at hag
   split at hag
   ·rename_i ti hti
    simp only [Bool.and_eq_true] at hag
    have hq := (tb_get hT hti).eq hag.2
    simp only [eqOk, Bool.and_eq_true, Bool.not_eq_true'] at hq
    exact ⟨hq.2.1, eqT_ok hT 20 10000 (by omega) hti hb (fun _ => ⟨cs, ds, rfl, rfl, k1, k2⟩) (fun e => by rw [hag.1] at e; cases e)⟩
   ·cases hag
  split at hd
  ·simp only [NM.gives_guard, NM.gives_bind, NM.gives_opt, NM.gives_pure] at hd
   obtain ⟨hag, b, hb, rfl⟩ := hd
   obtain ⟨h1, h2⟩ := key b hag hb
   exact Done.of C (v := .bool b) (by simp [execOp, hcs, hds, run_eqGuard_agg w _ t x y cs ds h1, run_eql_struct w t cs ds, h2]) (by simp [DR, LR, Rep])
  ·simp only [NM.gives_guard, NM.gives_bind, NM.gives_opt, NM.gives_pure] at hd
   obtain ⟨hag, b, hb, rfl⟩ := hd
   obtain ⟨h1, h2⟩ := key b hag hb
   exact Done.of C (v := .bool (!b)) (by simp [execOp, hcs, hds, run_eqGuard_agg w _ t x y cs ds h1, run_neq_struct w t cs ds, h2]) (by simp [DR, LR, Rep])
  ·exact absurd hd NM.gives_fail
 ·exact absurd hd NM.gives_fail
end
end Go.VI
