/- Part 1 of the texts of this claim: a symbolic executor and contracts of functions. -/
import Derived.Test.YtamghpnjdohnjaaDoorRows
import Derived.WalkKit
import Derived.WalkSpells
import Derived.WalkLawsBesides
import Derived.Below
import Derived.BigRegion
import Derived.BigQuiet
import Derived.Deep.QuietTactic
import Derived.Lib.Hide
import Derived.Handy
import Derived.PlainAid
import Derived.Deep.MidRow
import Derived.Deep.Upon
import Derived.Orders
import Derived.Laws.Tables
import Derived.Laws.StructEq
import Derived.Great.BuildSlice
import Derived.Laws.MakeOwn
import Derived.Laws.Slices
import Derived.Laws.Strings
import Derived.Laws.Runes
namespace Go.Proofs.YtamghpnjdohnjaaDoor
open Go.RowKit
set_option linter.unusedVariables false
end Go.Proofs.YtamghpnjdohnjaaDoor
namespace Go.Proofs.YtamghpnjdohnjaaDoor.Sx
open Go Go.RowKit
set_option linter.unusedVariables false
universe u
abbrev Mem := Nat → Option Obj
structure Blk where
  b : Nat
  n : Nat
abbrev Rho := Nat → Option Blk
inductive AV where
  | ext (v : Value)
  | gd (g : Bool) (v : Value)
  | own (k off : Nat)
  | gown (g : Bool) (k off : Nat)
  | slo (k off len z : Nat)
  | fn (f : FuncId) (caps : List AV)
  | ag (t : Bool) (l : List AV)
  | unk
abbrev Env := List (Nat × AV)
abbrev Hp := List (Nat × TypeId × List AV)
def lk : Env → Nat → AV
  | [], _ => .unk
  | (t, v) :: r, x => if t = x then v else lk r x
def lkH : Hp → Nat → Option (TypeId × List AV)
  | [], _ => none
  | (t, v) :: r, x => if t = x then some v else lkH r x
def upH : Hp → Nat → List AV → Hp
  | [], _, _ => []
  | (t, T, v) :: r, x, cs => if t = x then (t, T, cs) :: r else (t, T, v) :: upH r x cs
structure St where
  env : Env
  hp : Hp
  M : Mem
  kb : Nat
  fx : List Nat
  fr : List Nat := []
mutual
def AV.ment : AV → List Nat
  | .own k _ => [k]
  | .gown _ k _ => [k]
  | .slo k _ _ _ => [k]
  | .fn _ l => mentL l
  | .ag _ l => mentL l
  | .ext _ => []
  | .gd _ _ => []
  | .unk => []
def mentL : List AV → List Nat
  | [] => []
  | v :: r => v.ment ++ mentL r
end
def mentE : Env → List Nat
  | [] => []
  | (_, v) :: r => v.ment ++ mentE r
def mentH : Hp → List Nat
  | [] => []
  | (k, _, cs) :: r => k :: (mentL cs ++ mentH r)
def hasK (k : Nat) : List Nat → Bool
  | [] => false
  | j :: r => j == k || hasK k r
def St.put (s : St) (d : Option Nat) (v : AV) : St :=
  match d with
  | some d => { s with env := (d, v) :: s.env }
  | none => s
def AV.val : AV → Option (Bool × Value)
  | .ext v => some (true, v)
  | .gd g v => some (g, v)
  | _ => none
def AV.ptr? : AV → Option (Bool × Nat × Nat)
  | .own k off => some (true, k, off)
  | .gown g k off => some (g, k, off)
  | _ => none
def ev (s : St) : Operand → AV
  | .tmp t => lk s.env t
  | .const v => .ext v
  | .global g => .ext (.pointer (some ⟨g, 0, none⟩))
  | .func f => .fn f []
structure NewD where
  ob : Prop
  T : TypeId
  sl : Option (Nat × Nat)
def NewD.av (D : NewD) (k : Nat) : AV :=
  match D.sl with
  | none => .own k 0
  | some (n, z) => .slo k 0 n z
inductive GenOp where
  | app (ts : List TypeId) (args : List AV)
inductive Res where
  | bad
  | put (ob : Prop) (v : AV)
  | sto (ob : Prop) (k : Nat) (cs : List AV)
  | new (D : NewD) (cs : List AV)
  | call (f : FuncId) (args : List AV)
  | gen (G : GenOp)
  | ask
def kindT (P : Program) (T : TypeId) : Option Bool :=
  match P.underlying T with
  | some (.struct _) => some true
  | some (.array _ _) => some true
  | some _ => some false
  | none => none
def szO (P : Program) (T : TypeId) : Option Nat := (P.info? T).map (·.size)
def byO (P : Program) (T : TypeId) : Option Nat := (P.info? T).map (·.bytes)
def fOff (P : Program) (T f : Nat) : Option (Nat × TypeId) :=
  match P.underlying T with
  | some (.struct fs) => (fs[f]?).map fun x => (x.offset, x.type)
  | _ => none
def zeroC (P : Program) (T : TypeId) : Option (List Value) := ((P.info? T).bind (·.zero)).map fun v => v.cells.toList
def slcT (P : Program) (T : TypeId) : Option TypeId :=
  match P.underlying T with
  | some (.slice e) => some e
  | _ => none
def arrT (P : Program) (T : TypeId) : Option (Nat × TypeId) :=
  match P.underlying T with
  | some (.array n e) => some (n, e)
  | _ => none
def intT (P : Program) (T : TypeId) : Option IntKind :=
  match P.underlying T with
  | some (.int k) => some k
  | _ => none
def isBoolT (P : Program) (T : TypeId) : Bool := match P.underlying T with | some .bool => true | _ => false
def isSliceT (P : Program) (T : TypeId) : Bool := match P.underlying T with | some (.slice _) => true | _ => false
def isStrT (P : Program) (T : TypeId) : Bool := match P.underlying T with | some .string => true | _ => false
def isSl : Value → Bool
  | .slice _ _ _ => true
  | _ => false
def slen : Value → Nat
  | .slice _ n _ => n
  | _ => 0
def scap : Value → Nat
  | .slice _ _ c => c
  | _ => 0
def nilS : Value → Bool
  | .slice a _ _ => a.isNone
  | _ => false
def elemP (v : Value) (z i : Nat) : Value :=
  match v with
  | .slice (some a) _ _ => .pointer (some (a.add (i * z)))
  | _ => undef
def subS (v : Value) (z l h : Nat) : Value :=
  match v with
  | .slice a _ c => .slice (if c = l then a else a.map (·.add (l * z))) (h - l) (c - l)
  | _ => undef
def cellM (M : Mem) (b i : Nat) : Option Value :=
  match M b with
  | some (.cells arr _ _) => arr[i]?
  | _ => none
def rowM (M : Mem) (b i : Nat) : Nat → Option (List Value)
  | 0 => some []
  | n + 1 => match cellM M b i, rowM M b (i + 1) n with
    | some v, some r => some (v :: r)
    | _, _ => none
def rowS (M : Mem) (z : Nat) : Value → Option (List Value)
  | .slice none 0 _ => some []
  | .slice (some ⟨b, off, none⟩) n _ => rowM M b off (n * z)
  | _ => none
def lookM (P : Program) (T : TypeId) (M : Mem) : Value → Option Value
  | .pointer (some ⟨b, off, none⟩) => match kindT P T, szO P T with
    | some true, some n => (rowM M b off n).map fun l => .agg l.toArray
    | some false, some _ => cellM M b off
    | _, _ => none
  | _ => none
def intV (b : BinOp) (k : IntKind) (x y : Int) : Option (Prop × Value) :=
  match b with
  | .add => some (True, .int k (k.wrap (x + y)))
  | .sub => some (True, .int k (k.wrap (x - y)))
  | .mul => some (True, .int k (k.wrap (x * y)))
  | .quo => some (y ≠ 0, .int k (k.wrap (x.tdiv y)))
  | .rem => some (y ≠ 0, .int k (x.tmod y))
  | .and => some (True, .int k (bits .and k x y))
  | .or => some (True, .int k (bits .or k x y))
  | .xor => some (True, .int k (bits .xor k x y))
  | .andNot => some (True, .int k (bits .andNot k x y))
  | .eql => some (True, .bool (decide (x = y)))
  | .neq => some (True, .bool (!decide (x = y)))
  | .lss => some (True, .bool (decide (x < y)))
  | .leq => some (True, .bool (decide (x ≤ y)))
  | .gtr => some (True, .bool (decide (y < x)))
  | .geq => some (True, .bool (decide (y ≤ x)))
  | .shl => some (0 ≤ y, .int k (k.wrap (x * 2 ^ (min y.toNat k.bits))))
  | .shr => some (0 ≤ y, .int k (x.fdiv (2 ^ (min y.toNat k.bits))))
def strV (b : BinOp) (x y : ByteArray) : Option (Prop × Value) :=
  match b with
  | .add => some (((x.size + y.size : Nat) : Int) ≤ 9223372036854775807, .string (x ++ y))
  | .eql => some (True, .bool (x.toList == y.toList))
  | .neq => some (True, .bool (!(x.toList == y.toList)))
  | .lss => some (True, .bool (Op.bytesLess x.toList y.toList))
  | .geq => some (True, .bool (!(Op.bytesLess x.toList y.toList)))
  | .gtr => some (True, .bool (Op.bytesLess y.toList x.toList))
  | .leq => some (True, .bool (!(Op.bytesLess y.toList x.toList)))
  | _ => none
def boolV (b : BinOp) (x y : Bool) : Option (Prop × Value) :=
  match b with
  | .eql => some (True, .bool (x == y))
  | .neq => some (True, .bool (!(x == y)))
  | _ => none
def nilV (b : BinOp) (u : Value) : Option (Prop × Value) :=
  match b with
  | .eql => some (isSl u = true, .bool (nilS u))
  | .neq => some (isSl u = true, .bool (!(nilS u)))
  | _ => none
def flatK (P : Program) (T : TypeId) : Option (List (Nat × Nat)) :=
  match P.underlying T with
  | some (.struct fs) => match P.stoodInHeld T, P.eqGuardType P.depth T with
    | false, false => fs.toList.mapM fun f => if f.name = "_" then none else match P.underlying f.type with
      | some (.int _) => some (f.offset, 0)
      | some .bool => some (f.offset, 1)
      | some .string => some (f.offset, 2)
      | _ => none
    | _, _ => none
  | _ => none
def eqC : Nat → Value → Value → Option Bool
  | 0, .int k a, .int k' b => if k = k' then some (decide (a = b)) else none
  | 1, .bool a, .bool b => some (a == b)
  | 2, .string a, .string b => some (a.toList == b.toList)
  | _, _, _ => none
def eqL : List (Nat × Nat) → List Value → List Value → Option Bool
  | [], _, _ => some true
  | (o, k) :: r, xs, ys => match xs[o]?, ys[o]? with
    | some a, some b => match eqC k a b, eqL r xs ys with
      | some x, some y => some (x && y)
      | _, _ => none
    | _, _ => none
def eqV (P : Program) (b : BinOp) (T : TypeId) (xs ys : List Value) : Option (Prop × Value) :=
  match (flatK P T).bind fun l => eqL l xs ys with
  | some t => match b with
    | .eql => some (True, .bool t)
    | .neq => some (True, .bool (!t))
    | _ => none
  | none => none
def binV (P : Program) (b : BinOp) (T : TypeId) (u : Value) : Value → Option (Prop × Value)
  | .int k' y => match u with
    | .int k x => if k = k' then intV b k x y else match b with | .shl => intV .shl k x y | .shr => intV .shr k x y | _ => none
    | _ => none
  | .string y => match u with
    | .string x => strV b x y
    | _ => none
  | .bool y => match u with
    | .bool x => if isBoolT P T then boolV b x y else none
    | _ => none
  | .slice none _ _ => if isSliceT P T then nilV b u else none
  | .agg ys => match u with
    | .agg xs => eqV P b T xs.toList ys.toList
    | _ => none
  | _ => none
def unV : UnOp → Value → Option Value
  | .not, .bool b => some (.bool (!b))
  | .neg, .int k n => some (.int k (k.wrap (0 - n)))
  | _, _ => none
def selV (t : Bool) : Value → Value → Value
  | .bool x, .bool y => .bool (cond t x y)
  | u, v => if t then u else v
theorem selV_true (u v : Value) : selV true u v = u := by unfold selV; split <;> rfl
theorem selV_false (u v : Value) : selV false u v = v := by unfold selV; split <;> rfl
def put1 (a : Option (Bool × Value)) (f : Value → Option (Prop × Value)) : Res :=
  match a with
  | some (g, u) => match f u with
    | some (ob, v) => .put (g = true ∧ ob) (.ext v)
    | none => .bad
  | none => .bad
def putA (a : Option (Bool × Value)) (f : Value → Option (Prop × Value)) : Res :=
  match a with
  | some (g, u) => match f u with
    | some (ob, v) => .put (g = true ∧ ob) (.ext v)
    | none => .ask
  | none => .ask
def put2 (a b : Option (Bool × Value)) (f : Value → Value → Option (Prop × Value)) : Res :=
  match a, b with
  | some (g, u), some (h, w) => match f u w with
    | some (ob, v) => .put (g = true ∧ h = true ∧ ob) (.ext v)
    | none => .bad
  | _, _ => .bad
def pickV (c a b : Option (Bool × Value)) : Res :=
  match c, a, b with
  | some (g, .bool t), some (ga, u), some (gb, v) => .put (g = true ∧ (t = true → ga = true) ∧ (t = false → gb = true)) (.ext (selV t u v))
  | _, _, _ => .bad
def vals : List AV → Option (List Value)
  | [] => some []
  | .ext v :: r => (vals r).map (v :: ·)
  | _ :: _ => none
def aggA (l : List AV) : AV :=
  match vals l with
  | some vs => .ext (.agg vs.toArray)
  | none => .ag false l
def tupA (l : List AV) : AV :=
  match vals l with
  | some vs => .ext (.tuple vs.toArray)
  | none => .ag true l
def loadR (P : Program) (T : TypeId) (cs : List AV) (off : Nat) : Res :=
  match kindT P T, szO P T with
  | some true, some n => .put (off + n ≤ cs.length) (aggA ((cs.drop off).take n))
  | some false, some _ => match cs[off]? with
    | some v => .put True v
    | none => .bad
  | _, _ => .bad
def oneC : AV → Prop
  | .ext v => v.oneCell' = true
  | .own _ _ => True
  | .fn _ _ => True
  | .slo _ _ _ _ => True
  | _ => False
def allOne : List AV → Prop
  | [] => True
  | v :: r => oneC v ∧ allOne r
def cellsA : AV → Option (List AV)
  | .ext v => some (v.cells.toList.map .ext)
  | .own k off => some [.own k off]
  | .fn f c => some [.fn f c]
  | .slo k off n z => some [.slo k off n z]
  | .ag false l => some l
  | _ => none
def cellsG : AV → Option (List AV)
  | .ext (.agg vs) => some (vs.toList.map .ext)
  | .ag false l => some l
  | _ => none
def storeR (P : Program) (T : TypeId) (k : Nat) (cs : List AV) (off : Nat) (v : AV) : Res :=
  match kindT P T, szO P T with
  | some true, some n => match cellsG v with
    | some l => .sto (off + n ≤ cs.length ∧ l.length = n ∧ allOne l) k (cs.take off ++ (l ++ cs.drop (off + n)))
    | none => .bad
  | some false, some n => .sto (off < cs.length ∧ n = 1 ∧ oneC v) k (cs.set off v)
  | _, _ => .bad
def unV1 (u : UnOp) (v : Value) : Option (Prop × Value) :=
  match unV u v with
  | some w => some (True, w)
  | none => some (False, undef)
def binW (P : Program) (b : BinOp) (T : TypeId) (u w : Value) : Option (Prop × Value) :=
  match binV P b T u w with
  | some r => some r
  | none => some (False, undef)
def mkF (fn : Fn) (first : List AV) (cs : List AV) : Res :=
  match fn, first with
  | .func f, [] => .put True (.fn f cs)
  | _, _ => .bad
inductive Cl where
  | val (v : AV)
  | blt (b : Builtin)
  | inv
def evC (s : St) : Callee → Cl
  | .value g => .val (ev s g)
  | .builtin b => .blt b
  | .invoke _ _ => .inv
def normG (v : Value) : Bool → AV
  | true => .ext v
  | false => .gd false v
def normP (k off : Nat) : Bool → AV
  | true => .own k off
  | false => .gown false k off
def normA : AV → AV
  | .gd g v => normG v g
  | .gown g k off => normP k off g
  | v => v
def normL : List AV → List AV
  | [] => []
  | v :: r => normA v :: normL r
def lenV (P : Program) (T : TypeId) (v : Value) : Option (Prop × Value) :=
  match isSliceT P T, isStrT P T with
  | true, _ => some (isSl v = true, .int .i64 (slen v))
  | false, true => match v with
    | .string t => some (True, .int .i64 t.size)
    | _ => none
  | _, _ => none
def minV (x y : Value) : Option (Prop × Value) :=
  match x, y with
  | .int k a, .int k' b => if k = k' then some (True, .int k (if b < a then b else a)) else none
  | _, _ => none
def maxV (x y : Value) : Option (Prop × Value) :=
  match x, y with
  | .int k a, .int k' b => if k = k' then some (True, .int k (if b > a then b else a)) else none
  | _, _ => none
def lenR (P : Program) (ts : List TypeId) (args : List AV) : Res :=
  match ts, args with
  | [T], [.slo _ _ n _] => .put (isSliceT P T = true) (.ext (.int .i64 n))
  | [T], [x] => put1 x.val (lenV P T)
  | _, _ => .bad
def srcA (P : Program) (s : St) (z : Nat) (t : TypeId) : AV → Option (Prop × Nat × List AV)
  | .slo k off n z' => match lkH s.hp k with
    | some (_, cs) => some (isSliceT P t = true ∧ z' = z ∧ off + n * z ≤ cs.length, n, (cs.drop off).take (n * z))
    | none => none
  | .ext v => match isStrT P t with
    | true => match v with
      | .string x => some (z = 1, x.size, (x.data.toList.map fun b => .ext (.int .u8 b.toNat)))
      | _ => none
    | false => match rowS s.M z v with
      | some l => some (isSliceT P t = true, slen v, l.map .ext)
      | none => none
  | _ => none
mutual
def AV.kill (k : Nat) : AV → AV
  | .own j off => if j = k then .unk else .own j off
  | .gown g j off => if j = k then .unk else .gown g j off
  | .slo j off n z => if j = k then .unk else .slo j off n z
  | .fn f l => .fn f (killL k l)
  | .ag t l => .ag t (killL k l)
  | .ext v => .ext v
  | .gd g v => .gd g v
  | .unk => .unk
def killL (k : Nat) : List AV → List AV
  | [] => []
  | v :: r => v.kill k :: killL k r
end
def killE (k : Nat) : Env → Env
  | [] => []
  | (t, v) :: r => (t, v.kill k) :: killE k r
def killH (k : Nat) : Hp → Hp
  | [] => []
  | (j, T, cs) :: r => if j = k then killH k r else (j, T, killL k cs) :: killH k r
structure AwayS (k : Nat) (s : St) : Prop where
  env : ∀ t, k ∉ (lk s.env t).ment
  hp : ∀ j T cs, lkH s.hp j = some (T, cs) → j ≠ k ∧ k ∉ mentL cs
  fx : k ∉ s.fx
def awayB (k : Nat) (s : St) : Bool := !(hasK k (mentE s.env)) && (!(hasK k (mentH s.hp)) && !(hasK k s.fx))
def awayP (k : Nat) (s : St) : Prop := awayB k s = true ∨ AwayS k s
def brv (t : Bool) (A B : Prop) : Prop := (t = true → A) ∧ (t = false → B)
def obl (ob A : Prop) : Prop := ob ∧ A
def appR (P : Program) (s : St) (ts : List TypeId) (args : List AV) (d : Option Nat) (K : St → Prop) : Prop :=
  match ts, args with
  | [t, t'], [x, y] => match slcT P t with
    | some e => match szO P e, byO P e, zeroC P e with
      | some z, some by_, some zs => match srcA P s z t' y, d with
        | some (ob, m, new), some d => match x with
          | .slo k 0 n z' => match lkH s.hp k with
            | some (T, cs) => obl (T = e ∧ hasK k s.fx = false ∧ z' = z ∧ cs.length = n * z ∧ 0 < z ∧ ob ∧ allOne new ∧ hasK k (mentL new) = false ∧ (n + m) * by_ ≤ 140737488355328 ∧ n + m ≤ maxLen ∧ hasK k (mentL cs) = false ∧ zs.length = z)
              (K { env := (d, .slo k 0 (n + m) z) :: killE k s.env, hp := (k, e, cs ++ new) :: killH k s.hp, M := s.M, kb := s.kb, fx := s.fx, fr := s.fr })
            | none => False
          | .ext (.slice none 0 0) => obl (0 < z ∧ ob ∧ allOne new ∧ m * by_ ≤ 140737488355328 ∧ m ≤ maxLen ∧ awayP (s.kb + d) s ∧ hasK (s.kb + d) (mentL new) = false ∧ zs.length = z)
              (K { env := (d, .slo (s.kb + d) 0 m z) :: s.env, hp := (s.kb + d, e, new) :: s.hp, M := s.M, kb := s.kb, fx := s.fx, fr := s.fr })
          | _ => False
        | _, _ => False
      | _, _, _ => False
    | none => False
  | _, _ => False
def genR (P : Program) (s : St) (d : Option Nat) (K : St → Prop) : GenOp → Prop
  | .app ts args => appR P s ts args d K
def bltR (P : Program) (b : Builtin) (ts : List TypeId) (args : List AV) : Res :=
  match b with
  | .len => lenR P ts args
  | .min => match args with
    | [x, y] => put2 x.val y.val minV
    | _ => .ask
  | .max => match args with
    | [x, y] => put2 x.val y.val maxV
    | _ => .ask
  | .append => .gen (.app ts (normL args))
  | _ => .ask
def callR (P : Program) (cl : Cl) (ts : List TypeId) (args : List AV) : Res :=
  match cl with
  | .val (.fn f cs) => .call f (args ++ cs)
  | .blt b => bltR P b ts args
  | _ => .ask
def nilR : Option (Bool × Nat × Nat) → Res
  | some (g, k, off) => .put (g = true) (.own k off)
  | none => .bad
def fieldR (P : Program) (f : Option (Nat × TypeId)) (a : Option (Bool × Nat × Nat)) : Res :=
  match f, a with
  | some (o, T), some (g, k, off) => .put (g = true ∧ (szO P T).map (· == 0) = some false) (.own k (off + o))
  | _, _ => .bad
def isPt : Value → Bool
  | .pointer (some _) => true
  | _ => false
def addP (v : Value) (k : Nat) : Value :=
  match v with
  | .pointer (some a) => .pointer (some (a.add k))
  | _ => undef
def fldV (P : Program) (fo : Option (Nat × TypeId)) (g : Bool) (v : Value) : Res :=
  match fo with
  | some (o, T) => .put (g = true ∧ isPt v = true ∧ (szO P T).map (· == 0) = some false) (.ext (addP v o))
  | none => .bad
def fldA (P : Program) (fo : Option (Nat × TypeId)) : AV → Res
  | .ext v => fldV P fo true v
  | .gd g v => fldV P fo g v
  | v => fieldR P fo v.ptr?
def zeroR (P : Program) (T : TypeId) : Res :=
  match kindT P T, zeroC P T with
  | some false, some [v] => .put False (.ext v)
  | some true, some cs => .put False (.ext (.agg cs.toArray))
  | _, _ => .bad
def addOb (g : Bool) : Res → Res
  | .put ob v => .put (g = true ∧ ob) v
  | .sto ob k cs => .sto (g = true ∧ ob) k cs
  | _ => .bad
def loadH (P : Program) (T : TypeId) (g : Bool) (off : Nat) : Option (TypeId × List AV) → Res
  | some (_, cs) => addOb g (loadR P T cs off)
  | none => .bad
def storeH (P : Program) (T : TypeId) (v : AV) (g : Bool) (k off : Nat) : Option (TypeId × List AV) → Res
  | some (_, cs) => addOb g (storeR P T k cs off v)
  | none => .bad
def loadV (P : Program) (s : St) (T : TypeId) (u : Value) : Option (Prop × Value) := (lookM P T s.M u).map fun v => (True, v)
def loadX (P : Program) (s : St) (T : TypeId) : AV → Res
  | .own k off => loadH P T true off (lkH s.hp k)
  | .gown g k off => loadH P T g off (lkH s.hp k)
  | .ext u => put1 (some (true, u)) (loadV P s T)
  | .gd true u => put1 (some (true, u)) (loadV P s T)
  | .gd false _ => zeroR P T
  | _ => .bad
def storeX (P : Program) (s : St) (T : TypeId) (v : AV) : Option (Bool × Nat × Nat) → Res
  | some (g, k, off) => storeH P T v g k off (lkH s.hp k)
  | none => .ask
def callsB (P : Program) (f : FuncId) : Bool :=
  match P.funcs[f]? with
  | some fn => !(fn.name == "runtime.NumGoroutine") && fn.body.isSome
  | none => false
def placesT (P : Program) (T : TypeId) : Option (List (Nat × Nat × Bool)) :=
  match P.underlying T with
  | some (.struct fs) => fs.toList.mapM fun f => match P.info? f.type, kindT P f.type with
    | some i, some k => some (f.offset, i.size, k)
    | _, _ => none
  | _ => none
def unG : AV → Option (Bool × AV)
  | .gd g v => some (g, .ext v)
  | .gown g k off => some (g, .own k off)
  | .unk => none
  | v => some (true, v)
def partC (n : Nat) (k : Bool) (v : AV) : Option (Prop × List AV) :=
  match k with
  | true => match cellsG v with
    | some l => some (l.length = n, l)
    | none => none
  | false => some (oneC v ∧ n = 1, [v])
def buildL (pl : List (Nat × Nat × Bool)) : List AV → List (Nat × AV) → Option (Prop × List AV)
  | cells, [] => some (True, cells)
  | cells, (i, x) :: r => match pl[i]?, unG x with
    | some (off, n, k), some (g, v) => match partC n k v with
      | some (ob, vs) => match buildL pl (cells.take off ++ (vs ++ cells.drop (off + n))) r with
        | some (ob', out) => some (g = true ∧ ob ∧ off + n ≤ cells.length ∧ ob', out)
        | none => none
      | none => none
    | _, _ => none
def plN (sz : Nat) (k : Bool) : Nat → Nat → List (Nat × Nat × Bool)
  | 0, _ => []
  | n + 1, off => (off, sz, k) :: plN sz k n (off + sz)
def plT (P : Program) (T : TypeId) : Option (List (Nat × Nat × Bool)) :=
  match arrT P T with
  | some (n, e) => match szO P e, kindT P e with
    | some sz, some k => some (plN sz k n 0)
    | _, _ => none
  | none => placesT P T
def buildR (P : Program) (T : TypeId) (parts : List (Nat × AV)) : Res :=
  match plT P T, zeroC P T with
  | some pl, some cs => match buildL pl (cs.map .ext) parts with
    | some (ob, out) => .put ob (aggA out)
    | none => .bad
  | _, _ => .bad
def repN (z : List Value) : Nat → List Value
  | 0 => []
  | n + 1 => z ++ repN z n
def buildSR (P : Program) (T : TypeId) (n : Nat) (parts : List (Nat × AV)) : Res :=
  match slcT P T with
  | some e => match szO P e, kindT P e, zeroC P e with
    | some sz, some k, some z => match buildL (plN sz k n 0) ((repN z n).map .ext) parts with
      | some (ob, out) => .new ⟨ob ∧ (0 < n * sz ∨ n = 0) ∧ n * sz ≤ 16777216 ∧ z.length = sz, e, some (n, sz)⟩ out
      | none => .bad
    | _, _, _ => .bad
  | none => .bad
def makeR (P : Program) (T : TypeId) (a b : Option (Bool × Value)) : Res :=
  match slcT P T, a, b with
  | some e, some (g, .int _ n), some (h, .int _ c) => match szO P e, byO P e, zeroC P e with
    | some z, some by_, some zs => .new ⟨g = true ∧ h = true ∧ 0 ≤ n ∧ n ≤ c ∧ 0 < z ∧ zs.length = z ∧ by_ * c ≤ 140737488355328 ∧ c ≤ 140737488355328, e, some (n.toNat, z)⟩ ((repN zs c.toNat).map .ext)
    | _, _, _ => .bad
  | _, _, _ => .bad
def fieldX (P : Program) (S f : Nat) (v : AV) : Res :=
  match cellsG v, fOff P S f with
  | some l, some (off, T) => match kindT P T, szO P T with
    | some true, some n => .put (off + n ≤ l.length) (aggA ((l.drop off).take n))
    | some false, some _ => match l[off]? with
      | some v => .put True v
      | none => .bad
    | _, _ => .bad
  | _, _ => .bad
def fieldO (P : Program) (S f : Nat) : Option (Bool × AV) → Res
  | some (g, v) => addOb g (fieldX P S f v)
  | none => .bad
def extR (i : Nat) : Option (Bool × AV) → Res
  | some (g, .ext (.tuple vs)) => match vs[i]? with
    | some v => .put (g = true) (.ext v)
    | none => .bad
  | some (g, .ag true l) => match l[i]? with
    | some v => .put (g = true) v
    | none => .bad
  | _ => .bad
def idxA (P : Program) (T : TypeId) (x : AV) (i : Int) : Res :=
  match slcT P T with
  | some e => match szO P e with
    | some z => match x with
      | .slo k off n z' => .put (z' = z ∧ 0 ≤ i ∧ i < n) (.own k (off + i.toNat * z))
      | .ext v => .put (isSl v = true ∧ nilS v = false ∧ 0 ≤ i ∧ i < slen v) (.ext (elemP v z i.toNat))
      | .gd g v => .put (g = true ∧ isSl v = true ∧ nilS v = false ∧ 0 ≤ i ∧ i < slen v) (.ext (elemP v z i.toNat))
      | _ => .bad
    | none => .bad
  | none => match arrT P T with
    | some (n, e) => match szO P e, x with
      | some z, .own k off => .put (0 ≤ i ∧ i < n) (.own k (off + i.toNat * z))
      | _, _ => .bad
    | none => .bad
def idxR (P : Program) (T : TypeId) (x : AV) (i : Option (Bool × Value)) : Res :=
  match i with
  | some (g, .int _ i) => addOb g (idxA P T x i)
  | _ => .bad
def byteAt (s : ByteArray) (i : Nat) : Int := ((s.data.toList.getD i 0).toNat : Int)
def indV (P : Program) (T : TypeId) (x : Value) (i : Value) : Option (Prop × Value) :=
  match i with
  | .int _ i => match isStrT P T, x with
    | true, .string s => some (0 ≤ i ∧ i < s.size, .int .u8 (byteAt s i.toNat))
    | false, .agg cs => match arrT P T with
      | some (n, e) => match kindT P e, szO P e with
        | some false, some z => match cs[i.toNat * z]? with
          | some v => some (0 ≤ i ∧ i < n, v)
          | none => none
        | _, _ => none
      | none => none
    | _, _ => none
  | _ => none
def bndO (s : St) (dflt : Int) : Option Operand → Option (Prop × Int)
  | none => some (True, dflt)
  | some x => match (ev s x).val with
    | some (g, .int _ i) => some (g = true, i)
    | _ => none
def slcR (P : Program) (s : St) (T : TypeId) (x : AV) (lo hi : Option Operand) : Res :=
  match slcT P T, x with
  | some e, .slo k off n z' => match szO P e, bndO s 0 lo, bndO s n hi with
    | some z, some (o1, l), some (o2, h) => .put (z' = z ∧ o1 ∧ o2 ∧ 0 ≤ l ∧ l ≤ h ∧ h ≤ n) (.slo k (off + l.toNat * z) (h.toNat - l.toNat) z)
    | _, _, _ => .bad
  | some e, .ext v => match szO P e, bndO s 0 lo, bndO s (slen v) hi with
    | some z, some (o1, l), some (o2, h) => .put (isSl v = true ∧ o1 ∧ o2 ∧ 0 ≤ l ∧ l ≤ h ∧ h ≤ scap v) (.ext (subS v z l.toNat h.toNat))
    | _, _, _ => .bad
  | none, .ext (.string x) => match bndO s 0 lo, bndO s x.size hi with
    | some (o1, l), some (o2, h) => .put (isStrT P T = true ∧ o1 ∧ o2 ∧ 0 ≤ l ∧ l ≤ h ∧ h ≤ x.size) (.ext (.string (x.extract l.toNat h.toNat)))
    | _, _ => .bad
  | _, _ => .bad
def slcG (P : Program) (s : St) (T : TypeId) (x : AV) (lo hi : Option Operand) : Res :=
  match x with
  | .gd g v => addOb g (slcR P s T (.ext v) lo hi)
  | v => slcR P s T v lo hi
theorem slcG_gd (P : Program) (s : St) (T : TypeId) (g : Bool) (v : Value) (lo hi : Option Operand) : slcG P s T (.gd g v) lo hi = addOb g (slcR P s T (.ext v) lo hi) := rfl
theorem slcG_ext (P : Program) (s : St) (T : TypeId) (v : Value) (lo hi : Option Operand) : slcG P s T (.ext v) lo hi = slcR P s T (.ext v) lo hi := rfl
theorem slcG_slo (P : Program) (s : St) (T : TypeId) (k off n z : Nat) (lo hi : Option Operand) : slcG P s T (.slo k off n z) lo hi = slcR P s T (.slo k off n z) lo hi := rfl
def conV (P : Program) (S T : TypeId) (u : Value) : Option (Prop × Value) :=
  match intT P T with
  | some k => match intT P S, u with
    | some _, .int _ n => some (True, .int k (k.wrap n))
    | _, _ => none
  | none => match isStrT P T, isStrT P S, u with
    | true, true, .string x => some (True, .string x)
    | true, false, .int _ n => if (intT P S).isSome = true then some (True, .string (Utf8.encode n)) else none
    | _, _, _ => none
def boxR (T : TypeId) (v : AV) : Res :=
  match cellsA v with
  | some l => .new ⟨True, T, none⟩ l
  | none => .bad
def tOp (P : Program) (s : St) : Op → Res
  | .move x | .assign x => .put True (ev s x)
  | .pick c a b => pickV (ev s c).val (ev s a).val (ev s b).val
  | .binOp b T x y _ => put2 (ev s x).val (ev s y).val (binW P b T)
  | .unOp u _ x => put1 (ev s x).val (unV1 u)
  | .extract x i => extR i (unG (ev s x))
  | .nilCheck x => nilR (ev s x).ptr?
  | .fieldAddr S x f => fldA P (fOff P S f) (ev s x)
  | .alloc T => match zeroC P T with
      | some cs => .new ⟨True, T, none⟩ (cs.map .ext)
      | none => .bad
  | .box T x => boxR T (ev s x)
  | .load T x => loadX P s T (ev s x)
  | .store T x y => storeX P s T (ev s y) (ev s x).ptr?
  | .makeFunc fn first cs => mkF fn (first.toList.map (ev s)) (cs.toList.map (ev s))
  | .call c => callR P (evC s c.callee) c.argTypes.toList (c.args.toList.map (ev s))
  | .buildSlice T n ps => buildSR P T n (ps.toList.map fun p => (p.1, ev s p.2))
  | .build T ps => buildR P T (ps.toList.map fun p => (p.1, ev s p.2))
  | .field S x f => fieldO P S f (unG (ev s x))
  | .makeSlice T n c => makeR P T (ev s n).val (ev s c).val
  | .indexAddr T x i => idxR P T (ev s x) (ev s i).val
  | .index T x i => put2 (ev s x).val (ev s i).val (indV P T)
  | .slice T x lo hi none => slcG P s T (ev s x) lo hi
  | .convert S T x => putA (ev s x).val (conV P S T)
  | _ => .ask
def opAt : List Oper → Nat → Option Oper
  | [], _ => none
  | o :: _, 0 => some o
  | _ :: r, n + 1 => opAt r n
theorem opAt_eq : ∀ (l : List Oper) (j : Nat), opAt l j = l[j]?
  | [], _ => rfl
  | o :: _, 0 => rfl
  | _ :: r, n + 1 => by simp [opAt, opAt_eq r n]
theorem opAt_arr (l : List Oper) (j : Nat) : opAt (l.toArray).toList j = opAt l j := by simp
theorem opAt_0 (o : Oper) (r : List Oper) : opAt (o :: r) 0 = some o := rfl
theorem opAt_S (o : Oper) (r : List Oper) (n : Nat) : opAt (o :: r) (n + 1) = opAt r n := rfl
def dstO : Option Oper → Option Nat
  | some o => o.dst
  | none => none
def gslot (ops : List Oper) (j : Nat) : Option Nat := dstO (opAt ops j)
theorem gslot_eq (ops : List Oper) (j : Nat) : gslot ops j = (ops[j]?).bind (·.dst) := by
  unfold gslot
  rw [opAt_eq]
  cases ops[j]? <;> rfl
def guardB (ops : List Oper) (s : St) : Option (Nat × Bool) → Option Bool
  | none => some true
  | some (j, want) => match gslot ops j with
    | some t => match (lk s.env t).val with
      | some (gg, .bool b) => some (gg && (b == want))
      | _ => none
    | none => none
structure Cx where
  w0 : World
  M0 : Mem
  X : List Nat
  ρ0 : Rho
  ks : Nat → Bool
def Mem.le (M M' : Mem) : Prop := ∀ b o, M b = some o → M' b = some o
theorem Mem.le.refl (M : Mem) : Mem.le M M := fun _ _ h => h
theorem Mem.le.trans {a b c : Mem} (h : Mem.le a b) (k : Mem.le b c) : Mem.le a c := fun x o hx => k x o (h x o hx)
def Sub (M : Mem) (w : World) : Prop := ∀ b o, M b = some o → w.heap[b]? = some o
def ptr (b off : Nat) : Value := .pointer (some ⟨b, off, none⟩)
def isSlo (ρ : Rho) (k off len z : Nat) (u : Value) : Prop :=
  (∃ b cap, ρ k = some b ∧ u = .slice (some ⟨b.b, off, none⟩) len cap ∧ len ≤ cap ∧ off + cap * z ≤ b.n) ∨ (len = 0 ∧ ∃ a : Option Addr, (∀ x, a = some x → x.spot = none) ∧ u = .slice a 0 0)
def aggV (t : Bool) (us : List Value) : Value := if t = true then .tuple us.toArray else .agg us.toArray
mutual
def AV.is (ρ : Rho) : AV → Value → Prop
  | .ext v, u => u = v
  | .gd g v, u => u = if g = true then v else undef
  | .own k off, u => ∃ b, ρ k = some b ∧ u = ptr b.b off
  | .gown g k off, u => if g = true then ∃ b, ρ k = some b ∧ u = ptr b.b off else u = undef
  | .slo k off len z, u => isSlo ρ k off len z u
  | .fn f l, u => ∃ us, isL ρ l us ∧ u = .func (.func f) #[] us.toArray
  | .ag t l, u => ∃ us, isL ρ l us ∧ u = aggV t us
  | .unk, _ => True
def isL (ρ : Rho) : List AV → List Value → Prop
  | [], us => us = []
  | v :: l, us => ∃ u r, us = u :: r ∧ v.is ρ u ∧ isL ρ l r
end
structure Row (ρ : Rho) (w : World) (T : TypeId) (cs : List AV) (b : Blk) (arr : Array Value) : Prop where
  there : w.heap[b.b]? = some (.cells arr T (0, 0))
  size : arr.size = b.n
  le : cs.length ≤ b.n
  is : ∀ (i : Nat) (v : AV), cs[i]? = some v → v.is ρ (arr.getD i undef)
structure Gam (c : Cx) (n : Nat) (s : St) (ρ : Rho) (a : Act) (w : World) : Prop where
  df : a.defers = []
  sz : a.tmps.size = n
  env : ∀ t, (lk s.env t).is ρ (a.tmps.getD t undef)
  hp : ∀ k T cs b, lkH s.hp k = some (T, cs) → ρ k = some b → (∃ arr, Row ρ w T cs b arr) ∧ (c.w0.heap.size ≤ b.b ∨ b.b ∈ c.X) ∧ s.M b.b = none
  no : ∀ k T cs, lkH s.hp k = some (T, cs) → ρ k = none → cs = []
  inj : ∀ k k' b b', (lkH s.hp k).isSome = true → (lkH s.hp k').isSome = true → ρ k = some b → ρ k' = some b' → b.b = b'.b → k = k'
  os : w.os = c.w0.os
  tape : w.tape = c.w0.tape
  output : w.output = c.w0.output
  size : c.w0.heap.size ≤ w.heap.size
  block : ∀ i, i < c.w0.heap.size → i ∉ c.X → w.heap[i]? = c.w0.heap[i]?
  sub : Sub s.M w
  le : Mem.le c.M0 s.M
  mf : ∀ b, s.M b ≠ none → c.M0 b ≠ none ∨ c.w0.heap.size ≤ b
  fix : ∀ k, c.ks k = true → (lkH s.hp k).isSome = true
  fx : ∀ k, k ∈ s.fx → ρ k = c.ρ0 k
  kl : ∀ k, c.ks k = true → k < s.kb
  fr : ∀ b, b ∈ s.fr → c.w0.heap.size ≤ b ∧ c.M0 b = none
def Ga (c : Cx) (n : Nat) (s : St) (a : Act) (w : World) : Prop := ∃ ρ, Gam c n s ρ a w
def dOK (n : Nat) : Option Nat → Prop
  | some d => d < n
  | none => True
def subH : Hp → List Nat → Hp
  | [], _ => []
  | (k, x) :: r, ks => if hasK k ks = true then (k, x) :: subH r ks else subH r ks
def mentO : Option (TypeId × List AV) → List Nat
  | some (_, cs) => mentL cs
  | none => []
def cellsK (hp : Hp) : List Nat → List Nat
  | [] => []
  | k :: r => mentO (lkH hp k) ++ cellsK hp r
def reachK (hp : Hp) (ks : List Nat) : List Nat := cellsK hp ks ++ ks
def dropH (G : Hp) : Hp → Hp
  | [] => []
  | (k, x) :: r => if (lkH G k).isSome = true then dropH G r else (k, x) :: dropH G r
def joinH (hp H' : Hp) : Hp := H' ++ dropH H' hp
structure HeapIs (ρ : Rho) (H : Hp) (M : Mem) (w : World) : Prop where
  hp : ∀ k T cs b, lkH H k = some (T, cs) → ρ k = some b → (∃ arr, Row ρ w T cs b arr) ∧ M b.b = none
  no : ∀ k T cs, lkH H k = some (T, cs) → ρ k = none → cs = []
  inj : ∀ k k' b b', (lkH H k).isSome = true → (lkH H k').isSome = true → ρ k = some b → ρ k' = some b' → b.b = b'.b → k = k'
  sub : Sub M w
structure Left (mv : List Nat) (H : Hp) (M : Mem) (ρ ρ' : Rho) (w : World) (u : Value) (v : AV) (H' : Hp) (M' : Mem) (w' : World) : Prop where
  is : v.is ρ' u
  heap : HeapIs ρ' H' M' w'
  keep : ∀ k, (lkH H k).isSome = true → (lkH H' k).isSome = true
  same : ∀ k, (lkH H k).isSome = true ∨ lkH H' k = none → k ∉ mv → ρ' k = ρ k
  ment : ∀ k, lkH H' k = none → k ∉ v.ment ∧ ∀ j T cs, lkH H' j = some (T, cs) → k ∉ mentL cs
  fresh : ∀ k b, (lkH H' k).isSome = true → ρ' k = some b → w.heap.size ≤ b.b ∨ ∃ j x, (lkH H j).isSome = true ∧ ρ j = some x ∧ x.b = b.b
  os : w'.os = w.os
  tape : w'.tape = w.tape
  output : w'.output = w.output
  size : w.heap.size ≤ w'.heap.size
  block : ∀ b, b < w.heap.size → (∀ k x, (lkH H k).isSome = true → ρ k = some x → x.b ≠ b) → w'.heap[b]? = w.heap[b]?
  le : Mem.le M M'
  mem : ∀ b, M' b ≠ none → M b ≠ none ∨ w.heap.size ≤ b
def CallS (P : Program) (f : FuncId) (args : List AV) (H : Hp) (M : Mem) (mv : List Nat) (K : AV → Hp → Mem → Prop) : Prop :=
  ∀ ρ w us, HeapIs ρ H M w → isL ρ args us →
    Calls P f us.toArray w fun e w' => ∃ u v H' M' ρ', e = .returned u ∧ K v H' M' ∧ Left mv H M ρ ρ' w u v H' M' w'
def newKeys (s : St) (H : Hp) : Hp → Prop
  | [] => True
  | (k, _) :: r => ((lkH H k).isSome = true ∨ awayP k s) ∧ newKeys s H r
def killEs : List Nat → Env → Env
  | [], e => e
  | k :: r, e => killE k (killEs r e)
def killHs : List Nat → Hp → Hp
  | [], e => e
  | k :: r, e => killH k (killHs r e)
def CallK (P : Program) (f : FuncId) (args : List AV) (s : St) (d : Option Nat) (K : St → Prop) : Prop :=
  ∃ mv, (∀ k ∈ mv, (lkH (subH s.hp (reachK s.hp (mentL args))) k).isSome = true ∧ k ∉ s.fx) ∧ CallS P f args (subH s.hp (reachK s.hp (mentL args))) s.M mv fun v H' M' =>
    newKeys s (subH s.hp (reachK s.hp (mentL args))) H' ∧ K ({ env := killEs mv s.env, hp := joinH (killHs mv s.hp) H', M := M', kb := s.kb, fx := s.fx, fr := s.fr : St }.put d v)
def CallK0 (P : Program) (f : FuncId) (args : List AV) (s : St) (d : Option Nat) (K : St → Prop) : Prop :=
  CallS P f args (subH s.hp (reachK s.hp (mentL args))) s.M [] fun v H' M' =>
    newKeys s (subH s.hp (reachK s.hp (mentL args))) H' ∧ K ({ env := s.env, hp := joinH s.hp H', M := M', kb := s.kb, fx := s.fx, fr := s.fr : St }.put d v)
def AskK (P : Program) (o : Oper) (s : St) (K : St → Prop) : Prop :=
  ∀ c n a w Q, Ga c n s a w → dOK n o.dst → o.wp P a w (fun a' w' => ∃ s', K s' ∧ Ga c n s' a' w') Q
def newK (s : St) (d : Option Nat) (D : NewD) (cs : List AV) (K : St → Prop) : Prop :=
  match d with
  | some d => obl (D.ob ∧ awayP (s.kb + d) s) (K { env := (d, D.av (s.kb + d)) :: s.env, hp := (s.kb + d, D.T, cs) :: s.hp, M := s.M, kb := s.kb, fx := s.fx, fr := s.fr })
  | none => False
def fin (P : Program) (o : Oper) (s : St) (K : St → Prop) : Res → Prop
  | .bad => False
  | .put ob v => obl ob (K (s.put o.dst v))
  | .sto ob k cs => obl ob (K ({ s with hp := upH s.hp k cs }.put o.dst .unk))
  | .new D cs => newK s o.dst D cs K
  | .call f args => obl (callsB P f = true) (CallK P f (normL args) s o.dst K)
  | .gen G => genR P s o.dst K G
  | .ask => AskK P o s K
def finG (P : Program) (o : Oper) (s : St) (K : St → Prop) (g : Bool) : Res → Prop
  | .put ob (.ext v) => obl (g = true → ob) (K (s.put o.dst (.gd g v)))
  | .put ob (.gd g' v) => obl (g = true → g' = true ∧ ob) (K (s.put o.dst (.gd g v)))
  | .put ob (.own k off) => obl (g = true → ob) (K (s.put o.dst (.gown g k off)))
  | r => brv g (fin P o s K r) (K (s.put o.dst (.ext undef)))
def stepG (P : Program) (o : Oper) (s : St) (K : St → Prop) : Option Bool → Prop
  | some g => finG P o s K g (tOp P s o.op)
  | none => False
def step1 (P : Program) (ops : List Oper) (o : Oper) (s : St) (K : St → Prop) : Option (Nat × Bool) → Prop
  | none => fin P o s K (tOp P s o.op)
  | some g => stepG P o s K (guardB ops s (some g))
def runOps (P : Program) (ops : List Oper) : List Oper → (St → Prop) → St → Prop
  | [], K, s => K s
  | o :: r, K, s => step1 P ops o s (runOps P ops r K) o.guard
def finD (P : Program) (o : Oper) (s : St) (K : St → Prop) : Res → Prop
  | .bad => False
  | .put ob v => obl ob (K (s.put o.dst v))
  | .sto ob k cs => obl ob (K ({ s with hp := upH s.hp k cs }.put o.dst .unk))
  | .new D cs => newK s o.dst D cs K
  | .call f args => obl (callsB P f = true) (CallK0 P f (normL args) s o.dst K)
  | .gen G => genR P s o.dst K G
  | .ask => False
def finGD (P : Program) (o : Oper) (s : St) (K : St → Prop) (g : Bool) : Res → Prop
  | .put ob (.ext v) => obl (g = true → ob) (K (s.put o.dst (.gd g v)))
  | .put ob (.gd g' v) => obl (g = true → g' = true ∧ ob) (K (s.put o.dst (.gd g v)))
  | .put ob (.own k off) => obl (g = true → ob) (K (s.put o.dst (.gown g k off)))
  | r => brv g (finD P o s K r) (K (s.put o.dst (.ext undef)))
def stepGD (P : Program) (o : Oper) (s : St) (K : St → Prop) : Option Bool → Prop
  | some g => finGD P o s K g (tOp P s o.op)
  | none => False
def stepD (P : Program) (ops : List Oper) (o : Oper) (s : St) (K : St → Prop) : Option (Nat × Bool) → Prop
  | none => finD P o s K (tOp P s o.op)
  | some g => stepGD P o s K (guardB ops s (some g))
theorem finD_fin {P : Program} {o : Oper} {s : St} {K : St → Prop} {r : Res} (h : finD P o s K r) : fin P o s K r := by
  cases r with
  | call f args => exact ⟨h.1, [], fun k hk => (by cases hk), h.2⟩
  | ask => exact h.elim
  | _ => exact h
theorem stepD_step {P : Program} {ops : List Oper} {o : Oper} {s : St} {K : St → Prop} {g : Option (Nat × Bool)} (h : stepD P ops o s K g) : step1 P ops o s K g := by
  cases g with
  | none => exact finD_fin h
  | some g =>
    simp only [stepD, step1] at h ⊢
    cases hg : guardB ops s (some g) with
    | none => rw [hg] at h; exact h.elim
    | some b =>
      rw [hg] at h
      simp only [stepGD, stepG] at h ⊢
      generalize tOp P s o.op = r at h ⊢
      have key : brv b (finD P o s K r) (K (s.put o.dst (.ext undef))) → brv b (fin P o s K r) (K (s.put o.dst (.ext undef))) := fun h => ⟨fun e => finD_fin (h.1 e), h.2⟩
      cases r with
      | put ob v => cases v <;> first | exact h | exact key h
      | _ => exact key h
theorem brv_true (A B : Prop) : brv true A B = A := by simp [brv]
theorem brv_false (A B : Prop) : brv false A B = B := by simp [brv]
inductive Item where
  | code (c : Code)
  | blk (id : Nat)
  | stop (J : St → Prop)
  | marks (l : List Nat)
def marksOf : List Item → List Nat
  | [] => []
  | .marks l :: _ => l
  | _ :: k => marksOf k
def headId : Code → Option Nat
  | .region id _ _ => some id
  | .seq a _ => headId a
  | .block _ c => headId c
  | .loop c => headId c
  | _ => none
def cutO (k : List Item) : Option Nat → Bool
  | some i => (marksOf k).contains i
  | none => false
def popTo (id : Nat) : List Item → List Item
  | [] => []
  | .blk i :: k => if i = id then k else popTo id k
  | _ :: k => popTo id k
def hasBlk (id : Nat) : List Item → Bool
  | [] => false
  | .blk i :: k => if i = id then true else hasBlk id k
  | _ :: k => hasBlk id k
def csize : Code → Nat
  | .seq a b => csize a + csize b + 3
  | .cond _ a b => csize a + csize b + 3
  | .block _ c => csize c + 3
  | .loop c => csize c + 3
  | .scope c => csize c + 3
  | _ => 1
def isize : List Item → Nat
  | [] => 0
  | .code c :: k => csize c + 1 + isize k
  | .blk _ :: k => 1 + isize k
  | .stop _ :: k => 1 + isize k
  | .marks _ :: k => 1 + isize k
theorem isize_pop (id : Nat) : ∀ k, isize (popTo id k) ≤ isize k
  | [] => Nat.le_refl _
  | .blk i :: k => by
    have := isize_pop id k
    simp only [popTo, isize]; split <;> omega
  | .code _ :: k => by have := isize_pop id k; simp only [popTo, isize]; omega
  | .stop _ :: k => by have := isize_pop id k; simp only [popTo, isize]; omega
  | .marks _ :: k => by have := isize_pop id k; simp only [popTo, isize]; omega
def DrawK (P : Program) (ops : Array Oper) (s : St) (K : St → Prop) : Prop :=
  ∀ c n a w Q, (∀ o ∈ ops.toList, dOK n o.dst) → Ga c n s a w → (∀ s' a' w', K s' → Ga c n s' a' w' → Q .normal a' w') →
    wpAny P .any ops Q ops.size (Array.replicate ops.size false) a w
def regK (P : Program) (ops : Array Oper) (s : St) (K : St → Prop) : Bool → Prop
  | false => runOps P ops.toList ops.toList K s
  | true => DrawK P ops s K
def condK (a : Option (Bool × Value)) (A B : Prop) : Prop :=
  match a with
  | some (g, .bool t) => obl (g = true) (brv t A B)
  | _ => False
def Le (s z : St) : Prop := ∀ c n ρ a w, Gam c n s ρ a w → ∃ ρ', Gam c n z ρ' a w
theorem Le.refl (s : St) : Le s s := fun c n ρ a w h => ⟨ρ, h⟩
def LoopK (P : Program) (R : St → Prop) (c : Code) (s : St) (V : (St → Prop) → St → Prop) : Prop :=
  ∃ (I : Nat → St → Prop), (∃ m z, Le s z ∧ I m z) ∧ ∀ m s', I m s' → V (fun s'' => ∃ m' z, m' < m ∧ Le s'' z ∧ I m' z) s'
def CutK (s : St) (A : (St → Prop) → St → Prop) (B : St → Prop) : Prop := ∃ J : St → Prop, A (fun s => ∃ z, Le s z ∧ J z) s ∧ ∀ z, J z → B z
def seqK (A C : Prop) : Bool → Prop
  | false => A
  | true => C
def vc (P : Program) (R : St → Prop) : List Item → St → Prop
  | [], s => R s
  | .code .skip :: k, s => vc P R k s
  | .code (.label _) :: k, s => vc P R k s
  | .code (.seq a b) :: k, s => seqK (vc P R (.code a :: .code b :: k) s) (CutK s (fun J s => vc P R (.code a :: .stop J :: .code b :: k) s) (fun z => vc P R (.code b :: k) z)) (cutO k (headId b))
  | .code (.block id c) :: k, s => vc P R (.code c :: .blk id :: k) s
  | .code (.exit id) :: k, s => obl (hasBlk id k = true) (vc P R (popTo id k) s)
  | .code .ret :: _, s => R s
  | .code (.cond c a b) :: k, s => condK (ev s c).val (vc P R (.code a :: k) s) (vc P R (.code b :: k) s)
  | .code (.region _ ops d) :: k, s => regK P ops s (fun s' => vc P R k s') d
  | .code (.loop c) :: k, s => LoopK P R c s (fun J s' => vc P R (.code c :: .stop J :: k) s')
  | .blk _ :: k, s => vc P R k s
  | .stop J :: _, s => J s
  | .marks _ :: k, s => vc P R k s
  | .code (.scope c) :: k, s => vc P R (.code c :: k) s
  | _ :: _, _ => False
termination_by k => isize k
decreasing_by
  all_goals simp only [isize, csize]
  all_goals first | omega | (have := isize_pop id k; omega)
def hold {α : Sort u} (x : α) : α := x
def holdA {α : Sort u} (x : α) : α := x
theorem hold_pre {α : Sort u} (x : α) : hold x = holdA x := Eq.trans (Eq.refl x) (Eq.refl x)
theorem hold_eq {α : Sort u} (x : α) : holdA x = x := Eq.trans (Eq.refl x) (Eq.refl x)
theorem fin_congr (P : Program) (o : Oper) (s : St) (K : St → Prop) (r r' : Res) (h : hold r = r') : fin P o s K r = fin P o s K r' := by subst h; rfl
theorem finG_congr (P : Program) (o : Oper) (s : St) (K : St → Prop) (g g' : Bool) (r r' : Res) (hg : hold g = g') (h : hold r = r') : finG P o s K g r = finG P o s K g' r' := by subst h; subst hg; rfl
theorem finD_congr (P : Program) (o : Oper) (s : St) (K : St → Prop) (r r' : Res) (h : hold r = r') : finD P o s K r = finD P o s K r' := by subst h; rfl
theorem finGD_congr (P : Program) (o : Oper) (s : St) (K : St → Prop) (g g' : Bool) (r r' : Res) (hg : hold g = g') (h : hold r = r') : finGD P o s K g r = finGD P o s K g' r' := by subst h; subst hg; rfl
theorem stepGD_congr (P : Program) (o : Oper) (s : St) (K : St → Prop) (g g' : Option Bool) (hg : hold g = g') : stepGD P o s K g = stepGD P o s K g' := by subst hg; rfl
theorem stepD_congr (P : Program) (ops : List Oper) (o : Oper) (s s' : St) (K : St → Prop) (g : Option (Nat × Bool)) (h : hold s = s') : stepD P ops o s K g = stepD P ops o s' K g := by subst h; rfl
theorem CallK0_congr (P : Program) (f : FuncId) (args args' : List AV) (s s' : St) (d : Option Nat) (K : St → Prop) (h : hold args = args') (hs : hold s = s') : CallK0 P f args s d K = CallK0 P f args' s' d K := by subst h; subst hs; rfl
theorem stepG_congr (P : Program) (o : Oper) (s : St) (K : St → Prop) (g g' : Option Bool) (hg : hold g = g') : stepG P o s K g = stepG P o s K g' := by subst hg; rfl
theorem step1_congr (P : Program) (ops : List Oper) (o : Oper) (s s' : St) (K : St → Prop) (g : Option (Nat × Bool)) (h : hold s = s') : step1 P ops o s K g = step1 P ops o s' K g := by subst h; rfl
theorem runOps_congr (P : Program) (ops l : List Oper) (K : St → Prop) (s s' : St) (h : hold s = s') : runOps P ops l K s = runOps P ops l K s' := by subst h; rfl
theorem brv_congr (t t' : Bool) (A B : Prop) (h : hold t = t') : brv t A B = brv t' A B := by subst h; rfl
theorem obl_congr (a a' A : Prop) (h : hold a = a') : obl a A = obl a' A := by subst h; rfl
theorem DrawK_congr (P : Program) (ops : Array Oper) (s s' : St) (K : St → Prop) (h : hold s = s') : DrawK P ops s K = DrawK P ops s' K := by subst h; rfl
theorem regK_congr (P : Program) (ops : Array Oper) (s s' : St) (K : St → Prop) (d : Bool) (h : hold s = s') : regK P ops s K d = regK P ops s' K d := by subst h; rfl
theorem CallK_congr (P : Program) (f : FuncId) (args args' : List AV) (s s' : St) (d : Option Nat) (K : St → Prop) (h : hold args = args') (hs : hold s = s') : CallK P f args s d K = CallK P f args' s' d K := by subst h; subst hs; rfl
theorem AskK_congr (P : Program) (o : Oper) (s s' : St) (K : St → Prop) (hs : hold s = s') : AskK P o s K = AskK P o s' K := by subst hs; rfl
theorem newK_congr (s s' : St) (d : Option Nat) (T : NewD) (cs cs' : List AV) (K : St → Prop) (hs : hold s = s') (hc : hold cs = cs') : newK s d T cs K = newK s' d T cs' K := by subst hs; subst hc; rfl
theorem genR_congr (P : Program) (s s' : St) (d : Option Nat) (K : St → Prop) (G G' : GenOp) (hs : hold s = s') (h : hold G = G') : genR P s d K G = genR P s' d K G' := by subst hs; subst h; rfl
theorem appR_congr (P : Program) (s s' : St) (ts : List TypeId) (args args' : List AV) (d : Option Nat) (K : St → Prop) (hs : hold s = s') (h : hold args = args') : appR P s ts args d K = appR P s' ts args' d K := by subst hs; subst h; rfl
theorem condK_congr (a a' : Option (Bool × Value)) (A B : Prop) (h : hold a = a') : condK a A B = condK a' A B := by subst h; rfl
theorem seqK_congr (A C : Prop) (b b' : Bool) (h : hold b = b') : seqK A C b = seqK A C b' := by subst h; rfl
theorem seqK_false (A C : Prop) : seqK A C false = A := by unfold seqK; exact Eq.trans (Eq.refl _) (Eq.refl _)
theorem seqK_true (A C : Prop) : seqK A C true = C := by unfold seqK; exact Eq.trans (Eq.refl _) (Eq.refl _)
theorem CutK_congr (s s' : St) (A : (St → Prop) → St → Prop) (B : St → Prop) (h : hold s = s') : CutK s A B = CutK s' A B := by subst h; rfl
theorem LoopK_congr (P : Program) (R : St → Prop) (c : Code) (s s' : St) (V : (St → Prop) → St → Prop) (h : hold s = s') : LoopK P R c s V = LoopK P R c s' V := by subst h; rfl
theorem vc_congr (P : Program) (R : St → Prop) (k : List Item) (s s' : St) (h : hold s = s') : vc P R k s = vc P R k s' := by subst h; rfl
end Go.Proofs.YtamghpnjdohnjaaDoor.Sx
namespace Go.Proofs.YtamghpnjdohnjaaDoor.Sx
open Go Go.RowKit
set_option linter.unusedVariables false
set_option linter.unusedSimpArgs false
section
variable {ρ ρ' : Rho}
theorem isL_length : ∀ {l : List AV} {us : List Value}, isL ρ l us → us.length = l.length
  | [], us, h => by have h : us = [] := h; simp [h]
  | v :: l, us, h => by obtain ⟨u, r, rfl, _, h2⟩ := h; simp [isL_length h2]
theorem isL_get : ∀ {l : List AV} {us : List Value}, isL ρ l us → ∀ (i : Nat) (v : AV), l[i]? = some v → v.is ρ (us.getD i undef)
  | [], us, h, i, v, hv => by simp at hv
  | x :: l, us, h, 0, v, hv => by obtain ⟨u, r, rfl, h1, h2⟩ := h; simp at hv; subst hv; simpa using h1
  | x :: l, us, h, i + 1, v, hv => by obtain ⟨u, r, rfl, h1, h2⟩ := h; simp at hv; simpa using isL_get h2 i v hv
theorem isL_of : ∀ {l : List AV} {us : List Value}, us.length = l.length → (∀ (i : Nat) (v : AV), l[i]? = some v → v.is ρ (us.getD i undef)) → isL ρ l us
  | [], us, h, _ => by show us = []; exact List.eq_nil_of_length_eq_zero (by simpa using h)
  | v :: l, [], h, _ => by simp at h
  | v :: l, u :: us, h, hv => ⟨u, us, rfl, by simpa using hv 0 v rfl, isL_of (by simpa using h) fun i x hx => by simpa using hv (i + 1) x (by simpa using hx)⟩
theorem isL_append : ∀ {l m : List AV} {us vs : List Value}, isL ρ l us → isL ρ m vs → isL ρ (l ++ m) (us ++ vs)
  | [], m, us, vs, h, k => by have h : us = [] := h; subst h; exact k
  | v :: l, m, us, vs, h, k => by obtain ⟨u, r, rfl, h1, h2⟩ := h; exact ⟨u, r ++ vs, rfl, h1, isL_append h2 k⟩
theorem isL_take : ∀ {l : List AV} {us : List Value} (n : Nat), isL ρ l us → isL ρ (l.take n) (us.take n)
  | _, _, 0, _ => by simp [isL]
  | [], us, n + 1, h => by have h : us = [] := h; subst h; simp [isL]
  | v :: l, us, n + 1, h => by obtain ⟨u, r, rfl, h1, h2⟩ := h; exact ⟨u, r.take n, by simp, h1, isL_take n h2⟩
theorem isL_drop : ∀ {l : List AV} {us : List Value} (n : Nat), isL ρ l us → isL ρ (l.drop n) (us.drop n)
  | _, _, 0, h => by simpa using h
  | [], us, n + 1, h => by have h : us = [] := h; subst h; simp [isL]
  | v :: l, us, n + 1, h => by obtain ⟨u, r, rfl, h1, h2⟩ := h; simpa using isL_drop n h2
theorem isL_ext : ∀ vs : List Value, isL ρ (vs.map .ext) vs
  | [] => rfl
  | v :: r => ⟨v, r, rfl, rfl, isL_ext r⟩
theorem vals_isL : ∀ {l : List AV} {vs us : List Value}, vals l = some vs → isL ρ l us → us = vs
  | [], vs, us, h, k => by simp [vals] at h; subst h; exact k
  | .ext v :: r, vs, us, h, k => by
    simp only [vals, Option.map_eq_some_iff] at h
    obtain ⟨xs, hx, rfl⟩ := h
    obtain ⟨u, q, rfl, h1, h2⟩ := k
    have h1 : u = v := h1
    rw [h1, vals_isL hx h2]
  | .gd _ _ :: r, vs, us, h, k => by simp [vals] at h
  | .own _ _ :: r, vs, us, h, k => by simp [vals] at h
  | .gown _ _ _ :: r, vs, us, h, k => by simp [vals] at h
  | .fn _ _ :: r, vs, us, h, k => by simp [vals] at h
  | .slo _ _ _ _ :: r, vs, us, h, k => by simp [vals] at h
  | .ag _ _ :: r, vs, us, h, k => by simp [vals] at h
  | .unk :: r, vs, us, h, k => by simp [vals] at h
theorem aggA_ok {l : List AV} {us : List Value} (h : isL ρ l us) : (aggA l).is ρ (.agg us.toArray) := by
  unfold aggA
  split
  · rename_i vs hv
    show _ = _
    rw [vals_isL hv h]
  · exact ⟨us, h, rfl⟩
theorem tupA_ok {l : List AV} {us : List Value} (h : isL ρ l us) : (tupA l).is ρ (.tuple us.toArray) := by
  unfold tupA
  split
  · rename_i vs hv
    show _ = _
    rw [vals_isL hv h]
  · exact ⟨us, h, rfl⟩
theorem one_cells {v : AV} {u : Value} (h : oneC v) (hu : v.is ρ u) : u.oneCell' = true ∧ u.cells = #[u] := by
  have key : ∀ x : Value, x.oneCell' = true → x.cells = #[x] := fun x hx => by cases x <;> first | rfl | cases hx
  cases v with
  | ext x => have : u = x := hu; subst this; exact ⟨h, key _ h⟩
  | own k o => obtain ⟨b, _, rfl⟩ := hu; exact ⟨rfl, rfl⟩
  | fn f ks => obtain ⟨b, _, rfl⟩ := hu; exact ⟨rfl, rfl⟩
  | slo k o n z => rcases hu with ⟨b, c, _, rfl, _⟩ | ⟨_, a, _, rfl⟩ <;> exact ⟨rfl, rfl⟩
  | gd g x => cases h
  | gown g k o => cases h
  | ag t l => cases h
  | unk => cases h
theorem allOne_ok : ∀ {l : List AV} {us : List Value}, allOne l → isL ρ l us → ∀ u ∈ us, u.oneCell' = true
  | [], us, h, k, u, hu => by have k : us = [] := k; subst k; cases hu
  | v :: l, us, h, k, u, hu => by
    obtain ⟨x, r, rfl, h1, h2⟩ := k
    rcases List.mem_cons.1 hu with rfl | hu
    · exact (one_cells h.1 h1).1
    · exact allOne_ok h.2 h2 u hu
theorem cellsG_ok {v : AV} {l : List AV} {u : Value} (h : cellsG v = some l) (hu : v.is ρ u) : ∃ us, u = .agg us.toArray ∧ isL ρ l us := by
  cases v with
  | ext x =>
    have : u = x := hu
    subst this
    cases u <;> simp only [cellsG, Option.some.injEq, reduceCtorEq] at h
    subst h
    exact ⟨_, by simp, isL_ext _⟩
  | ag t l' =>
    cases t <;> simp only [cellsG, Option.some.injEq, reduceCtorEq] at h
    subst h
    obtain ⟨us, h1, rfl⟩ := hu
    exact ⟨us, rfl, h1⟩
  | _ => simp [cellsG] at h
theorem cellsA_ok {v : AV} {l : List AV} {u : Value} (h : cellsA v = some l) (hu : v.is ρ u) : isL ρ l u.cells.toList := by
  cases v with
  | ext x =>
    have : u = x := hu
    subst this
    simp only [cellsA, Option.some.injEq] at h
    subst h
    exact isL_ext _
  | ag t l' =>
    cases t <;> simp only [cellsA, Option.some.injEq, reduceCtorEq] at h
    subst h
    obtain ⟨us, h1, rfl⟩ := hu
    simpa [aggV, Value.cells] using h1
  | own k o =>
    simp only [cellsA, Option.some.injEq] at h; subst h
    obtain ⟨b, hb, rfl⟩ := hu
    exact ⟨_, [], rfl, ⟨b, hb, rfl⟩, rfl⟩
  | fn f ks =>
    simp only [cellsA, Option.some.injEq] at h; subst h
    obtain ⟨b, hb, rfl⟩ := hu
    exact ⟨_, [], rfl, ⟨b, hb, rfl⟩, rfl⟩
  | slo k o n z =>
    simp only [cellsA, Option.some.injEq] at h; subst h
    have h2 := hu
    rcases hu with ⟨b, c, _, rfl, _⟩ | ⟨_, a, _, rfl⟩ <;> exact ⟨_, [], rfl, h2, rfl⟩
  | _ => simp [cellsA] at h
theorem unG_ok {v x : AV} {g : Bool} {u : Value} (h : unG v = some (g, x)) (hg : g = true) (hu : v.is ρ u) : x.is ρ u := by
  cases v with
  | gd g' y =>
    simp only [unG, Option.some.injEq, Prod.mk.injEq] at h
    obtain ⟨rfl, rfl⟩ := h
    have hu : u = if g' = true then y else undef := hu
    rw [if_pos hg] at hu; exact hu
  | gown g' k o =>
    simp only [unG, Option.some.injEq, Prod.mk.injEq] at h
    obtain ⟨rfl, rfl⟩ := h
    have hu : if g' = true then ∃ b, ρ k = some b ∧ u = ptr b.b o else u = undef := hu
    rw [if_pos hg] at hu; exact hu
  | unk => simp [unG] at h
  | _ => simp only [unG, Option.some.injEq, Prod.mk.injEq] at h; obtain ⟨_, rfl⟩ := h; exact hu
theorem val_is {v : AV} {g : Bool} {u x : Value} (h : v.val = some (g, u)) (hg : g = true) (hx : v.is ρ x) : x = u := by
  cases v with
  | ext v' => simp [AV.val] at h; obtain ⟨rfl, rfl⟩ := h; exact hx
  | gd g' v' =>
    simp [AV.val] at h
    obtain ⟨rfl, rfl⟩ := h
    have hx : x = if g' = true then v' else undef := hx
    rw [hx, if_pos hg]
  | _ => simp [AV.val] at h
theorem partC_ok {n : Nat} {k : Bool} {v : AV} {vs : List AV} {ob : Prop} {u : Value} (h : partC n k v = some (ob, vs)) (ho : ob) (hu : v.is ρ u) : isL ρ vs u.cells.toList ∧ u.cells.toList.length = n := by
  unfold partC at h
  split at h
  · split at h
    · rename_i l hl
      simp only [Option.some.injEq, Prod.mk.injEq] at h
      obtain ⟨rfl, rfl⟩ := h
      obtain ⟨us, rfl, h2⟩ := cellsG_ok hl hu
      simp only [Value.cells]
      exact ⟨h2, by rw [isL_length h2]; exact ho⟩
    · cases h
  · simp only [Option.some.injEq, Prod.mk.injEq] at h
    obtain ⟨rfl, rfl⟩ := h
    obtain ⟨h1, rfl⟩ := ho
    obtain ⟨_, h3⟩ := one_cells h1 hu
    rw [h3]
    exact ⟨⟨u, [], rfl, hu, rfl⟩, rfl⟩
end
section
variable {P : Program} {w : World} {ob : Prop} {ρ : Rho}
theorem fold_set (off : Nat) : ∀ (l : List Value) (j : Nat) (cs : List Value), off + j + l.length ≤ cs.length →
    (l.zipIdx j).foldl (fun (cs : Array Value) (p : Value × Nat) => cs.setIfInBounds (off + p.2) p.1) cs.toArray = (cs.take (off + j) ++ (l ++ cs.drop (off + j + l.length))).toArray
  | [], j, cs, h => by simp
  | v :: r, j, cs, h => by
    simp only [List.zipIdx_cons, List.foldl_cons]
    have h1 : cs.toArray.setIfInBounds (off + j) v = (cs.set (off + j) v).toArray := by simp
    simp only [List.length_cons] at h
    rw [h1, fold_set off r (j + 1) (cs.set (off + j) v) (by simp; omega)]
    congr 1
    have h2 : (cs.set (off + j) v).take (off + (j + 1)) = cs.take (off + j) ++ [v] := by
      rw [show off + (j + 1) = off + j + 1 from rfl, List.take_succ_eq_append_getElem (by simp; omega), List.take_set_of_le (by omega)]
      simp
    have h3 : (cs.set (off + j) v).drop (off + (j + 1) + r.length) = cs.drop (off + j + (r.length + 1)) := by
      rw [List.drop_set_of_lt (by omega)]
      congr 1; omega
    rw [h2, h3]
    simp
theorem fill_step {place : Nat → Option (Nat × Nat)} {cells : List Value} {i off n : Nat} {v : Value} {vs : List Value} {rest : List (Nat × Value)} (hp : place i = some (off, n)) (hv : v.cells.toList = vs) (hn : vs.length = n) (ho : off + n ≤ cells.length) :
    Instr.fill place cells.toArray ((i, v) :: rest) = Instr.fill place (cells.take off ++ (vs ++ cells.drop (off + n))).toArray rest := by
  have hs : v.cells.size = n := by rw [← hn, ← hv]; simp
  simp only [Instr.fill, hp, hs]
  rw [if_neg (by simp; omega)]
  congr 1
  have h1 := fold_set off vs 0 cells (by omega)
  rw [← hv] at h1
  rw [← Array.foldl_toList, Array.toList_zipIdx]
  have h2 : v.cells.toList.length = n := by rw [hv]; exact hn
  simp only [h2] at h1
  rw [← hv]
  exact h1
theorem places_ok {T : TypeId} {pl : List (Nat × Nat × Bool)} (h : placesT P T = some pl) : ∃ fs, P.underlying T = some (.struct fs) ∧
    fs.toList.mapM (fun f => (P.info? f.type).map fun i => (f.offset, i.size)) = some (pl.map fun x => (x.1, x.2.1)) := by
  unfold placesT at h
  split at h
  · rename_i fs hu
    refine ⟨fs, hu, ?_⟩
    generalize fs.toList = l at h
    clear hu
    induction l generalizing pl with
    | nil => simp at h; subst h; rfl
    | cons f r ih =>
      simp only [List.mapM_cons, Option.bind_eq_bind, Option.pure_def, Option.bind_eq_some_iff] at h
      obtain ⟨x, hx, y, hy, hxy⟩ := h
      split at hx
      · rename_i i k hi hk
        simp only [Option.some.injEq] at hx hxy
        subst hx hxy
        simp [List.mapM_cons, hi, ih hy]
      · cases hx
  · cases h
def Parts (ρ : Rho) (parts : List (Nat × AV)) (ps : List (Nat × Value)) : Prop :=
  ps.map (·.1) = parts.map (·.1) ∧ isL ρ (parts.map (·.2)) (ps.map (·.2))
theorem buildL_ok {pl : List (Nat × Nat × Bool)} : ∀ (parts : List (Nat × AV)) (cells out : List AV) (cs : List Value) (ob : Prop) (ps : List (Nat × Value)), buildL pl cells parts = some (ob, out) → ob → Parts ρ parts ps → isL ρ cells cs →
    ∃ os : List Value, Instr.fill (fun i => (pl[i]?).map fun x => (x.1, x.2.1)) cs.toArray ps = some os.toArray ∧ isL ρ out os
  | [], cells, out, cs, ob, ps, h, ho, hp, hc => by
    simp only [buildL, Option.some.injEq, Prod.mk.injEq] at h
    obtain ⟨rfl, rfl⟩ := h
    cases ps with
    | nil => exact ⟨cs, rfl, hc⟩
    | cons p r => cases hp.1
  | (i, x) :: r, cells, out, cs, ob, ps, h, ho, hp, hc => by
    simp only [buildL] at h
    split at h
    · rename_i off n k g v hpl hx
      split at h
      · rename_i ob1 vs hc1
        split at h
        · rename_i ob2 out2 hb
          simp only [Option.some.injEq, Prod.mk.injEq] at h
          obtain ⟨rfl, rfl⟩ := h
          obtain ⟨hg, h1, h2, h3⟩ := ho
          cases ps with
          | nil => cases hp.1
          | cons p ps =>
            have e1 := hp.1
            have e2 := hp.2
            simp only [List.map_cons, List.cons.injEq] at e1 e2
            obtain ⟨pi, pv⟩ := p
            obtain ⟨u, q, e3, e4, e5⟩ := e2
            simp only [List.cons.injEq] at e3
            obtain ⟨rfl, rfl⟩ := e3
            obtain ⟨e6, e7⟩ := e1
            simp only at e6
            subst e6
            obtain ⟨c1, c2⟩ := partC_ok hc1 h1 (unG_ok hx hg e4)
            have hlen := isL_length hc
            rw [fill_step (off := off) (n := n) (by simp [hpl]) rfl c2 (by omega)]
            exact buildL_ok r _ _ _ _ ps hb h3 ⟨e7, e5⟩ (isL_append (isL_take _ hc) (isL_append c1 (isL_drop _ hc)))
        · cases h
      · cases h
    · cases h
theorem plN_get (sz : Nat) (k : Bool) : ∀ (n off i : Nat), (plN sz k n off)[i]? = if i < n then some (off + i * sz, sz, k) else none
  | 0, off, i => by simp [plN]
  | n + 1, off, i => by
    cases i with
    | zero => simp [plN]
    | succ i =>
      simp only [plN, List.getElem?_cons_succ, plN_get sz k n (off + sz) i]
      by_cases h : i < n
      · rw [if_pos h, if_pos (by omega)]
        congr 2
        rw [Nat.succ_mul]; omega
      · rw [if_neg h, if_neg (by omega)]
theorem repN_length (z : List Value) : ∀ n, (repN z n).length = n * z.length
  | 0 => by simp [repN]
  | n + 1 => by simp [repN, repN_length z n, Nat.succ_mul, Nat.add_comm]
theorem repN_get (z : List Value) (hz : 0 < z.length) : ∀ (n i : Nat), i < n * z.length → (repN z n)[i]? = z[i % z.length]?
  | 0, i, h => by simp at h
  | n + 1, i, h => by
    simp only [repN]
    by_cases h1 : i < z.length
    · rw [List.getElem?_append_left h1, Nat.mod_eq_of_lt h1]
    · rw [List.getElem?_append_right (by omega), repN_get z hz n (i - z.length) (by rw [Nat.succ_mul] at h; omega)]
      congr 1
      rw [Nat.mod_eq_sub_mod (by omega : i ≥ z.length)]
theorem fill_cut : ∀ (ps : List (Nat × Value)) (cells : Array Value) (p q : Nat → Option (Nat × Nat)) (n sz : Nat), (∀ i, i < n → q i = some (i * sz, sz)) → (∀ i, ¬ i < n → q i = none) → (Instr.fill q cells ps).isSome = true →
    Instr.fill (fun i => some (i * sz, sz)) cells ps = Instr.fill q cells ps
  | [], cells, p, q, n, sz, _, _, _ => rfl
  | (i, v) :: r, cells, p, q, n, sz, h1, h2, h => by
    by_cases hi : i < n
    · simp only [Instr.fill, h1 i hi] at h ⊢
      split
      · rfl
      · rename_i hc
        rw [if_neg hc] at h
        exact fill_cut r _ p q n sz h1 h2 h
    · simp [Instr.fill, h2 i hi] at h
theorem rep_cells {zv : Value} {sz n : Nat} (hz2 : zv.cells.size = sz) : (Array.range (n * sz)).map (zv.cells[· % zv.cells.size]!) = (repN zv.cells.toList n).toArray := by
  rw [← Array.toList_inj]
  refine List.ext_getElem? fun i => ?_
  simp only [Array.toList_map, List.getElem?_map, Array.toList_range]
  by_cases hi : i < n * sz
  · have hpos : 0 < zv.cells.size := by
      rcases Nat.eq_zero_or_pos sz with h0 | h0
      · rw [h0] at hi; simp at hi
      · omega
    rw [List.getElem?_range hi, repN_get _ (by simpa using hpos) _ _ (by simpa [hz2] using hi)]
    have hm : i % zv.cells.size < zv.cells.size := Nat.mod_lt _ hpos
    simp [hm]
  · rw [List.getElem?_eq_none (by simpa using hi), List.getElem?_eq_none (by rw [repN_length]; simp [hz2]; omega)]
    rfl
theorem buildR_ok {T : TypeId} {parts : List (Nat × AV)} {ps : Array (Nat × Value)} {v : AV} (h : buildR P T parts = .put ob v) (ho : ob) (hp : Parts ρ parts ps.toList) :
    ∃ u, (Instr.build T ps).run P w = .ok u w ∧ v.is ρ u := by
  unfold buildR at h
  split at h
  · rename_i pl cs hpl hz
    split at h
    · rename_i ob' out hb
      simp only [Res.put.injEq] at h
      obtain ⟨rfl, rfl⟩ := h
      obtain ⟨os, h1, h2⟩ := buildL_ok _ _ _ cs _ ps.toList hb ho hp (isL_ext cs)
      have hbuilt : P.built T ps.toList = some os.toArray := by
        unfold plT at hpl
        split at hpl
        · rename_i n e ha
          split at hpl
          · rename_i sz k hs hk
            simp only [Option.some.injEq] at hpl
            subst hpl
            have hu : P.underlying T = some (.array n e) := by
              unfold arrT at ha
              split at ha
              · cases ha; assumption
              · cases ha
            unfold zeroC at hz
            simp only [Option.map_eq_some_iff, Option.bind_eq_some_iff] at hz
            obtain ⟨z, ⟨it, hit, hzz⟩, rfl⟩ := hz
            unfold szO at hs
            simp only [Option.map_eq_some_iff] at hs
            obtain ⟨ie, hie, rfl⟩ := hs
            unfold Program.built
            simp only [hit, hu, hzz, hie]
            rw [← h1]
            exact fill_cut ps.toList _ (fun _ => none) _ n ie.size (fun i hi => by simp [plN_get, hi]) (fun i hi => by simp [plN_get, hi]) (by rw [h1]; rfl)
          · cases hpl
        obtain ⟨fs, hu, hm⟩ := places_ok hpl
        unfold zeroC at hz
        simp only [Option.map_eq_some_iff, Option.bind_eq_some_iff] at hz
        obtain ⟨z, ⟨it, hit, hzz⟩, rfl⟩ := hz
        unfold Program.built
        simp only [hit, hu, hzz, hm]
        rw [← h1]
        congr 1
        funext i
        simp
      exact ⟨_, run_build w T _ _ hbuilt, aggA_ok h2⟩
    · cases h
  · cases h
theorem buildL_length {pl : List (Nat × Nat × Bool)} : ∀ (parts : List (Nat × AV)) (cells out : List AV) (ob : Prop), buildL pl cells parts = some (ob, out) → ob → out.length = cells.length
  | [], cells, out, ob, h, _ => by simp only [buildL, Option.some.injEq, Prod.mk.injEq] at h; rw [h.2]
  | (i, x) :: r, cells, out, ob, h, ho => by
    simp only [buildL] at h
    split at h
    · rename_i off n k g v hpl hx
      split at h
      · rename_i ob1 vs hc1
        split at h
        · rename_i ob2 out2 hb
          simp only [Option.some.injEq, Prod.mk.injEq] at h
          obtain ⟨rfl, rfl⟩ := h
          obtain ⟨hg, h1, h2, h3⟩ := ho
          rw [buildL_length r _ _ _ hb h3]
          have : vs.length = n := by
            unfold partC at hc1
            split at hc1
            · split at hc1
              · simp only [Option.some.injEq, Prod.mk.injEq] at hc1; obtain ⟨rfl, rfl⟩ := hc1; exact h1
              · cases hc1
            · simp only [Option.some.injEq, Prod.mk.injEq] at hc1; obtain ⟨rfl, rfl⟩ := hc1; simp [h1.2]
          simp; omega
        · cases h
      · cases h
    · cases h
theorem run_build0 (w : World) (t e : TypeId) (ps : Array (Nat × Value)) (ie : TypeInfo) (hu : P.underlying t = some (.slice e)) (hie : P.info? e = some ie) (hp : ps.toList = []) :
    (Instr.buildSlice t 0 ps).run P w = .ok (.slice (some ⟨w.heap.size, 0, none⟩) 0 0) (w.alloc (.cells #[] e)) := by
  have hr : Array.range 0 = #[] := rfl
  simp [Instr.buildSlice, run_underlying hu, sizeOf, typeInfo, hie, newRow, hp, Instr.fill, hr]
theorem buildSR_ok {T : TypeId} {n : Nat} {parts : List (Nat × AV)} {D : NewD} {cs : List AV} (h : buildSR P T n parts = .new D cs) (ho : D.ob) :
    ∃ sz, D.sl = some (n, sz) ∧ cs.length = n * sz ∧ ∀ ps : Array (Nat × Value), Parts ρ parts ps.toList → ∃ os : List Value, isL ρ cs os ∧ (Instr.buildSlice T n ps).run P w = .ok (.slice (some ⟨w.heap.size, 0, none⟩) n n) (w.alloc (.cells os.toArray D.T)) := by
  unfold buildSR at h
  split at h
  · rename_i e he
    split at h
    · rename_i sz k z hs hk hz
      split at h
      · rename_i ob out hb
        simp only [Res.new.injEq] at h
        obtain ⟨rfl, rfl⟩ := h
        obtain ⟨h1, h2, h3, h4⟩ := ho
        refine ⟨sz, rfl, ?_, fun ps hp => ?_⟩
        · rw [buildL_length _ _ _ _ hb h1, List.length_map, repN_length, h4]
        unfold slcT at he
        split at he
        · rename_i e' hu
          simp only [Option.some.injEq] at he
          subst he
          unfold szO at hs
          simp only [Option.map_eq_some_iff] at hs
          obtain ⟨ie, hie, rfl⟩ := hs
          unfold zeroC at hz
          simp only [Option.map_eq_some_iff, Option.bind_eq_some_iff] at hz
          obtain ⟨zv, ⟨ie', hie', hzv⟩, rfl⟩ := hz
          rw [hie] at hie'
          injection hie' with e1
          subst e1
          obtain ⟨os, hb2, ho2⟩ := buildL_ok _ _ _ _ _ ps.toList hb h1 hp (isL_ext (repN zv.cells.toList n))
          rcases h2 with h2 | h2
          case inr =>
            subst h2
            cases parts with
            | cons x r => simp [plN, buildL] at hb
            | nil =>
              have hps : ps.toList = [] := by have := hp.1; simpa using this
              simp only [plN, buildL, repN, List.map_nil, Option.some.injEq, Prod.mk.injEq] at hb
              obtain ⟨rfl, rfl⟩ := hb
              have hos : os = [] := ho2
              subst hos
              exact ⟨[], rfl, run_build0 w T e' ps ie hu hie hps⟩
          refine ⟨os, ho2, run_buildSlice w T e' n ps os.toArray ie zv hu hie hzv (by omega) (by omega) ?_⟩
          have hz2 : zv.cells.size = ie.size := by simpa using h4
          rw [rep_cells hz2, ← hb2]
          exact fill_cut ps.toList _ (fun _ => none) _ n ie.size (fun i hi => by simp [plN_get, hi]) (fun i hi => by simp [plN_get, hi]) (by rw [hb2]; rfl)
        · cases he
      · cases h
    · cases h
  · cases h
theorem eqC_0 {a b : Value} {x : Bool} (h : eqC 0 a b = some x) : ∃ k p q, a = .int k p ∧ b = .int k q ∧ x = decide (p = q) := by
  cases a <;> cases b <;> simp only [eqC, reduceCtorEq] at h
  split at h
  · rename_i e; subst e; cases h; exact ⟨_, _, _, rfl, rfl, rfl⟩
  · cases h
theorem eqC_1 {a b : Value} {x : Bool} (h : eqC 1 a b = some x) : ∃ p q, a = .bool p ∧ b = .bool q ∧ x = (p == q) := by
  cases a <;> cases b <;> simp only [eqC, reduceCtorEq, Option.some.injEq] at h
  exact ⟨_, _, rfl, rfl, h.symm⟩
theorem eqC_2 {a b : Value} {x : Bool} (h : eqC 2 a b = some x) : ∃ p q, a = .string p ∧ b = .string q ∧ x = (p.toList == q.toList) := by
  cases a <;> cases b <;> simp only [eqC, reduceCtorEq, Option.some.injEq] at h
  exact ⟨_, _, rfl, rfl, h.symm⟩
theorem scalar_part {T : TypeId} {off : Nat} {xs : Array Value} {v : Value} (h : (∃ k, P.underlying T = some (.int k)) ∨ P.underlying T = some .bool ∨ P.underlying T = some .string) (hv : xs[off]? = some v) : (part T xs off).run P w = .ok v w := by
  have hagg : (isAgg T).run P w = .ok false w := by
    unfold isAgg
    rcases h with ⟨k, h⟩ | h | h <;> (rw [Sem.run_bind, run_underlying h w]; rfl)
  simp only [part, Sem.run_bind, hagg, Result.andThen_ok, Bool.false_eq_true, if_false, hv, Sem.run_pure]
theorem eqFields_ok (d : Nat) (xs ys : Array Value) : ∀ (fs : List Field) (l : List (Nat × Nat)) (t : Bool),
    fs.mapM (fun f => if f.name = "_" then none else match P.underlying f.type with
      | some (.int _) => some (f.offset, 0)
      | some .bool => some (f.offset, 1)
      | some .string => some (f.offset, 2)
      | _ => none) = some l → eqL l xs.toList ys.toList = some t → (Op.eqFields (d + 1) xs ys fs).run P w = .ok t w
  | [], l, t, h, he => by
    simp at h; subst h
    simp only [eqL, Option.some.injEq] at he
    subst he
    simp [Op.eqFields]
  | f :: fs, l, t, h, he => by
    rw [List.mapM_cons] at h
    simp only [Option.bind_eq_bind, Option.pure_def, Option.bind_eq_some_iff] at h
    obtain ⟨x, hx, r, hr, hl⟩ := h
    simp only [Option.some.injEq] at hl
    subst hl
    split at hx
    · cases hx
    · rename_i hname
      obtain ⟨o, k⟩ := x
      simp only [eqL] at he
      split at he
      · rename_i a b ha hb
        split at he
        · rename_i x y hxx hyy
          simp only [Option.some.injEq] at he
          subst he
          have ih := eqFields_ok d xs ys fs r y hr hyy
          have fin : ∀ (hs : (∃ k, P.underlying f.type = some (.int k)) ∨ P.underlying f.type = some .bool ∨ P.underlying f.type = some .string), f.offset = o → (Op.equalIn (d + 1) f.type a b).run P w = .ok x w →
              (Op.eqFields (d + 1) xs ys (f :: fs)).run P w = .ok (x && y) w := fun hs ho hq => by
            subst ho
            have p1 := scalar_part (w := w) hs (xs := xs) (off := f.offset) (v := a) (by simpa using ha)
            have p2 := scalar_part (w := w) hs (xs := ys) (off := f.offset) (v := b) (by simpa using hb)
            simp only [Op.eqFields, hname, ne_eq, not_false_eq_true, if_true, Sem.run_bind, p1, p2, hq, Result.andThen_ok]
            cases x
            · simp
            · simpa using ih
          split at hx
          · rename_i kk hu
            simp only [Option.some.injEq, Prod.mk.injEq] at hx
            obtain ⟨ho, rfl⟩ := hx
            obtain ⟨k, p, q, rfl, rfl, rfl⟩ := eqC_0 hxx
            refine fin (.inl ⟨_, hu⟩) ho ?_
            rw [run_equalIn_int w d f.type _ kk _ _ hu]
            rfl
          · rename_i hu
            simp only [Option.some.injEq, Prod.mk.injEq] at hx
            obtain ⟨ho, rfl⟩ := hx
            obtain ⟨p, q, rfl, rfl, rfl⟩ := eqC_1 hxx
            refine fin (.inr (.inl hu)) ho ?_
            rw [run_equalIn_bool' w d f.type _ _ hu]
          · rename_i hu
            simp only [Option.some.injEq, Prod.mk.injEq] at hx
            obtain ⟨ho, rfl⟩ := hx
            obtain ⟨p, q, rfl, rfl, rfl⟩ := eqC_2 hxx
            refine fin (.inr (.inr hu)) ho ?_
            rw [run_equalIn_string w d f.type _ _ hu]
          · cases hx
        · cases he
      · cases he
theorem eqV_ok {b : BinOp} {T : TypeId} {xs ys : Array Value} {v : Value} {ob : Prop} (h : eqV P b T xs.toList ys.toList = some (ob, v)) : (binOp b T (.agg xs) (.agg ys)).run P w = .ok v w ∧ P.eqGuardType P.depth T = false := by
  unfold eqV at h
  split at h
  · rename_i t ht
    simp only [Option.bind_eq_some_iff] at ht
    obtain ⟨l, hl, he⟩ := ht
    unfold flatK at hl
    split at hl
    · rename_i fs hu
      split at hl
      · rename_i hs hg
        have hfs : P.fieldsOf T = fs := by simp [Program.fieldsOf, hu]
        have heq : (Op.equalIn 10000 T (.agg xs) (.agg ys)).run P w = .ok t w := by
          rw [run_equalIn_struct w 9999 T xs ys (by rw [hfs]; exact hu) hs, hfs]
          exact eqFields_ok 9998 xs ys fs.toList l t hl he
        refine ⟨?_, hg⟩
        split at h
        · simp only [Option.some.injEq, Prod.mk.injEq] at h
          rw [run_eql_struct, heq, Result.andThen_ok, h.2]
        · simp only [Option.some.injEq, Prod.mk.injEq] at h
          rw [run_neq_struct, heq, Result.andThen_ok, h.2]
        · cases h
      · cases hl
    · cases hl
  · cases h
theorem intV_ok {b : BinOp} {k : IntKind} {x y : Int} {ob : Prop} {v : Value} {T : TypeId} (h : intV b k x y = some (ob, v)) (ho : ob) :
    (binOp b T (.int k x) (.int k y)).run P w = .ok v w := by
  cases b <;> simp only [intV, Option.some.injEq, Prod.mk.injEq] at h <;> obtain ⟨rfl, rfl⟩ := h
  all_goals first
    | (simp [binOp, Op.intArith, Op.intCmp, Op.intBits, bits, go_sem]; done)
    | (simp [binOp, Op.intDiv, ho, go_sem]; done)
    | (simp only [binOp, Op.shift]; rw [if_neg (by omega)]; rfl)
    | (simp only [binOp, Op.intCmp, ne_eq, not_true_eq_false, if_false]; rfl)
theorem bytesLess_total : ∀ x y : List UInt8, (Op.bytesLess x y || x == y) = !Op.bytesLess y x
  | [], [] => by simp [Op.bytesLess]
  | [], _ :: _ => by simp [Op.bytesLess]
  | _ :: _, [] => by simp [Op.bytesLess]
  | a :: x, b :: y => by
    have ih := bytesLess_total x y
    simp only [Op.bytesLess]
    rcases Nat.lt_trichotomy a.toNat b.toNat with h | h | h
    · have h1 : a < b := UInt8.lt_iff_toNat_lt.2 h
      have h2 : ¬ b < a := fun h2 => by have := UInt8.lt_iff_toNat_lt.1 h2; omega
      have h3 : b ≠ a := fun e => by subst e; omega
      simp [h1, h2, h3]
    · have h0 : a = b := UInt8.toNat.inj h
      subst h0
      simp [UInt8.lt_irrefl] at ih ⊢
      exact ih
    · have h1 : ¬ a < b := fun h2 => by have := UInt8.lt_iff_toNat_lt.1 h2; omega
      have h2 : b < a := UInt8.lt_iff_toNat_lt.2 h
      have h3 : a ≠ b := fun e => by subst e; omega
      simp [h1, h2, h3]
theorem strV_ok {b : BinOp} {x y : ByteArray} {ob : Prop} {v : Value} {T : TypeId} (h : strV b x y = some (ob, v)) (ho : ob) :
    (binOp b T (.string x) (.string y)).run P w = .ok v w := by
  have hm : IntKind.i64.max = 9223372036854775807 := by decide
  cases b <;> simp only [strV, Option.some.injEq, Prod.mk.injEq, reduceCtorEq] at h <;> obtain ⟨rfl, rfl⟩ := h
  all_goals simp only [binOp, Op.stringOp]
  · rw [if_neg (by rw [hm]; omega)]; rfl
  · rfl
  · rfl
  · rfl
  · rw [bytesLess_total]; rfl
  · rw [bytesLess_total, Bool.not_not]; rfl
  · rfl
theorem boolV_ok {b : BinOp} {x y : Bool} {ob : Prop} {v : Value} {T : TypeId} (hT : P.underlying T = some .bool) (h : boolV b x y = some (ob, v)) :
    (binOp b T (.bool x) (.bool y)).run P w = .ok v w := by
  have he : ∀ d, (Op.equalIn (d + 1) T (.bool x) (.bool y)).run P w = .ok (x == y) w := fun d => by simp [Op.equalIn, run_underlying hT]
  cases b <;> simp only [boolV, Option.some.injEq, Prod.mk.injEq, reduceCtorEq] at h <;> obtain ⟨rfl, rfl⟩ := h
  · simp only [binOp]; simp [Op.equal, Op.maxDepth, he 9999]
  · simp only [binOp]; simp [Op.equal, Op.maxDepth, he 9999]
theorem nilV_ok {b : BinOp} {u : Value} {n2 c2 : Nat} {ob : Prop} {v : Value} {T e : TypeId} (hT : P.underlying T = some (.slice e)) (h : nilV b u = some (ob, v)) (ho : ob) :
    (binOp b T u (.slice none n2 c2)).run P w = .ok v w := by
  have hu : isSl u = true := by cases b <;> simp only [nilV, Option.some.injEq, Prod.mk.injEq, reduceCtorEq] at h <;> obtain ⟨rfl, rfl⟩ := h <;> exact ho
  cases u <;> try cases hu
  rename_i A n1 c1
  have he : ∀ d, (Op.equalIn (d + 1) T (.slice A n1 c1) (.slice none n2 c2)).run P w = .ok A.isNone w := fun d => by cases A <;> simp [Op.equalIn, run_underlying hT]
  cases b <;> simp only [nilV, Option.some.injEq, Prod.mk.injEq, reduceCtorEq] at h <;> obtain ⟨rfl, rfl⟩ := h
  · simp only [binOp]; simp [Op.equal, Op.maxDepth, he 9999, nilS]
  · simp only [binOp]; simp [Op.equal, Op.maxDepth, he 9999, nilS]
theorem binV_ok {b : BinOp} {T : TypeId} {u u' v : Value} {ob : Prop} (h : binV P b T u u' = some (ob, v)) (ho : ob) : (binOp b T u u').run P w = .ok v w := by
  unfold binV at h
  split at h
  · split at h
    · split at h
      · rename_i e; subst e; exact intV_ok h ho
      · split at h
        · simp only [intV, Option.some.injEq, Prod.mk.injEq] at h; obtain ⟨rfl, rfl⟩ := h
          simp only [binOp, Op.shift]; rw [if_neg (by omega)]; rfl
        · simp only [intV, Option.some.injEq, Prod.mk.injEq] at h; obtain ⟨rfl, rfl⟩ := h
          simp only [binOp, Op.shift]; rw [if_neg (by omega)]; rfl
        · cases h
    · cases h
  · split at h
    · exact strV_ok h ho
    · cases h
  · split at h
    · split at h
      · rename_i hb; unfold isBoolT at hb; split at hb
        · exact boolV_ok (by assumption) h
        · cases hb
      · cases h
    · cases h
  · split at h
    · rename_i hb; unfold isSliceT at hb; split at hb
      · exact nilV_ok (by assumption) h ho
      · cases hb
    · cases h
  · split at h
    · exact (eqV_ok h).1
    · cases h
  · cases h
theorem eqGuard_ok {b : BinOp} {T : TypeId} {u u' v : Value} {ob : Prop} {x y : Operand} (h : binV P b T u u' = some (ob, v)) : (eqGuard b T x y u u').run P w = .ok () w := by
  unfold binV at h
  split at h
  · simp [eqGuard]
  · simp [eqGuard]
  · simp [eqGuard]
  · simp [eqGuard]
  · split at h
    · exact run_eqGuard_agg w b T x y _ _ (eqV_ok (w := w) h).2
    · cases h
  · cases h
theorem unV_ok {o : UnOp} {u v : Value} (h : unV o u = some v) : (Op.unary o u).run P w = .ok v w := by
  unfold unV at h
  split at h <;> (try cases h)
  · simp [Op.unary]
  · simp [Op.unary, Op.intArith]
theorem kindT_true {T : TypeId} (h : kindT P T = some true) : ∃ d, P.underlying T = some d ∧ d.isRow = true := by
  unfold kindT at h
  split at h
  · exact ⟨_, by assumption, rfl⟩
  · exact ⟨_, by assumption, rfl⟩
  · cases h
  · cases h
theorem kindT_false {T : TypeId} (h : kindT P T = some false) : (isAgg T).run P w = .ok false w := by
  unfold kindT at h
  unfold isAgg
  split at h
  · cases h
  · cases h
  · rename_i d hd1 hd2 hd
    rw [Sem.run_bind, run_underlying hd w]
    cases d <;> first | rfl | exact absurd rfl (by first | exact hd1 _ | exact hd2 _ _)
  · cases h
end
end Go.Proofs.YtamghpnjdohnjaaDoor.Sx
namespace Go.Proofs.YtamghpnjdohnjaaDoor.Sx
open Go Go.RowKit
set_option linter.unusedVariables false
set_option linter.unusedSimpArgs false
mutual
theorem is_agree {ρ ρ' : Rho} : ∀ {v : AV} {u : Value}, (∀ k ∈ v.ment, ρ k = ρ' k) → v.is ρ u → v.is ρ' u
  | .ext v, u, h, hv => hv
  | .gd g v, u, h, hv => hv
  | .own k o, u, h, hv => by obtain ⟨b, hb, e⟩ := hv; exact ⟨b, by rw [← h k (by simp [AV.ment])]; exact hb, e⟩
  | .gown g k o, u, h, hv => by
    have hv : if g = true then ∃ b, ρ k = some b ∧ u = ptr b.b o else u = undef := hv
    show if g = true then ∃ b, ρ' k = some b ∧ u = ptr b.b o else u = undef
    rw [← h k (by simp [AV.ment])]; exact hv
  | .slo k o n z, u, h, hv => by
    rcases hv with ⟨b, cap, hb, e⟩ | h2
    · exact .inl ⟨b, cap, by rw [← h k (by simp [AV.ment])]; exact hb, e⟩
    · exact .inr h2
  | .fn f l, u, h, hv => by obtain ⟨us, h1, e⟩ := hv; exact ⟨us, isL_agree (fun k hk => h k (by simp only [AV.ment]; exact hk)) h1, e⟩
  | .ag t l, u, h, hv => by obtain ⟨us, h1, e⟩ := hv; exact ⟨us, isL_agree (fun k hk => h k (by simp only [AV.ment]; exact hk)) h1, e⟩
  | .unk, u, h, hv => trivial
theorem isL_agree {ρ ρ' : Rho} : ∀ {l : List AV} {us : List Value}, (∀ k ∈ mentL l, ρ k = ρ' k) → isL ρ l us → isL ρ' l us
  | [], us, h, hv => hv
  | v :: l, us, h, hv => by
    obtain ⟨u, r, e, h1, h2⟩ := hv
    exact ⟨u, r, e, is_agree (fun k hk => h k (by simp only [mentL, List.mem_append]; exact .inl hk)) h1, isL_agree (fun k hk => h k (by simp only [mentL, List.mem_append]; exact .inr hk)) h2⟩
end
theorem mentL_get {k : Nat} : ∀ {l : List AV} {i : Nat} {v : AV}, l[i]? = some v → k ∈ v.ment → k ∈ mentL l
  | [], i, v, h, _ => by simp at h
  | x :: r, 0, v, h, hk => by simp at h; subst h; simp [mentL, hk]
  | x :: r, i + 1, v, h, hk => by simp at h; simp only [mentL, List.mem_append]; exact .inr (mentL_get h hk)
theorem mentL_mem {k : Nat} : ∀ {l : List AV}, k ∈ mentL l → ∃ v ∈ l, k ∈ v.ment
  | x :: r, h => by
    simp only [mentL, List.mem_append] at h
    rcases h with h | h
    · exact ⟨x, by simp, h⟩
    · obtain ⟨v, h1, h2⟩ := mentL_mem h; exact ⟨v, by simp [h1], h2⟩
theorem mentL_of {k : Nat} {l : List AV} {v : AV} (hv : v ∈ l) (hk : k ∈ v.ment) : k ∈ mentL l := by
  obtain ⟨i, hi⟩ := List.mem_iff_getElem?.1 hv
  exact mentL_get hi hk
theorem mentL_append (l m : List AV) : mentL (l ++ m) = mentL l ++ mentL m := by
  induction l with
  | nil => rfl
  | cons v r ih => simp [mentL, ih]
theorem mentL_ext : ∀ l : List Value, mentL (l.map .ext) = []
  | [] => rfl
  | v :: r => by simp [mentL, AV.ment, mentL_ext r]
theorem mentL_extf {α : Type} (f : α → Value) : ∀ l : List α, mentL (l.map fun x => .ext (f x)) = []
  | [] => rfl
  | v :: r => by simp [mentL, AV.ment, mentL_extf f r]
theorem hasK_iff {k : Nat} : ∀ {l : List Nat}, hasK k l = true ↔ k ∈ l
  | [] => by simp [hasK]
  | j :: r => by
    simp only [hasK, Bool.or_eq_true, beq_iff_eq, List.mem_cons, hasK_iff (l := r)]
    constructor
    · rintro (h | h)
      · exact .inl h.symm
      · exact .inr h
    · rintro (h | h)
      · exact .inl h.symm
      · exact .inr h
theorem hasK_no {k : Nat} {l : List Nat} : hasK k l = false ↔ k ∉ l := by
  rw [← hasK_iff]; simp
theorem mentE_lk {k : Nat} : ∀ {e : Env} {t : Nat}, k ∈ (lk e t).ment → k ∈ mentE e
  | [], t, h => by simp [lk, AV.ment] at h
  | (d, v) :: r, t, h => by
    simp only [lk] at h
    simp only [mentE, List.mem_append]
    split at h
    · exact .inl h
    · exact .inr (mentE_lk h)
theorem mentH_lk {k : Nat} : ∀ {H : Hp} {j : Nat} {T : TypeId} {cs : List AV}, lkH H j = some (T, cs) → (k = j ∨ k ∈ mentL cs) → k ∈ mentH H
  | (i, T', ds) :: r, j, T, cs, h, hk => by
    simp only [lkH] at h
    simp only [mentH, List.mem_cons, List.mem_append]
    split at h
    · rename_i e
      simp only [Option.some.injEq, Prod.mk.injEq] at h
      obtain ⟨rfl, rfl⟩ := h
      rcases hk with rfl | hk
      · exact .inl e.symm
      · exact .inr (.inl hk)
    · exact .inr (.inr (mentH_lk h hk))
theorem awayP_S {k : Nat} {s : St} (h : awayP k s) : AwayS k s := by
  rcases h with h | h
  · simp only [awayB, Bool.and_eq_true, Bool.not_eq_true'] at h
    obtain ⟨h1, h2, h3⟩ := h
    exact ⟨fun t ht => hasK_no.1 h1 (mentE_lk ht), fun j T cs hj => ⟨fun e => hasK_no.1 h2 (mentH_lk hj (.inl e.symm)), fun hk => hasK_no.1 h2 (mentH_lk hj (.inr hk))⟩, hasK_no.1 h3⟩
  · exact h
theorem awayP_env {k : Nat} {s : St} (h : awayP k s) : ∀ t, k ∉ (lk s.env t).ment := (awayP_S h).env
theorem awayP_hp {k : Nat} {s : St} (h : awayP k s) : ∀ j T cs, lkH s.hp j = some (T, cs) → j ≠ k ∧ k ∉ mentL cs := (awayP_S h).hp
theorem awayP_fx {k : Nat} {s : St} (h : awayP k s) : k ∉ s.fx := (awayP_S h).fx
section
variable {ρ : Rho}
theorem norm_is {v : AV} {u : Value} (h : v.is ρ u) : (normA v).is ρ u := by
  cases v with
  | gd g x =>
    have h : u = if g = true then x else undef := h
    cases g
    · exact h
    · exact h
  | gown g k off =>
    cases g
    · exact h
    · exact h
  | _ => exact h
theorem isL_norm : ∀ {l : List AV} {us : List Value}, isL ρ l us → isL ρ (normL l) us
  | [], _, h => h
  | _ :: _, _, h => by obtain ⟨u, r, e, h1, h2⟩ := h; exact ⟨u, r, e, norm_is h1, isL_norm h2⟩
end
theorem normA_ment {v : AV} : (normA v).ment = v.ment := by
  cases v with
  | gd g x => cases g <;> simp [normA, normG, AV.ment]
  | gown g k o => cases g <;> simp [normA, normP, AV.ment]
  | _ => rfl
theorem mentL_norm : ∀ l : List AV, mentL (normL l) = mentL l
  | [] => rfl
  | v :: r => by simp [normL, mentL, normA_ment, mentL_norm r]
section
variable {P : Program} {c : Cx} {n : Nat} {s : St} {ρ : Rho} {a : Act} {w : World}
theorem Gam.ev (h : Gam c n s ρ a w) (x : Operand) : (ev s x).is ρ (a.eval x) := by
  cases x with
  | tmp t => exact h.env t
  | const v => rfl
  | global g => rfl
  | func f => exact ⟨[], rfl, rfl⟩
theorem gam_isL (h : Gam c n s ρ a w) : ∀ xs : List Operand, isL ρ (xs.map (ev s)) (xs.map a.eval)
  | [] => rfl
  | x :: r => ⟨_, _, rfl, h.ev x, gam_isL h r⟩
theorem Row.lt {T : TypeId} {cs : List AV} {b : Blk} {arr : Array Value} (h : Row ρ w T cs b arr) : b.b < w.heap.size := (Array.getElem?_eq_some_iff.1 h.there).1
theorem Gam.lt (h : Gam c n s ρ a w) {k : Nat} {b : Blk} {x : TypeId × List AV} (hk : lkH s.hp k = some x) (hb : ρ k = some b) : b.b < w.heap.size := by
  obtain ⟨⟨arr, h1⟩, _⟩ := h.hp k x.1 x.2 b hk hb
  exact h1.lt
theorem cell_of {b : Nat} {arr : Array Value} {T : TypeId} {f : Nat × Nat} (h : w.heap[b]? = some (.cells arr T f)) (off : Nat) : w.cell? ⟨b, off, none⟩ = arr[off]? := by
  simp [World.cell?, h]
theorem Row.cell {T : TypeId} {cs : List AV} {b : Blk} {arr : Array Value} (h : Row ρ w T cs b arr) {i : Nat} (hi : i < b.n) : w.cell? ⟨b.b, i, none⟩ = some (arr.getD i undef) := by
  rw [cell_of h.there]
  have : i < arr.size := by rw [h.size]; exact hi
  simp [Array.getD, this]
theorem Row.part {T : TypeId} {cs : List AV} {b : Blk} {arr : Array Value} (h : Row ρ w T cs b arr) {off m : Nat} (ho : off + m ≤ cs.length) : isL ρ ((cs.drop off).take m) ((arr.toList.drop off).take m) := by
  have h1 := h.le
  have h2 := h.size
  refine isL_of (by simp; omega) fun i v hv => ?_
  have hi : i < m := by
    have := (List.getElem?_eq_some_iff.1 hv).1
    simp at this; omega
  rw [List.getElem?_take_of_lt hi, List.getElem?_drop] at hv
  have h3 := h.is _ _ hv
  have h4 : off + i < arr.size := by
    have := (List.getElem?_eq_some_iff.1 hv).1
    omega
  have h5 : ((arr.toList.drop off).take m).getD i undef = arr.getD (off + i) undef := by
    rw [List.getD_eq_getElem?_getD, List.getElem?_take_of_lt hi, List.getElem?_drop]
    simp [Array.getD, h4]
  rw [h5]; exact h3
theorem load_ok {off : Nat} {T Tb : TypeId} {cs : List AV} {b : Blk} {arr : Array Value} {ob : Prop} {v : AV} (hr : loadR P T cs off = .put ob v) (ho : ob) (hb : Row ρ w Tb cs b arr) :
    ∃ u, (Instr.loadAt T (ptr b.b off)).run P w = .ok u w ∧ v.is ρ u := by
  unfold loadR at hr
  split at hr
  · rename_i m hk hs
    simp only [Res.put.injEq] at hr
    obtain ⟨rfl, rfl⟩ := hr
    obtain ⟨d, hd, hrow⟩ := kindT_true hk
    have h1 := hb.le
    have h2 := hb.size
    have hlen : ((arr.toList.drop off).take m).length = m := by simp; omega
    refine ⟨.agg ((arr.toList.drop off).take m).toArray, ?_, aggA_ok (hb.part ho)⟩
    refine run_loadAt_mid w b.b off T _ d ?_ hd hrow (by unfold szO at hs; rw [hs, hlen])
    intro j u hj
    have hjl : j < m := by have := (List.getElem?_eq_some_iff.1 hj).1; omega
    rw [List.getElem?_take_of_lt hjl, List.getElem?_drop] at hj
    rw [cell_of hb.there]
    simpa using hj
  · rename_i m hk hs
    split at hr
    · rename_i u hu
      simp only [Res.put.injEq] at hr
      obtain ⟨rfl, rfl⟩ := hr
      have hin : off < cs.length := (List.getElem?_eq_some_iff.1 hu).1
      have hcell := hb.cell (i := off) (Nat.lt_of_lt_of_le hin hb.le)
      refine ⟨arr.getD off undef, ?_, hb.is off _ hu⟩
      simp only [Instr.loadAt, ptr, Instr.sureAddr, Sem.run_bind, Sem.run_pure, Result.andThen_ok, loadVar, kindT_false hk, Bool.false_eq_true, if_false, load, Sem.run, hcell]
    · cases hr
  · cases hr
theorem cellM_ok {M : Mem} {b i : Nat} {v : Value} (hs : Sub M w) (h : cellM M b i = some v) : w.cell? ⟨b, i, none⟩ = some v := by
  unfold cellM at h
  split at h
  · rename_i arr e f hb
    rw [cell_of (hs _ _ hb)]; exact h
  · cases h
theorem rowM_ok {M : Mem} {b : Nat} (hs : Sub M w) : ∀ {m i : Nat} {l : List Value}, rowM M b i m = some l → l.length = m ∧ ∀ j u, l[j]? = some u → w.cell? ⟨b, i + j, none⟩ = some u
  | 0, i, l, h => by simp only [rowM, Option.some.injEq] at h; subst h; simp
  | m + 1, i, l, h => by
    simp only [rowM] at h
    split at h
    · rename_i v r h1 h2
      simp only [Option.some.injEq] at h
      subst h
      obtain ⟨h3, h4⟩ := rowM_ok hs h2
      refine ⟨by simp [h3], fun j u hj => ?_⟩
      cases j with
      | zero => simp at hj; subst hj; exact cellM_ok hs h1
      | succ j =>
        have := h4 j u (by simpa using hj)
        rw [show i + (j + 1) = i + 1 + j by omega]; exact this
    · cases h
theorem lookM_ok {M : Mem} {T : TypeId} {u v : Value} (hs : Sub M w) (h : lookM P T M u = some v) : (Instr.loadAt T u).run P w = .ok v w := by
  unfold lookM at h
  split at h
  · rename_i b off
    split at h
    · rename_i m hk hz
      simp only [Option.map_eq_some_iff] at h
      obtain ⟨l, hl, rfl⟩ := h
      obtain ⟨d, hd, hrow⟩ := kindT_true hk
      obtain ⟨h1, h2⟩ := rowM_ok hs hl
      exact run_loadAt_mid w b off T l d h2 hd hrow (by unfold szO at hz; rw [hz, h1])
    · rename_i m hk hz
      have hcell := cellM_ok hs h
      simp only [Instr.loadAt, Instr.sureAddr, Sem.run_bind, Sem.run_pure, Result.andThen_ok, loadVar, kindT_false hk, Bool.false_eq_true, if_false, load, Sem.run, hcell]
    · cases h
  · cases h
theorem cellM_le {M M' : Mem} (h : Mem.le M M') {b i : Nat} {v : Value} (hc : cellM M b i = some v) : cellM M' b i = some v := by
  unfold cellM at hc ⊢
  split at hc
  · rename_i arr e f hb; rw [h _ _ hb]; exact hc
  · cases hc
theorem rowM_le {M M' : Mem} (h : Mem.le M M') {b : Nat} : ∀ {m i : Nat} {l : List Value}, rowM M b i m = some l → rowM M' b i m = some l
  | 0, i, l, hc => hc
  | m + 1, i, l, hc => by
    simp only [rowM] at hc ⊢
    split at hc
    · rename_i v r h1 h2
      rw [cellM_le h h1, rowM_le h h2]; exact hc
    · cases hc
theorem lookM_le {M M' : Mem} (h : Mem.le M M') {T : TypeId} {u v : Value} (hc : lookM P T M u = some v) : lookM P T M' u = some v := by
  unfold lookM at hc ⊢
  split at hc
  · rename_i b off
    split at hc
    · rename_i m hk hz
      simp only [Option.map_eq_some_iff] at hc
      obtain ⟨l, hl, rfl⟩ := hc
      simp only [hk, hz, rowM_le h hl, Option.map_some]
    · rename_i m hk hz
      simp only [hk, hz, cellM_le h hc]
    · cases hc
  · cases hc
def wr (arr : Array Value) : Nat → List Value → Array Value
  | _, [] => arr
  | o, v :: r => wr (arr.setIfInBounds o v) (o + 1) r
theorem wr_size : ∀ (vs : List Value) (arr : Array Value) (o : Nat), (wr arr o vs).size = arr.size
  | [], _, _ => rfl
  | v :: r, arr, o => by rw [wr, wr_size r, Array.size_setIfInBounds]
theorem wr_getD : ∀ (vs : List Value) (arr : Array Value) (o i : Nat), o + vs.length ≤ arr.size →
    (wr arr o vs).getD i undef = if o ≤ i ∧ i < o + vs.length then vs.getD (i - o) undef else arr.getD i undef
  | [], arr, o, i, h => by simp [wr]; intro h1 h2; omega
  | v :: r, arr, o, i, h => by
    simp only [List.length_cons] at h ⊢
    rw [wr, wr_getD r _ (o + 1) i (by rw [Array.size_setIfInBounds]; omega)]
    by_cases h1 : o + 1 ≤ i ∧ i < o + 1 + r.length
    · rw [if_pos h1, if_pos (by omega)]
      obtain ⟨j, rfl⟩ : ∃ j, i = o + 1 + j := ⟨i - (o + 1), by omega⟩
      rw [show o + 1 + j - (o + 1) = j by omega, show o + 1 + j - o = j + 1 by omega]
      simp
    · rw [if_neg h1]
      by_cases h2 : i = o
      · subst h2
        rw [if_pos (by omega)]
        have : i < arr.size := by omega
        simp [Array.getD, this]
      · rw [if_neg (by omega)]
        have : o ≠ i := fun e => h2 e.symm
        by_cases h3 : i < arr.size
        · simp [Array.getD, h3, Array.getElem_setIfInBounds, this]
        · simp [Array.getD, h3]
theorem heap_setCell {b o : Nat} {arr : Array Value} {T : TypeId} {fr : Nat × Nat} (w : World) (v : Value) (h : w.heap[b]? = some (.cells arr T fr)) :
    (w.setCell ⟨b, o, none⟩ v).heap[b]? = some (.cells (arr.setIfInBounds o v) T fr) := by
  simp [World.setCell, Array.getElem?_modify, h]
theorem heap_setCells {b : Nat} {T : TypeId} {fr : Nat × Nat} : ∀ (vs : List Value) (o : Nat) (w : World) (arr : Array Value), w.heap[b]? = some (.cells arr T fr) →
    (w.setCells b o vs).heap[b]? = some (.cells (wr arr o vs) T fr)
  | [], _, _, _, h => h
  | v :: r, o, w, arr, h => heap_setCells r (o + 1) _ _ (heap_setCell w v h)
structure Same (b : Nat) (w w' : World) : Prop where
  os : w'.os = w.os
  tape : w'.tape = w.tape
  output : w'.output = w.output
  size : w'.heap.size = w.heap.size
  block : ∀ i, i ≠ b → w'.heap[i]? = w.heap[i]?
theorem Same.refl (b : Nat) (w : World) : Same b w w := ⟨rfl, rfl, rfl, rfl, fun _ _ => rfl⟩
theorem Same.trans {b : Nat} {x y z : World} (h : Same b x y) (k : Same b y z) : Same b x z :=
  ⟨k.os.trans h.os, k.tape.trans h.tape, k.output.trans h.output, k.size.trans h.size, fun i hi => (k.block i hi).trans (h.block i hi)⟩
theorem same_setCell (b o : Nat) (w : World) (v : Value) : Same b w (w.setCell ⟨b, o, none⟩ v) :=
  ⟨rfl, rfl, rfl, by simp [World.setCell], fun i hi => by
    have : b ≠ i := fun e => hi e.symm
    simp [World.setCell, Array.getElem?_modify, this]⟩
theorem same_setCells (b : Nat) : ∀ (vs : List Value) (o : Nat) (w : World), Same b w (w.setCells b o vs)
  | [], _, w => Same.refl b w
  | v :: r, o, w => (same_setCell b o w v).trans (same_setCells b r (o + 1) _)
theorem run_store1 (a : Addr) (u : Value) (w : World) (h1 : u.oneCell' = true) {x : Value} (hc : w.cell? a = some x) (hf : w.frozen? a = false) :
    (store a u).run P w = .ok () (w.setCell a u) := by
  cases u <;> first | (simp [store, Sem.run, hc, hf]; done) | cases h1
theorem store_ok {k k' off : Nat} {T Tb : TypeId} {cs cs' : List AV} {b : Blk} {arr : Array Value} {ob : Prop} {v : AV} {u : Value} (hr : storeR P T k cs off v = .sto ob k' cs') (ho : ob)
    (hb : Row ρ w Tb cs b arr) (hu : v.is ρ u) :
    ∃ w' arr', (Instr.storeAt T (ptr b.b off) u).run P w = .ok () w' ∧ Same b.b w w' ∧ k' = k ∧ Row ρ w' Tb cs' b arr' := by
  have hz := hb.size
  have hle := hb.le
  have hfz : ∀ o, w.frozen? ⟨b.b, o, none⟩ = false := fun o => by simp [World.frozen?, hb.there]
  unfold storeR at hr
  split at hr
  · rename_i m hk hs
    split at hr
    · rename_i l hl
      simp only [Res.sto.injEq] at hr
      obtain ⟨rfl, rfl, rfl⟩ := hr
      obtain ⟨o1, o2, o3⟩ := ho
      obtain ⟨us, rfl, hus⟩ := cellsG_ok hl hu
      have hul := isL_length hus
      have hthere : w.there b.b off us.toArray.size := fun j hj => by
        refine ⟨?_, hfz _⟩
        rw [cell_of hb.there]
        have : off + j < arr.size := by simp at hj; omega
        simp [this]
      refine ⟨w.setCells b.b off us, wr arr off us, ?_, same_setCells b.b _ _ _, rfl, heap_setCells _ _ _ _ hb.there, by rw [wr_size]; exact hz, ?_, ?_⟩
      · have := run_storeAt_mid (P := P) w b.b off T us.toArray hthere (by unfold szO at hs; rw [hs]; simp [hul, o2]) (by simpa using all_oneCell_toArray (allOne_ok o3 hus))
        simpa [ptr] using this
      · simp; omega
      · intro i v' hv'
        rw [wr_getD _ _ _ _ (by omega)]
        by_cases h1 : off ≤ i ∧ i < off + us.length
        · rw [if_pos h1]
          rw [List.getElem?_append_right (by simp; omega)] at hv'
          have h2 : i - (cs.take off).length = i - off := by simp; omega
          rw [h2, List.getElem?_append_left (by omega)] at hv'
          exact isL_get hus _ _ hv'
        · rw [if_neg h1]
          by_cases h2 : i < off
          · rw [List.getElem?_append_left (by simp; omega), List.getElem?_take_of_lt h2] at hv'
            exact hb.is i _ hv'
          · rw [List.getElem?_append_right (by simp; omega), List.getElem?_append_right (by simp; omega), List.getElem?_drop] at hv'
            have h3 : off + m + (i - (cs.take off).length - l.length) = i := by simp; omega
            rw [h3] at hv'
            exact hb.is i _ hv'
    · cases hr
  · rename_i m hk hs
    simp only [Res.sto.injEq] at hr
    obtain ⟨rfl, rfl, rfl⟩ := hr
    obtain ⟨o1, rfl, o3⟩ := ho
    obtain ⟨h1, h2⟩ := one_cells o3 hu
    have hlt : off < arr.size := by omega
    have hcell : w.cell? ⟨b.b, off, none⟩ = some arr[off] := by rw [cell_of hb.there]; exact Array.getElem?_eq_getElem hlt
    refine ⟨w.setCell ⟨b.b, off, none⟩ u, arr.setIfInBounds off u, ?_, same_setCell b.b off w u, rfl, heap_setCell w u hb.there, by simp [hz], by simpa using hle, ?_⟩
    · unfold szO at hs
      cases hq : P.info? T with
      | none => simp [hq] at hs
      | some i =>
        have hs1 : i.size = 1 := by simpa [hq] using hs
        have hst := run_store1 (P := P) ⟨b.b, off, none⟩ u w h1 hcell (hfz off)
        simp [Instr.storeAt, ptr, Instr.sureAddr, Sem.run_bind, storeVar, sizeOf, typeInfo, hq, h2, hs1, storeCells, Addr.add, hst]
    · intro i v' hv'
      by_cases h3 : off = i
      · subst h3
        rw [List.getElem?_set_self (by omega)] at hv'
        injection hv' with hv'
        subst hv'
        simpa [Array.getD, hlt] using hu
      · rw [List.getElem?_set_ne h3] at hv'
        have h4 := hb.is i v' hv'
        by_cases h5 : i < arr.size
        · simp [Array.getD, h5, Array.getElem_setIfInBounds, h3] at h4 ⊢; exact h4
        · simp [Array.getD, h5] at h4 ⊢; exact h4
  · cases hr
theorem lkH_upH : ∀ (hp : Hp) (k j : Nat) (cs : List AV), lkH (upH hp k cs) j = if k = j then (lkH hp k).map (fun x => (x.1, cs)) else lkH hp j
  | [], k, j, cs => by simp [upH, lkH]
  | (i, T, v) :: r, k, j, cs => by
    by_cases h : i = k
    · subst h
      by_cases h2 : i = j
      · subst h2; simp [upH, lkH]
      · simp [upH, lkH, h2]
    · simp only [upH, if_neg h, lkH, lkH_upH r k j cs]
      by_cases h2 : i = j
      · subst h2
        have : k ≠ i := fun e => h e.symm
        simp [this]
      · simp [h2]
theorem getD_put {a : Act} {d t : Nat} {u : Value} (hd : d < a.tmps.size) : ((a.put (some d) u).tmps).getD t undef = if d = t then u else a.tmps.getD t undef := by
  by_cases h : d = t
  · subst h; simp [Act.put, Array.getD, hd]
  · by_cases ht : t < a.tmps.size
    · simp [Act.put, Array.getD, ht, h, Array.getElem_setIfInBounds]
    · simp [Act.put, Array.getD, ht, h]
theorem Gam.put (h : Gam c n s ρ a w) {v : AV} {u : Value} {d : Option Nat} (hv : v.is ρ u) (hd : dOK n d) : Gam c n (s.put d v) ρ (a.put d u) w := by
  cases d with
  | none => exact h
  | some d =>
    have hd' : d < a.tmps.size := by rw [h.sz]; exact hd
    refine { h with df := h.df, sz := ?_, env := fun t => ?_ }
    · show (a.tmps.setIfInBounds d u).size = n
      rw [Array.size_setIfInBounds]; exact h.sz
    · rw [getD_put hd']
      show AV.is ρ (lk ((d, v) :: s.env) t) _
      by_cases e : d = t
      · subst e; simpa [lk] using hv
      · simpa [lk, e] using h.env t
theorem Row.same {T : TypeId} {cs : List AV} {b : Blk} {arr : Array Value} {x : Nat} {w' : World} (h : Row ρ w T cs b arr) (hs : Same x w w') (hne : b.b ≠ x) : Row ρ w' T cs b arr :=
  ⟨by rw [hs.block _ hne]; exact h.there, h.size, h.le, h.is⟩
theorem Gam.sto (h : Gam c n s ρ a w) {w' : World} {k : Nat} {b : Blk} {T : TypeId} {cs cs' : List AV} {arr' : Array Value} (hk : lkH s.hp k = some (T, cs)) (hb : ρ k = some b)
    (hs : Same b.b w w') (hr : Row ρ w' T cs' b arr') :
    Gam c n { s with hp := upH s.hp k cs' } ρ a w' := by
  obtain ⟨_, e5, e6⟩ := h.hp k T cs b hk hb
  have hsome : ∀ j, (lkH (upH s.hp k cs') j).isSome = true → (lkH s.hp j).isSome = true := fun j hj => by
    rw [lkH_upH] at hj
    by_cases e : k = j
    · subst e; rw [hk]; rfl
    · simpa [e] using hj
  refine { df := h.df, sz := h.sz, env := h.env, hp := fun j T' ds x hj hx => ?_, no := fun j T' ds hj hx => ?_, inj := fun j j' x x' hj hj' => h.inj j j' x x' (hsome j hj) (hsome j' hj'), os := hs.os.trans h.os, tape := hs.tape.trans h.tape, output := hs.output.trans h.output, size := by rw [hs.size]; exact h.size, block := fun i hi hx => ?_, sub := fun x o hx => ?_, le := h.le, mf := h.mf, fix := fun j hj => by rw [lkH_upH]; have := h.fix j hj; split <;> simp_all, fx := h.fx, kl := h.kl, fr := h.fr }
  · simp only [lkH_upH] at hj
    by_cases e : k = j
    · subst e
      rw [if_pos rfl, hk] at hj
      simp only [Option.map_some, Option.some.injEq, Prod.mk.injEq] at hj
      obtain ⟨rfl, rfl⟩ := hj
      rw [hb] at hx
      injection hx with hx
      subst hx
      exact ⟨⟨arr', hr⟩, e5, e6⟩
    · rw [if_neg e] at hj
      obtain ⟨⟨arr2, f1⟩, f2⟩ := h.hp j T' ds x hj hx
      have hne : x.b ≠ b.b := fun ex => e (h.inj k j b x (by rw [hk]; rfl) (by rw [hj]; rfl) hb hx ex.symm)
      exact ⟨⟨arr2, f1.same hs hne⟩, f2⟩
  · simp only [lkH_upH] at hj
    by_cases e : k = j
    · subst e; rw [hb] at hx; cases hx
    · rw [if_neg e] at hj; exact h.no j T' ds hj hx
  · have hne : i ≠ b.b := fun ei => by
      subst ei
      rcases e5 with e5 | e5
      · omega
      · exact hx e5
    rw [hs.block i hne]; exact h.block i hi hx
  · have hne : x ≠ b.b := fun ex => by
      subst ex
      rw [e6] at hx; cases hx
    rw [hs.block x hne]; exact h.sub x o hx
theorem lkH_sub : ∀ (hp : Hp) (ks : List Nat) (k : Nat), lkH (subH hp ks) k = if k ∈ ks then lkH hp k else none
  | [], ks, k => by simp [subH, lkH]
  | (j, x) :: r, ks, k => by
    have ih := lkH_sub r ks k
    by_cases hj : hasK j ks = true
    · simp only [subH, hj, if_true, lkH]
      by_cases e : j = k
      · subst e
        simp [hasK_iff.1 hj]
      · simp [e, ih]
    · simp only [subH, hj, lkH]
      by_cases e : j = k
      · subst e
        have : j ∉ ks := fun h => hj (hasK_iff.2 h)
        simp [this, ih]
      · simp [e, ih]
theorem lkH_drop (G : Hp) (k : Nat) : ∀ hp : Hp, lkH (dropH G hp) k = if (lkH G k).isSome = true then none else lkH hp k
  | [] => by simp [dropH, lkH]
  | (j, x) :: r => by
    have ih := lkH_drop G k r
    simp only [dropH]
    split
    · rename_i h1
      rw [ih]
      split
      · rfl
      · rename_i h2
        simp only [lkH]
        rw [if_neg (fun e => h2 (by rw [← e]; exact h1))]
    · rename_i h1
      simp only [lkH]
      split
      · rename_i e
        subst e
        rw [if_neg h1]
      · exact ih
theorem lkH_app (k : Nat) (B : Hp) : ∀ A : Hp, lkH (A ++ B) k = (lkH A k).orElse fun _ => lkH B k
  | [] => by simp [lkH]
  | (j, x) :: r => by
    have ih := lkH_app k B r
    simp only [List.cons_append, lkH]
    split
    · rfl
    · exact ih
theorem lkH_join (hp : Hp) (H' : Hp) (k : Nat) : lkH (joinH hp H') k = (lkH H' k).orElse fun _ => lkH hp k := by
  rw [joinH, lkH_app, lkH_drop]
  cases h : lkH H' k <;> simp
theorem newKeys_ok {H : Hp} : ∀ {H' : Hp}, newKeys s H H' → ∀ k, (lkH H' k).isSome = true → (lkH H k).isSome = true ∨ awayP k s
  | [], _, k, hk => by simp [lkH] at hk
  | (j, x) :: r, h, k, hk => by
    simp only [lkH] at hk
    split at hk
    · rename_i e; subst e; exact h.1
    · exact newKeys_ok h.2 k hk
mutual
theorem kill_is {k : Nat} : ∀ {v : AV} {u : Value}, v.is ρ u → (v.kill k).is ρ u
  | .ext v, u, h => h
  | .gd g v, u, h => h
  | .own j o, u, h => by simp only [AV.kill]; split <;> first | trivial | exact h
  | .gown g j o, u, h => by simp only [AV.kill]; split <;> first | trivial | exact h
  | .slo j o n z, u, h => by simp only [AV.kill]; split <;> first | trivial | exact h
  | .fn f l, u, h => by obtain ⟨us, h1, e⟩ := h; exact ⟨us, killL_is h1, e⟩
  | .ag t l, u, h => by obtain ⟨us, h1, e⟩ := h; exact ⟨us, killL_is h1, e⟩
  | .unk, u, h => trivial
theorem killL_is {k : Nat} : ∀ {l : List AV} {us : List Value}, isL ρ l us → isL ρ (killL k l) us
  | [], us, h => h
  | v :: l, us, h => by obtain ⟨u, r, e, h1, h2⟩ := h; exact ⟨u, r, e, kill_is h1, killL_is h2⟩
end
mutual
theorem kill_ment {k j : Nat} : ∀ {v : AV}, j ∈ (v.kill k).ment → j ≠ k ∧ j ∈ v.ment
  | .ext v, h => by simp [AV.kill, AV.ment] at h
  | .gd g v, h => by simp [AV.kill, AV.ment] at h
  | .own i o, h => by
    simp only [AV.kill] at h
    split at h
    · simp [AV.ment] at h
    · rename_i e; simp only [AV.ment, List.mem_singleton] at h ⊢; subst h; exact ⟨e, rfl⟩
  | .gown g i o, h => by
    simp only [AV.kill] at h
    split at h
    · simp [AV.ment] at h
    · rename_i e; simp only [AV.ment, List.mem_singleton] at h ⊢; subst h; exact ⟨e, rfl⟩
  | .slo i o n z, h => by
    simp only [AV.kill] at h
    split at h
    · simp [AV.ment] at h
    · rename_i e; simp only [AV.ment, List.mem_singleton] at h ⊢; subst h; exact ⟨e, rfl⟩
  | .fn f l, h => by simp only [AV.kill, AV.ment] at h ⊢; exact killL_ment h
  | .ag t l, h => by simp only [AV.kill, AV.ment] at h ⊢; exact killL_ment h
  | .unk, h => by simp [AV.kill, AV.ment] at h
theorem killL_ment {k j : Nat} : ∀ {l : List AV}, j ∈ mentL (killL k l) → j ≠ k ∧ j ∈ mentL l
  | [], h => by simp [killL, mentL] at h
  | v :: l, h => by
    simp only [killL, mentL, List.mem_append] at h ⊢
    rcases h with h | h
    · exact ⟨(kill_ment h).1, .inl (kill_ment h).2⟩
    · exact ⟨(killL_ment h).1, .inr (killL_ment h).2⟩
end
theorem lk_killE (k : Nat) : ∀ (e : Env) (t : Nat), lk (killE k e) t = (lk e t).kill k
  | [], t => rfl
  | (d, v) :: r, t => by
    simp only [killE, lk]
    split
    · rfl
    · exact lk_killE k r t
theorem killL_get (k : Nat) : ∀ (l : List AV) (i : Nat), (killL k l)[i]? = (l[i]?).map (AV.kill k)
  | [], i => by simp [killL]
  | v :: r, 0 => by simp [killL]
  | v :: r, i + 1 => by simp [killL, killL_get k r i]
theorem killL_length (k : Nat) : ∀ (l : List AV), (killL k l).length = l.length
  | [] => rfl
  | v :: r => by simp [killL, killL_length k r]
theorem lkH_killH (k : Nat) : ∀ (H : Hp) (j : Nat), lkH (killH k H) j = if j = k then none else (lkH H j).map fun x => (x.1, killL k x.2)
  | [], j => by simp [killH, lkH]
  | (i, T, cs) :: r, j => by
    simp only [killH]
    by_cases e : i = k
    · rw [if_pos e, lkH_killH k r j]
      by_cases e2 : j = k
      · simp [e2]
      · rw [if_neg e2, if_neg e2]
        simp only [lkH]
        rw [if_neg fun e3 => e2 (by rw [← e3, e])]
    · rw [if_neg e]
      simp only [lkH]
      by_cases e2 : i = j
      · subst e2; simp [e]
      · rw [if_neg e2, if_neg e2]; exact lkH_killH k r j
theorem killEs_is {mv : List Nat} {e : Env} {t : Nat} {u : Value} (h : (lk e t).is ρ u) : (lk (killEs mv e) t).is ρ u := by
  induction mv with
  | nil => exact h
  | cons k r ih => simp only [killEs, lk_killE]; exact kill_is ih
theorem killEs_ment {mv : List Nat} {e : Env} {t j : Nat} (h : j ∈ (lk (killEs mv e) t).ment) : j ∉ mv ∧ j ∈ (lk e t).ment := by
  induction mv with
  | nil => exact ⟨by simp, h⟩
  | cons k r ih =>
    simp only [killEs, lk_killE] at h
    obtain ⟨h1, h2⟩ := kill_ment h
    obtain ⟨h3, h4⟩ := ih h2
    exact ⟨by simp [h1, h3], h4⟩
theorem killHs_some {mv : List Nat} {H : Hp} {j : Nat} {T : TypeId} {cs : List AV} (h : lkH (killHs mv H) j = some (T, cs)) :
    j ∉ mv ∧ ∃ cs0, lkH H j = some (T, cs0) ∧ cs.length = cs0.length ∧ (∀ i ∈ mentL cs, i ∉ mv ∧ i ∈ mentL cs0) ∧ ∀ (ρ : Rho) (i : Nat) (v : AV), cs[i]? = some v → ∃ v0, cs0[i]? = some v0 ∧ ∀ u, v0.is ρ u → v.is ρ u := by
  induction mv generalizing cs with
  | nil => exact ⟨by simp, cs, h, rfl, fun i hi => ⟨by simp, hi⟩, fun ρ i v hv => ⟨v, hv, fun u hu => hu⟩⟩
  | cons k r ih =>
    simp only [killHs, lkH_killH] at h
    split at h
    · cases h
    · rename_i hne
      simp only [Option.map_eq_some_iff, Prod.mk.injEq] at h
      obtain ⟨⟨T1, cs1⟩, h1, rfl, rfl⟩ := h
      obtain ⟨i1, cs0, i2, i3, i4, i5⟩ := ih h1
      refine ⟨by simp [hne, i1], cs0, i2, by rw [killL_length]; exact i3, fun i hi => ?_, fun ρ i v hv => ?_⟩
      · obtain ⟨g1, g2⟩ := killL_ment hi
        obtain ⟨g3, g4⟩ := i4 i g2
        exact ⟨by simp [g1, g3], g4⟩
      · simp only [killL_get, Option.map_eq_some_iff] at hv
        obtain ⟨v1, hv1, rfl⟩ := hv
        obtain ⟨v0, g1, g2⟩ := i5 ρ i v1 hv1
        exact ⟨v0, g1, fun u hu => kill_is (g2 u hu)⟩
theorem killHs_of {mv : List Nat} {H : Hp} {j : Nat} (hj : j ∉ mv) (h : (lkH H j).isSome = true) : (lkH (killHs mv H) j).isSome = true := by
  induction mv with
  | nil => exact h
  | cons k r ih =>
    simp only [List.mem_cons, not_or] at hj
    simp only [killHs, lkH_killH, if_neg hj.1, Option.isSome_map]
    exact ih hj.2
theorem Gam.left (h : Gam c n s ρ a w) {ks mv : List Nat} {u : Value} {v : AV} {H' : Hp} {M' : Mem} {ρ1 : Rho} {w' : World} {d : Option Nat} (hd : dOK n d) (hmv : ∀ k ∈ mv, (lkH (subH s.hp ks) k).isSome = true ∧ k ∉ s.fx)
    (hnk : newKeys s (subH s.hp ks) H') (hl : Left mv (subH s.hp ks) s.M ρ ρ1 w u v H' M' w') :
    ∃ ρ', Gam c n ({ env := killEs mv s.env, hp := joinH (killHs mv s.hp) H', M := M', kb := s.kb, fx := s.fx, fr := s.fr : St }.put d v) ρ' (a.put d u) w' := by
  have hsub : ∀ k, (lkH (subH s.hp ks) k).isSome = true → (lkH s.hp k).isSome = true ∧ k ∈ ks := fun k hk => by
    rw [lkH_sub] at hk
    by_cases e : k ∈ ks
    · rw [if_pos e] at hk; exact ⟨hk, e⟩
    · rw [if_neg e] at hk; cases hk
  have hnew : ∀ k, (lkH H' k).isSome = true → (lkH (subH s.hp ks) k).isSome = true ∨ awayP k s := newKeys_ok hnk
  have hold : ∀ k, ¬ awayP k s → k ∉ mv → ρ1 k = ρ k := fun k hk hm => by
    refine hl.same k ?_ hm
    cases hx : lkH H' k with
    | none => exact .inr rfl
    | some x =>
      rcases hnew k (by rw [hx]; rfl) with h1 | h1
      · exact .inl h1
      · exact absurd h1 hk
  have hment : ∀ t k, k ∈ (lk (killEs mv s.env) t).ment → ρ k = ρ1 k := fun t k hk => by
    obtain ⟨h1, h2⟩ := killEs_ment hk
    exact (hold k (fun ha => awayP_env ha t h2) h1).symm
  have hkey : ∀ j x, lkH s.hp j = some x → j ∉ mv → ρ j = ρ1 j := fun j x hj hm => (hold j (fun ha => (awayP_hp ha j x.1 x.2 hj).1 rfl) hm).symm
  have hcase : ∀ k x, lkH (joinH (killHs mv s.hp) H') k = some x → lkH H' k = some x ∨ (lkH H' k = none ∧ lkH (killHs mv s.hp) k = some x) := fun k x hk => by
    rw [lkH_join] at hk
    cases hx : lkH H' k with
    | some y => rw [hx] at hk; exact .inl hk
    | none => rw [hx] at hk; exact .inr ⟨rfl, by simpa using hk⟩
  have hcaseS : ∀ k, (lkH (joinH (killHs mv s.hp) H') k).isSome = true → (lkH H' k).isSome = true ∨ (lkH H' k = none ∧ k ∉ mv ∧ (lkH s.hp k).isSome = true) := fun k hk => by
    obtain ⟨⟨T, cs⟩, hx⟩ := Option.isSome_iff_exists.1 hk
    rcases hcase k _ hx with h1 | ⟨h1, h2⟩
    · exact .inl (by rw [h1]; rfl)
    · obtain ⟨g1, cs0, g2, _⟩ := killHs_some h2
      exact .inr ⟨h1, g1, by rw [g2]; rfl⟩
  have hnot : ∀ k, lkH H' k = none → ¬ (lkH (subH s.hp ks) k).isSome = true := fun k hn e => by have := hl.keep k e; rw [hn] at this; cases this
  have houtB : ∀ k T cs b, lkH (killHs mv s.hp) k = some (T, cs) → lkH H' k = none → ρ k = some b → (∃ arr, Row ρ1 w' T cs b arr) ∧ (c.w0.heap.size ≤ b.b ∨ b.b ∈ c.X) ∧ M' b.b = none := fun k T cs b hk hn hb => by
    obtain ⟨g1, cs0, g2, g3, g4, g5⟩ := killHs_some hk
    obtain ⟨⟨arr, h1⟩, h5, h6⟩ := h.hp k T cs0 b g2 hb
    have hlt := h1.lt
    refine ⟨⟨arr, ?_, h1.size, by rw [g3]; exact h1.le, fun i v hv => ?_⟩, h5, ?_⟩
    · rw [hl.block b.b hlt fun j x hj hjx e => ?_]; exact h1.there
      have := h.inj j k x b (hsub j hj).1 (by rw [g2]; rfl) hjx hb e
      subst this; exact hnot _ hn hj
    · obtain ⟨v0, e1, e2⟩ := g5 ρ i v hv
      refine is_agree (fun j hj => ?_) (e2 _ (h1.is i v0 e1))
      obtain ⟨e3, e4⟩ := g4 j (mentL_get hv hj)
      exact (hold j (fun ha => (awayP_hp ha k T cs0 g2).2 e4) e3).symm
    · cases hx : M' b.b with
      | none => rfl
      | some o =>
        rcases hl.mem b.b (by rw [hx]; simp) with h7 | h7
        · exact absurd h6 h7
        · omega
  -- a block of H' and one outside of it are not the same
  have hapart : ∀ k k' b b', (lkH H' k).isSome = true → (lkH H' k' = none ∧ k' ∉ mv ∧ (lkH s.hp k').isSome = true) → ρ1 k = some b → ρ1 k' = some b' → b.b = b'.b → False := fun k k' b b' hk hk' hb hb' e => by
    obtain ⟨x', hx'⟩ := Option.isSome_iff_exists.1 hk'.2.2
    have hb2 : ρ k' = some b' := by rw [hkey k' x' hx' hk'.2.1]; exact hb'
    have hlt := h.lt hx' hb2
    rcases hl.fresh k b hk hb with h1 | ⟨j, x, h1, h2, h3⟩
    · omega
    · have := h.inj j k' x b' (hsub j h1).1 hk'.2.2 h2 hb2 (by rw [h3, e])
      subst this
      exact hnot _ hk'.1 h1
  have hX : ∀ j x, (lkH (subH s.hp ks) j).isSome = true → ρ j = some x → c.w0.heap.size ≤ x.b ∨ x.b ∈ c.X := fun j x hj hx => by
    obtain ⟨y, hy⟩ := Option.isSome_iff_exists.1 (hsub j hj).1
    exact (h.hp j y.1 y.2 x hy hx).2.1
  have g : Gam c n { env := killEs mv s.env, hp := joinH (killHs mv s.hp) H', M := M', kb := s.kb, fx := s.fx, fr := s.fr } ρ1 a w' := by
    refine { df := h.df, sz := h.sz, env := fun t => is_agree (hment t) (killEs_is (h.env t)), hp := fun k T cs b hk hb => ?_, no := fun k T cs hk hb => ?_, inj := fun k k' b b' hk hk' hb hb' e => ?_, os := hl.os.trans h.os, tape := hl.tape.trans h.tape, output := hl.output.trans h.output, size := Nat.le_trans h.size hl.size, block := fun i hi hx => ?_, sub := hl.heap.sub, le := h.le.trans hl.le, mf := fun b hb => ?_, fix := fun k hk => ?_, fx := fun k hk => ?_, kl := h.kl, fr := h.fr }
    · rcases hcase k _ hk with hx | ⟨hn, hx⟩
      · obtain ⟨h1, h2⟩ := hl.heap.hp k T cs b hx hb
        refine ⟨h1, ?_, h2⟩
        rcases hl.fresh k b (by rw [hx]; rfl) hb with h3 | ⟨j, x, h3, h4, h5⟩
        · exact .inl (Nat.le_trans h.size h3)
        · rw [← h5]; exact hX j x h3 h4
      · obtain ⟨g1, cs0, g2, _⟩ := killHs_some hx
        exact houtB k T cs b hx hn (by rw [hkey k _ g2 g1]; exact hb)
    · rcases hcase k _ hk with hx | ⟨hn, hx⟩
      · exact hl.heap.no k T cs hx hb
      · obtain ⟨g1, cs0, g2, g3, _⟩ := killHs_some hx
        have := h.no k T cs0 g2 (by rw [hkey k _ g2 g1]; exact hb)
        subst this
        exact List.eq_nil_of_length_eq_zero (by simpa using g3)
    · rcases hcaseS k hk with h1 | h1
      · rcases hcaseS k' hk' with h2 | h2
        · exact hl.heap.inj k k' b b' h1 h2 hb hb' e
        · exact (hapart k k' b b' h1 h2 hb hb' e).elim
      · rcases hcaseS k' hk' with h2 | h2
        · exact (hapart k' k b' b h2 h1 hb' hb e.symm).elim
        · obtain ⟨x, hx⟩ := Option.isSome_iff_exists.1 h1.2.2
          obtain ⟨x', hx'⟩ := Option.isSome_iff_exists.1 h2.2.2
          exact h.inj k k' b b' h1.2.2 h2.2.2 (by rw [hkey k x hx h1.2.1]; exact hb) (by rw [hkey k' x' hx' h2.2.1]; exact hb') e
    · rw [hl.block i (Nat.lt_of_lt_of_le hi h.size) fun j x hj hjx e => ?_]; exact h.block i hi hx
      subst e
      rcases hX j x hj hjx with e5 | e5
      · omega
      · exact hx e5
    · rcases hl.mem b hb with h7 | h7
      · exact h.mf b h7
      · exact .inr (Nat.le_trans h.size h7)
    · have f1 := h.fix k hk
      simp only [lkH_join]
      cases hx : lkH H' k with
      | some x => simp
      | none =>
        simp only [Option.orElse_none]
        refine killHs_of (fun hm => ?_) f1
        exact hnot k hx (hmv k hm).1
    · have e1 := h.fx k hk
      rw [← e1]
      have hm : k ∉ mv := fun hm => (hmv k hm).2 hk
      cases hx : lkH H' k with
      | none => exact hl.same k (.inr hx) hm
      | some x =>
        rcases hnew k (by rw [hx]; rfl) with h1 | h1
        · exact hl.same k (.inl h1) hm
        · exact absurd (show k ∈ s.fx from hk) (awayP_fx h1)
  exact ⟨ρ1, g.put hl.is hd⟩
theorem Gam.heapIs (h : Gam c n s ρ a w) (ks : List Nat) : HeapIs ρ (subH s.hp ks) s.M w := by
  have key : ∀ j x, lkH (subH s.hp ks) j = some x → lkH s.hp j = some x := fun j x hj => by
    rw [lkH_sub] at hj
    split at hj
    · exact hj
    · cases hj
  have keyS : ∀ j, (lkH (subH s.hp ks) j).isSome = true → (lkH s.hp j).isSome = true := fun j hj => by
    obtain ⟨x, hx⟩ := Option.isSome_iff_exists.1 hj
    rw [key j x hx]; rfl
  exact ⟨fun k T cs b hk hb => by obtain ⟨h1, _, h2⟩ := h.hp k T cs b (key k _ hk) hb; exact ⟨h1, h2⟩, fun k T cs hk hb => h.no k T cs (key k _ hk) hb, fun k k' b b' hk hk' => h.inj k k' b b' (keyS k hk) (keyS k' hk'), h.sub⟩
def upd (ρ : Rho) (k : Nat) (b : Option Blk) : Rho := fun j => if j = k then b else ρ j
theorem upd_self (ρ : Rho) (k : Nat) (b : Option Blk) : upd ρ k b k = b := by simp [upd]
theorem upd_ne (ρ : Rho) {k j : Nat} (b : Option Blk) (h : j ≠ k) : upd ρ k b j = ρ j := by simp [upd, h]
theorem is_upd {v : AV} {u : Value} {k : Nat} {b : Option Blk} (h : k ∉ v.ment) (hu : v.is ρ u) : v.is (upd ρ k b) u :=
  is_agree (fun j hj => by rw [upd_ne ρ b fun e => by subst e; exact h hj]) hu
theorem isL_upd {l : List AV} {us : List Value} {k : Nat} {b : Option Blk} (h : k ∉ mentL l) (hu : isL ρ l us) : isL (upd ρ k b) l us :=
  isL_agree (fun j hj => by rw [upd_ne ρ b fun e => by subst e; exact h hj]) hu
theorem Gam.new (h : Gam c n s ρ a w) {k d : Nat} {T : TypeId} {cs : List AV} {arr : Array Value} {v : AV} {u : Value} (h1 : ∀ t, k ∉ (lk s.env t).ment) (h2 : ∀ j T cs, lkH s.hp j = some (T, cs) → j ≠ k ∧ k ∉ mentL cs) (hfx : k ∉ s.fx) (hd : d < n)
    (hz : cs.length ≤ arr.size) (hcs : ∀ (i : Nat) (v : AV), cs[i]? = some v → v.is ρ (arr.getD i undef)) (hk : k ∉ mentL cs)
    (hv : v.is (upd ρ k (some ⟨w.heap.size, arr.size⟩)) u) : Gam c n { env := (d, v) :: s.env, hp := (k, T, cs) :: s.hp, M := s.M, kb := s.kb, fx := s.fx, fr := s.fr } (upd ρ k (some ⟨w.heap.size, arr.size⟩)) (a.put (some d) u) (w.alloc (.cells arr T)) := by
  have hd' : d < a.tmps.size := by rw [h.sz]; exact hd
  have hold : ∀ i, i < w.heap.size → (w.alloc (.cells arr T)).heap[i]? = w.heap[i]? := fun i hi => Below.heap_alloc w _ i hi
  have hlk : ∀ j x, lkH ((k, T, cs) :: s.hp) j = some x → (j = k ∧ x = (T, cs)) ∨ (j ≠ k ∧ lkH s.hp j = some x) := fun j x hj => by
    by_cases e : k = j
    · subst e; simp [lkH] at hj; exact .inl ⟨rfl, hj.symm⟩
    · simp [lkH, e] at hj; exact .inr ⟨fun e2 => e e2.symm, hj⟩
  have hlt : ∀ j b, j ≠ k → (lkH s.hp j).isSome = true → upd ρ k (some ⟨w.heap.size, arr.size⟩) j = some b → b.b < w.heap.size := fun j b hj hs hb => by
    obtain ⟨x, hx⟩ := Option.isSome_iff_exists.1 hs
    rw [upd_ne _ _ hj] at hb
    exact h.lt hx hb
  refine { df := h.df, sz := ?_, env := fun t => ?_, hp := fun j T' ds b hj hb => ?_, no := fun j T' ds hj hb => ?_, inj := fun j j' b b' hj hj' hb hb' e => ?_, os := h.os, tape := h.tape, output := h.output, size := by rw [World.size_alloc]; exact Nat.le_succ_of_le h.size, block := fun i hi hx => ?_, sub := fun x o hx => ?_, le := h.le, mf := h.mf, fix := fun j hj => ?_, fx := fun j hj => ?_, kl := h.kl, fr := h.fr }
  · show (a.tmps.setIfInBounds d u).size = n
    rw [Array.size_setIfInBounds]; exact h.sz
  · rw [getD_put hd']
    by_cases e : d = t
    · subst e; simpa [lk] using hv
    · simp only [lk, e, if_false]; exact is_upd (h1 t) (h.env t)
  · rcases hlk j _ hj with ⟨rfl, hx⟩ | ⟨hne, hx⟩
    · simp only [Prod.mk.injEq] at hx
      obtain ⟨rfl, rfl⟩ := hx
      rw [upd_self] at hb
      injection hb with hb
      subst hb
      refine ⟨⟨arr, heap_alloc_new w _, rfl, hz, fun i v hv => is_upd (fun hm => hk (mentL_get hv hm)) (hcs i v hv)⟩, .inl h.size, ?_⟩
      cases hm : s.M w.heap.size with
      | none => rfl
      | some o =>
        have := h.sub _ _ hm
        rw [Array.getElem?_eq_none (Nat.le_refl _)] at this
        cases this
    · rw [upd_ne _ _ hne] at hb
      obtain ⟨⟨arr2, f1⟩, f5⟩ := h.hp j T' ds b hx hb
      obtain ⟨g1, g2⟩ := h2 _ _ _ hx
      exact ⟨⟨arr2, by rw [hold b.b f1.lt]; exact f1.there, f1.size, f1.le, fun i v hv => is_upd (fun hm => g2 (mentL_get hv hm)) (f1.is i v hv)⟩, f5⟩
  · rcases hlk j _ hj with ⟨rfl, hx⟩ | ⟨hne, hx⟩
    · rw [upd_self] at hb; cases hb
    · rw [upd_ne _ _ hne] at hb
      exact h.no j T' ds hx hb
  · have hs : ∀ j, (lkH ((k, T, cs) :: s.hp) j).isSome = true → j = k ∨ (j ≠ k ∧ (lkH s.hp j).isSome = true) := fun j hj => by
      obtain ⟨x, hx⟩ := Option.isSome_iff_exists.1 hj
      rcases hlk j x hx with ⟨e, _⟩ | ⟨e, hx⟩
      · exact .inl e
      · exact .inr ⟨e, by rw [hx]; rfl⟩
    rcases hs j hj with rfl | ⟨hne, hj1⟩
    · rcases hs j' hj' with rfl | ⟨hne', hj1'⟩
      · rfl
      · rw [upd_self] at hb; injection hb with hb; subst hb
        have := hlt j' _ hne' hj1' hb'
        simp only at e
        omega
    · rcases hs j' hj' with rfl | ⟨hne', hj1'⟩
      · rw [upd_self] at hb'; injection hb' with hb'; subst hb'
        have := hlt j _ hne hj1 hb
        simp only at e
        omega
      · rw [upd_ne _ _ hne] at hb
        rw [upd_ne _ _ hne'] at hb'
        exact h.inj j j' b b' hj1 hj1' hb hb' e
  · rw [hold i (Nat.lt_of_lt_of_le hi h.size)]; exact h.block i hi hx
  · have hx' := h.sub x o hx
    rw [hold x (Array.getElem?_eq_some_iff.1 hx').1]; exact hx'
  · obtain ⟨x, hx⟩ := Option.isSome_iff_exists.1 (h.fix j hj)
    have hne : j ≠ k := (h2 _ _ _ hx).1
    simp only [lkH, if_neg (Ne.symm hne)]; exact h.fix j hj
  · rw [upd_ne _ _ fun e => hfx (by rw [← e]; exact hj)]; exact h.fx j hj
end
end Go.Proofs.YtamghpnjdohnjaaDoor.Sx
namespace Go.Proofs.YtamghpnjdohnjaaDoor.Sx
open Go Go.RowKit
set_option linter.unusedVariables false
set_option linter.unusedSimpArgs false
section
variable {P : Program} {c : Cx} {n : Nat} {s : St} {ρ : Rho} {a : Act} {w : World}
theorem run_move {o : Oper} {x : Operand} (h : o.op = .move x ∨ o.op = .assign x) : (execOp a.eval o).run P w = .ok (.value (a.eval x)) w := by
  rcases h with h | h <;> simp [execOp, h] <;> rfl
theorem selV_eq (t : Bool) (u v : Value) : selV t u v = if t = true then u else v := by
  unfold selV
  split
  · cases t <;> rfl
  · rfl
theorem fOff_pt {S f o : Nat} {T : TypeId} {a : Addr} (h : fOff P S f = some (o, T)) (hs : (szO P T).map (· == 0) = some false) :
    (Instr.fieldAt S (.pointer (some a)) f).run P w = .ok (.pointer (some (a.add o))) w := by
  unfold fOff at h
  split at h
  · rename_i fs hS
    simp only [Option.map_eq_some_iff, Prod.mk.injEq] at h
    obtain ⟨fd, hf, rfl, rfl⟩ := h
    unfold szO at hs
    cases hq : P.info? fd.type with
    | none => simp [hq] at hs
    | some i =>
      have : i.size ≠ 0 := by simpa [hq] using hs
      simp [Instr.fieldAt, Sem.run_bind, run_underlying hS, hf, Instr.sureAddr, fieldPlace, sizeOf, typeInfo, hq, this]
  · cases h
theorem fOff_ok {S f o : Nat} {T : TypeId} {b off : Nat} (h : fOff P S f = some (o, T)) (hs : (szO P T).map (· == 0) = some false) :
    (Instr.fieldAt S (ptr b off) f).run P w = .ok (ptr b (off + o)) w := by
  unfold fOff at h
  split at h
  · rename_i fs hS
    simp only [Option.map_eq_some_iff, Prod.mk.injEq] at h
    obtain ⟨fd, hf, rfl, rfl⟩ := h
    have hadd : (Addr.add ⟨b, off, none⟩ fd.offset) = ⟨b, off + fd.offset, none⟩ := Addr.add_mid b off fd.offset
    unfold szO at hs
    cases hq : P.info? fd.type with
    | none => simp [hq] at hs
    | some i =>
      have : i.size ≠ 0 := by simpa [hq] using hs
      simp [Instr.fieldAt, Sem.run_bind, run_underlying hS, hf, Instr.sureAddr, ptr, fieldPlace, sizeOf, typeInfo, hq, this, hadd]
  · cases h
theorem zero_ok {T : TypeId} {cs : List Value} (h : zeroC P T = some cs) : ∃ z, (zeroValue T).run P w = .ok z w ∧ z.cells.toList = cs := by
  unfold zeroC at h
  simp only [Option.map_eq_some_iff, Option.bind_eq_some_iff] at h
  obtain ⟨z, ⟨i, hi, hz⟩, rfl⟩ := h
  exact ⟨z, by simp [zeroValue, typeInfo, hi, hz], rfl⟩
theorem newVar_ok (T : TypeId) (v : Value) : (newVar T v).run P w = .ok ⟨w.heap.size, 0, none⟩ (w.alloc (.cells v.cells T)) := by
  simp only [newVar, newRow, newObj, Sem.run_bind, Sem.run, Result.andThen_ok, Sem.run_pure]; rfl
theorem callsB_ok {f : FuncId} {args : Array Value} (h : callsB P f = true) : (callFunc f args).run P w = .ok (.enter f args) w := by
  unfold callsB at h
  split at h
  · rename_i fn hf
    simp only [Bool.and_eq_true, Bool.not_eq_true'] at h
    have h2 : fn.body.isNone = false := by
      cases hb : fn.body with
      | none => rw [hb] at h; simp at h
      | some _ => rfl
    simp only [callFunc, program, Sem.run_bind, Sem.run, Result.andThen_ok, hf, h.1, Bool.false_eq_true, if_false, h2]
    rfl
  · cases h
theorem ptr_is {v : AV} {g : Bool} {k off : Nat} {u : Value} (h : v.ptr? = some (g, k, off)) (hg : g = true) (hu : v.is ρ u) : ∃ b, ρ k = some b ∧ u = ptr b.b off := by
  cases v with
  | own k' o' => simp [AV.ptr?] at h; obtain ⟨_, rfl, rfl⟩ := h; exact hu
  | gown g' k' o' =>
    simp [AV.ptr?] at h
    obtain ⟨rfl, rfl, rfl⟩ := h
    have hu : if g' = true then ∃ b, ρ k' = some b ∧ u = ptr b.b o' else u = undef := hu
    rw [if_pos hg] at hu; exact hu
  | _ => simp [AV.ptr?] at h
def Sound (P : Program) (c : Cx) (n : Nat) (s : St) (ρ : Rho) (a : Act) (w : World) (o : Oper) : Res → Prop
  | .put ob v => ob → ∃ u, (execOp a.eval o).run P w = .ok (.value u) w ∧ v.is ρ u
  | .sto ob k cs => ob → ∃ w', (execOp a.eval o).run P w = .ok .skip w' ∧ Gam c n { s with hp := upH s.hp k cs } ρ a w'
  | .new D cs => D.ob → ∃ (arr : Array Value) (u : Value), (execOp a.eval o).run P w = .ok (.value u) (w.alloc (.cells arr D.T)) ∧ (∀ k, (D.av k).is (upd ρ k (some ⟨w.heap.size, arr.size⟩)) u) ∧
      isL ρ cs arr.toList ∧ ∀ k, (∀ t, k ∉ (lk s.env t).ment) → k ∉ mentL cs
  | .call f args => callsB P f = true → ∃ us, isL ρ args us ∧ (execOp a.eval o).run P w = .ok (.enter f us.toArray) w
  | .gen G => ∀ K, genR P s o.dst K G → dOK n o.dst → ∃ u w' s' ρ', (execOp a.eval o).run P w = .ok (.value u) w' ∧ K s' ∧ Gam c n s' ρ' (a.put o.dst u) w'
  | _ => True
variable {o : Oper}
theorem sound_put1 {x : Option (Bool × Value)} {f : Value → Option (Prop × Value)} (h : ∀ g u ob v, x = some (g, u) → g = true → f u = some (ob, v) → ob → (execOp a.eval o).run P w = .ok (.value v) w) : Sound P c n s ρ a w o (put1 x f) := by
  unfold put1
  split
  · split
    · rintro ⟨h1, h2⟩; exact ⟨_, h _ _ _ _ rfl h1 (by assumption) h2, rfl⟩
    · trivial
  · trivial
theorem sound_putA {x : Option (Bool × Value)} {f : Value → Option (Prop × Value)} (h : ∀ g u ob v, x = some (g, u) → g = true → f u = some (ob, v) → ob → (execOp a.eval o).run P w = .ok (.value v) w) : Sound P c n s ρ a w o (putA x f) := by
  unfold putA
  split
  · split
    · rintro ⟨h1, h2⟩; exact ⟨_, h _ _ _ _ rfl h1 (by assumption) h2, rfl⟩
    · trivial
  · trivial
theorem sound_put2 {x y : Option (Bool × Value)} {f : Value → Value → Option (Prop × Value)} (h : ∀ g u g' u' ob v, x = some (g, u) → g = true → y = some (g', u') → g' = true → f u u' = some (ob, v) → ob → (execOp a.eval o).run P w = .ok (.value v) w) : Sound P c n s ρ a w o (put2 x y f) := by
  unfold put2
  split
  · split
    · rintro ⟨h1, h2, h3⟩; exact ⟨_, h _ _ _ _ _ _ rfl h1 rfl h2 (by assumption) h3, rfl⟩
    · trivial
  · trivial
theorem sound_addOb {g : Bool} {r : Res} (h : g = true → Sound P c n s ρ a w o r) : Sound P c n s ρ a w o (addOb g r) := by
  cases r <;> first | trivial | exact fun ⟨h1, h2⟩ => h h1 h2
theorem isL_get? {l : List AV} {us : List Value} {i : Nat} {v : AV} (h : isL ρ l us) (hv : l[i]? = some v) : us[i]? = some (us.getD i undef) ∧ v.is ρ (us.getD i undef) := by
  have h1 := isL_length h
  have h2 : i < us.length := by have := (List.getElem?_eq_some_iff.1 hv).1; omega
  exact ⟨by simp [h2], isL_get h i v hv⟩
theorem sound_loadH {T : TypeId} {x : Operand} (hop : o.op = .load T x) (h : Gam c n s ρ a w) {g : Bool} {k off : Nat} (hx : g = true → ∃ b, ρ k = some b ∧ a.eval x = ptr b.b off) : Sound P c n s ρ a w o (loadH P T g off (lkH s.hp k)) := by
  cases hk : lkH s.hp k with
  | none => trivial
  | some r2 =>
    obtain ⟨T', cs⟩ := r2
    refine sound_addOb fun hg => ?_
    obtain ⟨b, hb, e⟩ := hx hg
    obtain ⟨⟨arr, h1⟩, _⟩ := h.hp k T' cs b hk hb
    cases hr : loadR P T cs off with
    | put ob v =>
      intro ho
      obtain ⟨u, hu, hv⟩ := load_ok (P := P) hr ho h1
      refine ⟨u, ?_, hv⟩
      simp only [execOp, hop, e, Sem.run_bind, hu, Sem.run_pure, Result.andThen_ok]
    | bad => trivial
    | ask => trivial
    | sto _ _ _ => unfold loadR at hr; split at hr <;> try cases hr
                   split at hr <;> cases hr
    | new _ _ => unfold loadR at hr; split at hr <;> try cases hr
                 split at hr <;> cases hr
    | call _ _ => unfold loadR at hr; split at hr <;> try cases hr
                  split at hr <;> cases hr
    | gen _ => unfold loadR at hr; split at hr <;> try cases hr
               split at hr <;> cases hr
theorem sound_load {T : TypeId} {x : Operand} (hop : o.op = .load T x) (h : Gam c n s ρ a w) : Sound P c n s ρ a w o (loadX P s T (Sx.ev s x)) := by
  have hev := h.ev x
  have hext : ∀ g u, (Sx.ev s x).val = some (g, u) → Sound P c n s ρ a w o (put1 (some (g, u)) (loadV P s T)) := fun g u hx => sound_put1 fun g' u' ob v e hg hf ho => by
    cases e
    have e2 := val_is hx hg hev
    unfold loadV at hf
    simp only [Option.map_eq_some_iff, Prod.mk.injEq] at hf
    obtain ⟨v', h1, rfl, rfl⟩ := hf
    have := lookM_ok (P := P) (w := w) h.sub h1
    simp only [execOp, hop, e2, Sem.run_bind, this, Sem.run_pure, Result.andThen_ok]
  cases hx : Sx.ev s x with
  | own k off => rw [hx] at hev; exact sound_loadH hop h fun _ => hev
  | gown g k off =>
    rw [hx] at hev
    have hev : if g = true then ∃ b, ρ k = some b ∧ a.eval x = ptr b.b off else a.eval x = undef := hev
    exact sound_loadH hop h fun hg => by rw [if_pos hg] at hev; exact hev
  | ext u => exact hext true u (by rw [hx]; rfl)
  | gd g u =>
    cases g with
    | true => exact hext true u (by rw [hx]; rfl)
    | false => simp only [loadX]; unfold zeroR; split <;> first | trivial | (intro ho; exact ho.elim)
  | _ => trivial
theorem sound_store {T : TypeId} {x y : Operand} (hop : o.op = .store T x y) (h : Gam c n s ρ a w) : Sound P c n s ρ a w o (storeX P s T (Sx.ev s y) (Sx.ev s x).ptr?) := by
  cases hx : (Sx.ev s x).ptr? with
  | none => trivial
  | some r =>
    obtain ⟨g, k, off⟩ := r
    simp only [storeX]
    cases hk : lkH s.hp k with
    | none => trivial
    | some r2 =>
      obtain ⟨T', cs⟩ := r2
      refine sound_addOb fun hg => ?_
      obtain ⟨b, hb, e⟩ := ptr_is hx hg (h.ev x)
      obtain ⟨⟨arr, h1⟩, _⟩ := h.hp k T' cs b hk hb
      have key : ∀ ob k' cs', storeR P T k cs off (Sx.ev s y) = .sto ob k' cs' → Sound P c n s ρ a w o (.sto ob k' cs') := fun ob k' cs' hr ho => by
        obtain ⟨w', arr', r1, r2, rfl, r4⟩ := store_ok (P := P) hr ho h1 (h.ev y)
        refine ⟨w', ?_, h.sto hk hb r2 r4⟩
        simp only [execOp, hop, e, Sem.run_bind, r1, Sem.run_pure, Result.andThen_ok]
      unfold storeR at key ⊢
      split
      · split
        · exact key _ _ _ (by simp only [*])
        · trivial
      · exact key _ _ _ (by simp only [*])
      · trivial
theorem sound_field {S f : Nat} {x : Operand} (hop : o.op = .field S x f) (h : Gam c n s ρ a w) : Sound P c n s ρ a w o (fieldO P S f (unG (Sx.ev s x))) := by
  cases hx : unG (Sx.ev s x) with
  | none => trivial
  | some r =>
    obtain ⟨g, v⟩ := r
    refine sound_addOb fun hg => ?_
    have hv := unG_ok hx hg (h.ev x)
    unfold fieldX
    split
    · rename_i l off T hl hoff
      obtain ⟨us, hu, hus⟩ := cellsG_ok hl hv
      have hul := isL_length hus
      unfold fOff at hoff
      split at hoff
      · rename_i fs hS
        simp only [Option.map_eq_some_iff, Prod.mk.injEq] at hoff
        obtain ⟨fd, hfd, rfl, rfl⟩ := hoff
        have hrun : ∀ r, (part fd.type us.toArray fd.offset).run P w = .ok r w → (execOp a.eval o).run P w = .ok (.value r) w := fun r hr => by
          simp only [execOp, hop, hu, Instr.field, Sem.run_bind, run_underlying hS, Result.andThen_ok, hfd, asAgg, Sem.run_pure, hr]
        split
        · rename_i m hk hs
          intro ho
          refine ⟨_, hrun (.agg ((us.drop fd.offset).take m).toArray) ?_, aggA_ok (isL_take _ (isL_drop _ hus))⟩
          obtain ⟨d, hd, hrow⟩ := kindT_true hk
          have hagg : (isAgg fd.type).run P w = .ok true w := by
            unfold isAgg
            rw [Sem.run_bind, run_underlying hd w]
            cases d <;> simp [TypeDesc.isRow] at hrow <;> rfl
          unfold szO at hs
          simp only [Option.map_eq_some_iff] at hs
          obtain ⟨it, hit, rfl⟩ := hs
          have hsz : (sizeOf fd.type).run P w = .ok it.size w := by simp [sizeOf, typeInfo, hit]
          simp only [part, Sem.run_bind, hagg, Result.andThen_ok, if_true, hsz, Sem.run_pure]
          congr 2
          rw [← Array.toList_inj]
          simp [List.extract]
        · rename_i m hk hs
          split
          · rename_i v' hv'
            intro _
            obtain ⟨h1, h2⟩ := isL_get? hus hv'
            refine ⟨_, hrun _ ?_, h2⟩
            have h3 : us.toArray[fd.offset]? = some (us.getD fd.offset undef) := by simpa using h1
            simp only [part, Sem.run_bind, kindT_false hk, Result.andThen_ok, Bool.false_eq_true, if_false, h3, Sem.run_pure]
          · trivial
        · trivial
      · cases hoff
    · trivial
theorem sound_ext {i : Nat} {x : Operand} (hop : o.op = .extract x i) (h : Gam c n s ρ a w) : Sound P c n s ρ a w o (extR i (unG (Sx.ev s x))) := by
  unfold extR
  split
  · rename_i g vs hx
    split
    · rename_i v hv
      intro hg
      have h1 : a.eval x = .tuple vs := unG_ok hx hg (h.ev x)
      refine ⟨v, ?_, rfl⟩
      simp only [execOp, hop, h1, Sem.run_bind, Instr.extract, hv, Sem.run_pure, Result.andThen_ok]
    · trivial
  · rename_i g l hx
    split
    · rename_i v hv
      intro hg
      obtain ⟨us, hus, h1⟩ := unG_ok hx hg (h.ev x)
      obtain ⟨h2, h3⟩ := isL_get? hus hv
      refine ⟨_, ?_, h3⟩
      have h4 : us.toArray[i]? = some (us.getD i undef) := by simpa using h2
      simp only [execOp, hop, h1, aggV, if_true, Sem.run_bind, Instr.extract, h4, Sem.run_pure, Result.andThen_ok]
    · trivial
  · trivial
theorem slcT_ok {T e : TypeId} (h : slcT P T = some e) : P.underlying T = some (.slice e) := by
  unfold slcT at h; split at h
  · cases h; assumption
  · cases h
theorem arrT_ok {T e : TypeId} {m : Nat} (h : arrT P T = some (m, e)) : P.underlying T = some (.array m e) := by
  unfold arrT at h; split at h
  · cases h; assumption
  · cases h
theorem szO_run {T : TypeId} {z : Nat} (h : szO P T = some z) : (sizeOf T).run P w = .ok z w := by
  unfold szO at h
  simp only [Option.map_eq_some_iff] at h
  obtain ⟨it, hit, rfl⟩ := h
  simp [sizeOf, typeInfo, hit]
theorem addr_add (b off i : Nat) : (Addr.add ⟨b, off, none⟩ i) = ⟨b, off + i, none⟩ := Addr.add_mid b off i
theorem run_idx_slice {T e : TypeId} {A : Addr} {m cap : Nat} {k : IntKind} {i : Int} {z : Nat} (hT : P.underlying T = some (.slice e)) (hz : szO P e = some z) (h0 : 0 ≤ i) (h1 : i < m) :
    (Instr.indexAt T (.slice (some A) m cap) (.int k i)).run P w = .ok (.pointer (some (A.add (i.toNat * z)))) w := by
  simp [Instr.indexAt, asIntOf, run_underlying hT, h0, h1, szO_run hz]
theorem sound_idx {T : TypeId} {x y : Operand} (hop : o.op = .indexAddr T x y) (h : Gam c n s ρ a w) : Sound P c n s ρ a w o (idxR P T (Sx.ev s x) (Sx.ev s y).val) := by
  unfold idxR
  split
  · rename_i g kk i hy
    refine sound_addOb fun hg => ?_
    have hey := val_is hy hg (h.ev y)
    have hrun : ∀ r, (Instr.indexAt T (a.eval x) (.int kk i)).run P w = .ok r w → (execOp a.eval o).run P w = .ok (.value r) w := fun r hr => by
      simp only [execOp, hop, hey, Sem.run_bind, hr, Sem.run_pure, Result.andThen_ok]
    have hev := h.ev x
    unfold idxA
    split
    · rename_i e he
      have hT := slcT_ok he
      split
      · rename_i z hz
        have hext : ∀ v, a.eval x = v → isSl v = true → nilS v = false → 0 ≤ i → i < slen v → (execOp a.eval o).run P w = .ok (.value (elemP v z i.toNat)) w := fun v hv h1 h2 h3 h4 => by
          cases v <;> try cases h1
          rename_i A m cap
          cases A with
          | none => cases h2
          | some A => exact hrun _ (by rw [hv]; exact run_idx_slice hT hz h3 h4)
        split
        · rename_i k off m z' hx
          rintro ⟨rfl, h1, h2⟩
          rw [hx] at hev
          rcases hev with ⟨b, cap, hb, e2, e3, e4⟩ | ⟨e2, _⟩
          · refine ⟨ptr b.b (off + i.toNat * z'), hrun _ ?_, b, hb, rfl⟩
            rw [e2, run_idx_slice hT hz h1 h2, addr_add]; rfl
          · omega
        · rename_i v hx
          rintro ⟨h1, h2, h3, h4⟩
          rw [hx] at hev
          exact ⟨_, hext v hev h1 h2 h3 h4, rfl⟩
        · rename_i g' v hx
          rintro ⟨h0, h1, h2, h3, h4⟩
          rw [hx] at hev
          have hev : a.eval x = if g' = true then v else undef := hev
          rw [if_pos h0] at hev
          exact ⟨_, hext v hev h1 h2 h3 h4, rfl⟩
        · trivial
      · trivial
    · split
      · rename_i m e he
        have hT := arrT_ok he
        split
        · rename_i z k off hz hx
          rintro ⟨h1, h2⟩
          rw [hx] at hev
          obtain ⟨b, hb, e2⟩ := hev
          refine ⟨ptr b.b (off + i.toNat * z), hrun _ ?_, b, hb, rfl⟩
          rw [e2]
          simp [Instr.indexAt, asIntOf, run_underlying hT, h1, h2, szO_run hz, ptr, Instr.sureAddr, addr_add]
        · trivial
      · trivial
  · trivial
theorem byteAt_ok (x : ByteArray) (i : Nat) (h : i < x.size) : ((x[i]).toNat : Int) = byteAt x i := by
  unfold byteAt
  have h1 : i < x.data.toList.length := by simpa using h
  rw [List.getD_eq_getElem?_getD, List.getElem?_eq_getElem h1]
  rfl
theorem sound_index {T : TypeId} {x y : Operand} (hop : o.op = .index T x y) (h : Gam c n s ρ a w) : Sound P c n s ρ a w o (put2 (Sx.ev s x).val (Sx.ev s y).val (indV P T)) := by
  refine sound_put2 fun g u g' u' ob v hx hg hy hg' hf ho => ?_
  have e1 := val_is hx hg (h.ev x)
  have e2 := val_is hy hg' (h.ev y)
  have hrun : ∀ r, (Instr.index T u u').run P w = .ok r w → (execOp a.eval o).run P w = .ok (.value r) w := fun r hr => by
    simp only [execOp, hop, e1, e2, Sem.run_bind, hr, Sem.run_pure, Result.andThen_ok]
  refine hrun _ ?_
  unfold indV at hf
  split at hf
  · split at hf
    · rename_i hs
      unfold isStrT at hs
      split at hs
      · rename_i hT
        simp only [Option.some.injEq, Prod.mk.injEq] at hf
        obtain ⟨rfl, rfl⟩ := hf
        rw [run_index_string w _ _ _ _ hT, dif_pos ho, byteAt_ok]
      · cases hs
    · split at hf
      · rename_i m e he
        have hT := arrT_ok he
        split at hf
        · rename_i z hk hz
          split at hf
          · rename_i v' hv'
            simp only [Option.some.injEq, Prod.mk.injEq] at hf
            obtain ⟨rfl, rfl⟩ := hf
            simp [Instr.index, asIntOf, run_underlying hT, ho.1, ho.2, szO_run hz, part, kindT_false hk, hv']
          · cases hf
        · cases hf
      · cases hf
    · cases hf
  · cases hf
theorem bndO_ok (h : Gam c n s ρ a w) {x : Option Operand} {d i : Int} {ob : Prop} (hb : bndO s d x = some (ob, i)) (ho : ob) : (x = none ∧ i = d) ∨ ∃ y k, x = some y ∧ a.eval y = .int k i := by
  unfold bndO at hb
  split at hb
  · simp only [Option.some.injEq, Prod.mk.injEq] at hb; exact .inl ⟨rfl, hb.2.symm⟩
  · rename_i y
    split at hb
    · rename_i g k j hy
      simp only [Option.some.injEq, Prod.mk.injEq] at hb
      obtain ⟨rfl, rfl⟩ := hb
      exact .inr ⟨y, k, rfl, val_is hy ho (h.ev y)⟩
    · cases hb
theorem run_bounds (isS : Bool) (m cap : Nat) {lo hi : Option Value} {l h : Int} (hl : (lo = none ∧ l = 0) ∨ ∃ k, lo = some (.int k l)) (hh : (hi = none ∧ h = m) ∨ ∃ k, hi = some (.int k h)) (h0 : 0 ≤ l) (h1 : l ≤ h) (h2 : h ≤ cap) :
    (Instr.sliceBounds isS m cap lo hi none).run P w = .ok (l.toNat, h.toNat, cap) w := by
  have e : ((h.toNat : Nat) : Int) = h := Int.toNat_of_nonneg (by omega)
  have h3 : 0 ≤ h := by omega
  rcases hl with ⟨rfl, rfl⟩ | ⟨k, rfl⟩ <;> rcases hh with ⟨rfl, rfl⟩ | ⟨k', rfl⟩
  · simp [Instr.sliceBounds]
  · simp [Instr.sliceBounds, Instr.sliceBound, asIntOf, h3, h2]
  · simp [Instr.sliceBounds, Instr.sliceBound, asIntOf, h0, h1]
  · simp [Instr.sliceBounds, Instr.sliceBound, asIntOf, h0, h1, h3, h2, e]
theorem sound_sliceV {T : TypeId} {x : Operand} {lo hi : Option Operand} {f : Unit → AV} (hop : o.op = .slice T x lo hi none) (h : Gam c n s ρ a w) (hev : (f ()).is ρ (a.eval x)) : Sound P c n s ρ a w o (slcR P s T (f ()) lo hi) := by
  have hb : ∀ {y : Option Operand} {d i : Int} {ob : Prop}, bndO s d y = some (ob, i) → ob → (y.map a.eval = none ∧ i = d) ∨ ∃ k, y.map a.eval = some (.int k i) := fun hb ho => by
    rcases bndO_ok h hb ho with ⟨rfl, e⟩ | ⟨y, k, rfl, e⟩
    · exact .inl ⟨rfl, e⟩
    · exact .inr ⟨k, by simp [e]⟩
  have hrun : ∀ r, (Instr.sliceAt T (a.eval x) (lo.map a.eval) (hi.map a.eval) none).run P w = .ok r w → (execOp a.eval o).run P w = .ok (.value r) w := fun r hr => by
    simp only [execOp, hop, Sem.run_bind, Option.map_none, hr, Sem.run_pure, Result.andThen_ok]
  unfold slcR
  split
  · rename_i e k off m z' he hx
    have hT := slcT_ok he
    split
    · rename_i z o1 l o2 hh hz hl' hh'
      rintro ⟨rfl, ho1, ho2, h0, h1, h2⟩
      rw [hx] at hev
      rcases hev with ⟨b, cap, hb', e2, e3, e4⟩ | ⟨e2, A, hA, e3⟩
      · have hbd := run_bounds (P := P) (w := w) true m cap (hb hl' ho1) (hb hh' ho2) h0 h1 (by omega)
        refine ⟨.slice (if cap = l.toNat then some ⟨b.b, off, none⟩ else some ⟨b.b, off + l.toNat * z', none⟩) (hh.toNat - l.toNat) (cap - l.toNat), hrun _ ?_, ?_⟩
        · rw [e2]
          simp only [Instr.sliceAt, Sem.run_bind, run_underlying hT, Result.andThen_ok, Instr.slice, hbd, szO_run hz, Sem.run_pure, Option.map_some, addr_add]
        · by_cases hc : cap = l.toNat
          · rw [if_pos hc]
            refine .inr ⟨by omega, some ⟨b.b, off, none⟩, fun x e => by cases e; rfl, ?_⟩
            rw [show hh.toNat - l.toNat = 0 by omega, show cap - l.toNat = 0 by omega]
          · rw [if_neg hc]
            refine .inl ⟨b, cap - l.toNat, hb', rfl, by omega, ?_⟩
            have : l.toNat ≤ cap := by omega
            rw [Nat.sub_mul]
            have := Nat.mul_le_mul_right z' this
            omega
      · subst e2
        have hbd := run_bounds (P := P) (w := w) true 0 0 (hb hl' ho1) (hb hh' ho2) h0 h1 (by omega)
        refine ⟨.slice A 0 0, hrun _ ?_, .inr ⟨by omega, A, hA, rfl⟩⟩
        have hl0 : l.toNat = 0 := by omega
        have hh0 : hh.toNat = 0 := by omega
        rw [e3]
        simp only [Instr.sliceAt, Sem.run_bind, run_underlying hT, Result.andThen_ok, Instr.slice, hbd, szO_run hz, Sem.run_pure, hl0, hh0, if_true]
    · trivial
  · rename_i e v he hx
    have hT := slcT_ok he
    split
    · rename_i z o1 l o2 hh hz hl' hh'
      rintro ⟨hs, ho1, ho2, h0, h1, h2⟩
      rw [hx] at hev
      have hev : a.eval x = v := hev
      obtain ⟨A, m, cap, rfl⟩ : ∃ A m cap, v = .slice A m cap := by cases v <;> try cases hs
                                                                    exact ⟨_, _, _, rfl⟩
      have hbd := run_bounds (P := P) (w := w) true m cap (hb hl' ho1) (hb hh' ho2) h0 h1 h2
      refine ⟨_, hrun _ ?_, rfl⟩
      rw [hev]
      simp only [Instr.sliceAt, Sem.run_bind, run_underlying hT, Result.andThen_ok, Instr.slice, hbd, szO_run hz, Sem.run_pure, subS]
    · trivial
  · rename_i v hn hx
    split
    · rename_i o1 l o2 hh hl' hh'
      rintro ⟨hs, ho1, ho2, h0, h1, h2⟩
      rw [hx] at hev
      have hev : a.eval x = .string v := hev
      have hbd := run_bounds (P := P) (w := w) false v.size v.size (hb hl' ho1) (hb hh' ho2) h0 h1 h2
      unfold isStrT at hs
      split at hs
      · rename_i hT
        refine ⟨_, hrun _ ?_, rfl⟩
        rw [hev]
        simp only [Instr.sliceAt, Sem.run_bind, run_underlying hT, Result.andThen_ok, Instr.slice, Option.isSome_none, Bool.false_eq_true, if_false, hbd, Sem.run_pure]
      · cases hs
    · trivial
  · trivial
theorem sound_slice {T : TypeId} {x : Operand} {lo hi : Option Operand} (hop : o.op = .slice T x lo hi none) (h : Gam c n s ρ a w) : Sound P c n s ρ a w o (slcG P s T (Sx.ev s x) lo hi) := by
  have hev := h.ev x
  cases hx : Sx.ev s x with
  | gd g v =>
    rw [hx] at hev
    exact sound_addOb fun hg => sound_sliceV (f := fun _ => .ext v) hop h (by subst hg; simpa [AV.is] using hev)
  | _ =>
    rw [hx] at hev
    exact sound_sliceV (f := fun _ => _) hop h hev
theorem sound_conv {S T : TypeId} {x : Operand} (hop : o.op = .convert S T x) (h : Gam c n s ρ a w) : Sound P c n s ρ a w o (putA (Sx.ev s x).val (conV P S T)) := by
  refine sound_putA fun g u ob v hx hg hf ho => ?_
  have e1 := val_is hx hg (h.ev x)
  have hrun : ∀ r, (convert S T u).run P w = .ok r w → (execOp a.eval o).run P w = .ok (.value r) w := fun r hr => by
    simp only [execOp, hop, e1, Sem.run_bind, hr, Sem.run_pure, Result.andThen_ok]
  refine hrun _ ?_
  unfold conV at hf
  split at hf
  · rename_i k hk
    split at hf
    · rename_i k2 k3 m hk2
      simp only [Option.some.injEq, Prod.mk.injEq] at hf
      obtain ⟨rfl, rfl⟩ := hf
      unfold intT at hk hk2
      split at hk
      · rename_i hT
        cases hk
        split at hk2
        · rename_i hS
          simp [convert, run_underlying hS, run_underlying hT, Conv.intToInt]
        · cases hk2
      · cases hk
    · cases hf
  · split at hf
    · rename_i h1 h2
      simp only [Option.some.injEq, Prod.mk.injEq] at hf
      obtain ⟨rfl, rfl⟩ := hf
      unfold isStrT at h1 h2
      split at h1
      · rename_i hT
        split at h2
        · rename_i hS
          simp [convert, run_underlying hS, run_underlying hT]
        · cases h2
      · cases h1
    · rename_i m h1 h2
      split at hf
      · rename_i hS
        simp only [Option.some.injEq, Prod.mk.injEq] at hf
        obtain ⟨rfl, rfl⟩ := hf
        unfold isStrT at h1
        split at h1
        · rename_i hT
          obtain ⟨k2, hk2⟩ := Option.isSome_iff_exists.1 hS
          unfold intT at hk2
          split at hk2
          · rename_i k3 hS3
            exact run_convert_int_string w S T _ _ (by rw [hS3]; rfl) hT
          · cases hk2
        · cases h1
      · cases hf
    · cases hf
theorem away_ev {k : Nat} (h : ∀ t, k ∉ (lk s.env t).ment) (x : Operand) : k ∉ (Sx.ev s x).ment := by
  cases x with
  | tmp t => exact h t
  | const v => simp [Sx.ev, AV.ment]
  | global g => simp [Sx.ev, AV.ment]
  | func f => simp [Sx.ev, AV.ment, mentL]
theorem cellsA_ment {v : AV} {l : List AV} (h : cellsA v = some l) : mentL l = v.ment := by
  cases v with
  | ag t l' => cases t <;> simp only [cellsA, Option.some.injEq, reduceCtorEq] at h; subst h; rfl
  | ext x => simp only [cellsA, Option.some.injEq] at h; subst h; simp only [AV.ment]; exact mentL_ext _
  | own k o => simp only [cellsA, Option.some.injEq] at h; subst h; simp [mentL]
  | fn f ks => simp only [cellsA, Option.some.injEq] at h; subst h; simp [mentL]
  | slo k o n z => simp only [cellsA, Option.some.injEq] at h; subst h; simp [mentL]
  | _ => simp [cellsA] at h
theorem cellsG_ment {v : AV} {l : List AV} (h : cellsG v = some l) : mentL l = v.ment := by
  cases v with
  | ag t l' => cases t <;> simp only [cellsG, Option.some.injEq, reduceCtorEq] at h; subst h; rfl
  | ext x => cases x <;> simp only [cellsG, Option.some.injEq, reduceCtorEq] at h; subst h; simp only [AV.ment]; exact mentL_ext _
  | _ => simp [cellsG] at h
theorem mentL_take {k : Nat} {l : List AV} {i : Nat} (h : k ∈ mentL (l.take i)) : k ∈ mentL l := by
  obtain ⟨v, h1, h2⟩ := mentL_mem h
  exact mentL_of (List.mem_of_mem_take h1) h2
theorem mentL_drop {k : Nat} {l : List AV} {i : Nat} (h : k ∈ mentL (l.drop i)) : k ∈ mentL l := by
  obtain ⟨v, h1, h2⟩ := mentL_mem h
  exact mentL_of (List.mem_of_mem_drop h1) h2
theorem unG_ment {v x : AV} {g : Bool} (h : unG v = some (g, x)) : x.ment = v.ment := by
  cases v <;> simp only [unG, Option.some.injEq, Prod.mk.injEq, reduceCtorEq] at h <;> obtain ⟨_, rfl⟩ := h <;> simp [AV.ment]
theorem partC_ment {m : Nat} {k : Bool} {v : AV} {ob : Prop} {l : List AV} (h : partC m k v = some (ob, l)) : mentL l = v.ment := by
  unfold partC at h
  split at h
  · split at h
    · rename_i hl; cases h; exact cellsG_ment hl
    · cases h
  · cases h; simp [mentL]
theorem buildL_ment {k : Nat} {pl : List (Nat × Nat × Bool)} : ∀ (parts : List (Nat × AV)) (cells out : List AV) (ob : Prop), buildL pl cells parts = some (ob, out) → k ∉ mentL cells → (∀ p ∈ parts, k ∉ p.2.ment) → k ∉ mentL out
  | [], cells, out, ob, h, hc, _ => by simp only [buildL, Option.some.injEq, Prod.mk.injEq] at h; rw [← h.2]; exact hc
  | (i, x) :: r, cells, out, ob, h, hc, hp => by
    simp only [buildL] at h
    split at h
    · rename_i off m kk g v hpl hx
      split at h
      · rename_i ob1 vs hc1
        split at h
        · rename_i ob2 out2 hb
          simp only [Option.some.injEq, Prod.mk.injEq] at h
          obtain ⟨rfl, rfl⟩ := h
          refine buildL_ment r _ _ _ hb ?_ fun p hp' => hp p (by simp [hp'])
          simp only [mentL_append, List.mem_append, not_or]
          refine ⟨fun h => hc (mentL_take h), ?_, fun h => hc (mentL_drop h)⟩
          rw [partC_ment hc1, unG_ment hx]
          exact hp (i, x) (by simp)
        · cases h
      · cases h
    · cases h
theorem parts_ok (h : Gam c n s ρ a w) (ps : Array (Nat × Operand)) : Parts ρ (ps.toList.map fun p => (p.1, Sx.ev s p.2)) (ps.map fun (i, x) => (i, a.eval x)).toList := by
  refine ⟨by simp [Function.comp_def], ?_⟩
  have := gam_isL h (ps.toList.map (·.2))
  simpa [Function.comp_def] using this
theorem sound_box {T : TypeId} {x : Operand} (hop : o.op = .box T x) (h : Gam c n s ρ a w) : Sound P c n s ρ a w o (boxR T (Sx.ev s x)) := by
  unfold boxR
  split
  · rename_i l hl
    intro _
    refine ⟨(a.eval x).cells, ptr w.heap.size 0, ?_, fun k => ⟨_, upd_self _ _ _, rfl⟩, cellsA_ok hl (h.ev x), fun k hk => by rw [cellsA_ment hl]; exact away_ev hk x⟩
    simp only [execOp, hop, Instr.box, Sem.run_bind, Result.andThen_ok, newVar_ok, Sem.run_pure]
    rfl
  · trivial
theorem sound_alloc {T : TypeId} (hop : o.op = .alloc T) (h : Gam c n s ρ a w) : Sound P c n s ρ a w o (match zeroC P T with | some cs => .new ⟨True, T, none⟩ (cs.map .ext) | none => .bad) := by
  split
  · rename_i z hz
    intro _
    obtain ⟨zv, hzv, rfl⟩ := zero_ok (P := P) (w := w) hz
    refine ⟨zv.cells, ptr w.heap.size 0, ?_, fun k => ⟨_, upd_self _ _ _, rfl⟩, isL_ext _, fun k _ => by rw [mentL_ext]; simp⟩
    simp only [execOp, hop, Instr.alloc, Sem.run_bind, hzv, Result.andThen_ok, newVar_ok, Sem.run_pure]
    rfl
  · trivial
theorem sound_buildS {T : TypeId} {m : Nat} {ps : Array (Nat × Operand)} (hop : o.op = .buildSlice T m ps) (h : Gam c n s ρ a w) : Sound P c n s ρ a w o (buildSR P T m (ps.toList.map fun p => (p.1, Sx.ev s p.2))) := by
  cases hr : buildSR P T m (ps.toList.map fun p => (p.1, Sx.ev s p.2)) with
  | new D cs =>
    intro ho
    obtain ⟨z, h1, h2, h3⟩ := buildSR_ok (P := P) (w := w) (ρ := ρ) hr ho
    obtain ⟨os, h4, h5⟩ := h3 _ (parts_ok h ps)
    have h6 := isL_length h4
    refine ⟨os.toArray, .slice (some ⟨w.heap.size, 0, none⟩) m m, ?_, fun k => ?_, h4, fun k hk => ?_⟩
    · simp only [execOp, hop, Sem.run_bind, h5, Sem.run_pure, Result.andThen_ok]
    · unfold NewD.av
      rw [h1]
      exact .inl ⟨_, m, upd_self _ _ _, rfl, Nat.le_refl _, by simp; omega⟩
    · unfold buildSR at hr
      split at hr
      · split at hr
        · split at hr
          · rename_i hb
            simp only [Res.new.injEq] at hr
            obtain ⟨rfl, rfl⟩ := hr
            refine buildL_ment _ _ _ _ hb (by rw [mentL_ext]; simp) fun p hp => ?_
            simp only [List.mem_map] at hp
            obtain ⟨q, _, rfl⟩ := hp
            exact away_ev hk q.2
          · cases hr
        · cases hr
      · cases hr
  | bad => trivial
  | ask => trivial
  | _ =>
    unfold buildSR at hr
    split at hr <;> try cases hr
    split at hr <;> try cases hr
    split at hr <;> cases hr
theorem sound_build {T : TypeId} {ps : Array (Nat × Operand)} (hop : o.op = .build T ps) (h : Gam c n s ρ a w) : Sound P c n s ρ a w o (buildR P T (ps.toList.map fun p => (p.1, Sx.ev s p.2))) := by
  cases hr : buildR P T (ps.toList.map fun p => (p.1, Sx.ev s p.2)) with
  | put ob v =>
    intro ho
    obtain ⟨u, h1, h2⟩ := buildR_ok (P := P) (w := w) (ρ := ρ) hr ho (parts_ok h ps)
    refine ⟨u, ?_, h2⟩
    simp only [execOp, hop, Sem.run_bind, h1, Sem.run_pure, Result.andThen_ok]
  | bad => trivial
  | ask => trivial
  | _ =>
    unfold buildR at hr
    split at hr <;> try cases hr
    split at hr <;> cases hr
theorem made_cells (zs : List Value) (z : Value) (hz : z.cells.toList = zs) (m : Nat) : madeCells z.cells (m * zs.length) = (repN zs m).toArray := by
  subst hz
  have h := rep_cells (zv := z) (sz := z.cells.size) (n := m) rfl
  unfold madeCells
  simpa using h
theorem sound_make {T : TypeId} {x y : Operand} (hop : o.op = .makeSlice T x y) (h : Gam c n s ρ a w) : Sound P c n s ρ a w o (makeR P T (Sx.ev s x).val (Sx.ev s y).val) := by
  unfold makeR
  split
  · rename_i e g k1 l g' k2 m he hx hy
    split
    · rename_i z by_ zs hz hby hzc
      rintro ⟨hg, hg', h0, h1, h2, h3, h4, h5⟩
      have e1 := val_is hx hg (h.ev x)
      have e2 := val_is hy hg' (h.ev y)
      have hT := slcT_ok he
      unfold szO at hz
      unfold byO at hby
      unfold zeroC at hzc
      simp only [Option.map_eq_some_iff] at hz hby
      simp only [Option.map_eq_some_iff, Option.bind_eq_some_iff] at hzc
      obtain ⟨it, hit, rfl⟩ := hz
      obtain ⟨it2, hit2, rfl⟩ := hby
      obtain ⟨zv, ⟨it3, hit3, hzv⟩, rfl⟩ := hzc
      rw [hit] at hit2 hit3
      injection hit2 with hit2
      injection hit3 with hit3
      subst hit2 hit3
      have hr := run_make (P := P) w T e it zv hT hit hzv k1 k2 l m h0 h1 (by omega) (by omega)
      have hmc := made_cells zv.cells.toList zv rfl m.toNat
      rw [h3] at hmc
      rw [hmc] at hr
      refine ⟨(repN zv.cells.toList m.toNat).toArray, .slice (some ⟨w.heap.size, 0, none⟩) l.toNat m.toNat, ?_, fun k => ?_, isL_ext _, fun k _ => by rw [mentL_ext]; simp⟩
      · simp only [execOp, hop, e1, e2, Sem.run_bind, hr, Sem.run_pure, Result.andThen_ok]
      · refine .inl ⟨_, m.toNat, upd_self _ _ _, rfl, by omega, ?_⟩
        simp [repN_length, h3]
    · trivial
  · trivial
theorem sound_mkF {fn : Fn} {first cs : Array Operand} (hop : o.op = .makeFunc fn first cs) (h : Gam c n s ρ a w) : Sound P c n s ρ a w o (mkF fn (first.toList.map (Sx.ev s)) (cs.toList.map (Sx.ev s))) := by
  unfold mkF
  split
  · rename_i f h1
    intro _
    have h1' : first.map a.eval = #[] := by
      have : first.toList = [] := by simpa using h1
      rw [← Array.toList_inj]; simp [this]
    refine ⟨_, ?_, cs.toList.map a.eval, gam_isL h _, rfl⟩
    have h5 : cs.map a.eval = (cs.toList.map a.eval).toArray := by rw [← Array.toList_inj]; simp
    simp only [execOp, hop, Instr.makeFunc, h1', h5, Sem.run_bind, Sem.run_pure, Result.andThen_ok]
  · trivial
end
end Go.Proofs.YtamghpnjdohnjaaDoor.Sx
namespace Go.Proofs.YtamghpnjdohnjaaDoor.Sx
open Go Go.RowKit
set_option linter.unusedVariables false
set_option linter.unusedSimpArgs false
section
variable {P : Program} {c : Cx} {n : Nat} {s : St} {ρ : Rho} {a : Act} {w : World}
theorem Gam.ins (h : Gam c n s ρ a w) {k d : Nat} {e : TypeId} {cs' : List AV} {v : AV} {u : Value} {env2 : Env} {hp2 : Hp} {bo : Option Blk} {w' : World}
    (he : ∀ t u, (lk s.env t).is ρ u → (lk env2 t).is (upd ρ k bo) u)
    (hh : ∀ j T cs, j ≠ k → lkH hp2 j = some (T, cs) → ∃ cs0, lkH s.hp j = some (T, cs0) ∧ cs.length = cs0.length ∧ ∀ (i : Nat) (v : AV), cs[i]? = some v → ∃ v0, cs0[i]? = some v0 ∧ ∀ u, v0.is ρ u → v.is (upd ρ k bo) u)
    (hkeep : ∀ j, j ≠ k → (lkH s.hp j).isSome = true → (lkH hp2 j).isSome = true)
    (hfx : k ∉ s.fx) (hd : d < n) (hos : w'.os = w.os) (htape : w'.tape = w.tape) (hout : w'.output = w.output) (hsize : w.heap.size ≤ w'.heap.size)
    (hblk : ∀ i, i < w.heap.size → (∀ b, (lkH s.hp k).isSome = true → ρ k = some b → i ≠ b.b) → w'.heap[i]? = w.heap[i]?)
    (hb : ∀ b', bo = some b' → (∃ arr', Row (upd ρ k bo) w' e cs' b' arr') ∧ (w.heap.size ≤ b'.b ∨ ∃ b, (lkH s.hp k).isSome = true ∧ ρ k = some b ∧ b'.b = b.b))
    (hno : bo = none → cs' = []) (hv : v.is (upd ρ k bo) u) :
    Gam c n { env := (d, v) :: env2, hp := (k, e, cs') :: hp2, M := s.M, kb := s.kb, fx := s.fx, fr := s.fr } (upd ρ k bo) (a.put (some d) u) w' := by
  have hd' : d < a.tmps.size := by rw [h.sz]; exact hd
  have hlk : ∀ j x, lkH ((k, e, cs') :: hp2) j = some x → (j = k ∧ x = (e, cs')) ∨ (j ≠ k ∧ lkH hp2 j = some x) := fun j x hj => by
    by_cases e : k = j
    · subst e; simp [lkH] at hj; exact .inl ⟨rfl, hj.symm⟩
    · simp [lkH, e] at hj; exact .inr ⟨fun e2 => e e2.symm, hj⟩
  have hold : ∀ j x b, j ≠ k → lkH hp2 j = some x → upd ρ k bo j = some b → (lkH s.hp j).isSome = true ∧ ρ j = some b ∧ b.b < w.heap.size ∧ w'.heap[b.b]? = w.heap[b.b]? := fun j x b hj hx hbj => by
    obtain ⟨cs0, h1, _⟩ := hh j x.1 x.2 hj hx
    rw [upd_ne _ _ hj] at hbj
    have hlt := h.lt h1 hbj
    refine ⟨by rw [h1]; rfl, hbj, hlt, hblk _ hlt fun b0 hk hb0 e => ?_⟩
    exact hj (h.inj j k b b0 (by rw [h1]; rfl) hk hbj hb0 e)
  have hapart : ∀ j x b b', j ≠ k → lkH hp2 j = some x → upd ρ k bo j = some b → upd ρ k bo k = some b' → b.b = b'.b → False := fun j x b b' hj hx hbj hbk e => by
    obtain ⟨h1, h2, h3, _⟩ := hold j x b hj hx hbj
    rw [upd_self] at hbk
    rcases (hb b' hbk).2 with h4 | ⟨b0, h5, h6, h7⟩
    · omega
    · exact hj (h.inj j k b b0 h1 h5 h2 h6 (by rw [e, h7]))
  refine { df := h.df, sz := ?_, env := fun t => ?_, hp := fun j T' ds b hj hbj => ?_, no := fun j T' ds hj hbj => ?_, inj := fun j j' b b' hj hj' hbj hbj' e => ?_, os := hos.trans h.os, tape := htape.trans h.tape, output := hout.trans h.output, size := Nat.le_trans h.size hsize, block := fun i hi hx => ?_, sub := fun x o hx => ?_, le := h.le, mf := h.mf, fix := fun j hj => ?_, fx := fun j hj => ?_, kl := h.kl, fr := h.fr }
  · show (a.tmps.setIfInBounds d u).size = n
    rw [Array.size_setIfInBounds]; exact h.sz
  · rw [getD_put hd']
    by_cases e : d = t
    · subst e; simpa [lk] using hv
    · simp only [lk, e, if_false]; exact he t _ (h.env t)
  · rcases hlk j _ hj with ⟨rfl, hx⟩ | ⟨hne, hx⟩
    · simp only [Prod.mk.injEq] at hx
      obtain ⟨rfl, rfl⟩ := hx
      rw [upd_self] at hbj
      obtain ⟨h1, h2⟩ := hb b hbj
      refine ⟨h1, ?_, ?_⟩
      · rcases h2 with h2 | ⟨b0, h3, h4, h5⟩
        · exact .inl (Nat.le_trans h.size h2)
        · obtain ⟨x, hx⟩ := Option.isSome_iff_exists.1 h3
          rw [h5]; exact (h.hp _ x.1 x.2 b0 hx h4).2.1
      · rcases h2 with h2 | ⟨b0, h3, h4, h5⟩
        · cases hm : s.M b.b with
          | none => rfl
          | some o =>
            have := h.sub _ _ hm
            rw [Array.getElem?_eq_none h2] at this
            cases this
        · obtain ⟨x, hx⟩ := Option.isSome_iff_exists.1 h3
          rw [h5]; exact (h.hp _ x.1 x.2 b0 hx h4).2.2
    · obtain ⟨cs0, g1, g2, g3⟩ := hh j T' ds hne hx
      obtain ⟨g4, g5, g6, g7⟩ := hold j _ b hne hx hbj
      obtain ⟨⟨arr2, f1⟩, f5⟩ := h.hp j T' cs0 b g1 g5
      refine ⟨⟨arr2, by rw [g7]; exact f1.there, f1.size, by rw [g2]; exact f1.le, fun i v hv => ?_⟩, f5⟩
      obtain ⟨v0, e1, e2⟩ := g3 i v hv
      exact e2 _ (f1.is i v0 e1)
  · rcases hlk j _ hj with ⟨rfl, hx⟩ | ⟨hne, hx⟩
    · simp only [Prod.mk.injEq] at hx
      obtain ⟨rfl, rfl⟩ := hx
      rw [upd_self] at hbj
      exact hno hbj
    · obtain ⟨cs0, g1, g2, g3⟩ := hh j T' ds hne hx
      rw [upd_ne _ _ hne] at hbj
      have := h.no j T' cs0 g1 hbj
      subst this
      exact List.eq_nil_of_length_eq_zero (by simpa using g2)
  · obtain ⟨x, hx⟩ := Option.isSome_iff_exists.1 hj
    obtain ⟨x', hx'⟩ := Option.isSome_iff_exists.1 hj'
    rcases hlk j x hx with ⟨rfl, _⟩ | ⟨hne, hx1⟩
    · rcases hlk j' x' hx' with ⟨rfl, _⟩ | ⟨hne', hx2⟩
      · rfl
      · exact (hapart j' x' b' b hne' hx2 hbj' hbj e.symm).elim
    · rcases hlk j' x' hx' with ⟨rfl, _⟩ | ⟨hne', hx2⟩
      · exact (hapart j x b b' hne hx1 hbj hbj' e).elim
      · obtain ⟨g4, g5, _⟩ := hold j x b hne hx1 hbj
        obtain ⟨g4', g5', _⟩ := hold j' x' b' hne' hx2 hbj'
        exact h.inj j j' b b' g4 g4' g5 g5' e
  · rw [hblk i (Nat.lt_of_lt_of_le hi h.size) fun b hk hbk e => ?_]; exact h.block i hi hx
    obtain ⟨y, hy⟩ := Option.isSome_iff_exists.1 hk
    rcases (h.hp k y.1 y.2 b hy hbk).2.1 with h5 | h5
    · omega
    · rw [← e] at h5; exact hx h5
  · have hx' := h.sub x o hx
    rw [hblk x (Array.getElem?_eq_some_iff.1 hx').1 fun b hk hbk e => ?_]; exact hx'
    obtain ⟨y, hy⟩ := Option.isSome_iff_exists.1 hk
    have h5 := (h.hp k y.1 y.2 b hy hbk).2.2
    have hx : s.M x = some o := hx
    rw [e, h5] at hx; cases hx
  · simp only [lkH]
    split
    · rfl
    · rename_i e; exact hkeep j (fun e2 => e e2.symm) (h.fix j hj)
  · rw [upd_ne _ _ fun e => hfx (by rw [← e]; exact hj)]; exact h.fx j hj
theorem is_kill_upd {k : Nat} {bo : Option Blk} {v : AV} {u : Value} (h : v.is ρ u) : (v.kill k).is (upd ρ k bo) u := is_upd (fun hm => (kill_ment hm).1 rfl) (kill_is h)
theorem src_nil {z : Nat} {t e' : TypeId} (hk : P.underlying t = some (.slice e')) (A : Option Addr) : Src P z t (.slice A 0 0) 0 [] w := by
  cases A with
  | none => exact Src.ofNil w hk 0
  | some b => exact Src.ofSlice w hk b 0 0 [] (by simp) (fun j u h => by simp at h) (fun u h => by cases h)
theorem isSliceT_ok {T : TypeId} (h : isSliceT P T = true) : ∃ e, P.underlying T = some (.slice e) := by
  unfold isSliceT at h; split at h
  · exact ⟨_, by assumption⟩
  · cases h
theorem srcA_ok (h : Gam c n s ρ a w) {z m : Nat} {t : TypeId} {vy : AV} {uy : Value} {ob : Prop} {new : List AV} (hev : vy.is ρ uy) (hs : srcA P s z t vy = some (ob, m, new)) (ho : ob) (h1 : allOne new) :
    ∃ news, Src P z t uy m news w ∧ isL ρ new news := by
  unfold srcA at hs
  split at hs
  · rename_i k off q z'
    split at hs
    · rename_i T cs hk
      simp only [Option.some.injEq, Prod.mk.injEq] at hs
      obtain ⟨rfl, rfl, rfl⟩ := hs
      obtain ⟨ho1, rfl, ho3⟩ := ho
      obtain ⟨e', he'⟩ := isSliceT_ok ho1
      rcases hev with ⟨b, cap, hb, e2, e3, e4⟩ | ⟨rfl, A, hA, e2⟩
      · obtain ⟨⟨arr, hr⟩, _⟩ := h.hp k T cs b hk hb
        have hp := hr.part ho3
        refine ⟨_, ?_, hp⟩
        rw [e2]
        have hl := isL_length hp
        have h5 := hr.le
        refine Src.ofSlice w he' _ _ _ _ (by rw [hl]; simp; omega) (fun j u hj => ?_) (allOne_ok h1 hp)
        have hjl : j < q * z' := by have := (List.getElem?_eq_some_iff.1 hj).1; simp at this; omega
        rw [List.getElem?_take_of_lt hjl, List.getElem?_drop] at hj
        rw [addr_add, cell_of hr.there]
        simpa using hj
      · rw [e2]
        exact ⟨[], src_nil he' A, by simp [isL]⟩
    · cases hs
  · rename_i v
    have hev : uy = v := hev
    rw [hev]
    split at hs
    · rename_i hst
      obtain ⟨x, rfl⟩ : ∃ x, v = .string x := by cases v <;> first | exact ⟨_, rfl⟩ | cases hs
      · simp only [Option.some.injEq, Prod.mk.injEq] at hs
        obtain ⟨rfl, rfl, rfl⟩ := hs
        subst ho
        unfold isStrT at hst
        split at hst
        · rename_i hT
          refine ⟨_, Src.ofString w hT x, ?_⟩
          have := isL_ext (ρ := ρ) (byteCells x)
          simpa [byteCells, Function.comp_def] using this
        · cases hst
    · split at hs
      · rename_i l hl
        simp only [Option.some.injEq, Prod.mk.injEq] at hs
        obtain ⟨rfl, rfl, rfl⟩ := hs
        obtain ⟨e', he'⟩ := isSliceT_ok ho
        refine ⟨l, ?_, isL_ext l⟩
        unfold rowS at hl
        split at hl
        · cases hl; exact Src.ofNil w he' _
        · obtain ⟨g1, g2⟩ := rowM_ok h.sub hl
          refine Src.ofSlice w he' _ _ _ _ g1 (fun j u hj => by rw [addr_add]; exact g2 j u hj) ?_
          exact allOne_ok h1 (isL_ext (ρ := ρ) l)
        · cases hl
      · cases hs
  · cases hs
theorem row_drew {T : TypeId} {cs : List AV} {b : Blk} {arr : Array Value} (h : Row ρ w T cs b arr) (j : Nat) (u : Value) (hj : (arr.toList.take (cs.length))[j]? = some u) : w.drew.cell? ⟨b.b, j, none⟩ = some u := by
  have hl : j < cs.length := by have := (List.getElem?_eq_some_iff.1 hj).1; simp at this; omega
  rw [List.getElem?_take_of_lt hl] at hj
  rw [World.cell?_drew, cell_of h.there]
  simpa using hj
theorem append_new {t tx ty e : TypeId} {it : TypeInfo} {zv : Value} (ht : P.underlying t = some (.slice e)) (hi : P.info? e = some it) (hz : it.zero = some zv) {base : Option Addr} {q cap m : Nat} {olds news : List Value} {x : Value}
    (hold : (Builtin.firstCells it.size q (.slice base q cap)).run P w.drew = .ok olds.toArray w.drew) (hs : Src P it.size tx x m news w) (hg : cap < q + m) (hby : (q + m) * it.bytes ≤ 140737488355328) (hmax : q + m ≤ maxLen) (hlen : olds.length = q * it.size) (hzz : zv.cells.size = it.size) :
    ∃ cap' zs, (Builtin.append_ #[t, tx] ty #[.slice base q cap, x]).run P w = .ok (.slice (some ⟨w.heap.size, 0, none⟩) (q + m) cap') (w.drew.alloc (.cells ((olds ++ news).toArray ++ zs) e)) ∧ q + m ≤ cap' ∧ cap' * it.size ≤ ((olds ++ news).toArray ++ zs).size := by
  have hr := run_append_grow_src (P := P) w t tx ty e it zv ht hi hz base q cap olds hold x m news hs hg (by simp only [maxLen] at hmax; omega) (growslice_fits hg hby)
  have hge := grownCap_ge w (q + m) cap e
  refine ⟨_, _, hr, hge, ?_⟩
  have hn := hs.newsLen
  simp only [Array.size_append, List.size_toArray, List.length_append, size_zeroCells, hlen, hn, hzz, ← Nat.add_mul]
  exact Nat.mul_le_mul_right _ (by omega)
theorem appR_ok (h : Gam c n s ρ a w) {ts : List TypeId} {vx0 vy0 : AV} {ux uy : Value} {d : Option Nat} {K : St → Prop} {ty : TypeId} (hx0 : vx0.is ρ ux) (hy0 : vy0.is ρ uy) (hK : appR P s ts [vx0, vy0] d K) (hd : dOK n d) :
    ∃ u w' s' ρ', (Builtin.append_ ts.toArray ty #[ux, uy]).run P w = .ok u w' ∧ K s' ∧ Gam c n s' ρ' (a.put d u) w' := by
  unfold appR at hK
  split at hK
  case h_2 => exact hK.elim
  rename_i t t' vx vy hargs
  simp only [List.cons.injEq, and_true] at hargs
  obtain ⟨hx, hy⟩ := hargs
  subst hy
  split at hK
  case h_2 => exact hK.elim
  rename_i e he
  split at hK
  case h_2 => exact hK.elim
  rename_i z by_ zs hz hby hzc
  split at hK
  case h_2 => exact hK.elim
  rename_i _ ob m new d hsrc
  have hT := slcT_ok he
  unfold szO at hz
  unfold byO at hby
  unfold zeroC at hzc
  simp only [Option.map_eq_some_iff] at hz hby
  simp only [Option.map_eq_some_iff, Option.bind_eq_some_iff] at hzc
  obtain ⟨it, hit, rfl⟩ := hz
  obtain ⟨it2, hit2, rfl⟩ := hby
  obtain ⟨zv, ⟨it3, hit3, hzv⟩, rfl⟩ := hzc
  rw [hit] at hit2 hit3
  injection hit2 with hit2
  injection hit3 with hit3
  subst hit2 hit3
  have hev := hx0
  rw [hx] at hev
  split at hK
  · -- an own slice
    rename_i k q z'
    split at hK
    case h_2 => exact hK.elim
    rename_i T cs hk
    obtain ⟨⟨rfl, hfx, rfl, hcl, hpos, ho, ha, hkn, hbytes, hmax, hkc, hzz⟩, hK⟩ := hK
    obtain ⟨news, hs, hnews⟩ := srcA_ok h hy0 hsrc ho ha
    have hnl := isL_length hnews
    have hnl2 := hs.newsLen
    have hkc' := hasK_no.1 hkc
    have hkn' := hasK_no.1 hkn
    have henv : ∀ bo t u, (lk s.env t).is ρ u → (lk (killE k s.env) t).is (upd ρ k bo) u := fun bo t u hu => by rw [lk_killE]; exact is_kill_upd hu
    have hhp : ∀ bo j T cs, j ≠ k → lkH (killH k s.hp) j = some (T, cs) → ∃ cs0, lkH s.hp j = some (T, cs0) ∧ cs.length = cs0.length ∧ ∀ (i : Nat) (v : AV), cs[i]? = some v → ∃ v0, cs0[i]? = some v0 ∧ ∀ u, v0.is ρ u → v.is (upd ρ k bo) u := fun bo j T cs hj hl => by
      rw [lkH_killH, if_neg hj] at hl
      simp only [Option.map_eq_some_iff, Prod.mk.injEq] at hl
      obtain ⟨⟨T1, cs1⟩, h1, rfl, rfl⟩ := hl
      refine ⟨cs1, h1, killL_length _ _, fun i v hv => ?_⟩
      rw [killL_get] at hv
      simp only [Option.map_eq_some_iff] at hv
      obtain ⟨v0, hv0, rfl⟩ := hv
      exact ⟨v0, hv0, fun u hu => is_kill_upd hu⟩
    have hkeep : ∀ j, j ≠ k → (lkH s.hp j).isSome = true → (lkH (killH k s.hp) j).isSome = true := fun j hj hl => by rw [lkH_killH, if_neg hj, Option.isSome_map]; exact hl
    have grow : ∀ (base : Option Addr) (cap : Nat) (olds : List Value), ux = .slice base q cap → (Builtin.firstCells it.size q (.slice base q cap)).run P w.drew = .ok olds.toArray w.drew → olds.length = q * it.size → isL ρ cs olds → cap < q + m →
        ∃ u w' s' ρ', (Builtin.append_ [t, t'].toArray ty #[ux, uy]).run P w = .ok u w' ∧ K s' ∧ Gam c n s' ρ' (a.put (some d) u) w' := fun base cap olds hx2 hold hol hos hg => by
      obtain ⟨cap', zs, hr, hc1, hc2⟩ := append_new (P := P) (ty := ty) hT hit hzv hold hs hg hbytes hmax hol (by simpa using hzz)
      refine ⟨_, _, _, upd ρ k (some ⟨w.heap.size, ((olds ++ news).toArray ++ zs).size⟩), by rw [hx2]; exact hr, hK, ?_⟩
      refine h.ins (henv _) (hhp _) hkeep (hasK_no.1 hfx) hd rfl rfl rfl ?_ ?_ ?_ (fun e => by cases e) ?_
      · rw [World.size_alloc]; exact Nat.le_succ _
      · exact fun i hi _ => Below.heap_alloc w.drew _ i hi
      · intro b' hb'
        injection hb' with hb'
        subst hb'
        refine ⟨⟨_, heap_alloc_new w.drew _, rfl, ?_, fun i v hv => ?_⟩, .inl (Nat.le_refl _)⟩
        · simp only [List.length_append, Array.size_append, List.size_toArray, hol, hcl, hnl]; omega
        · have hall : isL (upd ρ k (some ⟨w.heap.size, ((olds ++ news).toArray ++ zs).size⟩)) (cs ++ new) (olds ++ news) := isL_upd (by rw [mentL_append, List.mem_append, not_or]; exact ⟨hkc', hkn'⟩) (isL_append hos hnews)
          obtain ⟨h5, h6⟩ := isL_get? hall hv
          have hi : i < (olds ++ news).length := (List.getElem?_eq_some_iff.1 h5).1
          have h7 : (((olds ++ news).toArray ++ zs).getD i undef) = (olds ++ news).getD i undef := by
            have h8 : i < ((olds ++ news).toArray ++ zs).size := by simp only [Array.size_append, List.size_toArray]; omega
            rw [Array.getD_eq_getD_getElem?, Array.getElem?_append_left (by simpa using hi), List.getElem?_toArray, List.getD_eq_getElem?_getD]
          rw [h7]; exact h6
      · exact .inl ⟨_, cap', upd_self _ _ _, rfl, hc1, by simpa using hc2⟩
    rcases hev with ⟨b, cap, hb, e2, e3, e4⟩ | ⟨rfl, A, hA, e2⟩
    · obtain ⟨⟨arr, hrow⟩, _⟩ := h.hp k T cs b hk hb
      have hle := hrow.le
      have hsz := hrow.size
      by_cases hroom : q + m ≤ cap
      · have hfit : (q + m) * it.size ≤ b.n := by
          have := Nat.mul_le_mul_right it.size hroom
          omega
        rw [Nat.add_mul] at hfit
        have hr := run_append_room_src (P := P) w t t' ty T it hT hit b.b 0 q cap (uy) m news hs hroom
          (fun j hj => by rw [cell_of hrow.there]; have : 0 + q * it.size + j < arr.size := by omega
                          rw [Array.getElem?_eq_getElem this]; rfl)
          (fun j hj => by simp [World.frozen?, hrow.there])
        have hsame := same_setCells b.b news (0 + q * it.size) w
        have hwr := heap_setCells (b := b.b) news (0 + q * it.size) w arr hrow.there
        have hag : ∀ {v : AV} {u : Value}, v.is ρ u → v.is (upd ρ k (some b)) u := fun hv => is_agree (fun j _ => by
          by_cases e : j = k
          · subst e; rw [upd_self]; exact hb
          · rw [upd_ne _ _ e]) hv
        refine ⟨_, _, _, upd ρ k (some b), by rw [e2]; exact hr, hK, ?_⟩
        refine h.ins (henv _) (hhp _) hkeep (hasK_no.1 hfx) hd hsame.os hsame.tape hsame.output (by rw [hsame.size]; exact Nat.le_refl _) ?_ ?_ (fun e => by cases e) ?_
        · exact fun i hi hne => hsame.block i (hne b (by rw [hk]; rfl) hb)
        · intro b' hb'
          injection hb' with hb'
          subst hb'
          refine ⟨⟨_, hwr, by rw [wr_size]; exact hsz, by rw [List.length_append]; omega, fun i v hv => ?_⟩, .inr ⟨b, by rw [hk]; rfl, hb, rfl⟩⟩
          rw [wr_getD _ _ _ _ (by omega)]
          by_cases hi : i < cs.length
          · rw [if_neg (by omega)]
            rw [List.getElem?_append_left hi] at hv
            exact hag (hrow.is i v hv)
          · rw [List.getElem?_append_right (by omega)] at hv
            have hi2 : i - cs.length < new.length := (List.getElem?_eq_some_iff.1 hv).1
            rw [if_pos (by omega)]
            have := isL_get hnews _ _ hv
            rw [show i - (0 + q * it.size) = i - cs.length by omega]
            exact hag this
        · exact .inl ⟨b, cap, upd_self _ _ _, rfl, hroom, e4⟩
      · have hlen : (arr.toList.take (cs.length)).length = q * it.size := by simp; omega
        refine grow (some ⟨b.b, 0, none⟩) cap (arr.toList.take cs.length) e2 (run_firstCells_some w.drew it.size q _ q cap _ hlen fun j u hj => ?_) hlen ?_ (by omega)
        · rw [addr_add, Nat.zero_add]; exact row_drew hrow j u hj
        · have := hrow.part (off := 0) (m := cs.length) (by omega)
          simpa using this
    · have hcs : cs = [] := List.eq_nil_of_length_eq_zero (by simpa using hcl)
      by_cases hm : m = 0
      · have hn0 : news = [] := List.eq_nil_of_length_eq_zero (by rw [hnl2, hm]; simp)
        have hnw : new = [] := List.eq_nil_of_length_eq_zero (by rw [← hnl, hn0]; rfl)
        subst hm hn0
        have hr := run_append_nothing (P := P) w t t' ty T it hT hit A 0 0 (Nat.le_refl _) (uy) hs
        refine ⟨_, _, _, upd ρ k none, by rw [e2]; exact hr, hK, ?_⟩
        refine h.ins (henv _) (hhp _) hkeep (hasK_no.1 hfx) hd rfl rfl rfl (Nat.le_refl _) (fun _ _ _ => rfl) (fun b' e => by cases e) (fun _ => by rw [hcs, hnw]; rfl) ?_
        exact .inr ⟨rfl, A, hA, rfl⟩
      · refine grow A 0 [] e2 ?_ (by simp) (by rw [hcs]; simp [isL]) (by omega)
        cases A with
        | none => simp [Builtin.firstCells]
        | some b => exact run_firstCells_some w.drew it.size 0 b 0 0 [] (by simp) (fun j u h => by simp at h)
  · -- nil
    obtain ⟨⟨hpos, ho, ha, hbytes, hmax, haw, hkn, hzz⟩, hK⟩ := hK
    obtain ⟨news, hs, hnews⟩ := srcA_ok h hy0 hsrc ho ha
    have hnl := isL_length hnews
    have hnl2 := hs.newsLen
    have hkn' := hasK_no.1 hkn
    have hev : ux = .slice none 0 0 := hev
    have henv : ∀ bo t u, (lk s.env t).is ρ u → (lk s.env t).is (upd ρ (s.kb + d) bo) u := fun bo t u hu => is_upd (awayP_env haw t) hu
    have hhp : ∀ bo j T cs, j ≠ s.kb + d → lkH s.hp j = some (T, cs) → ∃ cs0, lkH s.hp j = some (T, cs0) ∧ cs.length = cs0.length ∧ ∀ (i : Nat) (v : AV), cs[i]? = some v → ∃ v0, cs0[i]? = some v0 ∧ ∀ u, v0.is ρ u → v.is (upd ρ (s.kb + d) bo) u := fun bo j T cs hj hl =>
      ⟨cs, hl, rfl, fun i v hv => ⟨v, hv, fun u hu => is_upd (fun hm => (awayP_hp haw j T cs hl).2 (mentL_get hv hm)) hu⟩⟩
    by_cases hm : m = 0
    · have hn0 : news = [] := List.eq_nil_of_length_eq_zero (by rw [hnl2, hm]; simp)
      have hnw : new = [] := List.eq_nil_of_length_eq_zero (by rw [← hnl, hn0]; rfl)
      subst hm hn0
      have hr := run_append_nothing (P := P) w t t' ty e it hT hit none 0 0 (Nat.le_refl _) (uy) hs
      refine ⟨_, _, _, upd ρ (s.kb + d) none, by rw [hev]; exact hr, hK, ?_⟩
      refine h.ins (henv _) (hhp _) (fun j _ hj => hj) (awayP_fx haw) hd rfl rfl rfl (Nat.le_refl _) (fun _ _ _ => rfl) (fun b' e => by cases e) (fun _ => hnw) ?_
      exact .inr ⟨rfl, none, (fun x e => by cases e), rfl⟩
    · obtain ⟨cap', zs, hr, hc1, hc2⟩ := append_new (P := P) (ty := ty) (base := none) (q := 0) (cap := 0) (olds := []) hT hit hzv (by simp [Builtin.firstCells]) hs (by omega) (by simpa using hbytes) (by simpa using hmax) (by simp) (by simpa using hzz)
      refine ⟨_, _, _, upd ρ (s.kb + d) (some ⟨w.heap.size, (([] ++ news).toArray ++ zs).size⟩), by rw [hev]; exact hr, hK, ?_⟩
      refine h.ins (henv _) (hhp _) (fun j _ hj => hj) (awayP_fx haw) hd rfl rfl rfl ?_ ?_ ?_ (fun e => by cases e) ?_
      · rw [World.size_alloc]; exact Nat.le_succ _
      · exact fun i hi _ => Below.heap_alloc w.drew _ i hi
      · intro b' hb'
        injection hb' with hb'
        subst hb'
        refine ⟨⟨_, heap_alloc_new w.drew _, rfl, ?_, fun i v hv => ?_⟩, .inl (Nat.le_refl _)⟩
        · simp only [Array.size_append, List.size_toArray, List.nil_append, hnl]; omega
        · have hall : isL (upd ρ (s.kb + d) (some ⟨w.heap.size, (([] ++ news).toArray ++ zs).size⟩)) new news := isL_upd hkn' hnews
          obtain ⟨h5, h6⟩ := isL_get? hall hv
          have hi : i < news.length := (List.getElem?_eq_some_iff.1 h5).1
          have h7 : ((([] ++ news).toArray ++ zs).getD i undef) = news.getD i undef := by
            rw [Array.getD_eq_getD_getElem?, Array.getElem?_append_left (by simpa using hi), List.getElem?_toArray, List.getD_eq_getElem?_getD]
            simp
          rw [h7]; exact h6
      · refine .inl ⟨_, cap', upd_self _ _ _, ?_, by omega, by simpa using hc2⟩
        simp
  · exact hK.elim
end
end Go.Proofs.YtamghpnjdohnjaaDoor.Sx
namespace Go.Proofs.YtamghpnjdohnjaaDoor.Sx
open Go Go.RowKit
set_option linter.unusedVariables false
set_option linter.unusedSimpArgs false
section
variable {P : Program} {c : Cx} {n : Nat} {s : St} {ρ : Rho} {a : Act} {w : World} {o : Oper}
theorem map_one {α β : Type} {f : α → β} {l : List α} {v : β} (h : l.map f = [v]) : ∃ x, l = [x] ∧ f x = v := by
  cases l with
  | nil => cases h
  | cons x r => cases r with
    | nil => exact ⟨x, rfl, by simpa using h⟩
    | cons y q => simp at h
theorem map_two {α β : Type} {f : α → β} {l : List α} {v v' : β} (h : l.map f = [v, v']) : ∃ x y, l = [x, y] ∧ f x = v ∧ f y = v' := by
  cases l with
  | nil => cases h
  | cons x r => cases r with
    | nil => simp at h
    | cons y q => cases q with
      | nil => exact ⟨x, y, rfl, by simpa using h⟩
      | cons z q => simp at h
theorem sound_call {cl : Call} (hop : o.op = .call cl) (h : Gam c n s ρ a w) : Sound P c n s ρ a w o (callR P (evC s cl.callee) cl.argTypes.toList (cl.args.toList.map (Sx.ev s))) := by
  have hargs : cl.args.map a.eval = (cl.args.toList.map a.eval).toArray := by rw [← Array.toList_inj]; simp
  have hts : cl.argTypes = cl.argTypes.toList.toArray := by simp
  have he := gam_isL h cl.args.toList
  cases hc : cl.callee with
  | value g =>
    simp only [evC, callR]
    split
    · rename_i f ks hg
      injection hg with hg
      intro hb
      have hev := h.ev g
      rw [hg] at hev
      obtain ⟨us, h1, h2⟩ := hev
      refine ⟨_, isL_append he h1, ?_⟩
      simp only [execOp, hop, resolve, hc, h2, Deferred.ofValue, Sem.run_bind, Sem.run_pure, Result.andThen_ok, invoke, hargs]
      rw [show (#[] ++ (cl.args.toList.map a.eval).toArray ++ us.toArray) = (cl.args.toList.map a.eval ++ us).toArray by simp]
      exact callsB_ok hb
    · rename_i e; cases e
    · trivial
  | invoke r m => trivial
  | builtin b =>
    simp only [evC, callR]
    have hx : ∀ u w', (builtin b cl.argTypes o.type (cl.args.map fun | .const _ => true | _ => false) (cl.args.toList.map a.eval).toArray).run P w = .ok (.value u) w' →
        (execOp a.eval o).run P w = .ok (.value u) w' := fun u w' hu => by
      simp only [execOp, hop, resolve, hc, Sem.run_bind, Sem.run_pure, Result.andThen_ok, invoke, hargs]
      exact hu
    generalize hts2 : cl.argTypes.toList = ts at hts ⊢
    rw [hts] at hx
    clear hts hargs hts2
    generalize cl.args.toList = args at hx he ⊢
    cases b with
    | len =>
      simp only [bltR]
      unfold lenR
      split
      · rename_i T k off m z harg
        intro ho
        obtain ⟨x, rfl, harg2⟩ := map_one harg
        · have hev := h.ev x
          rw [harg2] at hev
          obtain ⟨e, hT⟩ := isSliceT_ok ho
          refine ⟨_, hx _ _ ?_, rfl⟩
          rcases hev with ⟨b, cap, _, e2, _⟩ | ⟨rfl, A, _, e2⟩ <;> simp [builtin, Builtin.len_, run_underlying hT, goInt, e2]
      · obtain ⟨y, rfl, harg2⟩ := map_one ‹List.map (Sx.ev s) args = [_]›
        · subst harg2
          refine sound_put1 fun g u ob v hy hg hf ho => hx _ _ ?_
          have e2 := val_is hy hg (h.ev y)
          unfold lenV at hf
          split at hf
          · rename_i hs
            simp only [Option.some.injEq, Prod.mk.injEq] at hf
            obtain ⟨rfl, rfl⟩ := hf
            obtain ⟨e, hT⟩ := isSliceT_ok hs
            cases u <;> try cases ho
            simp [builtin, Builtin.len_, run_underlying hT, goInt, e2, slen]
          · rename_i hs
            split at hf
            · simp only [Option.some.injEq, Prod.mk.injEq] at hf
              obtain ⟨rfl, rfl⟩ := hf
              unfold isStrT at hs
              split at hs
              · simp [builtin, Builtin.len_, run_underlying ‹_›, goInt, e2]
              · cases hs
            · cases hf
          · cases hf
      · trivial
    | min =>
      simp only [bltR]
      split
      · rename_i x y harg
        obtain ⟨x', y', rfl, rfl, rfl⟩ := map_two harg
        · refine sound_put2 fun g u g' u' ob v h1 hg h2 hg' hf ho => hx _ _ ?_
          have e1 := val_is h1 hg (h.ev x')
          have e2 := val_is h2 hg' (h.ev y')
          unfold minV at hf
          split at hf
          · split at hf
            · simp only [Option.some.injEq, Prod.mk.injEq] at hf
              obtain ⟨rfl, rfl⟩ := hf
              simp [builtin, Builtin.min_, Builtin.min2, e1, e2]
            · cases hf
          · cases hf
      · trivial
    | max =>
      simp only [bltR]
      split
      · rename_i x y harg
        obtain ⟨x', y', rfl, rfl, rfl⟩ := map_two harg
        · refine sound_put2 fun g u g' u' ob v h1 hg h2 hg' hf ho => hx _ _ ?_
          have e1 := val_is h1 hg (h.ev x')
          have e2 := val_is h2 hg' (h.ev y')
          unfold maxV at hf
          split at hf
          · split at hf
            · simp only [Option.some.injEq, Prod.mk.injEq] at hf
              obtain ⟨rfl, rfl⟩ := hf
              simp [builtin, Builtin.max_, Builtin.max2, e1, e2]
            · cases hf
          · cases hf
      · trivial
    | append =>
      intro K hK hd
      simp only [genR] at hK
      match args, he, hK, hx with
      | [x, y], he, hK, hx =>
        obtain ⟨u, w', s', ρ', h1, h2, h3⟩ := appR_ok (P := P) (ty := o.type) h (norm_is (h.ev x)) (norm_is (h.ev y)) hK hd
        refine ⟨u, w', s', ρ', hx _ _ ?_, h2, h3⟩
        simp only [builtin, Sem.run_bind, Sem.run_pure, Result.andThen_ok]
        rw [show ([x, y].map a.eval).toArray = #[a.eval x, a.eval y] by simp, h1]
        rfl
      | [], he, hK, hx => unfold appR at hK; split at hK <;> simp_all [normL]
      | [x], he, hK, hx => unfold appR at hK; split at hK <;> simp_all [normL]
      | x :: y :: z :: r, he, hK, hx => unfold appR at hK; split at hK <;> simp_all [normL]
    | _ => trivial
theorem tOp_sound (h : Gam c n s ρ a w) : Sound P c n s ρ a w o (tOp P s o.op) := by
  cases hop : o.op with
  | move x => exact fun _ => ⟨_, run_move (.inl hop), h.ev x⟩
  | assign x => exact fun _ => ⟨_, run_move (.inr hop), h.ev x⟩
  | pick x y z =>
    simp only [tOp]
    unfold pickV
    split
    · rename_i g t g1 u1 g2 u2 e1 e2 e3
      rintro ⟨hg, h1, h2⟩
      have i1 := val_is e1 hg (h.ev x)
      refine ⟨_, ?_, rfl⟩
      simp only [execOp, hop, i1, asBool, Sem.run_bind, Sem.run_pure, Result.andThen_ok, selV_eq]
      cases t
      · simp [val_is e3 (h2 rfl) (h.ev z)]
      · simp [val_is e2 (h1 rfl) (h.ev y)]
    · trivial
  | binOp b T x y Ty =>
    exact sound_put2 fun g u g' u' ob v e1 hg e2 hg' hf ho => by
      have hf : binV P b T u u' = some (ob, v) := by
        unfold binW at hf
        split at hf
        · rename_i e; rw [e]; exact hf
        · cases hf; exact ho.elim
      simp only [execOp, hop, val_is e1 hg (h.ev x), val_is e2 hg' (h.ev y), Sem.run_bind, eqGuard_ok hf, binV_ok hf ho, Sem.run_pure, Result.andThen_ok]
  | unOp uo T x =>
    exact sound_put1 fun g u ob v e1 hg hf ho => by
      have hf : unV uo u = some v := by
        unfold unV1 at hf
        split at hf
        · rename_i e; cases hf; exact e
        · cases hf; exact ho.elim
      simp only [execOp, hop, val_is e1 hg (h.ev x), Sem.run_bind, unV_ok hf, Sem.run_pure, Result.andThen_ok]
  | extract x i => exact sound_ext hop h
  | nilCheck x =>
    simp only [tOp]
    cases hx : (Sx.ev s x).ptr? with
    | none => trivial
    | some r =>
      obtain ⟨g, k, off⟩ := r
      intro ho
      obtain ⟨b, hb, e⟩ := ptr_is hx ho (h.ev x)
      refine ⟨ptr b.b off, ?_, b, hb, rfl⟩
      simp only [execOp, hop, e, ptr]
      rfl
  | fieldAddr S x f =>
    simp only [tOp]
    have hext : ∀ g v, (Sx.ev s x).val = some (g, v) → Sound P c n s ρ a w o (fldV P (fOff P S f) g v) := fun g v hx => by
      unfold fldV
      split
      · rename_i o1 T1 hf
        rintro ⟨hg, hp, ho⟩
        have e := val_is hx hg (h.ev x)
        cases v with
        | pointer A =>
          cases A with
          | none => cases hp
          | some A =>
            refine ⟨.pointer (some (A.add o1)), ?_, rfl⟩
            simp only [execOp, hop, e, Sem.run_bind, fOff_pt hf ho, Sem.run_pure, Result.andThen_ok]
        | _ => cases hp
      · trivial
    have hown : Sound P c n s ρ a w o (fieldR P (fOff P S f) (Sx.ev s x).ptr?) := by
      unfold fieldR
      split
      · rename_i o1 T1 g k off hf hx
        rintro ⟨hg, ho⟩
        obtain ⟨b, hb, e⟩ := ptr_is hx hg (h.ev x)
        refine ⟨ptr b.b (off + o1), ?_, b, hb, rfl⟩
        simp only [execOp, hop, e, Sem.run_bind, fOff_ok hf ho, Sem.run_pure, Result.andThen_ok]
      · trivial
    unfold fldA
    split
    · rename_i v hx; exact hext true v (by rw [hx]; rfl)
    · rename_i g v hx; exact hext g v (by rw [hx]; rfl)
    · exact hown
  | load T x => exact sound_load hop h
  | store T x y => exact sound_store hop h
  | makeFunc fn first captured => exact sound_mkF hop h
  | call cl => exact sound_call hop h
  | alloc T => exact sound_alloc hop h
  | box T x => exact sound_box hop h
  | buildSlice T m ps => exact sound_buildS hop h
  | build T ps => exact sound_build hop h
  | field S x f => exact sound_field hop h
  | makeSlice T x y => exact sound_make hop h
  | indexAddr T x y => exact sound_idx hop h
  | index T x y => exact sound_index hop h
  | slice T x lo hi mx =>
    cases mx with
    | none => exact sound_slice hop h
    | some _ => trivial
  | convert S T x => exact sound_conv hop h
  | _ => trivial
theorem Gam.newD (h : Gam c n s ρ a w) {d : Nat} {D : NewD} {cs : List AV} {arr : Array Value} {u : Value} (hd : d < n) (hcs : isL ρ cs arr.toList) (hm : ∀ k, (∀ t, k ∉ (lk s.env t).ment) → k ∉ mentL cs)
    (haw : awayP (s.kb + d) s) (hu : ∀ k, (D.av k).is (upd ρ k (some ⟨w.heap.size, arr.size⟩)) u) :
    ∃ ρ', Gam c n { env := (d, D.av (s.kb + d)) :: s.env, hp := (s.kb + d, D.T, cs) :: s.hp, M := s.M, kb := s.kb, fx := s.fx, fr := s.fr } ρ' (a.put (some d) u) (w.alloc (.cells arr D.T)) := by
  have hl := isL_length hcs
  refine ⟨_, h.new (awayP_env haw) (awayP_hp haw) (awayP_fx haw) hd (by simp at hl; omega) (fun i v hv => ?_) (hm _ (awayP_env haw)) (hu _)⟩
  have := isL_get hcs i v hv
  simpa [Array.getD_eq_getD_getElem?, List.getD_eq_getElem?_getD] using this
theorem fin_ok {K : St → Prop} {Kc : Act → World → Prop} {Q : Exit → Act → World → Prop} (hd : dOK n o.dst) (h : Gam c n s ρ a w)
    (hK : ∀ s' a' w', K s' → Ga c n s' a' w' → Kc a' w') (hf : fin P o s K (tOp P s o.op)) : o.wp P a w Kc Q := by
  have hs := tOp_sound (P := P) (o := o) h
  generalize ht : tOp P s o.op = r at hf hs
  cases r with
  | bad => exact hf.elim
  | put ob v =>
    obtain ⟨ho, hk⟩ := hf
    obtain ⟨u, hr, hv⟩ := hs ho
    simp only [Oper.wp, hr, Oper.upon]
    exact hK _ _ _ hk ⟨ρ, h.put hv hd⟩
  | sto ob k cs =>
    obtain ⟨ho, hk⟩ := hf
    obtain ⟨w', hr, h'⟩ := hs ho
    simp only [Oper.wp, hr, Oper.upon]
    exact hK _ _ _ hk ⟨ρ, h'.put (v := .unk) trivial hd⟩
  | new T cs =>
    simp only [fin, newK] at hf
    split at hf
    · rename_i d hdst
      obtain ⟨⟨h0, h1⟩, hk⟩ := hf
      obtain ⟨arr, u, hr, hu, hcs, haw⟩ := hs h0
      simp only [Oper.wp, hr, Oper.upon]
      rw [hdst] at hd ⊢
      exact hK _ _ _ hk (h.newD hd hcs haw h1 hu)
    · exact hf.elim
  | call f args =>
    obtain ⟨hb, mv, hmv, hc⟩ := hf
    obtain ⟨us, he, hr⟩ := hs hb
    simp only [Oper.wp, hr, Oper.upon]
    refine (hc ρ w us (h.heapIs _) (isL_norm he)).mono fun e w' hh => ?_
    obtain ⟨u, v, H', M', ρ', rfl, ⟨hnk, hk⟩, hl⟩ := hh
    exact hK _ _ _ hk (h.left hd hmv hnk hl)
  | gen G =>
    obtain ⟨u, w', s', ρ', hr, hk, hg⟩ := hs K hf hd
    simp only [Oper.wp, hr, Oper.upon]
    exact hK _ _ _ hk ⟨ρ', hg⟩
  | ask =>
    exact Oper.wp_mono (fun a' w' ⟨s', hk, hg⟩ => hK _ _ _ hk hg) (hf c n a w Q ⟨ρ, h⟩ hd)
theorem guard_ok {ops : Array Oper} {j : Nat} {want g : Bool} (h : Gam c n s ρ a w) (hg : guardB ops.toList s (some (j, want)) = some g) :
    (yielded ops a.tmps j == some want) = g := by
  simp only [guardB, gslot_eq] at hg
  rw [Array.getElem?_toList] at hg
  split at hg
  · rename_i t ht
    split at hg
    · rename_i gg b hv
      injection hg with hg
      subst hg
      have hev := h.env t
      have hu : a.tmps.getD t undef = if gg = true then .bool b else undef := by
        cases hl : lk s.env t <;> rw [hl] at hv hev <;> simp [AV.val] at hv
        · obtain ⟨rfl, rfl⟩ := hv; rw [if_pos rfl]; exact hev
        · obtain ⟨rfl, rfl⟩ := hv; exact hev
      simp only [yielded, ht, Option.bind_some]
      by_cases hlt : t < a.tmps.size
      · have h1 : a.tmps[t]? = some (a.tmps.getD t undef) := by simp [Array.getD, hlt]
        rw [h1, hu]
        cases gg
        · simp [undef]
        · simp
      · have h1 : a.tmps[t]? = none := Array.getElem?_eq_none (by omega)
        have h2 : a.tmps.getD t undef = undef := by simp [Array.getD, hlt]
        rw [h2] at hu
        rw [h1]
        cases gg
        · simp
        · simp [undef] at hu
    · cases hg
  · cases hg
theorem step1_ok {ops : Array Oper} {K : St → Prop} {Kc : Act → World → Prop} {Q : Exit → Act → World → Prop} (hd : dOK n o.dst) (h : Gam c n s ρ a w)
    (hK : ∀ s' a' w', K s' → Ga c n s' a' w' → Kc a' w') (hf : step1 P ops.toList o s K o.guard) :
    if Region.wanted o (yielded ops a.tmps) then o.wp P a w Kc Q else Kc (a.put o.dst undef) w := by
  cases hgd : o.guard with
  | none =>
    rw [hgd] at hf
    have : Region.wanted o (yielded ops a.tmps) = true := by simp [Region.wanted, hgd]
    rw [if_pos this]
    exact fin_ok hd h hK hf
  | some jw =>
    obtain ⟨j, want⟩ := jw
    rw [hgd] at hf
    have hw : Region.wanted o (yielded ops a.tmps) = (yielded ops a.tmps j == some want) := by simp [Region.wanted, hgd]
    rw [hw]
    simp only [step1] at hf
    cases hg : guardB ops.toList s (some (j, want)) with
    | none => rw [hg] at hf; exact hf.elim
    | some g =>
      rw [hg] at hf
      rw [guard_ok h hg]
      simp only [stepG] at hf
      have hs := tOp_sound (P := P) (o := o) h
      have hskip : g = false → ∀ v : AV, v.is ρ undef → K (s.put o.dst v) → Kc (a.put o.dst undef) w := fun _ v hv hk => hK _ _ _ hk ⟨ρ, h.put hv hd⟩
      cases ht : tOp P s o.op with
      | put ob v =>
        rw [ht] at hf hs
        have key : ∀ x, v = .ext x ∨ (∃ g', v = .gd g' x ∧ (g = true → g' = true)) → (g = true → ob) → K (s.put o.dst (.gd g x)) →
            if g = true then o.wp P a w Kc Q else Kc (a.put o.dst undef) w := by
          intro x hvx hob hk
          cases g
          · simp only [Bool.false_eq_true, if_false]
            exact hskip rfl (.gd false x) rfl hk
          · simp only [if_true]
            obtain ⟨u, hr, hv⟩ := hs (hob rfl)
            simp only [Oper.wp, hr, Oper.upon]
            refine hK _ _ _ hk ⟨ρ, h.put ?_ hd⟩
            rcases hvx with rfl | ⟨g', rfl, hg'⟩
            · exact hv
            · have hv : u = if g' = true then x else undef := hv
              rw [if_pos (hg' rfl)] at hv
              exact hv
        have gen : brv g (fin P o s K (.put ob v)) (K (s.put o.dst (.ext undef))) → if g = true then o.wp P a w Kc Q else Kc (a.put o.dst undef) w := fun hb => by
          cases g
          · simp only [Bool.false_eq_true, if_false]
            exact hskip rfl (.ext undef) rfl (hb.2 rfl)
          · simp only [if_true]
            exact fin_ok hd h hK (by rw [ht]; exact hb.1 rfl)
        cases v with
        | ext x => exact key x (.inl rfl) hf.1 hf.2
        | gd g' x => exact key x (.inr ⟨g', rfl, fun e => (hf.1 e).1⟩) (fun e => (hf.1 e).2) hf.2
        | own k off =>
          obtain ⟨hob, hk⟩ := hf
          cases g
          · simp only [Bool.false_eq_true, if_false]
            exact hskip rfl (.gown false k off) rfl hk
          · simp only [if_true]
            obtain ⟨u, hr, hv⟩ := hs (hob rfl)
            simp only [Oper.wp, hr, Oper.upon]
            exact hK _ _ _ hk ⟨ρ, h.put (v := .gown true k off) hv hd⟩
        | _ => exact gen hf
      | _ =>
        rw [ht] at hf
        cases g
        · simp only [Bool.false_eq_true, if_false]
          exact hskip rfl (.ext undef) rfl (hf.2 rfl)
        · simp only [if_true]
          exact fin_ok hd h hK (by rw [ht]; exact hf.1 rfl)
theorem runOps_ok {ops : Array Oper} {Q : Exit → Act → World → Prop} {K : St → Prop} (hK : ∀ s a w, K s → Ga c n s a w → Q .normal a w) :
    ∀ (l : List Oper) (s : St) (a : Act) (w : World), (∀ o ∈ l, dOK n o.dst) → Ga c n s a w → runOps P ops.toList l K s → wpList P ops Q l a w
  | [], s, a, w, _, hg, h => hK s a w h hg
  | o :: r, s, a, w, hl, ⟨ρ, hg⟩, h => by
    refine wpList_step fun Kc hKc => ?_
    exact step1_ok (hl o (by simp)) hg (fun s' a' w' hk hg' => hKc _ _ (runOps_ok hK r s' a' w' (fun o ho => hl o (by simp [ho])) hg' hk)) h
end
end Go.Proofs.YtamghpnjdohnjaaDoor.Sx
namespace Go.Proofs.YtamghpnjdohnjaaDoor.Sx
open Go Go.RowKit
set_option linter.unusedVariables false
set_option linter.unusedSimpArgs false
def codeOK (n : Nat) : Code → Bool
  | .region _ ops _ => ops.toList.all fun o => match o.dst with | some d => decide (d < n) | none => true
  | .seq a b => codeOK n a && codeOK n b
  | .cond _ a b => codeOK n a && codeOK n b
  | .block _ c => codeOK n c
  | .loop c => codeOK n c
  | .scope c => codeOK n c
  | _ => true
def itemsOK (n : Nat) : List Item → Prop
  | [] => True
  | .code c :: k => codeOK n c = true ∧ itemsOK n k
  | _ :: k => itemsOK n k
theorem itemsOK_pop (n id : Nat) : ∀ k, itemsOK n k → itemsOK n (popTo id k)
  | [], _ => trivial
  | .blk i :: k, h => by
    simp only [popTo]; split
    · exact h
    · exact itemsOK_pop n id k h
  | .code _ :: k, h => itemsOK_pop n id k h.2
  | .stop _ :: k, h => itemsOK_pop n id k h
  | .marks _ :: k, h => itemsOK_pop n id k h
section
variable {P : Program} {c : Cx} {n : Nat}
def semT (P : Program) (c : Cx) (n : Nat) (F : Act → World → Prop) : List Item → Act → World → Prop
  | [], a, w => F a w
  | .code x :: k, a, w => x.wp P (fun e a' w' => match e with
      | .normal => semT P c n F k a' w'
      | .exit id => semX id k a' w'
      | .ret => F a' w'
      | _ => False) a w
  | .blk _ :: k, a, w => semT P c n F k a w
  | .stop J :: _, a, w => ∃ s, J s ∧ Ga c n s a w
  | .marks _ :: k, a, w => semT P c n F k a w
where
  semX (id : Nat) : List Item → Act → World → Prop
  | [], _, _ => False
  | .blk i :: k, a, w => if i = id then semT P c n F k a w else semX id k a w
  | .code _ :: k, a, w => semX id k a w
  | .stop _ :: k, a, w => semX id k a w
  | .marks _ :: k, a, w => semX id k a w
def semQ (P : Program) (c : Cx) (n : Nat) (F : Act → World → Prop) (k : List Item) : Exit → Act → World → Prop
  | .normal, a, w => semT P c n F k a w
  | .exit id, a, w => semT.semX P c n F id k a w
  | .ret, a, w => F a w
  | _, _, _ => False
theorem semT_code {F : Act → World → Prop} {x : Code} {k : List Item} {a : Act} {w : World} (h : x.wp P (semQ P c n F k) a w) : semT P c n F (.code x :: k) a w := by
  unfold semT
  refine wp_mono h fun e a' w' he => ?_
  cases e <;> exact he
theorem of_semT {F : Act → World → Prop} {x : Code} {k : List Item} {a : Act} {w : World} (h : semT P c n F (.code x :: k) a w) : x.wp P (semQ P c n F k) a w := by
  unfold semT at h
  refine wp_mono h fun e a' w' he => ?_
  cases e <;> exact he
theorem exists_min {p : Nat → Prop} (h : ∃ m, p m) : ∃ m, p m ∧ ∀ j, p j → m ≤ j := by
  obtain ⟨m, hm⟩ := h
  induction m using Nat.strongRecOn with
  | _ m ih =>
    by_cases h : ∃ j, j < m ∧ p j
    · obtain ⟨j, hj, hp⟩ := h; exact ih j hj hp
    · exact ⟨m, hm, fun j hj => Nat.le_of_not_lt fun hlt => h ⟨j, hlt, hj⟩⟩
open Classical in
noncomputable def least (p : Nat → Prop) : Nat := if h : ∃ m, p m then Classical.choose (exists_min h) else 0
theorem least_spec {p : Nat → Prop} (h : ∃ m, p m) : p (least p) ∧ ∀ j, p j → least p ≤ j := by
  unfold least; rw [dif_pos h]; exact Classical.choose_spec (exists_min h)
theorem sem_popTo {F : Act → World → Prop} (id : Nat) : ∀ (k : List Item) (a : Act) (w : World), semT P c n F (popTo id k) a w → hasBlk id k = true → semT.semX P c n F id k a w
  | [], a, w, h, hx => by simp [hasBlk] at hx
  | .blk i :: k, a, w, h, hx => by
    unfold semT.semX
    by_cases e : i = id
    · simpa [popTo, e] using h
    · rw [if_neg e]
      exact sem_popTo id k a w (by simpa [popTo, e] using h) (by simpa [hasBlk, e] using hx)
  | .code _ :: k, a, w, h, hx => by
    unfold semT.semX
    exact sem_popTo id k a w h (by simpa [hasBlk] using hx)
  | .stop _ :: k, a, w, h, hx => by
    unfold semT.semX
    exact sem_popTo id k a w h (by simpa [hasBlk] using hx)
  | .marks _ :: k, a, w, h, hx => by
    unfold semT.semX
    exact sem_popTo id k a w h (by simpa [hasBlk] using hx)
theorem condK_ok {s : St} {x : Operand} {A B : Prop} {ρ : Rho} {a : Act} {w : World} (h : Gam c n s ρ a w) (hc : condK (ev s x).val A B) : ∃ t, a.eval x = .bool t ∧ (t = true → A) ∧ (t = false → B) := by
  unfold condK at hc
  split at hc
  · rename_i g t hv
    exact ⟨t, val_is hv hc.1 (h.ev x), hc.2.1, hc.2.2⟩
  · exact hc.elim
theorem dOK_of {ops : Array Oper} {m : Nat} (h : (ops.toList.all fun o => match o.dst with | some d => decide (d < n) | none => true) = true) : ∀ o ∈ ops.toList, dOK n o.dst := fun o ho => by
  have := List.all_eq_true.1 h o ho
  cases hd : o.dst with
  | none => trivial
  | some d => rw [hd] at this; simpa [dOK] using this
theorem drewn {s : St} {a : Act} {w : World} (h : Ga c n s a w) : Ga c n s a { w with drawn := w.drawn + 1 } := by
  obtain ⟨ρ, g⟩ := h
  exact ⟨ρ, { df := g.df, sz := g.sz, env := g.env, hp := fun k T cs b hk hb => by obtain ⟨⟨arr, r⟩, h2⟩ := g.hp k T cs b hk hb; exact ⟨⟨arr, r.there, r.size, r.le, r.is⟩, h2⟩, no := g.no, inj := g.inj, os := g.os, tape := g.tape, output := g.output, size := g.size, block := g.block, sub := g.sub, le := g.le, mf := g.mf, fix := g.fix, fx := g.fx, kl := g.kl, fr := g.fr }⟩
theorem vc_ok (hmx : P.follows .mixedOrders = true) {R : St → Prop} {F : Act → World → Prop} (hF : ∀ s a w, R s → Ga c n s a w → F a w) :
    ∀ (m : Nat) (k : List Item), isize k ≤ m → ∀ (s : St) (a : Act) (w : World), itemsOK n k → Ga c n s a w → vc P R k s → semT P c n F k a w := by
  intro m
  induction m with
  | zero =>
    intro k hk s a w hi hg hv
    cases k with
    | nil => unfold vc at hv; unfold semT; exact hF s a w hv hg
    | cons x r => cases x <;> simp [isize] at hk
  | succ m ih =>
    intro k hk s a w hi hg hv
    match k, hk, hi, hv with
    | [], hk, hi, hv => unfold vc at hv; unfold semT; exact hF s a w hv hg
    | .blk i :: k, hk, hi, hv =>
      unfold vc at hv; unfold semT
      exact ih k (by simp only [isize] at hk; omega) s a w hi hg hv
    | .stop J :: k, hk, hi, hv => unfold vc at hv; unfold semT; exact ⟨s, hv, hg⟩
    | .marks l :: k, hk, hi, hv =>
      unfold vc at hv; unfold semT
      exact ih k (by simp only [isize] at hk; omega) s a w hi hg hv
    | .code x :: k, hk, hi, hv =>
      obtain ⟨hx, hi⟩ := hi
      cases x with
      | skip =>
        unfold vc at hv
        exact semT_code (wp_skip (ih k (by simp only [isize, csize] at hk; omega) s a w hi hg hv))
      | label l =>
        unfold vc at hv
        exact semT_code (wp_label (ih k (by simp only [isize, csize] at hk; omega) s a w hi hg hv))
      | seq x y =>
        unfold vc at hv
        simp only [codeOK, Bool.and_eq_true] at hx
        refine semT_code (wp_seq ?_)
        cases hcut : cutO k (headId y) with
        | true =>
          rw [hcut] at hv
          obtain ⟨J, hA, hB⟩ := hv
          have h1 := of_semT (ih (.code x :: .stop (fun s => ∃ z, Le s z ∧ J z) :: .code y :: k) (by simp only [isize, csize] at hk ⊢; omega) s a w ⟨hx.1, hx.2, hi⟩ hg hA)
          refine wp_mono h1 fun e a' w' he => ?_
          cases e with
          | normal =>
            unfold semQ at he; unfold semT at he
            obtain ⟨s2, ⟨z2, hle2, hJ2⟩, ρ2, hg2⟩ := he
            exact of_semT (ih (.code y :: k) (by simp only [isize, csize] at hk ⊢; omega) z2 a' w' ⟨hx.2, hi⟩ (hle2 c n ρ2 a' w' hg2) (hB z2 hJ2))
          | exit id =>
            have he : semT.semX P c n F id (.stop (fun s => ∃ z, Le s z ∧ J z) :: .code y :: k) a' w' := he
            unfold semT.semX at he
            unfold semT.semX at he
            exact he
          | ret => exact he
          | goto l => exact he
          | panic ch => exact he
          | outgrown => exact he
        | false =>
        rw [hcut] at hv
        have hv : vc P R (.code x :: .code y :: k) s := hv
        have h1 := of_semT (ih (.code x :: .code y :: k) (by simp only [isize, csize] at hk ⊢; omega) s a w ⟨hx.1, hx.2, hi⟩ hg hv)
        refine wp_mono h1 fun e a' w' he => ?_
        cases e with
        | normal => exact of_semT he
        | exit id =>
          have he : semT.semX P c n F id (.code y :: k) a' w' := he
          unfold semT.semX at he
          exact he
        | ret => exact he
        | goto l => exact he
        | panic ch => exact he
        | outgrown => exact he
      | block id x =>
        unfold vc at hv
        refine semT_code (wp_block ?_)
        have h1 := of_semT (ih (.code x :: .blk id :: k) (by simp only [isize, csize] at hk ⊢; omega) s a w ⟨hx, hi⟩ hg hv)
        refine wp_mono h1 fun e a' w' he => ?_
        cases e with
        | normal => unfold semQ at he; unfold semT at he; exact he
        | exit id' =>
          have he : semT.semX P c n F id' (.blk id :: k) a' w' := he
          unfold semT.semX at he
          simp only [Exit.inBlock]
          by_cases e : id = id'
          · subst e; rw [if_pos rfl] at he; rw [if_pos rfl]; exact he
          · rw [if_neg e] at he; rw [if_neg (fun e2 => e e2.symm)]; exact he
        | ret => exact he
        | goto l => exact he
        | panic ch => exact he
        | outgrown => exact he
      | exit id =>
        unfold vc at hv
        refine semT_code (wp_exit ?_)
        exact sem_popTo id k a w (ih (popTo id k) (by have := isize_pop id k; simp only [isize, csize] at hk; omega) s a w (itemsOK_pop n id k hi) hg hv.2) hv.1
      | ret =>
        unfold vc at hv
        exact semT_code (wp_ret (hF s a w hv hg))
      | cond x y z =>
        unfold vc at hv
        simp only [codeOK, Bool.and_eq_true] at hx
        obtain ⟨ρ, g⟩ := hg
        obtain ⟨t, ht, h1, h2⟩ := condK_ok g hv
        refine semT_code (wp_cond_split ht (fun e => ?_) (fun e => ?_))
        · exact of_semT (ih (.code y :: k) (by simp only [isize, csize] at hk ⊢; omega) s a w ⟨hx.1, hi⟩ ⟨ρ, g⟩ (h1 e))
        · exact of_semT (ih (.code z :: k) (by simp only [isize, csize] at hk ⊢; omega) s a w ⟨hx.2, hi⟩ ⟨ρ, g⟩ (h2 e))
      | region id ops d =>
        unfold vc at hv
        have hd := dOK_of (m := 0) hx
        have hnext : ∀ s' a' w', vc P R k s' → Ga c n s' a' w' → semQ P c n F k .normal a' w' := fun s' a' w' hv' hg' =>
          ih k (by simp only [isize, csize] at hk; omega) s' a' w' hi hg' hv'
        cases d with
        | false =>
          refine semT_code (wp_region_list ?_)
          exact runOps_ok (P := P) hnext ops.toList s a w hd hg hv
        | true =>
          refine semT_code (wp_region_any hmx ?_)
          exact hv c n a _ _ hd (drewn hg) hnext
      | loop x =>
        unfold vc at hv
        obtain ⟨I, ⟨m0, z0, hle0, h0⟩, hI⟩ := hv
        have hg0 : Ga c n z0 a w := by obtain ⟨ρ, g⟩ := hg; exact hle0 c n ρ a w g
        refine semT_code (wp_loop (fun a w => ∃ m s, I m s ∧ Ga c n s a w) (fun a w => least fun m => ∃ s, I m s ∧ Ga c n s a w) ⟨m0, z0, h0, hg0⟩ ?_)
        intro a' w' hIa
        obtain ⟨hmin, _⟩ := least_spec hIa
        generalize least (fun m => ∃ s, I m s ∧ Ga c n s a' w') = mm at hmin ⊢
        obtain ⟨s', hs', hg'⟩ := hmin
        have h1 := of_semT (ih (.code x :: .stop (fun s'' => ∃ m' z, m' < mm ∧ Le s'' z ∧ I m' z) :: k) (by simp only [isize, csize] at hk ⊢; omega) s' a' w' ⟨hx, hi⟩ hg' (hI mm s' hs'))
        refine wp_mono h1 fun e a2 w2 he => ?_
        cases e with
        | normal =>
          unfold semQ at he; unfold semT at he
          obtain ⟨s2, ⟨m2, z2, hlt, hle2, hI2⟩, ρ2, hg2⟩ := he
          have hg3 : Ga c n z2 a2 w2 := hle2 c n ρ2 a2 w2 hg2
          refine ⟨⟨m2, z2, hI2, hg3⟩, ?_⟩
          exact Nat.lt_of_le_of_lt ((least_spec (p := fun m => ∃ s, I m s ∧ Ga c n s a2 w2) ⟨m2, z2, hI2, hg3⟩).2 m2 ⟨z2, hI2, hg3⟩) hlt
        | exit id =>
          have he : semT.semX P c n F id (.stop (fun s'' => ∃ m' z, m' < mm ∧ Le s'' z ∧ I m' z) :: k) a2 w2 := he
          unfold semT.semX at he
          exact he
        | ret => exact he
        | goto l => exact he
        | panic ch => exact he
        | outgrown => exact he
      | rangeFunc f p x y => unfold vc at hv; exact hv.elim
      | scope x =>
        unfold vc at hv
        refine semT_code (wp_scope_straight ?_)
        have h1 := of_semT (ih (.code x :: k) (by simp only [isize, csize] at hk ⊢; omega) s a w ⟨hx, hi⟩ hg hv)
        refine wp_mono h1 fun e a' w' he => ?_
        cases e <;> exact he
      | goto l => unfold vc at hv; exact hv.elim
      | refuse y => unfold vc at hv; exact hv.elim
end
end Go.Proofs.YtamghpnjdohnjaaDoor.Sx
namespace Go.Proofs.YtamghpnjdohnjaaDoor.Sx
open Go Go.RowKit
set_option linter.unusedVariables false
set_option linter.unusedSimpArgs false
def retC (P : Program) (s : St) (T : TypeId) (K : AV → Prop) : AV → Prop
  | .own k off => match lkH s.hp k with
    | some (_, cs) => match loadR P T cs off with
      | .put ob v => obl ob (K v)
      | _ => False
    | none => False
  | _ => False
def ret1 (P : Program) (s : St) (K : AV → Prop) : ResultVar → Prop
  | .tmp t => K (lk s.env t)
  | .cell x T => retC P s T K (lk s.env x)
def retK (P : Program) (s : St) : List ResultVar → (List AV → Prop) → Prop
  | [], K => K []
  | r :: l, K => ret1 P s (fun v => retK P s l fun vs => K (v :: vs)) r
def tupR : List AV → AV
  | [v] => v
  | l => tupA l
def keysH : Hp → List Nat
  | [] => []
  | (k, _) :: r => k :: keysH r
def inB (ks : List Nat) : List Nat → Bool
  | [] => true
  | k :: r => hasK k ks && inB ks r
def closeK (K : AV → Hp → Mem → Prop) (v : AV) (M : Mem) (H' : Hp) : Prop := obl (inB (keysH H') (v.ment ++ mentH H') = true) (K v H' M)
def keepH (s : St) (H : Hp) (v : AV) : Hp := subH s.hp (reachK s.hp (reachK s.hp (v.ment ++ keysH H)))
def outV (s : St) (fx : List Nat) (H : Hp) (K : AV → Hp → Mem → Prop) (v : AV) : Prop := obl (inB s.fx fx = true) (closeK K v s.M (keepH s H v))
def RetV (P : Program) (rs : List ResultVar) (fx : List Nat) (H : Hp) (K : AV → Hp → Mem → Prop) (s : St) : Prop :=
  retK P s rs fun vs => outV s fx H K (normA (tupR vs))
theorem brv_mk {t : Bool} {A B : Prop} (h1 : t = true → A) (h2 : t = false → B) : brv t A B := ⟨h1, h2⟩
theorem retC_congr (P : Program) (s s' : St) (T : TypeId) (K : AV → Prop) (a a' : AV) (hs : hold s = s') (h : hold a = a') : retC P s T K a = retC P s' T K a' := by subst h; subst hs; rfl
theorem ret1_congr (P : Program) (s s' : St) (r : ResultVar) (K : AV → Prop) (hs : hold s = s') : ret1 P s K r = ret1 P s' K r := by subst hs; rfl
theorem retK_congr (P : Program) (s s' : St) (r : List ResultVar) (K : List AV → Prop) (hs : hold s = s') : retK P s r K = retK P s' r K := by subst hs; rfl
theorem outV_congr (s s' : St) (fx : List Nat) (H : Hp) (K : AV → Hp → Mem → Prop) (v v' : AV) (hs : hold s = s') (h : hold v = v') : outV s fx H K v = outV s' fx H K v' := by subst h; subst hs; rfl
theorem closeK_congr (K : AV → Hp → Mem → Prop) (v : AV) (M : Mem) (H H' : Hp) (h : hold H = H') : closeK K v M H = closeK K v M H' := by subst h; rfl
def argEnv : Nat → List AV → Env
  | _, [] => []
  | i, u :: r => (i, u) :: argEnv (i + 1) r
theorem lk_argEnv : ∀ (us : List AV) (i t : Nat), lk (argEnv i us) t = if i ≤ t ∧ t < i + us.length then us.getD (t - i) .unk else .unk
  | [], i, t => by simp only [argEnv, lk, List.length_nil]; rw [if_neg (by omega)]
  | u :: r, i, t => by
    simp only [argEnv, lk, lk_argEnv r (i + 1) t, List.length_cons]
    by_cases h : i = t
    · subst h; simp
    · rw [if_neg h]
      by_cases h2 : i + 1 ≤ t ∧ t < i + 1 + r.length
      · rw [if_pos h2, if_pos (by omega)]
        obtain ⟨j, rfl⟩ : ∃ j, t = i + 1 + j := ⟨t - (i + 1), by omega⟩
        rw [show i + 1 + j - (i + 1) = j by omega, show i + 1 + j - i = j + 1 by omega]
        simp
      · rw [if_neg h2, if_neg (by omega)]
def resF (tmps : Array Value) : ResultVar → Sem Value
  | .tmp t => pure (tmps.getD t undef)
  | .cell x t => do loadVar t (← asAddr (tmps.getD x undef))
theorem results_eq (fn : Func) (tmps : Array Value) : results fn tmps = (do
    let vs ← fn.results.mapM (resF tmps)
    pure (if h : vs.size = 1 then vs[0] else .tuple vs)) := by
  unfold results
  congr 1
theorem keysH_some : ∀ (H : Hp) (k : Nat), k ∈ keysH H ↔ (lkH H k).isSome = true
  | [], k => by simp [keysH, lkH]
  | (j, x) :: r, k => by
    simp only [keysH, List.mem_cons, lkH]
    by_cases e : j = k
    · simp [e]
    · rw [if_neg e, ← keysH_some r k]
      constructor
      · rintro (h | h)
        · exact absurd h.symm e
        · exact h
      · exact .inr
theorem inB_mem {ks : List Nat} : ∀ {l : List Nat}, inB ks l = true → ∀ k ∈ l, k ∈ ks
  | [], _, k, hk => by cases hk
  | j :: r, h, k, hk => by
    simp only [inB, Bool.and_eq_true] at h
    rcases List.mem_cons.1 hk with rfl | hk
    · exact hasK_iff.1 h.1
    · exact inB_mem h.2 k hk
theorem reachK_mem {hp : Hp} {ks : List Nat} {k : Nat} (h : k ∈ ks) : k ∈ reachK hp ks := by
  unfold reachK; exact List.mem_append_right _ h
section
variable {P : Program} {c : Cx} {n : Nat} {s : St} {ρ : Rho} {a : Act} {w : World}
theorem ret1_ok (h : Gam c n s ρ a w) {r : ResultVar} {K : AV → Prop} (hr : ret1 P s K r) :
    ∃ u v, Sem.run P (resF a.tmps r) w = .ok u w ∧ v.is ρ u ∧ K v := by
  cases r with
  | tmp t => exact ⟨_, _, rfl, h.env t, hr⟩
  | cell x T =>
    have hev := h.env x
    simp only [ret1] at hr
    unfold retC at hr
    split at hr
    · rename_i k off hx
      rw [hx] at hev
      obtain ⟨b, hb, e⟩ := hev
      split at hr
      · rename_i T' cs hk
        obtain ⟨⟨arr, h1⟩, _⟩ := h.hp k T' cs b hk hb
        split at hr
        · rename_i ob v hl
          obtain ⟨u, hu, hv⟩ := load_ok (P := P) hl hr.1 h1
          refine ⟨u, v, ?_, hv, hr.2⟩
          simp only [Instr.loadAt, ptr, Instr.sureAddr, Sem.run_bind, Sem.run_pure, Result.andThen_ok] at hu
          simp only [resF, e, ptr, asAddr, Sem.run_bind, Sem.run_pure, Result.andThen_ok, hu]
        · exact hr.elim
      · exact hr.elim
    · exact hr.elim
theorem retK_ok (h : Gam c n s ρ a w) : ∀ {rs : List ResultVar} {K : List AV → Prop}, retK P s rs K →
    ∃ us vs, Sem.run P (List.mapM (resF a.tmps) rs) w = .ok us w ∧ isL ρ vs us ∧ K vs
  | [], K, hr => ⟨[], [], rfl, rfl, hr⟩
  | r :: l, K, hr => by
    obtain ⟨u, v, h1, h2, h3⟩ := ret1_ok h hr
    obtain ⟨us, vs, h4, h5, h6⟩ := retK_ok h h3
    refine ⟨u :: us, v :: vs, ?_, ⟨u, us, rfl, h2, h5⟩, h6⟩
    rw [List.mapM_cons, Sem.run_bind, h1, Result.andThen_ok, Sem.run_bind, h4, Result.andThen_ok, Sem.run_pure]
theorem results_ok (h : Gam c n s ρ a w) {fn : Func} {K : AV → Prop} (hr : retK P s fn.results.toList fun vs => K (normA (tupR vs))) : ∃ u v, (results fn a.tmps).run P w = .ok u w ∧ v.is ρ u ∧ K v := by
  obtain ⟨us, vs, h1, h2, h3⟩ := retK_ok h hr
  have h4 : fn.results = fn.results.toList.toArray := by simp
  have hrun : (results fn a.tmps).run P w = .ok (if h : us.toArray.size = 1 then us.toArray[0] else .tuple us.toArray) w := by
    rw [results_eq, h4, List.mapM_toArray, Sem.run_bind, Sem.run_map, h1]
    simp only [Result.andThen_ok, Sem.run_pure]
  have hl := isL_length h2
  refine ⟨_, _, hrun, norm_is ?_, h3⟩
  match vs, us, h2, hl with
  | [], [], h2, _ => exact tupA_ok h2
  | [v], [u], h2, _ => obtain ⟨u', r, e, h5, _⟩ := h2; cases e; exact h5
  | v :: v2 :: r, u :: u2 :: q, h2, _ => exact tupA_ok h2
end
theorem callS_ok {P : Program} {f : FuncId} {fn : Func} {code : Code} (hmx : P.follows .mixedOrders = true) (hf : P.funcs[f]? = some fn) (hb : fn.body = some code) (hok : codeOK fn.ntmps code = true)
    (kb : Nat) {args : List AV} {H : Hp} {M : Mem} {K : AV → Hp → Mem → Prop} (mv fx cs : List Nat) (hl' : Nat.ble args.length fn.ntmps = true) (hfx : ∀ k ∈ keysH H, k ∈ mv ∨ k ∈ fx) (hkl : ∀ k ∈ keysH H, k < kb)
    (h : vc P (RetV P fn.results.toList fx H K) [.code code, .marks cs] { env := argEnv 0 args, hp := H, M := M, kb := kb, fx := fx }) : CallS P f args H M mv K := by
  intro ρ w us hh he
  have hl : args.length ≤ fn.ntmps := Nat.le_of_ble_eq_true hl'
  have hlen := isL_length he
  refine calls_of_wp hf hb ?_
  let c : Cx := { w0 := w, M0 := M, X := (keysH H).filterMap fun k => (ρ k).map (·.b), ρ0 := ρ, ks := fun k => (lkH H k).isSome }
  have hX : ∀ k b, (lkH H k).isSome = true → ρ k = some b → b.b ∈ c.X := fun k b hk hb => List.mem_filterMap.2 ⟨k, (keysH_some H k).2 hk, by simp [hb]⟩
  have hX2 : ∀ x, x ∈ c.X → ∃ k b, (lkH H k).isSome = true ∧ ρ k = some b ∧ b.b = x := fun x hx => by
    obtain ⟨k, hk, hx⟩ := List.mem_filterMap.1 hx
    simp only [Option.map_eq_some_iff] at hx
    obtain ⟨b, hb, rfl⟩ := hx
    exact ⟨k, b, (keysH_some H k).1 hk, hb, rfl⟩
  have hg : Gam c fn.ntmps { env := argEnv 0 args, hp := H, M := M, kb := kb, fx := fx } ρ { tmps := us.toArray ++ Array.replicate (fn.ntmps - us.toArray.size) undef, defers := [] } w := by
    refine { df := rfl, sz := by simp; omega, env := fun t => ?_, hp := fun k T cs b hk hb => ?_, no := hh.no, inj := hh.inj, os := rfl, tape := rfl, output := rfl, size := Nat.le_refl _, block := fun _ _ _ => rfl, sub := hh.sub, le := Mem.le.refl _, mf := fun b hb => .inl hb, fix := fun k hk => hk, fx := fun k hk => rfl, kl := fun k hk => hkl k ((keysH_some H k).2 hk), fr := fun b hb => (List.not_mem_nil hb).elim }
    · simp only [lk_argEnv]
      split
      · rename_i ht
        have ht2 : t < args.length := by omega
        have h2 : t < us.length := by omega
        have h4 : (us.toArray ++ Array.replicate (fn.ntmps - us.toArray.size) undef).getD t undef = us.getD t undef := by
          simp [Array.getD, Array.getElem?_append, h2]
          intro h3; omega
        rw [h4]
        refine isL_get he t _ ?_
        simp [ht2]
      · trivial
    · obtain ⟨h1, h2⟩ := hh.hp k T cs b hk hb
      exact ⟨h1, .inr (hX k b (by rw [hk]; rfl) hb), h2⟩
  have h1 := vc_ok (P := P) (c := c) (n := fn.ntmps) hmx (F := bodyPost P fn (fun e w' => ∃ u v H' M' ρ', e = .returned u ∧ K v H' M' ∧ Left mv H M ρ ρ' w u v H' M' w') .ret) (fun s a w' hr hg => by
    obtain ⟨ρ1, g⟩ := hg
    obtain ⟨u, v, h2, h3, hsfx, hcl, h4⟩ := results_ok g hr
    have hsub : ∀ k x, lkH (keepH s H v) k = some x → lkH s.hp k = some x := fun k x hk => by
      unfold keepH at hk
      rw [lkH_sub] at hk
      split at hk
      · exact hk
      · cases hk
    have hin := inB_mem hcl
    have hkeep : ∀ k, (lkH H k).isSome = true → (lkH (keepH s H v) k).isSome = true := fun k hk => by
      unfold keepH
      rw [lkH_sub, if_pos (reachK_mem (reachK_mem (List.mem_append_right _ ((keysH_some H k).2 hk))))]
      exact g.fix k hk
    let ρ' : Rho := fun k => if (lkH (keepH s H v) k).isSome = true then ρ1 k else ρ k
    have hρ' : ∀ k, (lkH (keepH s H v) k).isSome = true → ρ' k = ρ1 k := fun k hk => by simp only [ρ', hk, if_true]
    have hag : ∀ k, k ∈ keysH (keepH s H v) → ρ1 k = ρ' k := fun k hk => (hρ' k ((keysH_some _ k).1 hk)).symm
    refine ⟨g.df, u, h2, u, v, keepH s H v, s.M, ρ', rfl, h4, ?_⟩
    refine { is := is_agree (fun k hk => hag k (hin k (List.mem_append_left _ hk))) h3, heap := ⟨fun k T cs b hk hb => ?_, fun k T cs hk hb => ?_, fun k k' b b' hk hk' hb hb' => ?_, g.sub⟩, keep := hkeep, same := fun k hk hm => ?_, ment := fun k hk => ⟨fun hm => ?_, fun j T cs hj hm => ?_⟩, fresh := fun k b hk hb => ?_, os := g.os, tape := g.tape, output := g.output, size := g.size, block := fun b hb hn => ?_, le := g.le, mem := g.mf }
    · rw [hρ' k (by rw [hk]; rfl)] at hb
      obtain ⟨⟨arr, f1⟩, _, f3⟩ := g.hp k T cs b (hsub k _ hk) hb
      exact ⟨⟨arr, f1.there, f1.size, f1.le, fun i v hv => is_agree (fun j hj => hag j (hin j (List.mem_append_right _ (mentH_lk hk (.inr (mentL_get hv hj)))))) (f1.is i v hv)⟩, f3⟩
    · rw [hρ' k (by rw [hk]; rfl)] at hb
      exact g.no k T cs (hsub k _ hk) hb
    · obtain ⟨x, hx⟩ := Option.isSome_iff_exists.1 hk
      obtain ⟨x', hx'⟩ := Option.isSome_iff_exists.1 hk'
      rw [hρ' k hk] at hb
      rw [hρ' k' hk'] at hb'
      exact g.inj k k' b b' (by rw [hsub k x hx]; rfl) (by rw [hsub k' x' hx']; rfl) hb hb'
    · by_cases hs : (lkH (keepH s H v) k).isSome = true
      · rw [hρ' k hs]
        rcases hk with hk | hk
        · rcases hfx k ((keysH_some H k).2 hk) with h5 | h5
          · exact absurd h5 hm
          · exact g.fx k (inB_mem hsfx k h5)
        · rw [hk] at hs; cases hs
      · simp only [ρ', hs]; rfl
    · have := (keysH_some _ k).1 (hin k (List.mem_append_left _ hm))
      rw [hk] at this; cases this
    · have := (keysH_some _ k).1 (hin k (List.mem_append_right _ (mentH_lk hj (.inr hm))))
      rw [hk] at this; cases this
    · rw [hρ' k hk] at hb
      obtain ⟨x, hx⟩ := Option.isSome_iff_exists.1 hk
      rcases (g.hp k x.1 x.2 b (hsub k x hx) hb).2.1 with h5 | h5
      · exact .inl h5
      · obtain ⟨j, y, h6, h7, h8⟩ := hX2 _ h5
        exact .inr ⟨j, y, h6, h7, h8⟩
    · refine g.block b hb fun hm => ?_
      obtain ⟨k, y, h7, h8, h9⟩ := hX2 _ hm
      exact hn k y h7 h8 h9)
    _ [.code code, .marks cs] (Nat.le_refl _) _ _ w ⟨hok, trivial⟩ ⟨_, hg⟩ h
  refine wp_mono (of_semT h1) fun e a' w' he => ?_
  cases e with
  | normal => unfold semQ at he; unfold semT at he; unfold semT at he; exact he
  | exit id => have he : semT.semX P c fn.ntmps (bodyPost P fn (fun e w' => ∃ u v H' M' ρ', e = .returned u ∧ K v H' M' ∧ Left mv H M ρ ρ' w u v H' M' w') .ret) id [.marks cs] a' w' := he; unfold semT.semX at he; unfold semT.semX at he; exact he.elim
  | ret => exact he
  | goto l => exact he.elim
  | panic ch => exact he.elim
  | outgrown => exact he.elim
theorem CallS.mono {P : Program} {f : FuncId} {args : List AV} {H : Hp} {M : Mem} {mv : List Nat} {K K' : AV → Hp → Mem → Prop} (h : CallS P f args H M mv K) (hk : ∀ v H' M', K v H' M' → K' v H' M') : CallS P f args H M mv K' :=
  fun ρ w us hh he => (h ρ w us hh he).mono fun e w' ⟨u, v, H', M', ρ', e1, h1, h2⟩ => ⟨u, v, H', M', ρ', e1, hk _ _ _ h1, h2⟩
theorem callK {P : Program} {f : FuncId} {args : List AV} {s : St} {d : Option Nat} {K : St → Prop} {H : Hp} (hH : subH s.hp (reachK s.hp (mentL args)) = H)
    (h : CallS P f args H s.M [] fun v H' M' => obl (newKeys s H H') (K ({ env := s.env, hp := joinH s.hp H', M := M', kb := s.kb, fx := s.fx, fr := s.fr : St }.put d v))) : CallK P f args s d K := by
  subst hH
  exact ⟨[], fun k hk => (by cases hk), h⟩
theorem callK0 {P : Program} {f : FuncId} {args : List AV} {s : St} {d : Option Nat} {K : St → Prop} {H : Hp} (hH : subH s.hp (reachK s.hp (mentL args)) = H)
    (h : CallS P f args H s.M [] fun v H' M' => obl (newKeys s H H') (K ({ env := s.env, hp := joinH s.hp H', M := M', kb := s.kb, fx := s.fx, fr := s.fr : St }.put d v))) : CallK0 P f args s d K := by
  subst hH; exact h
theorem callKm {P : Program} {f : FuncId} {args : List AV} {s : St} {d : Option Nat} {K : St → Prop} {H : Hp} (mv : List Nat) (hH : subH s.hp (reachK s.hp (mentL args)) = H) (hmv : inB (keysH H) mv = true) (hfx : ∀ k ∈ mv, hasK k s.fx = false)
    (h : CallS P f args H s.M mv fun v H' M' => obl (newKeys s H H') (K ({ env := killEs mv s.env, hp := joinH (killHs mv s.hp) H', M := M', kb := s.kb, fx := s.fx, fr := s.fr : St }.put d v))) : CallK P f args s d K := by
  subst hH
  exact ⟨mv, fun k hk => ⟨(keysH_some _ k).1 (inB_mem hmv k hk), hasK_no.1 (hfx k hk)⟩, h⟩
end Go.Proofs.YtamghpnjdohnjaaDoor.Sx
