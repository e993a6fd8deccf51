/- A plain machine for the program's code: numbers, lists and a heap of lists; no order is drawn, no room is asked. No conditions. -/
import Derived.Orders
import Derived.Deep.AppendSrc
import Derived.Deep.Upon
import Derived.KernelRfl
set_option linter.unusedVariables false
set_option linter.unusedSimpArgs false
namespace Go.Proofs.Ytoalafkpkllebaa.Ab
open Go

/-- A slice: its block, its first cell there, its length. -/
structure Sl where
  nil : Bool
  blk : Nat
  off : Nat
  len : Nat
deriving DecidableEq

/-- Values. 'lp', 'ls': a pointer, a slice into a variable of the running call alone. -/
inductive AV where
  | undef
  | nl
  | nilp
  | nilf
  | bool (b : Bool)
  | int (k : IntKind) (n : Int)
  | sl (sz : Nat) (s : Sl)
  | ptr (b o : Nat)
  | lp (t o : Nat)
  | ls (sz t n : Nat)
  | fn (f : FuncId) (cs : List AV)
  | agg (l : List AV)
  | tup (l : List AV)

structure Blk where
  ro : Bool
  cells : List AV
abbrev Hp := List (Option Blk)
structure St where
  tm : List AV
  lo : List (Option (List AV))
abbrev An := Option (AV × Hp)

/-- The kind of a cell. -/
inductive CK where
  | int (k : IntKind)
  | bool
  | sl (sz : Nat)
  | ptr
  | fn

def szOf (P : Program) (t : TypeId) : Nat := ((P.info? t).map (·.size)).getD 0
def byOf (P : Program) (t : TypeId) : Nat := ((P.info? t).map (·.bytes)).getD 0
def kinds (P : Program) : Nat → TypeId → Option (List CK)
  | 0, _ => none
  | d + 1, t =>
    match P.underlying t with
    | some .bool => some [.bool]
    | some (.int k) => some [.int k]
    | some (.slice e) => some [.sl (szOf P e)]
    | some (.pointer _) => some [.ptr]
    | some (.func _ _ _) => some [.fn]
    | some (.struct fs) => fs.toList.foldr (fun f acc => (kinds P d f.type).bind fun a => acc.map fun b => a ++ b) (some [])
    | some (.array n e) => (kinds P d e).map fun l => (List.replicate n l).flatten
    | _ => none
def isAggT (P : Program) (t : TypeId) : Bool :=
  match P.underlying t with
  | some (.struct _) => true
  | some (.array _ _) => true
  | _ => false

namespace AV
def toI (k : IntKind) : AV → Option Int
  | .int k' n => if k' = k then some n else none
  | _ => none
def toB : AV → Option Bool
  | .bool b => some b
  | _ => none
def toS (sz : Nat) : AV → Option Sl
  | .sl sz' s => if sz' = sz then some s else none
  | _ => none
def toP : AV → Option (Nat × Nat)
  | .ptr b o => some (b, o)
  | _ => none
def toF : AV → Option (FuncId × List AV)
  | .fn f cs => some (f, cs)
  | _ => none
def nth (v : AV) (i : Nat) : AV :=
  match v with
  | .tup l => l.getD i .undef
  | _ => .undef
def cel (v : AV) (i : Nat) : AV :=
  match v with
  | .agg l => l.getD i .undef
  | _ => .undef
def isTup (n : Nat) : AV → Bool
  | .tup l => l.length == n
  | _ => false
def isAgg (n : Nat) : AV → Bool
  | .agg l => l.length == n
  | _ => false
/-- A value of one cell that may lie in the heap. -/
def cell : AV → Bool
  | .bool _ => true
  | .int _ _ => true
  | .sl _ _ => true
  | .ptr _ _ => true
  | .nilp => true
  | .nilf => true
  | .fn _ _ => true
  | _ => false
def cells : AV → List AV
  | .agg l => l
  | v => [v]
/-- What may be handed to another call. -/
def glob : AV → Bool
  | .agg l => l.all cell
  | v => v.cell
def same : AV → AV → Bool
  | .bool a, .bool b => a == b
  | .int j a, .int k b => decide (j = k) && a == b
  | .sl j a, .sl k b => j == k && decide (a = b)
  | .ptr a b, .ptr c d => a == c && b == d
  | _, _ => false
end AV

def Sl.none : Sl := ⟨true, 0, 0, 0⟩
def ofC : Value → AV
  | .bool b => .bool b
  | .int k n => .int k n
  | .slice Option.none 0 0 => .nl
  | .pointer Option.none => .nilp
  | .nilFunc => .nilf
  | _ => .undef
/-- The untyped nil slice becomes one of its type. -/
def fixN (P : Program) (t : TypeId) : AV → AV
  | .nl => match P.underlying t with
    | some (.slice e) => .sl (szOf P e) Sl.none
    | _ => .undef
  | v => v
def ofK : CK → Value → Option AV
  | .int k, .int k' n => if k' = k then some (.int k n) else none
  | .bool, .bool b => some (.bool b)
  | .sl sz, .slice Option.none 0 0 => some (.sl sz Sl.none)
  | .ptr, .pointer Option.none => some .nilp
  | .fn, .nilFunc => some .nilf
  | _, _ => none
def ofKs : List CK → List Value → Option (List AV)
  | [], [] => some []
  | c :: cs, v :: vs => (ofK c v).bind fun a => (ofKs cs vs).map fun l => a :: l
  | _, _ => none
/-- The cells of a type's zero value. -/
def zc (P : Program) (t : TypeId) : Option (List AV) :=
  (P.info? t).bind fun i => i.zero.bind fun z => (kinds P 8 t).bind fun cs => if z.cells.size = i.size then ofKs cs z.cells.toList else none

def Hp.cell (H : Hp) (b o : Nat) : Option AV :=
  match H[b]? with
  | some (some x) => x.cells[o]?
  | _ => none
def ldI (k : IntKind) (H : Hp) (b o : Nat) : Option Int := (H.cell b o).bind (AV.toI k)
def ldB (H : Hp) (b o : Nat) : Option Bool := (H.cell b o).bind AV.toB
def ldS (sz : Nat) (H : Hp) (b o : Nat) : Option Sl := (H.cell b o).bind (AV.toS sz)
def ldP (H : Hp) (b o : Nat) : Option (Nat × Nat) := (H.cell b o).bind AV.toP
def ldF (H : Hp) (b o : Nat) : Option (FuncId × List AV) := (H.cell b o).bind AV.toF
def ldK : CK → Hp → Nat → Nat → (AV → An) → An
  | .int k, H, b, o, K => (ldI k H b o).bind fun n => K (.int k n)
  | .bool, H, b, o, K => (ldB H b o).bind fun x => K (.bool x)
  | .sl sz, H, b, o, K => (ldS sz H b o).bind fun s => K (.sl sz s)
  | .ptr, H, b, o, K => (ldP H b o).bind fun p => K (.ptr p.1 p.2)
  | .fn, H, b, o, K => (ldF H b o).bind fun p => K (.fn p.1 p.2)
def ldKs : List CK → Hp → Nat → Nat → (List AV → An) → An
  | [], _, _, _, K => K []
  | c :: cs, H, b, o, K => ldK c H b o fun v => ldKs cs H b (o + 1) fun l => K (v :: l)
def nK : CK → AV → (AV → An) → An
  | .int k, v, K => (v.toI k).bind fun n => K (.int k n)
  | .bool, v, K => v.toB.bind fun x => K (.bool x)
  | .sl sz, v, K => (v.toS sz).bind fun s => K (.sl sz s)
  | .ptr, v, K => v.toP.bind fun p => K (.ptr p.1 p.2)
  | .fn, v, K => v.toF.bind fun p => K (.fn p.1 p.2)
def nKs : List CK → AV → Nat → (List AV → An) → An
  | [], _, _, K => K []
  | c :: cs, v, i, K => nK c (v.cel i) fun a => nKs cs v (i + 1) fun l => K (a :: l)
/-- A value of a type, told by its parts. -/
def nT (P : Program) (t : TypeId) (v : AV) (K : AV → An) : An :=
  match kinds P 8 t with
  | some cs => bif isAggT P t then (bif v.isAgg cs.length then nKs cs v 0 fun l => K (.agg l) else none) else
    match cs with
    | [c] => nK c v K
    | _ => none
  | none => none
def nTs (P : Program) : List TypeId → AV → Nat → (List AV → An) → An
  | [], _, _, K => K []
  | t :: ts, v, i, K => nT P t (v.nth i) fun a => nTs P ts v (i + 1) fun l => K (a :: l)
def nR (P : Program) (t : TypeId) (v : AV) (K : AV → An) : An :=
  match P.underlying t with
  | some (.tuple ts) => match ts.toList with
    | [] => K .undef
    | ts => bif v.isTup ts.length then nTs P ts v 0 fun l => K (.tup l) else none
  | _ => nT P t v K

/-- The cells b[o ..] become vs. -/
def Hp.sto (H : Hp) (b o : Nat) (vs : List AV) : Option Hp :=
  match H[b]? with
  | some (some x) => if x.ro = false ∧ o + vs.length ≤ x.cells.length then some (H.set b (some ⟨false, x.cells.take o ++ vs ++ x.cells.drop (o + vs.length)⟩)) else none
  | _ => none
/-- The cells of a slice. -/
def Hp.read (H : Hp) (sz : Nat) (s : Sl) : Option (List AV) :=
  if s.len = 0 then some [] else
  match H[s.blk]? with
  | some (some x) => if s.off + s.len * sz ≤ x.cells.length then some ((x.cells.drop s.off).take (s.len * sz)) else none
  | _ => none
/-- append: the elder block is given up. -/
def Hp.app (H : Hp) (sz : Nat) (s : Sl) (n : Nat) (vs : List AV) : Option (Sl × Hp) :=
  if s.len + n ≤ 1073741824 ∧ sz ≤ 1024 ∧ 0 < sz ∧ vs.length = n * sz then
    if n = 0 then some (s, H)
    else if s.nil = true then some (⟨false, H.length, 0, n⟩, H ++ [some ⟨false, vs⟩])
    else match H[s.blk]? with
      | some (some x) => if x.ro = false ∧ s.off = 0 ∧ s.len * sz = x.cells.length then some (⟨false, H.length, 0, s.len + n⟩, H.set s.blk none ++ [some ⟨false, x.cells ++ vs⟩]) else none
      | _ => none
  else none
/-- append to a slice literal of the call's own. -/
def Hp.appl (H : Hp) (sz : Nat) (l : List AV) (n m : Nat) (vs : List AV) : Option (Sl × Hp) :=
  if n + m ≤ 1073741824 ∧ sz ≤ 1024 ∧ 0 < sz ∧ vs.length = m * sz ∧ l.length = n * sz then some (⟨false, H.length, 0, n + m⟩, H ++ [some ⟨false, l ++ vs⟩]) else none

def fields (P : Program) (t : TypeId) : Option (Array Field) :=
  match P.underlying t with
  | some (.struct fs) => some fs
  | _ => none
def put (l : List AV) (o : Nat) (vs : List AV) : Option (List AV) :=
  if o + vs.length ≤ l.length then some (l.take o ++ vs ++ l.drop (o + vs.length)) else none
/-- A struct or slice literal: the parts laid into the cells. -/
def lay (place : Nat → Option (Nat × Nat)) (l : List AV) : List (Nat × AV) → Option (List AV)
  | [] => some l
  | (i, v) :: rest => (place i).bind fun p => if v.cells.length = p.2 ∧ v.cells.all AV.cell = true then (put l p.1 v.cells).bind fun l => lay place l rest else none

/-- A struct or array literal; the parts are given once their types are. -/
def builtV (P : Program) (t : TypeId) (parts : (Nat → TypeId) → List (Nat × AV)) : Option (List AV) :=
  (zc P t).bind fun l => match P.underlying t with
  | some (.array _ e) => if (P.info? e).isSome = true then lay (fun i => some (i * szOf P e, szOf P e)) l (parts fun _ => e) else none
  | _ => (fields P t).bind fun fs => if fs.toList.all (fun f => (P.info? f.type).isSome) = true then
      lay (fun i => (fs[i]?).map fun f => (f.offset, szOf P f.type)) l (parts fun i => (fs[i]?).elim 0 (·.type)) else none

/-- What the machine is told of a function: which cells of memory are its own, and what is alive where a region begins. -/
structure Orc where
  live : Nat → Option (Nat × Nat)
  glob : Nat

namespace St
def ev (s : St) : Operand → AV
  | .tmp t => s.tm.getD t .undef
  | .const v => ofC v
  | .func f => .fn f []
  | .global _ => .undef
def put (s : St) (d : Option Tmp) (v : AV) : St :=
  match d with
  | some d => ⟨s.tm.set d v, s.lo⟩
  | none => s
def setLo (s : St) (t : Nat) (c : Option (List AV)) : St := ⟨s.tm, s.lo.set t c⟩
def getLo (s : St) (t : Nat) : Option (List AV) := (s.lo.getD t none)
def scrV (m : Nat) : Nat → List AV → List AV
  | _, [] => []
  | i, v :: l => (bif m.testBit i then v else .undef) :: scrV m (i + 1) l
def scrL (m : Nat) : Nat → List (Option (List AV)) → List (Option (List AV))
  | _, [] => []
  | i, v :: l => (bif m.testBit i then v else none) :: scrL m (i + 1) l
def scr (m : Option (Nat × Nat)) (s : St) : St :=
  match m with
  | some (a, b) => ⟨scrV a 0 s.tm, scrL b 0 s.lo⟩
  | none => s
end St
/-- Does a value speak of the variable t of the call? -/
def AV.onT (t : Nat) : AV → Bool
  | .lp t' _ => t' == t
  | .ls _ t' _ => t' == t
  | _ => false
/-- The variable t is made anew: what speaks of its elder self is forgotten. -/
def St.fresh (s : St) (t : Nat) : Bool := s.tm.all fun v => !v.onT t
def St.forget (s : St) (t : Nat) : St := ⟨s.tm.map fun v => bif v.onT t then .undef else v, s.lo.set t none⟩

def binI (op : BinOp) (k : IntKind) (x y : Int) (K : AV → An) : An :=
  match op with
  | .add => K (.int k (k.wrap (x + y)))
  | .sub => K (.int k (k.wrap (x - y)))
  | .mul => K (.int k (k.wrap (x * y)))
  | .quo => if y = 0 then none else K (.int k (k.wrap (x.tdiv y)))
  | .rem => if y = 0 then none else K (.int k (x.tmod y))
  | .and => K (.int k (k.wrap ((BitVec.ofInt k.bits x &&& BitVec.ofInt k.bits y).toNat : Int)))
  | .or => K (.int k (k.wrap ((BitVec.ofInt k.bits x ||| BitVec.ofInt k.bits y).toNat : Int)))
  | .xor => K (.int k (k.wrap ((BitVec.ofInt k.bits x ^^^ BitVec.ofInt k.bits y).toNat : Int)))
  | .andNot => K (.int k (k.wrap ((BitVec.ofInt k.bits x &&& ~~~(BitVec.ofInt k.bits y)).toNat : Int)))
  | .eql => K (.bool (x == y))
  | .neq => K (.bool (x != y))
  | .lss => K (.bool (decide (x < y)))
  | .leq => K (.bool (decide (x ≤ y)))
  | .gtr => K (.bool (decide (x > y)))
  | .geq => K (.bool (decide (x ≥ y)))
  | _ => none
def shI (op : BinOp) (k : IntKind) (x y : Int) (K : AV → An) : An :=
  if y < 0 then none else
  match op with
  | .shl => K (.int k (k.wrap (x * 2 ^ (min y.toNat k.bits))))
  | .shr => K (.int k (x.fdiv (2 ^ (min y.toNat k.bits))))
  | _ => none
/-- A thing that is asked once. Not `cond`: the kernel is not to set it against one. -/
def chk (b : Bool) (x : An) : An := match b with
  | true => x
  | false => none
theorem chk_eq (b : Bool) (x : An) : chk b x = bif b then x else none := by cases b <;> rfl
def isIT (P : Program) (t : TypeId) : Bool :=
  match P.underlying t with
  | some (.int _) => true
  | _ => false
/-- A struct of two numbers, side by side, that may be compared. -/
def eqT (P : Program) (t : TypeId) : Bool :=
  (match P.underlying t with
  | some (.struct fs) => match fs.toList with
    | [f, g] => f.name != "_" && g.name != "_" && f.offset == 0 && g.offset == 1 && isIT P f.type && isIT P g.type
    | _ => false
  | _ => false) && !P.stoodInHeld t && !P.eqGuardType P.depth t
def twoI : List AV → Option (Int × Int)
  | [.int .i64 a, .int .i64 b] => some (a, b)
  | _ => none
def aggV (P : Program) (op : BinOp) (t : TypeId) (l m : List AV) (K : AV → An) : An :=
  (twoI l).bind fun p => (twoI m).bind fun q => chk (eqT P t) (match op with
    | .eql => K (.bool (p.1 == q.1 && p.2 == q.2))
    | .neq => K (.bool (!(p.1 == q.1 && p.2 == q.2)))
    | _ => none)
def binV (P : Program) (op : BinOp) (t : TypeId) (x y : AV) (K : AV → An) : An :=
  match x, y with
  | .int k a, .int k' b =>
    match op with
    | .shl => shI .shl k a b K
    | .shr => shI .shr k a b K
    | _ => if k = k' then binI op k a b K else none
  | .bool a, .bool b =>
    match P.underlying t with
    | some .bool =>
      match op with
      | .eql => K (.bool (a == b))
      | .neq => K (.bool (!(a == b)))
      | _ => none
    | _ => none
  | .sl _ s, .nl =>
    match P.underlying t with
    | some (.slice _) =>
      match op with
      | .eql => K (.bool s.nil)
      | .neq => K (.bool (!s.nil))
      | _ => none
    | _ => none
  | .agg l, .agg m => aggV P op t l m K
  | _, _ => none
def mx (x y : Int) : Int := if y > x then y else x
def mn (x y : Int) : Int := if y < x then y else x
def foldI (f : Int → Int → Int) : AV → List AV → Option AV
  | v, [] => some v
  | .int k x, .int _ y :: l => foldI f (.int k (f x y)) l
  | _, _ => none

/-- May this operation's result lie in the heap? -/
def inHeap (O : Orc) (d : Option Tmp) : Bool :=
  match d with
  | some d => O.glob.testBit d
  | none => false

/-- New memory of a variable: in the heap or the call's own. -/
def newMem (O : Orc) (o : Oper) (s : St) (H : Hp) (cells : List AV) (g : Nat → AV) (l : Nat → AV) (K : AV → St → Hp → An) : An :=
  bif cells.all AV.cell then
    match o.dst with
    | some d => bif O.glob.testBit d then K (g H.length) s (H ++ [some ⟨false, cells⟩]) else (bif s.fresh d && decide (d < s.lo.length) then K (l d) (s.setLo d (some cells)) H else none)
    | none => none
  else none

abbrev Rec := FuncId → List AV → Hp → An

def okF (P : Program) (f : FuncId) : Bool :=
  match P.funcs[f]? with
  | some fn => fn.body.isSome
  | none => false
def callV (P : Program) (rec : Rec) (ty : TypeId) (f : FuncId) (args : List AV) (s : St) (H : Hp) (K : AV → St → Hp → An) : An :=
  bif okF P f && args.all AV.glob then (rec f args H).bind fun r => nR P ty r.1 fun v => K v s r.2 else none

def srcCells (s : St) (H : Hp) (sz : Nat) (x : AV) (K : Nat → List AV → An) : An :=
  match x with
  | .nl => K 0 []
  | .sl sz' y => if sz' = sz then (H.read sz y).bind fun vs => K y.len vs else none
  | .ls sz' t n => if sz' = sz then (s.getLo t).bind fun vs => if vs.length = n * sz then K n vs else none else none
  | _ => none

/-- A number is told by its parts. -/
def asInt (cs : List CK) (v : AV) (K : AV → An) : An :=
  match cs with
  | [.int k] => (v.toI k).bind fun n => K (.int k n)
  | _ => K v
theorem asInt_ok {cs : List CK} {v : AV} {K : AV → An} {r : AV × Hp} (h : asInt cs v K = some r) : K v = some r ∧ ∀ K', asInt cs v K' = K' v := by
  unfold asInt at h ⊢
  split at h
  · rename_i k
    obtain ⟨n, h1, h2⟩ := Option.bind_eq_some_iff.1 h
    have e : v = .int k n := by
      unfold AV.toI at h1
      split at h1
      · split at h1
        · rename_i hk
          simp only [Option.some.injEq] at h1
          subst h1; subst hk; rfl
        · simp at h1
      · simp at h1
    subst e
    exact ⟨h2, fun K' => by simp [AV.toI]⟩
  · exact ⟨h, fun K' => rfl⟩
def exLoad (P : Program) (t : TypeId) (x : AV) (s : St) (H : Hp) (K : AV → An) : An :=
  match x with
  | .ptr b p =>
    match kinds P 8 t with
    | some cs => if cs.length = szOf P t then bif isAggT P t then ldKs cs H b p fun l => K (.agg l) else
      match cs with
      | [c] => ldK c H b p fun v => K v
      | _ => none
      else none
    | none => none
  | .lp x p => (s.getLo x).bind fun l =>
      match kinds P 8 t with
      | some cs => bif isAggT P t then (if p + szOf P t ≤ l.length then K (.agg ((l.drop p).take (szOf P t))) else none) else (l[p]?).bind fun v => bif v.cell then asInt cs v K else none
      | none => none
  | _ => none
def exStore (P : Program) (t : TypeId) (x v : AV) (s : St) (H : Hp) (K : St → Hp → An) : An :=
  if v.cells.length = szOf P t ∧ (P.info? t).isSome = true then
    match x with
    | .ptr b p => bif v.cells.all AV.cell then (H.sto b p v.cells).bind fun H => K s H else none
    | .lp y p => bif v.cells.all AV.cell then (s.getLo y).bind fun l => (put l p v.cells).bind fun l => K (s.setLo y (some l)) H else none
    | _ => none
  else none

/-- A bound of a slice expression. -/
def sliK (s : St) (a : Option Operand) (d : Int) (K : Int → An) : An :=
  match a with
  | none => K d
  | some a => match s.ev a with
    | .int .i64 n => K n
    | _ => none
def exOp (P : Program) (O : Orc) (rec : Rec) (o : Oper) (s : St) (H : Hp) (K : AV → St → Hp → An) : An :=
  match o.op with
  | .move x => K (fixN P o.type (s.ev x)) s H
  | .assign x => K (fixN P o.type (s.ev x)) s H
  | .pick c a b =>
    match s.ev c with
    | .bool t =>
      match s.ev a, s.ev b with
      | .bool x, .bool y => K (.bool (bif t then x else y)) s H
      | x, y => bif t then K x s H else K y s H
    | _ => none
  | .alloc t => (zc P t).bind fun l => newMem O o s H l (fun b => .ptr b 0) (fun t => .lp t 0) K
  | .box t x => newMem O o s H (fixN P t (s.ev x)).cells (fun b => .ptr b 0) (fun t => .lp t 0) K
  | .build t parts => (builtV P t (fun ty => parts.toList.map fun p => (p.1, fixN P (ty p.1) (s.ev p.2)))).bind fun l => K (.agg l) s H
  | .buildSlice t n parts =>
    match P.underlying t with
    | some (.slice e) =>
      let sz := szOf P e
      if n * sz ≤ 65536 ∧ 0 < sz then
      (zc P e).bind fun z => if z.length = sz then
      (lay (fun i => some (i * sz, sz)) (List.replicate n z).flatten (parts.toList.map fun p => (p.1, fixN P e (s.ev p.2)))).bind fun l =>
        newMem O o s H l (fun b => .sl sz ⟨false, b, 0, n⟩) (fun t => .ls sz t n) K
      else none else none
    | _ => none
  | .load t a => exLoad P t (s.ev a) s H fun v => K v s H
  | .store t a x => exStore P t (s.ev a) (fixN P t (s.ev x)) s H fun s H => K .undef s H
  | .nilCheck x =>
    match s.ev x with
    | .ptr b p => K (.ptr b p) s H
    | .lp y p => K (.lp y p) s H
    | _ => none
  | .binOp op t x y _ => binV P op t (s.ev x) (s.ev y) fun v => K v s H
  | .unOp op _ x =>
    match op, s.ev x with
    | .not, .bool b => K (.bool (!b)) s H
    | .neg, .int k n => K (.int k (k.wrap (0 - n))) s H
    | _, _ => none
  | .convert a b x =>
    match P.underlying a, P.underlying b, s.ev x with
    | some _, some (.int k), .int _ n => K (.int k (k.wrap n)) s H
    | _, _, _ => none
  | .makeFunc (.func f) first captured =>
    if first = #[] then bif (captured.toList.map s.ev).all AV.cell then K (.fn f (captured.toList.map s.ev)) s H else none else none
  | .makeSlice t l c =>
    match P.underlying t, s.ev l, s.ev c with
    | some (.slice e), .int .i64 n, .int .i64 m =>
      if 0 ≤ n ∧ n ≤ m ∧ m ≤ 1073741824 ∧ byOf P e ≤ 8192 ∧ 0 < szOf P e then
        (zc P e).bind fun z => if z.length = szOf P e then K (.sl (szOf P e) ⟨false, H.length, 0, n.toNat⟩) s (H ++ [some ⟨false, (List.replicate n.toNat z).flatten⟩]) else none
      else none
    | _, _, _ => none
  | .slice t x lo hi mx =>
    match P.underlying t, s.ev x with
    | some (.slice e), .sl sz y =>
      if sz = szOf P e then
        sliK s lo 0 fun a => sliK s hi y.len fun b => sliK s mx b fun c =>
          if (0 ≤ a ∧ a ≤ b ∧ b ≤ y.len ∧ c = b) ∧ 0 < szOf P e ∧ (mx.isNone || hi.isSome) = true then K (.sl sz ⟨y.nil, y.blk, y.off + a.toNat * sz, (b - a).toNat⟩) s H else none
      else none
    | _, _ => none
  | .fieldAddr t x i => (fields P t).bind fun fs => (fs[i]?).bind fun f => if szOf P f.type = 0 then none else
      match s.ev x with
      | .ptr b p => K (.ptr b (p + f.offset)) s H
      | .lp y p => K (.lp y (p + f.offset)) s H
      | _ => none
  | .field t x i => (fields P t).bind fun fs => (fs[i]?).bind fun f =>
      match s.ev x with
      | .agg l => match P.underlying f.type with
        | some _ => bif isAggT P f.type then K (.agg ((l.drop f.offset).take (szOf P f.type))) s H else (l[f.offset]?).bind fun v => bif v.cell then K v s H else none
        | none => none
      | _ => none
  | .indexAddr t x i =>
    match P.underlying t, s.ev x, s.ev i with
    | some (.slice e), .sl sz y, .int _ n => if sz = szOf P e ∧ 0 < szOf P e then (bif decide (0 ≤ n) && decide (n < y.len) then K (.ptr y.blk (y.off + n.toNat * sz)) s H else none) else none
    | some (.slice e), .ls sz y m, .int _ n => if sz = szOf P e ∧ 0 < szOf P e then (bif decide (0 ≤ n) && decide (n < (m : Int)) then K (.lp y (n.toNat * sz)) s H else none) else none
    | some (.array m e), .ptr b p, .int _ n => if 0 < szOf P e then (bif decide (0 ≤ n) && decide (n < (m : Int)) then K (.ptr b (p + n.toNat * szOf P e)) s H else none) else none
    | _, _, _ => none
  | .extract x i =>
    match s.ev x with
    | .tup l => (l[i]?).bind fun v => bif v.glob then K v s H else none
    | _ => none
  | .call c =>
    let args := c.args.toList.map s.ev
    match c.callee with
    | .value f =>
      match s.ev f with
      | .fn f cs => if c.argTypes.toList.length = args.length then callV P rec o.type f ((args.zip c.argTypes.toList).map (fun p => fixN P p.2 p.1) ++ cs) s H K else none
      | _ => none
    | .builtin .len =>
      match args with
      | [.sl _ y] => match c.argTypes.toList.map P.underlying with
        | [some (.slice _)] => K (.int .i64 y.len) s H
        | _ => none
      | _ => none
    | .builtin .max => match args with
      | .int k n :: l => (foldI mx (.int k n) l).bind fun v => K v s H
      | _ => none
    | .builtin .min => match args with
      | .int k n :: l => (foldI mn (.int k n) l).bind fun v => K v s H
      | _ => none
    | .builtin .append =>
      match args, c.argTypes.toList with
      | [x, y], [t, t'] =>
        if t = t' then
        match P.underlying t with
        | some (.slice e) =>
          match fixN P t x with
          | .sl sz z => if sz = szOf P e ∧ byOf P e ≤ 8192 ∧ (zc P e).isSome = true then srcCells s H sz y fun n vs => (H.app sz z n vs).bind fun r => bif vs.all AV.cell then K (.sl sz r.1) s r.2 else none else none
          | .ls sz a m => if sz = szOf P e ∧ byOf P e ≤ 8192 ∧ (zc P e).isSome = true then (s.getLo a).bind fun l => srcCells s H sz y fun n vs => (H.appl sz l m n vs).bind fun r => bif l.all AV.cell && vs.all AV.cell then K (.sl sz r.1) (s.forget a) r.2 else none else none
          | _ => none
        | _ => none
        else none
      | _, _ => none
    | _ => none
  | _ => none

/-- An operation under its guard. -/
def exGd (P : Program) (O : Orc) (rec : Rec) (ops : Array Oper) (o : Oper) (s : St) (H : Hp) (K : St → Hp → An) : An :=
  match o.guard with
  | none => exOp P O rec o s H fun v s H => K (s.put o.dst v) H
  | some (j, want) =>
    match (ops[j]?).bind (·.dst) with
    | some t =>
      match s.tm.getD t .undef with
      | .bool b => bif b then (bif want then exOp P O rec o ⟨s.tm.set t (.bool true), s.lo⟩ H fun v s H => K (s.put o.dst v) H else K ((⟨s.tm.set t (.bool true), s.lo⟩ : St).put o.dst (.tup [])) H)
          else (bif want then K ((⟨s.tm.set t (.bool false), s.lo⟩ : St).put o.dst (.tup [])) H else exOp P O rec o ⟨s.tm.set t (.bool false), s.lo⟩ H fun v s H => K (s.put o.dst v) H)
      | .tup _ => K (s.put o.dst (.tup [])) H
      | _ => none
    | none => none

def exOps (P : Program) (O : Orc) (rec : Rec) (ops : Array Oper) : List Oper → St → Hp → (St → Hp → An) → An
  | [], s, H, K => K s H
  | o :: l, s, H, K => exGd P O rec ops o s H fun s H => exOps P O rec ops l s H K

/-! ### Regions that draw their order -/
/-- Does an operation leave the heap and the variables of the call alone (but for a new one)? -/
def light (O : Orc) (o : Oper) : Bool :=
  match o.op with
  | .move _ | .assign _ | .pick _ _ _ | .build _ _ | .load _ _ | .nilCheck _ | .binOp _ _ _ _ _ | .unOp _ _ _ | .convert _ _ _ | .makeFunc _ _ _ | .slice _ _ _ _ _ | .fieldAddr _ _ _ | .field _ _ _ | .indexAddr _ _ _ | .extract _ _ => true
  | .alloc _ | .box _ _ | .buildSlice _ _ _ => !(inHeap O o.dst)
  | .call { callee := .builtin .len, .. } | .call { callee := .builtin .max, .. } | .call { callee := .builtin .min, .. } => true
  | _ => false
def AV.key : AV → Option Nat
  | .lp t _ => some t
  | .ls _ t _ => some t
  | _ => none
/-- The variables of the call that an operation's operands speak of. -/
def opKeys (o : Oper) (s : St) : List Nat := o.op.operands.toList.filterMap fun x => (s.ev x).key
/-- What is read out of the heap stays. -/
def stableB (H H' : Hp) (b p n : Nat) : Bool := (List.range n).all fun j => match H.cell b (p + j), H'.cell b (p + j) with
  | some x, some y => x.same y
  | _, _ => false
/-- A light operation that has run: its number, the variables that it spoke of, what it read. -/
structure Wt where
  i : Nat
  ks : List Nat
  ld : Option (Hp × Nat × Nat × Nat)
def wt (P : Program) (i : Nat) (o : Oper) (s : St) (H : Hp) : Wt := ⟨i, opKeys o s, match o.op with
  | .load t a => match s.ev a with
    | .ptr b p => some (H, b, p, szOf P t)
    | _ => none
  | _ => none⟩
/-- The variable of the call that a heavy operation changes. -/
def touch (P : Program) (o : Oper) (s : St) : Option Nat :=
  match o.op with
  | .store _ a _ => (s.ev a).key
  | .call c => match c.callee, c.args.toList with
    | .builtin .append, x :: _ => (s.ev x).key
    | _, _ => none
  | _ => none
def Wt.ok (w : Wt) (t : Option Nat) (H : Hp) : Bool :=
  (match t with
  | some t => !w.ks.contains t
  | none => true) &&
  match w.ld with
  | some (H0, b, p, n) => stableB H0 H b p n
  | none => true
/-- Is operation m ahead of operation i in every order? -/
def anc (b : Array Nat) (m i : Nat) : Bool := (b.getD i 0).testBit m
def exD (P : Program) (O : Orc) (rec : Rec) (ops : Array Oper) (b : Array Nat) : List Nat → List Wt → St → Hp → (St → Hp → An) → An
  | [], _, s, H, K => K s H
  | i :: l, W, s, H, K =>
    match ops[i]? with
    | none => none
    | some o => bif light O o then exGd P O rec ops o s H fun s' H' => exD P O rec ops b l (wt P i o s H :: W) s' H' K
      else exGd P O rec ops o s H fun s' H' => chk (W.all fun w => anc b w.i i || w.ok (touch P o s) H') (exD P O rec ops b l W s' H' K)
/-- An order in which light operations run as soon as they can. -/
def greedy (O : Orc) (ops : Array Oper) (b : Array Nat) : Nat → List Nat → List Nat → List Nat
  | 0, _, acc => acc.reverse
  | n + 1, rest, acc =>
    let rd := rest.filter fun i => rest.all fun m => !anc b m i
    match rd.find? (fun i => (ops[i]?).any (light O)) with
    | some i => greedy O ops b n (rest.filter (· != i)) (i :: acc)
    | none => match rd with
      | i :: _ => greedy O ops b n (rest.filter (· != i)) (i :: acc)
      | [] => acc.reverse
def preds (ops : Array Oper) (i : Nat) : List Nat := (((ops[i]?).map fun o => o.after.toList.filter (Region.binds .any)).getD []).map (·.on)
def pairOk (O : Orc) (ops : Array Oper) (b : Array Nat) (m i : Nat) : Bool :=
  m != i && !anc b i m && (anc b m i || match ops[m]?, ops[i]? with
    | some x, some y => light O x && Oper.apart ops x y
    | _, _ => false)
def pairsOk (f : Nat → Nat → Bool) : List Nat → Bool
  | [] => true
  | m :: l => l.all (f m) && pairsOk f l
def dOk (O : Orc) (ops : Array Oper) (b : Array Nat) (l : List Nat) : Bool :=
  l.length == ops.size && (List.range ops.size).all (fun i => l.contains i) &&
  (List.range ops.size).all (fun i => !anc b i i && (preds ops i).all (fun m => decide (m < ops.size) && anc b m i) && (List.range ops.size).all fun m => !anc b m i || (preds ops i).contains m || (preds ops i).any fun e => anc b m e) &&
  pairsOk (pairOk O ops b) l && pairsOk (fun m i => match (ops[m]?).bind (·.dst), (ops[i]?).bind (·.dst) with
    | some d, some e => d != e
    | _, _ => true) l
def noLoc (s : St) (ops : Array Oper) : Bool := ops.toList.all fun o => match o.dst with
  | some d => ((s.tm.getD d .undef).key).isNone
  | none => true

inductive Ex where
  | normal
  | exit (id : Nat)
  | ret

/-- What the oracle says of the place where a text begins. -/
def Orc.at (O : Orc) : Code → Option (Nat × Nat)
  | .region id _ _ => O.live (2 * id)
  | .seq a b => match a with
    | .skip => O.at b
    | .region id _ _ => O.live (2 * id)
    | a => O.at a
  | .cond (.tmp t) _ _ => O.live (2 * t + 1)
  | .block _ c => O.at c
  | .loop c => O.at c
  | .scope c => O.at c
  | _ => none

/-- A loop, at most n rounds. -/
def iter (m : Option (Nat × Nat)) (body : St → Hp → (Ex → St → Hp → An) → An) (K : Ex → St → Hp → An) : Nat → St → Hp → An
  | 0, _, _ => none
  | n + 1, s, H => body s H fun e s H => match e with
    | .normal => iter m body K n (s.scr m) H
    | .exit id => K (.exit id) s H
    | .ret => K .ret s H

def ex (P : Program) (O : Orc) (rec : Rec) (k : Nat) : Code → St → Hp → (Ex → St → Hp → An) → An
  | .skip, s, H, K => K .normal s H
  | .region _ ops draw, s, H, K => if draw then
      chk (dOk O ops (Region.before ops) (greedy O ops (Region.before ops) ops.size (List.range ops.size) []) && noLoc s ops)
        (exD P O rec ops (Region.before ops) (greedy O ops (Region.before ops) ops.size (List.range ops.size) []) [] s H fun s H => K .normal s H) else exOps P O rec ops ops.toList s H fun s H => K .normal s H
  | .seq a b, s, H, K => ex P O rec k a s H fun e s H => match e with
    | .normal => ex P O rec k b (s.scr (O.at b)) H K
    | .exit id => K (.exit id) s H
    | .ret => K .ret s H
  | .cond c a b, s, H, K =>
    match s.ev c with
    | .bool t => bif t then ex P O rec k a s H K else ex P O rec k b s H K
    | _ => none
  | .block id c, s, H, K => ex P O rec k c s H fun e s H => match e with
    | .normal => K .normal s H
    | .exit id' => if id' = id then K .normal s H else K (.exit id') s H
    | .ret => K .ret s H
  | .loop c, s, H, K => iter (O.at c) (ex P O rec k c) K k (s.scr (O.at c)) H
  | .exit id, s, H, K => K (.exit id) s H
  | .ret, s, H, K => K .ret s H
  | _, _, _, _ => none

/-- A list that is known at some places. -/
def ofl {α : Type} (d : α) (n : Nat) (l : List (Nat × α)) : List α := l.foldl (fun acc p => acc.set p.1 p.2) (List.replicate n d)
def St.of (n : Nat) (tm : List (Nat × AV)) (lo : List (Nat × List AV)) : St := ⟨ofl .undef n tm, ofl none n (lo.map fun p => (p.1, some p.2))⟩

/-- What a call returns. -/
def resK (P : Program) (s : St) (H : Hp) : List ResultVar → (List AV → An) → An
  | [], K => K []
  | .tmp t :: l, K => resK P s H l fun vs => K (s.tm.getD t .undef :: vs)
  | .cell a t :: l, K => exLoad P t (s.tm.getD a .undef) s H fun v => resK P s H l fun vs => K (v :: vs)
def one : List AV → AV
  | [v] => v
  | l => .tup l
/-- May it be handed back? -/
def AV.back : AV → Bool
  | .tup l => l.all AV.glob
  | v => v.glob

def fin (P : Program) (fn : Func) (s : St) (H : Hp) : An := resK P s H fn.results.toList fun vs => bif (one vs).back then some (one vs, H) else none

def callF (P : Program) (O : FuncId → Orc) : Nat → Rec
  | 0, _, _, _ => none
  | k + 1, f, args, H =>
    match P.funcs[f]? with
    | some fn => match fn.body with
      | some c => if args.length ≤ fn.ntmps then
          ex P (O f) (callF P O k) k c ⟨args ++ List.replicate (fn.ntmps - args.length) .undef, List.replicate fn.ntmps none⟩ H fun e s H =>
            match e with
            | .exit _ => none
            | .normal => fin P fn s H
            | .ret => fin P fn s H
        else none
      | none => none
    | none => none

/-! ### Places in a text -/
def sub : Code → List Nat → Code
  | c, [] => c
  | .seq a _, 0 :: p => sub a p
  | .seq _ b, _ :: p => sub b p
  | .cond _ a _, 0 :: p => sub a p
  | .cond _ _ b, _ :: p => sub b p
  | .block _ c, _ :: p => sub c p
  | .loop c, _ :: p => sub c p
  | c, _ => c
def lbody : Code → Code
  | .loop c => c
  | c => c
/-- How it goes on behind a place. -/
def kAt (P : Program) (O : Orc) (rec : Rec) (k : Nat) : Code → List Nat → List Nat → (Ex → St → Hp → An) → Ex → St → Hp → An
  | _, [], _, K => K
  | .seq a b, 0 :: p, ns, K => kAt P O rec k a p ns fun e s H => match e with
    | .normal => ex P O rec k b (s.scr (O.at b)) H K
    | .exit id => K (.exit id) s H
    | .ret => K .ret s H
  | .seq _ b, _ :: p, ns, K => kAt P O rec k b p ns K
  | .cond _ a _, 0 :: p, ns, K => kAt P O rec k a p ns K
  | .cond _ _ b, _ :: p, ns, K => kAt P O rec k b p ns K
  | .block id c, _ :: p, ns, K => kAt P O rec k c p ns fun e s H => match e with
    | .normal => K .normal s H
    | .exit id' => if id' = id then K .normal s H else K (.exit id') s H
    | .ret => K .ret s H
  | .loop c, _ :: p, n :: ns, K => kAt P O rec k c p ns fun e s H => match e with
    | .normal => iter (O.at c) (ex P O rec k c) K n (s.scr (O.at c)) H
    | .exit id => K (.exit id) s H
    | .ret => K .ret s H
  | _, _, _, K => K
def K0 (P : Program) (fn : Func) (e : Ex) (s : St) (H : Hp) : An :=
  match e with
  | .exit _ => none
  | .normal => fin P fn s H
  | .ret => fin P fn s H
theorem callF_at {P : Program} {O : FuncId → Orc} {k : Nat} {f : FuncId} {args : List AV} {H : Hp} {fn : Func} {c : Code} (hf : P.funcs[f]? = some fn) (hb : fn.body = some c) (hl : args.length ≤ fn.ntmps) :
    callF P O (k + 1) f args H = ex P (O f) (callF P O k) k c ⟨args ++ List.replicate (fn.ntmps - args.length) .undef, List.replicate fn.ntmps none⟩ H (K0 P fn) := by
  simp only [callF, hf, hb, if_pos hl]
  rfl

end Go.Proofs.Ytoalafkpkllebaa.Ab
