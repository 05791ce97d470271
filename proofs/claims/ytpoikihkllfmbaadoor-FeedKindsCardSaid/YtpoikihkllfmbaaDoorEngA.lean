/- An evaluator of loaded functions over plain data, and the soundness of its single operations. -/
import Derived.WalkKit
import Derived.Orders
import Derived.KernelRfl
set_option linter.unusedVariables false
namespace Go.Eng

inductive Ty where
  | int (k : IntKind) | bool | str | sl (t : Ty) | nil | cons (t r : Ty)
  | ifc (ids : List Nat) (p : Ty)
  deriving DecidableEq

@[reducible] def Den : Ty → Type
  | .int _ => Int
  | .bool => Bool
  | .str => List UInt8
  | .sl t => List (Den t)
  | .nil => Unit
  | .cons t r => Den t × Den r
  | .ifc _ p => Nat × Den p

def dflt : (t : Ty) → Den t
  | .int _ => (0 : Int)
  | .bool => false
  | .str => ([] : List UInt8)
  | .sl _ => []
  | .nil => ()
  | .cons t r => (dflt t, dflt r)
  | .ifc ids p => (ids.length, dflt p)

def Ty.size : Ty → Nat
  | .nil => 0
  | .cons t r => t.size + r.size
  | _ => 1

def Ty.isAgg : Ty → Bool
  | .nil => true
  | .cons _ _ => true
  | _ => false

/-- What one cell, or a value of one cell, holds. -/
inductive Lf where
  | bad
  | int (k : IntKind) (n : Int)
  | bool (b : Bool)
  | str (s : List UInt8)
  | sl (t : Ty) (xs : List (Den t))
  | nilsl
  | own (l : Nat)
  | box (l off : Nat)
  | rowp (l i off : Nat)
  | elp (t : Ty) (xs : List (Den t)) (i off : Nat)
  | fn (f : Nat)
  | clo (f : Nat) (ls : List Nat)
  | dyn (T : Nat) (t : Ty) (d : Den t)
  | ifc (ids : List Nat) (p : Ty) (k : Nat) (d : Den p)
  | nilif
  | gad (g : Nat)

def leaves : (t : Ty) → Den t → List Lf
  | .int k, n => [.int k n]
  | .bool, b => [.bool b]
  | .str, s => [.str s]
  | .sl t, xs => [.sl t xs]
  | .nil, _ => []
  | .cons t r, d => leaves t d.1 ++ leaves r d.2
  | .ifc ids p, d => [.ifc ids p d.1 d.2]

/-- what holds one type, among those that an interface may hold -/
def injD : List Nat → (p : Ty) → Nat → (t : Ty) → Den t → Option (Nat × Den p)
  | T' :: ids, .cons t' r, T, t, d => if T' = T then (if h : t = t' then some (0, (h ▸ d, dflt r)) else none) else match injD ids r T t d with
    | some (k, e) => some (k + 1, (dflt t', e))
    | none => none
  | _, _, _, _, _ => none
def ofIf (ids : List Nat) (p : Ty) : Lf → Option (Nat × Den p)
  | .ifc ids' p' k d => if h : p' = p then (if ids' = ids then some (k, h ▸ d) else none) else none
  | .nilif => some (ids.length, dflt p)
  | .dyn T t d => injD ids p T t d
  | _ => none
def slOf (t : Ty) : Lf → Option (List (Den t))
  | .sl t' xs => if h : t' = t then some (h ▸ xs) else none
  | .nilsl => some []
  | _ => none

def ofL : (t : Ty) → List Lf → Option (Den t × List Lf)
  | .int k, .int k' n :: r => if k' = k then some (n, r) else none
  | .bool, .bool b :: r => some (b, r)
  | .str, .str s :: r => some (s, r)
  | .sl t, x :: r => match slOf t x with | some xs => some (xs, r) | none => none
  | .nil, l => some ((), l)
  | .cons t r, l => match ofL t l with
    | some (d, l') => match ofL r l' with
      | some (e, l'') => some ((d, e), l'')
      | none => none
    | none => none
  | .ifc ids p, x :: r => match ofIf ids p x with | some y => some (y, r) | none => none
  | _, _ => none

def ofAll (t : Ty) (l : List Lf) : Option (Den t) :=
  match ofL t l with
  | some (d, []) => some d
  | _ => none

def Lf.ok : Lf → Bool
  | .bad => false
  | _ => true

inductive SV where
  | lf (x : Lf)
  | ag (cs : List Lf)
  | tup (xs : List (Bool × List Lf))

def SV.leaves : SV → List Lf
  | .lf x => [x]
  | .ag cs => cs
  | .tup _ => []

inductive Ob where
  | box (ro : Bool) (cells : List Lf)
  | row (e : Nat) (t : Ty) (xs : List (Den t))

structure Heap where
  obj : Nat → Option Ob
  used : Nat → Bool
def SV.ok : SV → Bool
  | .lf x => x.ok
  | .ag cs => cs.all (·.ok)
  | .tup _ => false
abbrev Path := List (Nat × Bool)
structure St where
  env : Nat → SV
  gen : Nat → Option (Path × SV)
  done : Nat → Bool
  heap : Heap

def upd {α : Type} (f : Nat → α) (i : Nat) (v : α) : Nat → α := fun j => if j = i then v else f j
def Heap.del (h : Heap) (l : Nat) : Heap := ⟨upd h.obj l none, h.used⟩
def Heap.put (h : Heap) (l : Nat) (o : Ob) : Heap := ⟨upd h.obj l (some o), h.used⟩
def Heap.new (h : Heap) (l : Nat) (o : Ob) : Heap := ⟨upd h.obj l (some o), upd h.used l true⟩

/-- The types of a program, as the engine sees them. -/
inductive TK where
  | int (k : IntKind) | bool | str | sl (e : Nat) | st (fs : List (Nat × Nat)) | ptr | other
  | ifc (ids : List Nat)
  | arr (n e : Nat)
  deriving DecidableEq
structure TI where
  k : TK
  size : Nat
  bytes : Nat
  ty : Ty
  eq : Bool := false
  ms : List (String × Nat) := []
  gl : Option ((τ : Ty) × Den τ) := none
abbrev Tab := List TI
def Tab.at (tab : Tab) (t : Nat) : TI := tab.getD t ⟨.other, 0, 0, .nil, false, [], none⟩

def zeroL : Ty → List Lf
  | .int k => [.int k 0]
  | .bool => [.bool false]
  | .str => [.str []]
  | .sl _ => [.nilsl]
  | .nil => []
  | .cons t r => zeroL t ++ zeroL r
  | .ifc _ _ => [.nilif]

/-- what a captured variable holds: the pointer that another argument is, or cells that are told in part -/
inductive Cap where
  | ptr (j : Nat)
  | dat (m : List (Option Ty))
def maskTy : List (Option Ty) → Ty
  | [] => .nil
  | none :: r => maskTy r
  | some t :: r => .cons t (maskTy r)
def capsTy : List Cap → Ty
  | [] => .nil
  | .ptr _ :: r => capsTy r
  | .dat m :: r => .cons (maskTy m) (capsTy r)
inductive PK where
  | v (t : Ty)
  | p (ro : Bool) (t : Ty)
  | f (n : Nat)
  | q (how : Option Nat) (caps : List Cap)
inductive OK where
  | v (t : Ty)
  | o (e : Nat) (t : Ty)
  deriving DecidableEq
def PK.ty : PK → Ty
  | .v t => t
  | .p _ t => t
  | .f _ => .nil
  | .q _ caps => capsTy caps
/-- pointers that nobody hands over: those behind captured variables; they stand first -/
def nph : List PK → Nat
  | [] => 0
  | .q none [.ptr _] :: r => nph r + 1
  | _ :: r => nph r
def OK.ty : OK → Ty
  | .v t => t
  | .o _ t => .sl t
def chain : List Ty → Ty
  | [] => .nil
  | t :: r => .cons t (chain r)
def statesOf : List PK → List Ty
  | [] => []
  | .p false t :: r => t :: statesOf r
  | _ :: r => statesOf r
structure Con where
  ins : List PK
  outs : List OK
  fn : Den (chain (ins.map PK.ty)) → Option (Den (chain (outs.map OK.ty ++ statesOf ins)))
abbrev Con.tin (c : Con) : Ty := chain (c.ins.map PK.ty)
abbrev Con.tout (c : Con) : Ty := chain (c.outs.map OK.ty ++ statesOf c.ins)
abbrev Ctx := Nat → Option Con

def frz (h : Heap) : Lf → Lf × Heap
  | .own l => match h.obj l with
    | some (.row e t xs) => (.sl t xs, h.del l)
    | _ => (.bad, h)
  | x => (x, h)
def frzAll (h : Heap) : List Lf → List Lf × Heap
  | [] => ([], h)
  | x :: r => let (y, h1) := frz h x; let (ys, h2) := frzAll h1 r; (y :: ys, h2)

def constSV : Value → Option SV
  | .int k n => some (.lf (.int k n))
  | .bool b => some (.lf (.bool b))
  | .string s => some (.lf (.str s.data.toList))
  | .slice none 0 0 => some (.lf .nilsl)
  | .nilIface => some (.lf .nilif)
  | _ => none

def sub (p q : Path) : Bool := p.all fun x => q.contains x
def opnd (s : St) (path : Path) : Operand → Option SV
  | .tmp i => match s.gen i with
    | none => some (s.env i)
    | some (p, sv) => if sub p path then some sv else none
  | .const v => constSV v
  | .func f => some (.lf (.fn f))
  | .global g => some (.lf (.gad g))

def lit (w b : Bool) : Bool := match w with | true => b | false => !b
def boolOf : SV → Option Bool
  | .lf (.bool b) => some b
  | _ => none
def slotBool (s : St) (i : Nat) : Option Bool :=
  match s.gen i with
  | none => boolOf (s.env i)
  | some (_, sv) => boolOf sv
def gb1 (s : St) (x : Nat × Bool) : Bool := match slotBool s x.1 with | some b => lit x.2 b | none => false
def gb (s : St) : Path → Bool
  | [] => true
  | [x] => gb1 s x
  | x :: r => gb1 s x && gb s r
def guardPath (ops : Array Oper) (s : St) : Option (Nat × Bool) → Option Path
  | none => some []
  | some (j, want) => match (ops[j]?).bind (·.dst) with
    | some d => match slotBool s d, s.done d with
      | some _, true => match s.gen d with
        | none => some [(d, want)]
        | some (p, _) => some (p ++ [(d, want)])
      | _, _ => none
    | none => none

/-- What an operation comes to. -/
inductive Out where
  | fail
  | ok (test : Option Bool) (sv : SV) (h : Option Heap)
  | call (t : Ty) (quiet : Bool) (x : Option (Den t)) (f : Den t → SV × Option Heap)

def intOf' : SV → Option (IntKind × Int)
  | .lf (.int k n) => some (k, n)
  | _ => none

def optInt (d : Int) : Option SV → Option Int
  | none => some d
  | some (.lf (.int _ n)) => some n
  | some _ => none

def arith (op : BinOp) (k : IntKind) (a b : Int) : Out :=
  match op with
  | .add => .ok none (.lf (.int k (k.wrap (a + b)))) none
  | .sub => .ok none (.lf (.int k (k.wrap (a - b)))) none
  | .mul => .ok none (.lf (.int k (k.wrap (a * b)))) none
  | .quo => .ok (some (decide (b ≠ 0))) (.lf (.int k (k.wrap (a.tdiv b)))) none
  | .rem => .ok (some (decide (b ≠ 0))) (.lf (.int k (a.tmod b))) none
  | .and => .ok none (.lf (.int k (k.wrap (BitVec.ofInt k.bits a &&& BitVec.ofInt k.bits b).toNat))) none
  | .or => .ok none (.lf (.int k (k.wrap (BitVec.ofInt k.bits a ||| BitVec.ofInt k.bits b).toNat))) none
  | .xor => .ok none (.lf (.int k (k.wrap (BitVec.ofInt k.bits a ^^^ BitVec.ofInt k.bits b).toNat))) none
  | .andNot => .ok none (.lf (.int k (k.wrap (BitVec.ofInt k.bits a &&& ~~~ BitVec.ofInt k.bits b).toNat))) none
  | .eql => .ok none (.lf (.bool (a == b))) none
  | .neq => .ok none (.lf (.bool (a != b))) none
  | .lss => .ok none (.lf (.bool (decide (a < b)))) none
  | .leq => .ok none (.lf (.bool (decide (a ≤ b)))) none
  | .gtr => .ok none (.lf (.bool (decide (a > b)))) none
  | .geq => .ok none (.lf (.bool (decide (a ≥ b)))) none
  | _ => .fail

def shiftO (op : BinOp) (k : IntKind) (a b : Int) : Out :=
  match op with
  | .shl => .ok (some (decide (0 ≤ b))) (.lf (.int k (k.wrap (a * 2 ^ (min b.toNat k.bits))))) none
  | .shr => .ok (some (decide (0 ≤ b))) (.lf (.int k (a.fdiv (2 ^ (min b.toNat k.bits))))) none
  | _ => .fail

def leafEq : TK → Lf → Lf → Option Bool
  | .int k0, .int k a, .int k' b => if k0 = k ∧ k = k' then some (a == b) else none
  | .bool, .bool a, .bool b => some (a == b)
  | .str, .str a, .str b => some (a == b)
  | _, _, _ => none
def leavesEq (tab : Tab) : List (Nat × Nat) → List Lf → List Lf → Option Bool
  | [], [], [] => some true
  | p :: fs, x :: r, y :: r' => match leafEq (tab.at p.2).k x y, leavesEq tab fs r r' with
    | some a, some b => some (a && b)
    | _, _ => none
  | _, _, _ => none
def structEq (tab : Tab) (t : Nat) (xs ys : List Lf) : Option Bool := match (tab.at t).k with
  | .st fs => if (tab.at t).eq then leavesEq tab fs xs ys else none
  | _ => none

def binO (tab : Tab) (op : BinOp) (xt : Nat) (x y : SV) : Out :=
  match op, x, y with
  | .shl, .lf (.int k a), .lf (.int _ b) => shiftO .shl k a b
  | .shr, .lf (.int k a), .lf (.int _ b) => shiftO .shr k a b
  | op, .lf (.int k a), .lf (.int k' b) => if k = k' then arith op k a b else .fail
  | .eql, .lf (.bool a), .lf (.bool b) => if (tab.at xt).k = .bool then .ok none (.lf (.bool (a == b))) none else .fail
  | .neq, .lf (.bool a), .lf (.bool b) => if (tab.at xt).k = .bool then .ok none (.lf (.bool (a != b))) none else .fail
  | .eql, .lf (.str a), .lf (.str b) => .ok none (.lf (.bool (a == b))) none
  | .neq, .lf (.str a), .lf (.str b) => .ok none (.lf (.bool (a != b))) none
  | .eql, .ag xs, .ag ys => match structEq tab xt xs ys with | some b => .ok none (.lf (.bool b)) none | none => .fail
  | .neq, .ag xs, .ag ys => match structEq tab xt xs ys with | some b => .ok none (.lf (.bool (!b))) none | none => .fail
  | _, _, _ => .fail

def pickL (c : Bool) : Lf → Lf → Option Lf
  | .int k a, .int k' b => if k = k' then some (.int k (if c then a else b)) else none
  | .bool a, .bool b => some (.bool (if c then a else b))
  | .str a, .str b => some (.str (if c then a else b))
  | .sl t xs, y => match slOf t y with | some ys => some (.sl t (if c then xs else ys)) | none => none
  | .nilsl, .sl t ys => some (.sl t (if c then [] else ys))
  | .nilsl, .nilsl => some .nilsl
  | .box l o, .box l' o' => if l = l' ∧ o = o' then some (.box l o) else none
  | .own l, .own l' => if l = l' then some (.own l) else none
  | .fn f, .fn g => if f = g then some (.fn f) else none
  | _, _ => none

def pickO (c : Bool) (x y : Lf) : Out := match pickL c x y with
  | some z => .ok none (.lf z) none
  | none => match x, y with
    | .bad, y => .ok (some (!c)) (.lf y) none
    | x, .bad => .ok (some c) (.lf x) none
    | _, _ => .fail
/-- the leaves that an address leads to -/
def seg (cs : List Lf) (off n : Nat) : List Lf := (cs.drop off).take n
def asSV (tab : Tab) (t : Nat) (cs : List Lf) : Option SV :=
  match (tab.at t).k with
  | .st _ => if cs.length = (tab.at t).size then some (.ag cs) else none
  | .arr _ _ => if cs.length = (tab.at t).size then some (.ag cs) else none
  | .other => none
  | _ => match cs with | [x] => some (.lf x) | _ => none
def loadO (tab : Tab) (t : Nat) (h : Heap) : SV → Option SV
  | .lf (.box l off) => match h.obj l with
    | some (.box _ cs) => asSV tab t (seg cs off (tab.at t).size)
    | _ => none
  | .lf (.elp τ xs i off) => asSV tab t (seg (leaves τ (xs.getD i (dflt τ))) off (tab.at t).size)
  | .lf (.rowp l i off) => match h.obj l with
    | some (.row e τ xs) => asSV tab t (seg (leaves τ (xs.getD i (dflt τ))) off (tab.at t).size)
    | _ => none
  | .lf (.gad g) => match (tab.at g).gl with
    | some ⟨τ, d⟩ => asSV tab t (seg (leaves τ d) 0 (tab.at t).size)
    | none => none
  | _ => none
def splice (cs new : List Lf) (off : Nat) : List Lf := cs.take off ++ new ++ cs.drop (off + new.length)
def storeO (tab : Tab) (t : Nat) (h : Heap) (a x : SV) : Option Heap :=
  let new := x.leaves
  if new.length ≠ (tab.at t).size ∨ x.ok = false then none else
  match a with
  | .lf (.box l off) => match h.obj l with
    | some (.box false cs) => if off + new.length ≤ cs.length then some (h.put l (.box false (splice cs new off))) else none
    | _ => none
  | .lf (.rowp l i off) =>
    match frzAll h new with
    | (new', h') => match h'.obj l with
      | some (.row e τ xs) => if off + new'.length > τ.size then none else match ofAll τ (splice (leaves τ (xs.getD i (dflt τ))) new' off) with
        | some d => some (h'.put l (.row e τ (xs.set i d)))
        | none => none
      | _ => none
  | _ => none

def field? (tab : Tab) (t f : Nat) : Option (Nat × Nat) :=
  match (tab.at t).k with
  | .st fs => fs[f]?
  | _ => none

/-- the place of a part -/
def place? (tab : Tab) (t f : Nat) : Option (Nat × Nat) :=
  match (tab.at t).k with
  | .st fs => fs[f]?
  | .arr n e => if f < n then some (f * (tab.at e).size, e) else none
  | _ => none
/-- one of many parts, all alike -/
def zipPick (c : Bool) : List Lf → List Lf → Option (List Lf)
  | [], [] => some []
  | x :: r, y :: r' => match pickL c x y, zipPick c r r' with
    | some z, some zs => some (z :: zs)
    | _, _ => none
  | _, _ => none
def selL (sz : Nat) (cs : List Lf) (n : Int) : Nat → Nat → Option (List Lf)
  | 0, _ => none
  | 1, i => some (seg cs (i * sz) sz)
  | m + 2, i => match selL sz cs n (m + 1) (i + 1) with
    | some r => zipPick (decide (n = i)) (seg cs (i * sz) sz) r
    | none => none

/-- parts laid over zero cells -/
def layO (tab : Tab) (t : Nat) : List (Nat × SV) → List Lf → Option (List Lf)
  | [], cs => some cs
  | (f, x) :: r, cs => match place? tab t f with
    | some (off, ft) => if x.leaves.length = (tab.at ft).size ∧ x.ok = true ∧ off + x.leaves.length ≤ cs.length then layO tab t r (splice cs x.leaves off) else none
    | none => none

def listOf (τ : Ty) : List SV → Heap → Option (List (Den τ) × Heap)
  | [], h => some ([], h)
  | x :: r, h => if x.ok = false then none else match frzAll h x.leaves with
    | (cs, h1) => match ofAll τ cs with
      | some d => match listOf τ r h1 with
        | some (ds, h2) => some (d :: ds, h2)
        | none => none
      | none => none

def opnds (ρ : Operand → Option SV) : List Operand → Option (List SV)
  | [] => some []
  | x :: r => match ρ x, opnds ρ r with
    | some v, some vs => some (v :: vs)
    | _, _ => none
def partsOf (ρ : Operand → Option SV) : List (Nat × Operand) → Option (List (Nat × SV))
  | [] => some []
  | (i, x) :: r => match ρ x, partsOf ρ r with
    | some v, some vs => some ((i, v) :: vs)
    | _, _ => none

def u8s (xs : List Int) : List UInt8 := xs.map fun n => UInt8.ofNat n.toNat
def ofU8s (s : List UInt8) : List Int := s.map fun b => (b.toNat : Int)

def kindOk (t : Ty) : SV → Bool
  | .lf _ => !t.isAgg
  | .ag _ => t.isAgg
  | .tup _ => false
def Lf.isOwn : Lf → Bool
  | .own _ => true
  | _ => false
def ndB : List Nat → Bool
  | [] => true
  | l :: r => !r.contains l && ndB r
def clLs : Option Nat → SV → Option (List Nat)
  | none, .lf (.box l 0) => some [l]
  | some g, .lf (.clo f ls) => if f = g then some ls else none
  | _, _ => none
def maskO : List (Option Ty) → List Lf → Option (List Lf)
  | [], [] => some []
  | none :: m, _ :: cs => maskO m cs
  | some t :: m, x :: cs => if x.isOwn = true ∨ t.size ≠ 1 then none else match maskO m cs with
    | some r => some (x :: r)
    | none => none
  | _, _ => none
def capO (h : Heap) (al : List SV) (l : Nat) : Cap → Option (List Lf)
  | .ptr j => match h.obj l with
    | some (.box _ [.box l' 0]) => match h.obj l', al[j]? with
      | some (.box _ _), some (.lf (.box l2 0)) => if l2 = l' then some [] else none
      | _, _ => none
    | _ => none
  | .dat m => match h.obj l with
    | some (.box _ cs) => maskO m cs
    | _ => none
def capsO (h : Heap) (al : List SV) : List Cap → List Nat → Option (List Lf)
  | [], [] => some []
  | c :: r, l :: ls => match capO h al l c, capsO h al r ls with
    | some x, some y => some (x ++ y)
    | _, _ => none
  | _, _ => none
/-- arguments: their leaves, the heap behind, the boxes behind pointers -/
def argsO (al : List SV) (h : Heap) : List PK → List SV → Option (List Lf × Heap × List (Bool × Nat))
  | [], [] => some ([], h, [])
  | .v t :: ps, x :: xs =>
    if kindOk t x = true ∧ x.leaves.length = t.size then
      match frzAll h x.leaves with
      | (cs, h1) => match argsO al h1 ps xs with
        | some (r, h2, ls) => some (cs ++ r, h2, ls)
        | none => none
    else none
  | .p ro t :: ps, .lf (.box l 0) :: xs => match h.obj l with
    | some (.box ro' cs) =>
      if (ro' = true ∧ ro = false) ∨ cs.length ≠ t.size then none else
      match frzAll h cs with
      | (cs', h1) => match argsO al (h1.put l (.box ro' cs')) ps xs with
        | some (r, h2, ls) => if l ∈ ls.map (·.2) then none else some (cs' ++ r, h2, (ro, l) :: ls)
        | none => none
    | _ => none
  | .f n :: ps, .lf (.fn m) :: xs => if m = n then argsO al h ps xs else none
  | .q how caps :: ps, x :: xs => match clLs how x with
    | some l0 => match capsO h al caps l0 with
      | some cs => match argsO al h ps xs with
        | some (r, h2, ls) => if ndB (l0 ++ ls.map (·.2)) = false then none else some (cs ++ r, h2, l0.map (fun l => (true, l)) ++ ls)
        | none => none
      | none => none
    | none => none
  | _, _ => none
/-- the pointers behind captured variables -/
def phL (h : Heap) : SV → SV
  | .lf (.box l 0) => match h.obj l with
    | some (.box _ [y]) => .lf y
    | _ => .lf .bad
  | _ => .lf .bad
def phO (h : Heap) : List PK → List SV → List SV
  | .q none [.ptr _] :: ps, x :: xs => phL h x :: phO h ps xs
  | _ :: ps, _ :: xs => phO h ps xs
  | _, _ => []
def alO (h : Heap) (ins : List PK) (args : List SV) : List SV := phO h (ins.drop (nph ins)) args ++ args
def rwOf (ls : List (Bool × Nat)) : List Nat := (ls.filter (fun x => !x.1)).map (·.2)

def putStates (h : Heap) : List Nat → List Ty → List Lf → Heap
  | l :: ls, t :: ts, cs => putStates (h.put l (.box false (cs.take t.size))) ls ts (cs.drop t.size)
  | _, _, _ => h

/-- results out of leaves -/
def outsO (dst : Nat) : Nat → List OK → List Lf → Heap → List (Bool × List Lf) × Heap
  | _, [], cs, h => ([], h)
  | k, .v t :: r, cs, h => let q := outsO dst (k + 1) r (cs.drop t.size) h; ((t.isAgg, cs.take t.size) :: q.1, q.2)
  | k, .o e _ :: r, cs, h => match cs with
    | .sl t xs :: cs' => let q := outsO dst (k + 1) r cs' (h.new (dst + 1000 * k) (.row e t xs)); ((false, [.own (dst + 1000 * k)]) :: q.1, q.2)
    | _ => ([], h)
def outsSize : List OK → Nat
  | [] => 0
  | x :: r => x.ty.size + outsSize r
def svOf : List (Bool × List Lf) → SV
  | [(false, [x])] => .lf x
  | [(true, cs)] => .ag cs
  | l => .tup l

def quietCall (h : Heap) (c : Con) (args : List SV) : Bool :=
  c.outs.all (fun | .v _ => true | .o _ _ => false) && (statesOf c.ins).isEmpty &&
  args.all fun x => x.leaves.all fun y => !y.isOwn && match y with | .box l _ => (match h.obj l with | some (.box _ cs) => cs.all fun z => !z.isOwn | _ => false) | _ => true

/-- a contract of a function that is handed closures is kept for these closures -/
def cloIn : List SV → Option Nat
  | [] => none
  | .lf (.clo g _) :: _ => some g
  | _ :: r => cloIn r
def keyOf (f : Nat) (args : List SV) : Nat := match cloIn args with
  | some g => f + 10000 * (g + 1)
  | none => f
def callO (Γ : Ctx) (h : Heap) (dst : Nat) (f : Nat) (args : List SV) : Out :=
  if 10000 ≤ f then .fail else
  match Γ (keyOf f args) with
  | none => .fail
  | some c => if (phO h (c.ins.drop (nph c.ins)) args).length ≠ nph c.ins then .fail else match argsO (alO h c.ins args) h c.ins (alO h c.ins args) with
    | none => .fail
    | some (cs, h1, ls) => match ofAll c.tin cs with
      | none => .fail
      | some d => if !((List.range c.outs.length).all fun k => !h1.used (dst + 1000 * k)) then .fail else .call c.tout (quietCall h c (alO h c.ins args)) (c.fn d) fun r =>
        (svOf (outsO dst 0 c.outs (leaves c.tout r) (putStates h1 (rwOf ls) (statesOf c.ins) ((leaves c.tout r).drop (outsSize c.outs)))).1,
          some (outsO dst 0 c.outs (leaves c.tout r) (putStates h1 (rwOf ls) (statesOf c.ins) ((leaves c.tout r).drop (outsSize c.outs)))).2)
/-- the function that a value is, and the variables that it captures -/
def calleeOf : Option SV → Option (Nat × List SV)
  | some (.lf (.fn f)) => some (f, [])
  | some (.lf (.clo f ls)) => some (f, ls.map fun l => .lf (.box l 0))
  | _ => none
def boxesOf : List SV → Option (List Nat)
  | [] => some []
  | .lf (.box l 0) :: r => match boxesOf r with
    | some ls => some (l :: ls)
    | none => none
  | _ => none

def lenO : TK → SV → Heap → Option Int
  | .str, .lf (.str s), _ => some (s.length : Int)
  | .sl _, .lf (.sl _ xs), _ => some (xs.length : Int)
  | .sl _, .lf .nilsl, _ => some 0
  | .sl _, .lf (.own l), h => match h.obj l with | some (.row _ _ xs) => some (xs.length : Int) | _ => none
  | _, _, _ => none

def seqOf (τ : Ty) (h : Heap) : SV → Option (List (Den τ))
  | .lf (.own l) => match h.obj l with | some (.row _ t xs) => if e : t = τ then some (e ▸ xs) else none | _ => none
  | .lf x => slOf τ x
  | _ => none
/-- the row that is grown: its content, and the heap without it -/
def ownSeq (e : Nat) (τ : Ty) (h : Heap) : SV → Option (List (Den τ) × Heap)
  | .lf (.own l) => match h.obj l with | some (.row e' t xs) => if q : t = τ then (if e' = e then some (q ▸ xs, h.del l) else none) else none | _ => none
  | .lf .nilsl => some ([], h)
  | _ => none

def appendO (tab : Tab) (h : Heap) (dst : Nat) (T T2 : Nat) (s x : SV) : Out :=
  if h.used dst then .fail else if T2 ≠ T then .fail else
  match (tab.at T).k with
  | .sl e => match ownSeq e (tab.at e).ty h s, seqOf (tab.at e).ty h x with
    | some (xs, h1), some ys => .ok (some (decide ((xs.length + ys.length) * (tab.at e).bytes ≤ 140737488355328))) (.lf (.own dst)) (some (h1.new dst (.row e (tab.at e).ty (xs ++ ys))))
    | _, _ => .fail
  | _ => .fail

def copyO (tab : Tab) (h : Heap) (T : Nat) (s x : SV) : Out :=
  match (tab.at T).k with
  | .sl e => if (tab.at e).size ≠ 1 then .fail else
    match s with
    | .lf (.own l) => match h.obj l, seqOf (tab.at e).ty h s, seqOf (tab.at e).ty h x with
      | some (.row e' _ _), some xs, some ys => .ok none (.lf (.int .i64 (min ys.length xs.length : Nat))) (some (h.put l (.row e' (tab.at e).ty (ys.take xs.length ++ xs.drop ys.length))))
      | _, _, _ => .fail
    | _ => .fail
  | _ => .fail

def sliceO (tab : Tab) (T : Nat) (h : Heap) (x : SV) (lo hi : Option SV) : Out :=
  match x with
  | .lf (.str s) => if (tab.at T).k ≠ .str then .fail else
    match optInt 0 lo, optInt (s.length : Int) hi with
    | some l, some u => .ok (some (decide (0 ≤ l ∧ l ≤ u ∧ u ≤ s.length))) (.lf (.str ((s.take u.toNat).drop l.toNat))) none
    | _, _ => .fail
  | .lf x => match (tab.at T).k with
    | .sl e => match slOf (tab.at e).ty (frz h x).1 with
        | some xs =>
          match optInt 0 lo, optInt (xs.length : Int) hi with
          | some l, some u => .ok (some (decide (0 ≤ l ∧ l ≤ u ∧ u ≤ xs.length))) (.lf (.sl (tab.at e).ty ((xs.take u.toNat).drop l.toNat))) (match x with | .own _ => some (frz h x).2 | _ => none)
          | _, _ => .fail
        | none => .fail
    | _ => .fail
  | _ => .fail

def convO (tab : Tab) (src dst : Nat) (h : Heap) (x : SV) : Out :=
  if (tab.at src).k = .other ∨ (tab.at dst).k = .other then .fail else
  match x with
  | .lf (.int _ n) => match (tab.at dst).k with
    | .int k => .ok none (.lf (.int k (k.wrap n))) none
    | _ => .fail
  | .lf (.str s) => match (tab.at dst).k with
    | .str => .ok none (.lf (.str s)) none
    | .sl e => if (tab.at e).k = .int .u8 then .ok none (.lf (.sl (.int .u8) (ofU8s s))) none else .fail
    | _ => .fail
  | x => match (tab.at src).k, (tab.at dst).k with
    | .sl e, .str => if (tab.at e).k = .int .u8 then match seqOf (.int .u8) h x with
        | some xs => .ok none (.lf (.str (u8s xs))) none
        | none => .fail
      else .fail
    | _, _ => .fail

/-- does an address lead to what is there? -/
def liveP (h : Heap) : SV → Bool
  | .lf (.box l _) => match h.obj l with | some (.box _ _) => true | _ => false
  | .lf (.rowp l _ _) => match h.obj l with | some (.row _ _ _) => true | _ => false
  | .lf (.elp _ _ _ _) => true
  | _ => false
def moved (off : Nat) : SV → Option SV
  | .lf (.box l o) => some (.lf (.box l (o + off)))
  | .lf (.rowp l i o) => some (.lf (.rowp l i (o + off)))
  | .lf (.elp t xs i o) => some (.lf (.elp t xs i (o + off)))
  | _ => none
def optOp (ρ : Operand → Option SV) : Option Operand → Option (Option SV)
  | none => some none
  | some x => match ρ x with | some v => some (some v) | none => none

/-! ### values of interfaces -/
def projD : (p : Ty) → Nat → (t : Ty) → Den p → Option (Den t)
  | .cons t' _, 0, t, d => if h : t' = t then some (h ▸ d.1) else none
  | .cons _ r, i + 1, t, d => projD r i t d.2
  | _, _, _, _ => none
def idxN (T : Nat) : List Nat → Option Nat
  | [] => none
  | x :: r => if x = T then some 0 else match idxN T r with | some i => some (i + 1) | none => none
def svD (t : Ty) (d : Den t) : SV := match t.isAgg with
  | true => .ag (leaves t d)
  | false => match leaves t d with | [x] => .lf x | _ => .lf .bad
def mkIfc (tab : Tab) (h : Heap) (T : Nat) (v : SV) : Out := match (tab.at T).k with
  | .other | .ptr | .ifc _ => .fail
  | _ => if kindOk (tab.at T).ty v = true ∧ v.leaves.length = (tab.at T).ty.size then
      match ofAll (tab.at T).ty (frzAll h v.leaves).1 with
      | some d => .ok none (.lf (.dyn T (tab.at T).ty d)) (some (frzAll h v.leaves).2)
      | none => .fail
    else .fail
def tupT (t : Ty) (cs : List Lf) (b : Bool) : SV := .tup [(t.isAgg, cs), (false, [.bool b])]
def assertC (tab : Tab) (T : Nat) : SV → Out
  | .lf (.dyn T' t d) => if T' = T then (if t = (tab.at T).ty then .ok none (tupT t (leaves t d) true) none else .fail) else .ok none (tupT (tab.at T).ty (zeroL (tab.at T).ty) false) none
  | .lf .nilif => .ok none (tupT (tab.at T).ty (zeroL (tab.at T).ty) false) none
  | .lf (.ifc ids p k d) => if ndB ids = false then .fail else match idxN T ids with
    | none => .ok none (tupT (tab.at T).ty (zeroL (tab.at T).ty) false) none
    | some i => match projD p i (tab.at T).ty d with
      | some e => .ok none (tupT (tab.at T).ty (leaves (tab.at T).ty (if k = i then e else dflt (tab.at T).ty)) (decide (k = i))) none
      | none => .fail
  | _ => .fail
def assertO (tab : Tab) (T : Nat) (v : SV) : Out := match (tab.at T).k with
  | .other | .ptr | .ifc _ => .fail
  | _ => assertC tab T v
def methOf (tab : Tab) (T : Nat) (name : String) : Option Nat := match (tab.at T).k with
  | .other | .ptr | .ifc _ => none
  | _ => match (tab.at T).ms.find? (fun p => p.1 == name) with
    | some p => some p.2
    | none => none
def outV : List OK → List Lf → List (Bool × List Lf)
  | [], _ => []
  | x :: r, cs => (x.ty.isAgg, cs.take x.ty.size) :: outV r (cs.drop x.ty.size)
def few (Γ : Ctx) (f : Nat) (args : List SV) : Bool := match Γ (keyOf f args) with
  | some con => decide (con.outs.length ≤ 4)
  | none => true
/-- one of an interface's types -/
def altO (Γ : Ctx) (h : Heap) (dst f : Nat) (args : List SV) (outs : List OK) : Option (Option (Den (chain (outs.map OK.ty ++ [])))) :=
  if few Γ f args = false then none else match Γ f with
  | some c => match callO Γ h dst f args with
    | .call _ true _ _ => match argsO args h c.ins args with
      | some (cs, _, _) => match ofAll c.tin cs with
        | some d => if e : c.outs = outs ∧ statesOf c.ins = [] ∧ nph c.ins = 0 ∧ keyOf f args = f then some (cast (by rw [e.1, e.2.1]) (c.fn d)) else none
        | none => none
      | none => none
    | _ => none
  | none => none
def altsO (tab : Tab) (Γ : Ctx) (h : Heap) (dst : Nat) (name : String) (args : List SV) (outs : List OK) (k : Nat) : Nat → List Nat → (p : Ty) → Den p → Option (Option (Den (chain (outs.map OK.ty ++ []))))
  | _, [], _, _ => some none
  | i, T :: ids, .cons t r, d => match methOf tab T name with
    | some f => match altO Γ h dst f (svD t d.1 :: args) outs, altsO tab Γ h dst name args outs k (i + 1) ids r d.2 with
      | some x, some y => some (if k = i then x else y)
      | _, _ => none
    | none => none
  | _, _, _, _ => none
def invO (tab : Tab) (Γ : Ctx) (h : Heap) (dst : Nat) (name : String) (args : List SV) : SV → Out
  | .lf (.dyn T t d) => if (tab.at T).ty = t then match methOf tab T name with | some f => if few Γ f (svD t d :: args) = false then .fail else callO Γ h dst f (svD t d :: args) | none => .fail else .fail
  | .lf (.ifc ids p k d) => match ids with
    | [] => .fail
    | T :: _ => match methOf tab T name with
      | none => .fail
      | some f => match Γ f with
        | none => .fail
        | some c => if decide (p = chain (ids.map fun T => (tab.at T).ty)) = false then .fail else match altsO tab Γ h dst name args c.outs k 0 ids p d with
          | some x => .call (chain (c.outs.map OK.ty ++ [])) true x fun r => (svOf (outV c.outs (leaves _ r)), none)
          | none => .fail
  | _ => .fail

def pickPath (c : Operand) (b : Bool) : Path := match c with | .tmp i => [(i, b)] | _ => []
def opO (tab : Tab) (Γ : Ctx) (dst : Option Nat) (ρx : List (Nat × Bool) → Operand → Option SV) (ρ : Operand → Option SV) (h : Heap) : Op → Out
  | .move x | .assign x => match ρ x with | some v => .ok none v none | none => .fail
  | .pick c a b => match ρ c, ρx (pickPath c true) a, ρx (pickPath c false) b with
    | some (.lf (.bool c)), some (.lf x), some (.lf y) => pickO c x y
    | _, _, _ => .fail
  | .alloc t => match dst, (tab.at t).k with
    | _, .other => .fail
    | _, .ptr => .fail
    | some d, _ => if h.used d || decide (1000 ≤ d) then .fail else .ok none (.lf (.box d 0)) (some (h.new d (.box false (zeroL (tab.at t).ty))))
    | none, _ => .fail
  | .box t x => match dst, ρ x with
    | some d, some v => if v.leaves.length = (tab.at t).size ∧ v.ok = true ∧ h.used d = false ∧ d < 1000 then .ok none (.lf (.box d 0)) (some (h.new d (.box false v.leaves))) else .fail
    | _, _ => .fail
  | .build t parts => match (tab.at t).k, partsOf ρ parts.toList with
    | .st _, some ps => match layO tab t ps (zeroL (tab.at t).ty) with
      | some cs => .ok none (.ag cs) none
      | none => .fail
    | .arr _ _, some ps => match layO tab t ps (zeroL (tab.at t).ty) with
      | some cs => .ok none (.ag cs) none
      | none => .fail
    | _, _ => .fail
  | .buildSlice t n parts => match dst, (tab.at t).k, partsOf ρ parts.toList with
    | some d, .sl e, some ps =>
      if ps.map (·.1) = List.range n ∧ h.used d = false then
        if n * (tab.at e).size > 16777216 then .fail else match listOf (tab.at e).ty (ps.map (·.2)) h with
        | some (xs, h1) => .ok none (.lf (.own d)) (some (h1.new d (.row e (tab.at e).ty xs)))
        | none => .fail
      else .fail
    | _, _, _ => .fail
  | .load t a => match ρ a with
    | some v => match loadO tab t h v with | some x => .ok none x none | none => .fail
    | none => .fail
  | .store t a x => match ρ a, ρ x with
    | some va, some vx => if (tab.at t).k = .other then .fail else match storeO tab t h va vx with | some h' => .ok none (.lf .bad) (some h') | none => .fail
    | _, _ => .fail
  | .nilCheck x => match ρ x with
    | some y => if liveP h y then .ok none y none else .fail
    | none => .fail
  | .binOp op xt x y _ => match ρ x, ρ y with
    | some a, some b => binO tab op xt a b
    | _, _ => .fail
  | .unOp op _ x => match op, ρ x with
    | .not, some (.lf (.bool b)) => .ok none (.lf (.bool (!b))) none
    | .neg, some (.lf (.int k n)) => .ok none (.lf (.int k (k.wrap (0 - n)))) none
    | _, _ => .fail
  | .convert src d x => match ρ x with | some v => convO tab src d h v | none => .fail
  | .makeSlice t l c => match dst, (tab.at t).k, ρ l, ρ c with
    | some d, .sl e, some (.lf (.int .i64 n)), some (.lf (.int .i64 m)) =>
      if h.used d then .fail else .ok (some (decide (0 ≤ n ∧ n ≤ m ∧ m * (tab.at e).bytes ≤ 140737488355328))) (.lf (.own d)) (some (h.new d (.row e (tab.at e).ty (List.replicate n.toNat (dflt (tab.at e).ty)))))
    | _, _, _, _ => .fail
  | .slice t x lo hi none => match ρ x, optOp ρ lo, optOp ρ hi with
    | some v, some l, some u => sliceO tab t h v l u
    | _, _, _ => .fail
  | .fieldAddr t x f => match field? tab t f, ρ x with
    | some (off, ft), some y => if (tab.at ft).size = 0 ∨ liveP h y = false then .fail else match moved off y with
      | some z => .ok none z none
      | none => .fail
    | _, _ => .fail
  | .indexAddr t x i => match (tab.at t).k, ρ x, ρ i with
    | .sl e, some (.lf (.sl τ xs)), some (.lf (.int _ n)) => if (tab.at e).ty ≠ τ then .fail else .ok (some (decide (0 ≤ n ∧ n < xs.length))) (.lf (.elp τ xs n.toNat 0)) none
    | .sl e, some (.lf (.own l)), some (.lf (.int _ n)) => match h.obj l with
      | some (.row _ τ xs) => if (tab.at e).ty ≠ τ then .fail else .ok (some (decide (0 ≤ n ∧ n < xs.length))) (.lf (.rowp l n.toNat 0)) none
      | _ => .fail
    | _, _, _ => .fail
  | .index T x i => match (tab.at T).k, ρ x, ρ i with
    | .str, some (.lf (.str s)), some (.lf (.int _ n)) => .ok (some (decide (0 ≤ n ∧ n < s.length))) (.lf (.int .u8 (s.getD n.toNat 0).toNat)) none
    | .arr m e, some (.ag cs), some (.lf (.int _ n)) => match selL (tab.at e).size cs n m 0 with
      | some ls => match asSV tab e ls with
        | some y => .ok (some (decide (0 ≤ n ∧ n < m))) y none
        | none => .fail
      | none => .fail
    | _, _, _ => .fail
  | .field t x f => match field? tab t f, ρ x with
    | some (off, ft), some (.ag cs) => match asSV tab ft (seg cs off (tab.at ft).size) with
      | some y => .ok none y none
      | none => .fail
    | _, _ => .fail
  | .extract x i => match ρ x with
    | some (.tup vs) => match vs[i]? with
      | some (true, cs) => .ok none (.ag cs) none
      | some (false, [y]) => .ok none (.lf y) none
      | _ => .fail
    | _ => .fail
  | .call c => match c.callee with
    | .builtin .len => match c.argTypes.toList, opnds ρ c.args.toList with
      | T :: _, some [x] => match lenO (tab.at T).k x h with | some n => .ok none (.lf (.int .i64 n)) none | none => .fail
      | _, _ => .fail
    | .builtin .append => match dst, c.argTypes.toList, opnds ρ c.args.toList with
      | some d, [T, T2], some [s, x] => appendO tab h d T T2 s x
      | _, _, _ => .fail
    | .builtin .copy => match c.argTypes.toList, opnds ρ c.args.toList with
      | [T, _], some [s, x] => copyO tab h T s x
      | _, _ => .fail
    | .builtin .min => match opnds ρ c.args.toList with
      | some [.lf (.int k a), .lf (.int k' b)] => if k = k' then .ok none (.lf (.int k (if b < a then b else a))) none else .fail
      | _ => .fail
    | .builtin .max => match opnds ρ c.args.toList with
      | some [.lf (.int k a), .lf (.int k' b)] => if k = k' then .ok none (.lf (.int k (if b > a then b else a))) none else .fail
      | _ => .fail
    | .value f => match calleeOf (ρ f), opnds ρ c.args.toList with
      | some (f, cap), some args => callO Γ h (dst.getD 999) f (args ++ cap)
      | _, _ => .fail
    | .invoke r name => match ρ r, opnds ρ c.args.toList with
      | some v, some args => invO tab Γ h (dst.getD 999) name args v
      | _, _ => .fail
    | _ => .fail
  | .makeInterface T x => match ρ x with
    | some v => mkIfc tab h T v
    | none => .fail
  | .typeAssert x _ T true => match ρ x with
    | some v => assertO tab T v
    | none => .fail
  | .makeFunc (.func f) first captured => match first.toList, opnds ρ captured.toList with
    | [], some xs => match boxesOf xs with
      | some ls => .ok none (.lf (.clo f ls)) none
      | none => .fail
    | _, _ => .fail
  | _ => .fail

def St.put (s : St) (dst : Option Nat) (x : SV) (h : Option Heap) : St :=
  match dst with
  | some d => ⟨upd s.env d x, s.gen, upd s.done d true, h.getD s.heap⟩
  | none => ⟨s.env, s.gen, s.done, h.getD s.heap⟩
def St.putG (s : St) (dst : Option Nat) (p : Path) (x : SV) : St :=
  match dst with
  | some d => ⟨upd s.env d (.lf .bad), upd s.gen d (some (p, x)), upd s.done d true, s.heap⟩
  | none => s
def St.putH (s : St) (dst : Option Nat) (p : Path) (x : SV) (h : Option Heap) : St :=
  match dst with
  | some d => ⟨upd s.env d (.lf .bad), upd s.gen d (some (p, x)), upd s.done d true, h.getD s.heap⟩
  | none => ⟨s.env, s.gen, s.done, h.getD s.heap⟩
/-- a guard that is known: its slot holds the constant -/
def litS (s : St) (i : Nat) (v : Bool) : St := match s.gen i with
  | none => match s.env i with
    | .lf (.bool _) => ⟨upd s.env i (.lf (.bool v)), s.gen, s.done, s.heap⟩
    | _ => s
  | some (q, .lf (.bool _)) => ⟨s.env, upd s.gen i (some (q, .lf (.bool v))), s.done, s.heap⟩
  | _ => s
def litP : Path → St → St
  | [], s => s
  | x :: r, s => litP r (litS s x.1 x.2)
def litF : Path → St → St
  | [x], s => litS s x.1 (!x.2)
  | _, s => s
def dstOk (nt : Nat) (s : St) : Option Nat → Bool
  | some d => decide (d < nt) && !s.done d
  | none => true

/-- One operation, then the rest. -/
def opK {R : Type} (tab : Tab) (Γ : Ctx) (nt : Nat) (ops : Array Oper) (o : Oper) (K : St → Option R) (s : St) : Option R :=
  if dstOk nt s o.dst then
    match guardPath ops s o.guard with
    | none => none
    | some [] => match opO tab Γ o.dst (opnd s) (opnd s []) s.heap o.op with
      | .fail => none
      | .ok none sv h => K (s.put o.dst sv h)
      | .ok (some t) sv h => if t then K (s.put o.dst sv h) else none
      | .call t q x f => x.bind fun r => K (s.put o.dst (f r).1 (match q with | true => none | false => (f r).2))
    | some p => match opO tab Γ o.dst (fun q => opnd s (p ++ q)) (opnd s p) s.heap o.op with
      | .ok none sv none => K (s.putG o.dst p sv)
      | .ok (some t) sv none => if !(gb s p) || t then K (s.putG o.dst p sv) else none
      | .fail => if gb s p then none else K ((litF p s).putH o.dst p (.lf .bad) none)
      | .ok t sv (some h) => if gb s p then (if t.getD true then K ((litP p s).putH o.dst p sv (some h)) else none) else K ((litF p s).putH o.dst p (.lf .bad) none)
      | .call t true x f => (if gb s p then x else some (dflt t)).bind fun r => K (s.putG o.dst p (f r).1)
      | .call t false x f => if gb s p then x.bind fun r => K ((litP p s).putH o.dst p (f r).1 (f r).2) else K ((litF p s).putH o.dst p (.lf .bad) none)
  else none

def opsK {R : Type} (tab : Tab) (Γ : Ctx) (nt : Nat) (ops : Array Oper) : List Oper → (St → Option R) → St → Option R
  | [], K, s => K s
  | o :: r, K, s => opK tab Γ nt ops o (opsK tab Γ nt ops r K) s


/-! ### code -/
inductive Ex where
  | normal | exit (id : Nat) | ret

inductive Cell where
  | v | row (l e : Nat) | cst (x : Lf)
inductive Ent where
  | sv (i : Nat)
  | sa (i n : Nat)
  | row (i l e : Nat)
  | cst (i : Nat) (x : Lf)
  | bx (l : Nat) (ro : Bool) (cells : List Cell)
structure Ann where
  ents : List Ent
  ty : Ty
  al : List (Nat × Nat × Nat)
structure Anns where
  loop : Nat → Option Ann
  join : Nat → Option (Bool × Ann)
  frz : Nat → List Nat

def Lf.same : Lf → Lf → Bool
  | .box l o, .box l' o' => l == l' && o == o'
  | .fn f, .fn g => f == g
  | .clo f ls, .clo g ls' => f == g && ls == ls'
  | .bad, _ => true
  | .nilsl, .nilsl => true
  | _, _ => false

/-- a row's content, and the heap without it -/
def takeRow (e : Nat) (h : Heap) : Lf → Option (Lf × Heap)
  | .own l => match h.obj l with
    | some (.row e' t xs) => if e' = e then some (.sl t xs, h.del l) else none
    | _ => none
  | .nilsl => some (.nilsl, h)
  | _ => none

def packC : List Cell → List Lf → Heap → Option (List Lf × Heap)
  | [], [], h => some ([], h)
  | .v :: cs, x :: xs, h => match frz h x with
    | (y, h1) => match packC cs xs h1 with
      | some (ys, h2) => some (y :: ys, h2)
      | none => none
  | .row _ e :: cs, x :: xs, h => match takeRow e h x with
    | some (y, h1) => match packC cs xs h1 with
      | some (ys, h2) => some (y :: ys, h2)
      | none => none
    | none => none
  | .cst c :: cs, x :: xs, h => if c.same x then packC cs xs h else none
  | _, _, _ => none

def packE (env : Nat → SV) : List Ent → Heap → Option (List Lf)
  | [], _ => some []
  | .sv i :: r, h => match env i with
    | .lf x => match frz h x with
      | (y, h1) => match packE env r h1 with
        | some ys => some (y :: ys)
        | none => none
    | _ => none
  | .sa i n :: r, h => match env i with
    | .ag cs => if cs.length = n then match frzAll h cs with
      | (ys, h1) => match packE env r h1 with
        | some zs => some (ys ++ zs)
        | none => none
      else none
    | _ => none
  | .row i _ e :: r, h => match env i with
    | .lf x => match takeRow e h x with
      | some (y, h1) => match packE env r h1 with
        | some ys => some (y :: ys)
        | none => none
      | none => none
    | _ => none
  | .cst i x :: r, h => match env i with
    | .lf y => if x.same y then packE env r h else none
    | _ => none
  | .bx l ro cells :: r, h => match h.obj l with
    | some (.box ro' cs) => if ro' && !ro then none else match packC cells cs h with
      | some (ys, h1) => match packE env r (h1.del l) with
        | some zs => some (ys ++ zs)
        | none => none
      | none => none
    | _ => none

def locsC : List Cell → List Nat
  | [] => []
  | .row l _ :: r => l :: locsC r
  | _ :: r => locsC r
def locsE : List Ent → List Nat
  | [] => []
  | .row _ l _ :: r => l :: locsE r
  | .bx l _ cells :: r => locsC cells ++ l :: locsE r
  | _ :: r => locsE r
def apartL : List Nat → Bool
  | [] => true
  | l :: r => !r.contains l && apartL r
/-- a value that is the same row as a cell of a box -/
def aliasOk (s : St) (q : Nat × Nat × Nat) : Bool := match s.env q.1, s.heap.obj q.2.1 with
  | .lf (.own k), some (.box _ cs) => match cs[q.2.2]?, s.heap.obj k with
    | some (.own k'), some (.row _ _ _) => k' == k
    | _, _ => false
  | _, _ => false
def cellAt (h : Heap) (l j : Nat) : SV := match h.obj l with
  | some (.box _ cs) => match cs[j]? with | some x => .lf x | none => .lf .bad
  | _ => .lf .bad
def alEs (h : Heap) : List (Nat × Nat × Nat) → (Nat → SV) → Nat → SV
  | [], e => e
  | q :: r, e => alEs h r (upd e q.1 (cellAt h q.2.1 q.2.2))
def pack (A : Ann) (s : St) : Option (Den A.ty) :=
  if apartL (locsE A.ents) = false ∨ A.al.all (aliasOk s) = false then none else
  match packE s.env A.ents s.heap with
  | some ls => ofAll A.ty ls
  | none => none

/-- a row's place filled -/
def rowAtL (h : Heap) (l e : Nat) : Lf → Heap
  | .sl t xs => if 0 < t.size then h.new l (.row e t xs) else h
  | _ => h

def cstOk (h : Heap) : Lf → Lf
  | .box l o => if h.used l then .box l o else .bad
  | .fn f => .fn f
  | .clo f ls => if ls.all h.used then .clo f ls else .bad
  | .nilsl => .nilsl
  | _ => .bad
def ownOk (h : Heap) (l : Nat) : Lf := if h.used l then .own l else .bad
def unpackC : List Cell → List Lf → Heap → List Lf × Heap × List Lf
  | [], ls, h => ([], h, ls)
  | .v :: cs, x :: ls, h => let q := unpackC cs ls h; (x :: q.1, q.2)
  | .row l e :: cs, x :: ls, h => let q := unpackC cs ls (rowAtL h l e x); (ownOk (rowAtL h l e x) l :: q.1, q.2)
  | .cst c :: cs, ls, h => let q := unpackC cs ls h; (cstOk h c :: q.1, q.2)
  | _, ls, h => ([], h, ls)

def unpackE : List Ent → List Lf → (Nat → SV) → Heap → (Nat → SV) × Heap
  | [], _, e, h => (e, h)
  | .sv i :: r, x :: ls, e, h => unpackE r ls (upd e i (.lf x)) h
  | .sa i n :: r, ls, e, h => unpackE r (ls.drop n) (upd e i (.ag (ls.take n))) h
  | .row i l t :: r, x :: ls, e, h => unpackE r ls (upd e i (.lf (ownOk (rowAtL h l t x) l))) (rowAtL h l t x)
  | .cst i x :: r, ls, e, h => unpackE r ls (upd e i (.lf (cstOk h x))) h
  | .bx l ro cells :: r, ls, e, h => match unpackC cells ls h with
    | (cs, h1, ls') => unpackE r ls' e (h1.new l (.box ro cs))
  | _, _, e, h => (e, h)

def emptyH : Heap := ⟨fun _ => none, fun _ => false⟩
def mkSt (e : Nat → SV) (h : Heap) : St := ⟨e, fun _ => none, fun _ => false, h⟩
def unpack (A : Ann) (d : Den A.ty) : St := match unpackE A.ents (leaves A.ty d) (fun _ => .lf .bad) emptyH with | (e, h) => mkSt (alEs h A.al e) h

def iter {D R : Type} (F : (D → Option R) → D → Option R) : Nat → D → Option R
  | 0, _ => none
  | n + 1, d => F (iter F n) d

def firstRegion : Code → Nat
  | .region id _ _ => id
  | .seq a _ => firstRegion a
  | .cond _ a _ => firstRegion a
  | .block _ c => firstRegion c
  | .loop c => firstRegion c
  | _ => 0

/-! ### regions in whatever order -/
def inF (F : List Nat) : Lf → Bool
  | .own l => F.contains l
  | .box l _ => F.contains l
  | .rowp l _ _ => F.contains l
  | .clo _ ls => ls.all F.contains
  | _ => true
def svF (F : List Nat) : SV → Bool
  | .lf x => inF F x
  | .ag cs => cs.all (inF F)
  | .tup xs => xs.all fun q => q.2.all (inF F)
def obF (F : List Nat) : Option Ob → Bool
  | some (.box _ cs) => cs.all (inF F)
  | _ => true
/-- the places that an operation may make -/
def dstF (Γ : Ctx) (F : List Nat) (dst : Option Nat) (ρ : Operand → Option SV) : Op → Bool
  | .call c => match c.callee with
    | .value f => match calleeOf (ρ f), opnds ρ c.args.toList with
      | some (g, cap), some args => match Γ (keyOf g (args ++ cap)) with
        | some con => (List.range con.outs.length).all fun k => F.contains (dst.getD 999 + 1000 * k)
        | none => true
      | _, _ => true
    | .invoke _ _ => (List.range 4).all fun k => F.contains (dst.getD 999 + 1000 * k)
    | _ => F.contains (dst.getD 999)
  | .alloc _ | .box _ _ | .buildSlice _ _ _ | .makeSlice _ _ _ => F.contains (dst.getD 999)
  | _ => true

structure An where
  i : Nat
  o : Oper
  p : Path
  F : List Nat
  c : Bool


def locsL : List Lf → List Nat
  | [] => []
  | .own l :: r => l :: locsL r
  | .box l _ :: r => l :: locsL r
  | .rowp l _ _ :: r => l :: locsL r
  | .clo _ ls :: r => ls ++ locsL r
  | _ :: r => locsL r
def svLocs : SV → List Nat
  | .lf x => locsL [x]
  | .ag cs => locsL cs
  | .tup xs => xs.flatMap fun q => locsL q.2
def addNew : List Nat → List Nat → List Nat
  | [], l => l
  | x :: r, l => if l.contains x then addNew r l else addNew r (x :: l)
def grow (h : Heap) (F : List Nat) : List Nat := F.foldl (fun acc l => match h.obj l with | some (.box _ cs) => addNew (locsL cs) acc | _ => acc) F
def mkLocs (Γ : Ctx) (dst : Option Nat) (ρ : Operand → Option SV) : Op → List Nat
  | .call c => match c.callee with
    | .value f => match calleeOf (ρ f), opnds ρ c.args.toList with
      | some (g, cap), some args => match Γ (keyOf g (args ++ cap)) with
        | some con => (List.range con.outs.length).map fun k => dst.getD 999 + 1000 * k
        | none => []
      | _, _ => []
    | .invoke _ _ => (List.range 4).map fun k => dst.getD 999 + 1000 * k
    | _ => [dst.getD 999]
  | .alloc _ | .box _ _ | .buildSlice _ _ _ | .makeSlice _ _ _ => [dst.getD 999]
  | _ => []
def foot (Γ : Ctx) (s : St) (p : Path) (o : Oper) : List Nat :=
  grow s.heap (grow s.heap (addNew (o.op.operands.toList.flatMap fun x => match opnd s p x with | some sv => svLocs sv | none => []) (mkLocs Γ o.dst (opnd s p) o.op)))
def outC (p : Path) : Out → Bool
  | .ok _ _ none => false
  | .call _ q _ _ => !q
  | _ => true
def okA (Γ : Ctx) (s : St) (A : An) : Bool :=
  (A.o.op.operands.toList.all fun x => match opnd s A.p x with | some sv => svF A.F sv | none => true) && (A.F.all fun l => obF A.F (s.heap.obj l)) && dstF Γ A.F A.o.dst (opnd s A.p) A.o.op
def offPath : Option Nat → Path → Bool
  | some d, p => p.all fun x => x.1 != d
  | none, _ => true
def indepB (ops : Array Oper) (A B : An) : Bool :=
  A.o.apart ops B.o && offPath A.o.dst B.p && offPath B.o.dst A.p && ((!A.c && !B.c) || A.F.all fun l => !B.F.contains l)
def depsOf (o : Oper) : List Nat := o.after.toList.filterMap fun e => if Region.binds .any e then some e.on else none
def ancT : List Oper → List (List Nat) → List (List Nat)
  | [], acc => acc
  | o :: r, acc => ancT r (acc ++ [(depsOf o).foldl (fun l k => addNew (acc.getD k []) l) (depsOf o)])
def edgesLow : Nat → List Oper → Bool
  | _, [] => true
  | i, o :: r => (depsOf o).all (fun k => decide (k < i)) && edgesLow (i + 1) r
def opsKD {R : Type} (tab : Tab) (Γ : Ctx) (nt : Nat) (ops : Array Oper) (T : List (List Nat)) : Nat → List Oper → List An → (St → Option R) → St → Option R
  | _, [], _, K, s => K s
  | i, o :: r, acc, K, s => match guardPath ops s o.guard with
    | none => none
    | some p =>
      let A : An := ⟨i, o, p, foot Γ s p o, outC p (opO tab Γ o.dst (fun q => opnd s (p ++ q)) (opnd s p) s.heap o.op)⟩
      if okA Γ s A && acc.all (fun B => (T.getD i []).contains B.i || indepB ops B A) then opK tab Γ nt ops o (opsKD tab Γ nt ops T (i + 1) r (A :: acc) K) s else none

/-- the rows in a box's cells become plain data -/
def fzB (h : Heap) (l : Nat) : Heap := match h.obj l with
  | some (.box ro cs) => match frzAll h cs with
    | (cs', h1) => h1.put l (.box ro cs')
  | _ => h
def fzs : List Nat → Heap → Heap
  | [], h => h
  | l :: r, h => fzs r (fzB h l)

def codeK (tab : Tab) (Γ : Ctx) (nt : Nat) (an : Anns) (n : Nat) : Code → (R : Type) → (Ex → St → Option R) → St → Option R
  | .skip, _, K, s => K .normal s
  | .region id ops draw, _, K, s =>
    match draw with
    | false => opsK tab Γ nt ops ops.toList (fun s' => K .normal (mkSt s'.env (fzs (an.frz id) s'.heap))) s
    | true => if edgesLow 0 ops.toList then opsKD tab Γ nt ops (ancT ops.toList []) 0 ops.toList [] (fun s' => K .normal (mkSt s'.env (fzs (an.frz id) s'.heap))) s else none
  | .seq a b, R, K, s => codeK tab Γ nt an n a R (fun e s' => match e with | .normal => codeK tab Γ nt an n b R K s' | .exit i => K (.exit i) s' | .ret => K .ret s') s
  | .cond c a b, R, K, s => match opnd s [] c with
    | some (.lf (.bool t)) =>
      match (match c with | .tmp i => an.join i | _ => none) with
      | none => if t then codeK tab Γ nt an n a R K s else codeK tab Γ nt an n b R K s
      | some (true, A) =>
        (if t then codeK tab Γ nt an n a (Den A.ty) (fun e s' => match e with | .normal => pack A s' | _ => none) s
         else codeK tab Γ nt an n b (Den A.ty) (fun e s' => match e with | .normal => pack A s' | _ => none) s).bind
          fun d => K .normal (unpack A d)
      | some (false, A) =>
        (if t then codeK tab Γ nt an n a (Den A.ty ⊕ R) (fun e s' => match e with | .normal => (pack A s').map .inl | e => (K e s').map .inr) s
         else codeK tab Γ nt an n b (Den A.ty ⊕ R) (fun e s' => match e with | .normal => (pack A s').map .inl | e => (K e s').map .inr) s).bind
          fun x => match x with | .inl d => K .normal (unpack A d) | .inr r => some r
    | _ => none
  | .block id c, R, K, s => codeK tab Γ nt an n c R (fun e s' => match e with | .exit i => if i = id then K .normal s' else K (.exit i) s' | .normal => K .normal s' | .ret => K .ret s') s
  | .loop c, R, K, s => match an.loop (firstRegion c) with
    | none => none
    | some A => match pack A s with
      | none => none
      | some d => iter (fun J d => codeK tab Γ nt an n c R (fun e s' => match e with
          | .normal => match pack A s' with | some d' => J d' | none => none
          | .exit i => K (.exit i) s'
          | .ret => K .ret s') (unpack A d)) n d
  | .exit id, _, K, s => K (.exit id) s
  | .ret, _, K, s => K .ret s
  | _, _, _, _ => none

def maskE : List (Option Ty) → List Lf → List Lf
  | [], _ => []
  | none :: m, ls => .bad :: maskE m ls
  | some t :: m, ls => (match ls with | x :: _ => x | [] => .bad) :: maskE m (ls.drop t.size)
def capE (h : Heap) (ls : List Lf) : Cap → List Lf
  | .ptr j => [if h.used (1000 + j) then .box (1000 + j) 0 else .bad]
  | .dat m => maskE m ls
def Cap.size : Cap → Nat
  | .ptr _ => 0
  | .dat m => (maskTy m).size
/-- captured variables as boxes -/
def capsE : Nat → List Cap → List Lf → Heap → Option Heap
  | _, [], _, h => some h
  | p, c :: r, ls, h => if h.used p = true ∨ 1000 ≤ p then none else capsE (p + 1) r (ls.drop c.size) (h.new p (.box true (capE h ls c)))
def qLf (p : Nat) : Option Nat → Nat → Lf
  | none, _ => .box p 0
  | some g, n => .clo g ((List.range n).map (p + ·))
def startE : Nat → List PK → List Lf → (Nat → SV) → Heap → (Nat → SV) × Heap
  | _, [], _, e, h => (e, h)
  | i, .v t :: r, ls, e, h => startE (i + 1) r (ls.drop t.size) (upd e i (match t.isAgg, ls with | true, _ => .ag (ls.take t.size) | false, x :: _ => .lf x | _, _ => .lf .bad)) h
  | i, .p ro t :: r, ls, e, h => startE (i + 1) r (ls.drop t.size) (upd e i (.lf (.box (1000 + i) 0))) (h.new (1000 + i) (.box ro (ls.take t.size)))
  | i, .f n :: r, ls, e, h => startE (i + 1) r ls (upd e i (.lf (.fn n))) h
  | i, .q how caps :: r, ls, e, h => match capsE (800 + 10 * i) caps ls h with
    | none => startE (i + 1) r (ls.drop (capsTy caps).size) (upd e i (.lf .bad)) h
    | some h' => startE (i + 1) r (ls.drop (capsTy caps).size) (upd e i (.lf (qLf (800 + 10 * i) how caps.length))) h'

def resSV (tab : Tab) (s : St) : ResultVar → Option SV
  | .tmp i => some (s.env i)
  | .cell i T => loadO tab T s.heap (s.env i)

def resE (tab : Tab) (s : St) : List ResultVar → List OK → Heap → Option (List Lf × Heap)
  | [], [], h => some ([], h)
  | v :: vs, .v t :: ts, h => match resSV tab s v with
    | some x => if kindOk t x = true ∧ x.leaves.length = t.size then
        match frzAll h x.leaves with
        | (cs, h1) => match resE tab s vs ts h1 with
          | some (r, h2) => some (cs ++ r, h2)
          | none => none
      else none
    | none => none
  | v :: vs, .o e t :: ts, h => if t.size = 0 then none else match resSV tab s v with
    | some (.lf x) => match takeRow e h x with
      | some (y, h1) => match resE tab s vs ts h1 with
        | some (r, h2) => some (y :: r, h2)
        | none => none
      | none => none
    | _ => none
  | _, _, _ => none

def statesE (h : Heap) : Nat → List PK → Option (List Lf)
  | _, [] => some []
  | i, .p false t :: r => match h.obj (1000 + i) with
    | some (.box _ cs) => if cs.length ≠ t.size then none else match frzAll (h.del (1000 + i)) cs with
      | (ys, h1) => match statesE h1 (i + 1) r with
        | some zs => some (ys ++ zs)
        | none => none
    | _ => none
  | i, _ :: r => statesE h (i + 1) r

def retK (tab : Tab) (ins : List PK) (outs : List OK) (rs : List ResultVar) (t : Ty) (s : St) : Option (Den t) :=
  match resE tab s rs outs s.heap with
  | some (cs, h) => match statesE h 0 ins with
    | some zs => ofAll t (cs ++ zs)
    | none => none
  | none => none

def fnK (tab : Tab) (Γ : Ctx) (an : Anns) (n : Nat) (f : Func) (body : Code) (ins : List PK) (outs : List OK) (d : Den (chain (ins.map PK.ty))) : Option (Den (chain (outs.map OK.ty ++ statesOf ins))) :=
  codeK tab Γ f.ntmps an n body _ (fun e s => match e with
    | .exit _ => none
    | _ => retK tab ins outs f.results.toList _ s) (match startE 0 ins (leaves _ d) (fun _ => .lf .bad) emptyH with | (e, h) => mkSt (fun k => e (k + nph ins)) h)

end Go.Eng


set_option linter.unusedVariables false
set_option linter.unusedSimpArgs false
namespace Go.Eng

/-! ### what is read -/
mutual
def Rd (w : World) (N : Nat → Prop) : (t : Ty) → Den t → (Nat → Option Value) → Prop
  | .int k, n, g => g 0 = some (.int k n)
  | .bool, b, g => g 0 = some (.bool b)
  | .str, s, g => g 0 = some (.string ⟨s.toArray⟩)
  | .sl t, xs, g => ∃ A c, g 0 = some (.slice A xs.length c) ∧ xs.length ≤ c ∧ ∀ i (h : i < xs.length), ∃ b o, A = some ⟨b, o, none⟩ ∧ ¬ N b ∧ b < w.heap.size ∧
      Rd w N t xs[i] (fun j => w.cell? ⟨b, o + i * t.size + j, none⟩)
  | .nil, _, _ => True
  | .cons t r, d, g => Rd w N t d.1 g ∧ Rd w N r d.2 (fun j => g (t.size + j))
  | .ifc ids p, d, g => (ids[d.1]? = none ∧ g 0 = some .nilIface) ∨ ∃ T u, ids[d.1]? = some T ∧ g 0 = some (.iface T u) ∧ RdAlt w N p d.2 d.1 u
/-- what an interface holds -/
def RdAlt (w : World) (N : Nat → Prop) : (t : Ty) → Den t → Nat → Value → Prop
  | .cons t r, d, 0, u => if t.isAgg = true then ∃ cs : Array Value, u = .agg cs ∧ cs.size = t.size ∧ Rd w N t d.1 (cs[·]?) else Rd w N t d.1 (fun j => if j = 0 then some u else none)
  | .cons t r, d, k + 1, u => RdAlt w N r d.2 k u
  | _, _, _, _ => False
end
/-- a value stands for data -/
def RdW (w : World) (N : Nat → Prop) (t : Ty) (d : Den t) (u : Value) : Prop := if t.isAgg = true then ∃ cs : Array Value, u = .agg cs ∧ cs.size = t.size ∧ Rd w N t d (cs[·]?) else Rd w N t d (fun j => if j = 0 then some u else none)

theorem leaves_length : ∀ (t : Ty) (d : Den t), (leaves t d).length = t.size
  | .int _, _ => rfl
  | .bool, _ => rfl
  | .str, _ => rfl
  | .sl _, _ => rfl
  | .nil, _ => rfl
  | .cons t r, d => by simp [leaves, Ty.size, leaves_length t, leaves_length r]
  | .ifc _ _, _ => rfl

theorem Rd.congr {w : World} {N : Nat → Prop} : ∀ {t : Ty} {d : Den t} {g g' : Nat → Option Value}, (∀ j, j < t.size → g j = g' j) → Rd w N t d g → Rd w N t d g'
  | .int _, _, _, _, h, hr => by simp only [Rd] at *; rw [← h 0 (by simp [Ty.size])]; exact hr
  | .bool, _, _, _, h, hr => by simp only [Rd] at *; rw [← h 0 (by simp [Ty.size])]; exact hr
  | .str, _, _, _, h, hr => by simp only [Rd] at *; rw [← h 0 (by simp [Ty.size])]; exact hr
  | .sl _, _, _, _, h, hr => by simp only [Rd] at *; rw [← h 0 (by simp [Ty.size])]; exact hr
  | .nil, _, _, _, _, _ => by simp only [Rd]
  | .ifc _ _, _, _, _, h, hr => by simp only [Rd] at *; rw [← h 0 (by simp [Ty.size])]; exact hr
  | .cons t r, d, g, g', h, hr => by
    simp only [Rd] at *
    exact ⟨Rd.congr (fun j hj => h j (by simp only [Ty.size]; omega)) hr.1, Rd.congr (fun j hj => h _ (by simp only [Ty.size]; omega)) hr.2⟩

/-- from one world to a later one: what may be read stays -/
structure Keeps (w : World) (N : Nat → Prop) (w' : World) (N' : Nat → Prop) : Prop where
  size : w.heap.size ≤ w'.heap.size
  block : ∀ b, b < w.heap.size → ¬ N b → w'.heap[b]? = w.heap[b]? ∧ ¬ N' b

theorem cell_of_block {w w' : World} {b : Nat} (h : w'.heap[b]? = w.heap[b]?) (o : Nat) : w'.cell? ⟨b, o, none⟩ = w.cell? ⟨b, o, none⟩ := by
  simp only [World.cell?, h]

mutual
theorem Rd.keeps {w w' : World} {N N' : Nat → Prop} (k : Keeps w N w' N') : ∀ {t : Ty} {d : Den t} {g : Nat → Option Value}, Rd w N t d g → Rd w' N' t d g
  | .int _, _, _, hr => by simpa only [Rd] using hr
  | .bool, _, _, hr => by simpa only [Rd] using hr
  | .str, _, _, hr => by simpa only [Rd] using hr
  | .nil, _, _, _ => by simp only [Rd]
  | .cons t r, d, g, hr => by simp only [Rd] at *; exact ⟨hr.1.keeps k, hr.2.keeps k⟩
  | .ifc ids p, d, g, hr => by
    simp only [Rd] at *
    rcases hr with h | ⟨T, u, h1, h2, h3⟩
    · exact .inl h
    · exact .inr ⟨T, u, h1, h2, RdAlt.keeps k h3⟩
  | .sl t, xs, g, hr => by
    simp only [Rd] at *
    obtain ⟨A, c, e, hc, h⟩ := hr
    refine ⟨A, c, e, hc, fun i hi => ?_⟩
    obtain ⟨b, o, hA, hN, hb, hx⟩ := h i hi
    refine ⟨b, o, hA, (k.block b hb hN).2, Nat.lt_of_lt_of_le hb k.size, ?_⟩
    refine Rd.congr (fun j _ => ?_) (hx.keeps k)
    exact (cell_of_block (k.block b hb hN).1 _).symm
theorem RdAlt.keeps {w w' : World} {N N' : Nat → Prop} (k : Keeps w N w' N') : ∀ {t : Ty} {d : Den t} {i : Nat} {u : Value}, RdAlt w N t d i u → RdAlt w' N' t d i u
  | .cons t r, d, 0, u, h => by
    simp only [RdAlt] at *
    split at h
    · rename_i ha
      rw [if_pos ha]
      obtain ⟨cs, e, hs, hr⟩ := h
      exact ⟨cs, e, hs, hr.keeps k⟩
    · rename_i ha
      rw [if_neg ha]
      exact h.keeps k
  | .cons t r, d, i + 1, u, h => by simp only [RdAlt] at *; exact RdAlt.keeps k h
  | .int _, _, _, _, h => by simp only [RdAlt] at h
  | .bool, _, _, _, h => by simp only [RdAlt] at h
  | .str, _, _, _, h => by simp only [RdAlt] at h
  | .sl _, _, _, _, h => by simp only [RdAlt] at h
  | .nil, _, _, _, h => by simp only [RdAlt] at h
  | .ifc _ _, _, _, _, h => by simp only [RdAlt] at h
end
theorem RdW.keeps {w w' : World} {N N' : Nat → Prop} (k : Keeps w N w' N') {t : Ty} {d : Den t} {u : Value} (h : RdW w N t d u) : RdW w' N' t d u := by
  unfold RdW at *
  split at h
  · rename_i ha
    rw [if_pos ha]
    obtain ⟨cs, e, hs, hr⟩ := h
    exact ⟨cs, e, hs, hr.keeps k⟩
  · rename_i ha
    rw [if_neg ha]
    exact h.keeps k

theorem Keeps.refl (w : World) (N : Nat → Prop) : Keeps w N w N := ⟨Nat.le_refl _, fun _ _ h => ⟨rfl, h⟩⟩
theorem Keeps.trans {w w' w'' : World} {N N' N'' : Nat → Prop} (a : Keeps w N w' N') (b : Keeps w' N' w'' N'') : Keeps w N w'' N'' :=
  ⟨Nat.le_trans a.size b.size, fun i hi hn => by
    obtain ⟨e, hn'⟩ := a.block i hi hn
    obtain ⟨e', hn''⟩ := b.block i (Nat.lt_of_lt_of_le hi a.size) hn'
    exact ⟨e'.trans e, hn''⟩⟩

/-! ### leaves and values -/
structure Cx where
  ι : Nat → Value
  h : Heap
  w : World
  N : Nat → Prop

def LR (c : Cx) : Lf → Value → Prop
  | .bad, _ => True
  | .int k n, v => v = .int k n
  | .bool b, v => v = .bool b
  | .str s, v => v = .string ⟨s.toArray⟩
  | .sl t xs, v => Rd c.w c.N (.sl t) xs (fun j => if j = 0 then some v else none)
  | .nilsl, v => v = .slice none 0 0
  | .own l, v => c.h.used l = true ∧ v.oneCell' = true ∧ ∀ e t xs, c.h.obj l = some (.row e t xs) → v = c.ι l
  | .box l off, v => c.h.used l = true ∧ v.oneCell' = true ∧ ∀ ro cs, c.h.obj l = some (.box ro cs) → ∃ g, c.ι l = .pointer (some ⟨g, 0, none⟩) ∧ v = .pointer (some ⟨g, off, none⟩)
  | .rowp l i off, v => c.h.used l = true ∧ v.oneCell' = true ∧ ∀ e t xs, c.h.obj l = some (.row e t xs) → i < xs.length ∧ ∃ g n cap, c.ι l = .slice (some ⟨g, 0, none⟩) n cap ∧ v = .pointer (some ⟨g, i * t.size + off, none⟩)
  | .elp t xs i off, v => ∃ b o, v = .pointer (some ⟨b, o + off, none⟩) ∧ i < xs.length ∧ ¬ c.N b ∧ b < c.w.heap.size ∧ Rd c.w c.N t (xs.getD i (dflt t)) (fun j => c.w.cell? ⟨b, o + j, none⟩)
  | .fn f, v => v = .func (.func f) #[] #[]
  | .clo f ls, v => ∃ vs : List Value, v = .func (.func f) #[] vs.toArray ∧ vs.length = ls.length ∧ ∀ (i l : Nat) (u : Value), ls[i]? = some l → vs[i]? = some u →
      c.h.used l = true ∧ u.oneCell' = true ∧ ∀ ro cs, c.h.obj l = some (.box ro cs) → ∃ g, c.ι l = .pointer (some ⟨g, 0, none⟩) ∧ u = .pointer (some ⟨g, 0, none⟩)
  | .dyn T t d, v => ∃ u, v = .iface T u ∧ RdW c.w c.N t d u
  | .ifc ids p k d, v => Rd c.w c.N (.ifc ids p) (k, d) (fun j => if j = 0 then some v else none)
  | .nilif, v => v = .nilIface
  | .gad g, v => v = .pointer (some ⟨g, 0, none⟩)

/-- a list of leaves stands in cells -/
def LsR (c : Cx) (ls : List Lf) (g : Nat → Option Value) : Prop := ∀ j x, ls[j]? = some x → ∃ v, g j = some v ∧ LR c x v

theorem LsR.nil (c : Cx) (g : Nat → Option Value) : LsR c [] g := fun j x h => by simp at h
theorem LsR.cons {c : Cx} {x : Lf} {ls : List Lf} {g : Nat → Option Value} : LsR c (x :: ls) g ↔ (∃ v, g 0 = some v ∧ LR c x v) ∧ LsR c ls (fun j => g (j + 1)) := by
  constructor
  · intro h
    exact ⟨h 0 x rfl, fun j y hy => h (j + 1) y (by simpa using hy)⟩
  · rintro ⟨h0, h1⟩ j y hy
    cases j with
    | zero => simp at hy; subst hy; exact h0
    | succ j => exact h1 j y (by simpa using hy)
theorem LsR.append {c : Cx} {l1 l2 : List Lf} {g : Nat → Option Value} : LsR c (l1 ++ l2) g ↔ LsR c l1 g ∧ LsR c l2 (fun j => g (l1.length + j)) := by
  induction l1 generalizing g with
  | nil => simp [LsR.nil]
  | cons x r ih =>
    simp only [List.cons_append, LsR.cons, ih, List.length_cons]
    have : (fun j => g (r.length + 1 + j)) = fun j => g (r.length + j + 1) := by funext j; congr 1; omega
    rw [this, and_assoc]
theorem LsR.congr {c : Cx} {l : List Lf} {g g' : Nat → Option Value} (h : ∀ j, j < l.length → g j = g' j) (hr : LsR c l g) : LsR c l g' := by
  intro j x hx
  obtain ⟨v, e, hv⟩ := hr j x hx
  exact ⟨v, by rw [← h j (List.getElem?_eq_some_iff.1 hx).1]; exact e, hv⟩
theorem LsR.drop {c : Cx} {l : List Lf} {g : Nat → Option Value} (n : Nat) (hr : LsR c l g) : LsR c (l.drop n) (fun j => g (n + j)) := by
  intro j x hx
  exact hr (n + j) x (by simpa using hx)
theorem LsR.take {c : Cx} {l : List Lf} {g : Nat → Option Value} (n : Nat) (hr : LsR c l g) : LsR c (l.take n) g := by
  intro j x hx
  refine hr j x ?_
  rw [List.getElem?_take] at hx
  split at hx
  · exact hx
  · simp at hx

theorem rd_leaves {c : Cx} : ∀ {t : Ty} {d : Den t} {g : Nat → Option Value}, Rd c.w c.N t d g → LsR c (leaves t d) g
  | .int k, n, g, h => by simp only [leaves, LsR.cons, LR]; exact ⟨⟨_, h, rfl⟩, LsR.nil _ _⟩
  | .bool, n, g, h => by simp only [leaves, LsR.cons, LR]; exact ⟨⟨_, h, rfl⟩, LsR.nil _ _⟩
  | .str, n, g, h => by simp only [leaves, LsR.cons, LR]; exact ⟨⟨_, h, rfl⟩, LsR.nil _ _⟩
  | .nil, _, _, _ => LsR.nil _ _
  | .ifc ids p, d, g, h => by
    simp only [leaves, LsR.cons, LR]
    have h' := h
    simp only [Rd] at h'
    rcases h' with ⟨_, e⟩ | ⟨T, u, _, e, _⟩
    · exact ⟨⟨_, e, Rd.congr (fun j hj => by simp only [Ty.size] at hj; have : j = 0 := by omega
                                             subst this; simp [e]) h⟩, LsR.nil _ _⟩
    · exact ⟨⟨_, e, Rd.congr (fun j hj => by simp only [Ty.size] at hj; have : j = 0 := by omega
                                             subst this; simp [e]) h⟩, LsR.nil _ _⟩
  | .cons t r, d, g, h => by
    simp only [Rd] at h
    simp only [leaves, LsR.append, leaves_length]
    exact ⟨rd_leaves h.1, rd_leaves h.2⟩
  | .sl t, xs, g, h => by
    simp only [Rd] at h
    obtain ⟨A, cap, e, hx⟩ := h
    simp only [leaves, LsR.cons, LR]
    refine ⟨⟨_, e, ?_⟩, LsR.nil _ _⟩
    simp only [Rd]
    exact ⟨A, cap, by simp, hx⟩

theorem slOf_rd {c : Cx} {t : Ty} {x : Lf} {xs : List (Den t)} {v : Value} (h : slOf t x = some xs) (hx : LR c x v) : Rd c.w c.N (.sl t) xs (fun j => if j = 0 then some v else none) := by
  cases x with
  | sl t' ys =>
    simp only [slOf] at h
    split at h
    · rename_i e
      subst e
      simp only [Option.some.injEq] at h
      subst h
      exact hx
    · simp at h
  | nilsl =>
    simp only [slOf, Option.some.injEq] at h
    subst h
    simp only [LR] at hx
    subst hx
    simp only [Rd]
    exact ⟨none, 0, by simp, by simp, fun i hi => by simp at hi⟩
  | _ => simp [slOf] at h

theorem injD_rd {w : World} {N : Nat → Prop} : ∀ {ids : List Nat} {p : Ty} {T : Nat} {t : Ty} {d : Den t} {y : Nat × Den p} {u : Value}, injD ids p T t d = some y → RdW w N t d u → ids[y.1]? = some T ∧ RdAlt w N p y.2 y.1 u
  | [], p, T, t, d, y, u, h, _ => by cases p <;> simp [injD] at h
  | T' :: ids, p, T, t, d, y, u, h, hr => by
    cases p with
    | cons t' r =>
      simp only [injD] at h
      split at h
      · rename_i e
        subst e
        split at h
        · rename_i e
          subst e
          simp only [Option.some.injEq] at h
          subst h
          refine ⟨rfl, ?_⟩
          simp only [RdAlt]
          exact hr
        · cases h
      · split at h
        · rename_i k e he
          simp only [Option.some.injEq] at h
          subst h
          obtain ⟨h1, h2⟩ := injD_rd he hr
          refine ⟨by simpa using h1, ?_⟩
          simp only [RdAlt]
          exact h2
        · cases h
    | _ => simp [injD] at h
theorem ofIf_rd {c : Cx} {ids : List Nat} {p : Ty} {x : Lf} {y : Nat × Den p} {v : Value} (h : ofIf ids p x = some y) (hx : LR c x v) : Rd c.w c.N (.ifc ids p) y (fun j => if j = 0 then some v else none) := by
  cases x with
  | ifc ids' p' k d =>
    simp only [ofIf] at h
    split at h
    · rename_i e
      subst e
      split at h
      · rename_i e
        subst e
        simp only [Option.some.injEq] at h
        subst h
        exact hx
      · cases h
    · cases h
  | nilif =>
    simp only [ofIf, Option.some.injEq] at h
    subst h
    simp only [LR] at hx
    subst hx
    simp only [Rd]
    exact .inl ⟨by simp, rfl⟩
  | dyn T t d =>
    simp only [ofIf] at h
    simp only [LR] at hx
    obtain ⟨u, rfl, hr⟩ := hx
    obtain ⟨h1, h2⟩ := injD_rd h hr
    simp only [Rd]
    exact .inr ⟨T, u, h1, rfl, h2⟩
  | _ => simp [ofIf] at h
theorem ofL_rd {c : Cx} : ∀ {t : Ty} {l : List Lf} {d : Den t} {r : List Lf} {g : Nat → Option Value}, ofL t l = some (d, r) → LsR c l g →
    Rd c.w c.N t d g ∧ r = l.drop t.size ∧ t.size ≤ l.length
  | .int k, l, d, r, g, h, hl => by
    match l, h, hl with
    | .int k' n :: l', h, hl =>
      simp only [ofL] at h
      split at h
      · rename_i e
        simp only [Option.some.injEq, Prod.mk.injEq] at h
        obtain ⟨rfl, rfl⟩ := h
        subst e
        obtain ⟨⟨v, e, hv⟩, _⟩ := LsR.cons.1 hl
        simp only [LR] at hv
        subst hv
        exact ⟨e, rfl, by simp [Ty.size]⟩
      · simp at h
  | .bool, l, d, r, g, h, hl => by
    match l, h, hl with
    | .bool b :: l', h, hl =>
      simp only [ofL, Option.some.injEq, Prod.mk.injEq] at h
      obtain ⟨rfl, rfl⟩ := h
      obtain ⟨⟨v, e, hv⟩, _⟩ := LsR.cons.1 hl
      simp only [LR] at hv
      subst hv
      exact ⟨e, rfl, by simp [Ty.size]⟩
  | .str, l, d, r, g, h, hl => by
    match l, h, hl with
    | .str b :: l', h, hl =>
      simp only [ofL, Option.some.injEq, Prod.mk.injEq] at h
      obtain ⟨rfl, rfl⟩ := h
      obtain ⟨⟨v, e, hv⟩, _⟩ := LsR.cons.1 hl
      simp only [LR] at hv
      subst hv
      exact ⟨e, rfl, by simp [Ty.size]⟩
  | .nil, l, d, r, g, h, hl => by
    simp only [ofL, Option.some.injEq, Prod.mk.injEq] at h
    exact ⟨trivial, by simp [Ty.size, h.2], Nat.zero_le _⟩
  | .sl t, l, d, r, g, h, hl => by
    match l, h, hl with
    | x :: l', h, hl =>
      simp only [ofL] at h
      split at h
      · rename_i xs hs
        simp only [Option.some.injEq, Prod.mk.injEq] at h
        obtain ⟨rfl, rfl⟩ := h
        obtain ⟨⟨v, e, hv⟩, _⟩ := LsR.cons.1 hl
        refine ⟨Rd.congr (fun j hj => ?_) (slOf_rd hs hv), rfl, by simp [Ty.size]⟩
        have : j = 0 := by simp only [Ty.size] at hj; omega
        subst this
        simp [e]
      · simp at h
    | [], h, hl => simp [ofL] at h
  | .ifc ids p, l, d, r, g, h, hl => by
    match l, h, hl with
    | x :: l', h, hl =>
      simp only [ofL] at h
      split at h
      · rename_i y hs
        simp only [Option.some.injEq, Prod.mk.injEq] at h
        obtain ⟨rfl, rfl⟩ := h
        obtain ⟨⟨v, e, hv⟩, _⟩ := LsR.cons.1 hl
        refine ⟨Rd.congr (fun j hj => ?_) (ofIf_rd hs hv), rfl, by simp [Ty.size]⟩
        have : j = 0 := by simp only [Ty.size] at hj; omega
        subst this
        simp [e]
      · simp at h
    | [], h, hl => simp [ofL] at h
  | .cons t u, l, d, r, g, h, hl => by
    simp only [ofL] at h
    split at h
    · rename_i d1 l1 h1
      split at h
      · rename_i d2 l2 h2
        simp only [Option.some.injEq, Prod.mk.injEq] at h
        obtain ⟨rfl, rfl⟩ := h
        obtain ⟨a1, a2, a3⟩ := ofL_rd h1 hl
        subst a2
        obtain ⟨b1, b2, b3⟩ := ofL_rd h2 (hl.drop t.size)
        refine ⟨⟨a1, b1⟩, by rw [b2, List.drop_drop]; rfl, ?_⟩
        simp only [List.length_drop] at b3
        simp only [Ty.size]; omega
      · simp at h
    · simp at h

theorem ofAll_rd {c : Cx} {t : Ty} {l : List Lf} {d : Den t} {g : Nat → Option Value} (h : ofAll t l = some d) (hl : LsR c l g) : Rd c.w c.N t d g ∧ l.length = t.size := by
  unfold ofAll at h
  split at h
  · rename_i d' h'
    simp only [Option.some.injEq] at h
    subst h
    obtain ⟨a, b, e⟩ := ofL_rd h' hl
    refine ⟨a, ?_⟩
    have := congrArg List.length b
    simp only [List.length_nil, List.length_drop] at this
    omega
  · simp at h

/-! ### a context goes over into a later one -/
def Shape : Ob → Ob → Prop
  | .box _ _, .box _ _ => True
  | .row e t xs, .row e' t' xs' => e = e' ∧ t = t' ∧ xs.length = xs'.length
  | _, _ => False
structure Ext (c c' : Cx) : Prop where
  keeps : Keeps c.w c.N c'.w c'.N
  used : ∀ l, c.h.used l = true → c'.h.used l = true
  place : ∀ l, c.h.used l = true → c'.ι l = c.ι l
  obj : ∀ l o', c.h.used l = true → c'.h.obj l = some o' → ∃ o, c.h.obj l = some o ∧ Shape o o'
theorem Shape.refl : ∀ o, Shape o o
  | .box _ _ => trivial
  | .row _ _ _ => ⟨rfl, rfl, rfl⟩
theorem Shape.trans : ∀ {a b c : Ob}, Shape a b → Shape b c → Shape a c
  | .box _ _, .box _ _, .box _ _, _, _ => trivial
  | .row _ _ _, .row _ _ _, .row _ _ _, h, k => ⟨h.1.trans k.1, h.2.1.trans k.2.1, h.2.2.trans k.2.2⟩
theorem Ext.refl (c : Cx) : Ext c c := ⟨Keeps.refl _ _, fun _ h => h, fun _ _ => rfl, fun _ o _ h => ⟨o, h, Shape.refl o⟩⟩
theorem Ext.trans {a b c : Cx} (h : Ext a b) (k : Ext b c) : Ext a c :=
  ⟨h.keeps.trans k.keeps, fun l hl => k.used l (h.used l hl), fun l hl => (k.place l (h.used l hl)).trans (h.place l hl), fun l o hl ho => by
    obtain ⟨o1, h1, s1⟩ := k.obj l o (h.used l hl) ho
    obtain ⟨o2, h2, s2⟩ := h.obj l o1 hl h1
    exact ⟨o2, h2, s2.trans s1⟩⟩

theorem LR.ext {c c' : Cx} (k : Ext c c') : ∀ {x : Lf} {v : Value}, LR c x v → LR c' x v
  | .bad, _, _ => trivial
  | .int _ _, _, h => h
  | .bool _, _, h => h
  | .str _, _, h => h
  | .sl t xs, _, h => by simp only [LR] at *; exact h.keeps k.keeps
  | .nilsl, _, h => h
  | .fn _, _, h => h
  | .nilif, _, h => h
  | .gad _, _, h => h
  | .dyn T t d, _, h => by simp only [LR] at *; obtain ⟨u, e, hr⟩ := h; exact ⟨u, e, hr.keeps k.keeps⟩
  | .ifc ids p i d, _, h => by simp only [LR] at *; exact h.keeps k.keeps
  | .clo f ls, v, h => by
    simp only [LR] at *
    obtain ⟨vs, e, hl, hb⟩ := h
    refine ⟨vs, e, hl, fun i l u hi hu => ?_⟩
    obtain ⟨h1, h2, h3⟩ := hb i l u hi hu
    refine ⟨k.used l h1, h2, fun ro cs ho => ?_⟩
    obtain ⟨o, h4, s⟩ := k.obj l _ h1 ho
    cases o with
    | row _ _ _ => exact s.elim
    | box _ _ =>
      rw [k.place l h1]
      exact h3 _ _ h4
  | .own l, v, h => by
    simp only [LR] at *
    refine ⟨k.used l h.1, h.2.1, fun e t xs ho => ?_⟩
    obtain ⟨o, h1, s⟩ := k.obj l _ h.1 ho
    cases o with
    | box _ _ => exact s.elim
    | row e' t' xs' =>
      rw [k.place l h.1]
      exact h.2.2 _ _ _ h1
  | .box l off, v, h => by
    simp only [LR] at *
    refine ⟨k.used l h.1, h.2.1, fun ro cs ho => ?_⟩
    obtain ⟨o, h1, s⟩ := k.obj l _ h.1 ho
    cases o with
    | row _ _ _ => exact s.elim
    | box _ _ =>
      rw [k.place l h.1]
      exact h.2.2 _ _ h1
  | .rowp l i off, v, h => by
    simp only [LR] at *
    refine ⟨k.used l h.1, h.2.1, fun e t xs ho => ?_⟩
    obtain ⟨o, h1, s⟩ := k.obj l _ h.1 ho
    cases o with
    | box _ _ => exact s.elim
    | row e' t' xs' =>
      obtain ⟨rfl, rfl, hl⟩ := s
      rw [k.place l h.1, ← hl]
      exact h.2.2 _ _ _ h1
  | .elp t xs i off, v, h => by
    simp only [LR] at *
    obtain ⟨b, o, e, hi, hn, hb, hr⟩ := h
    refine ⟨b, o, e, hi, (k.keeps.block b hb hn).2, Nat.lt_of_lt_of_le hb k.keeps.size, ?_⟩
    exact Rd.congr (fun j _ => (cell_of_block (k.keeps.block b hb hn).1 _).symm) (hr.keeps k.keeps)
theorem LsR.ext {c c' : Cx} (k : Ext c c') {l : List Lf} {g : Nat → Option Value} (h : LsR c l g) : LsR c' l g :=
  fun j x hx => let ⟨v, e, hv⟩ := h j x hx; ⟨v, e, hv.ext k⟩

theorem LR.one {c : Cx} : ∀ {x : Lf} {v : Value}, LR c x v → x.ok = true → v.oneCell' = true
  | .int _ _, v, h, _ => by simp only [LR] at h; subst h; rfl
  | .bool _, v, h, _ => by simp only [LR] at h; subst h; rfl
  | .str _, v, h, _ => by simp only [LR] at h; subst h; rfl
  | .nilsl, v, h, _ => by simp only [LR] at h; subst h; rfl
  | .fn _, v, h, _ => by simp only [LR] at h; subst h; rfl
  | .clo _ _, v, h, _ => by simp only [LR] at h; obtain ⟨vs, rfl, _⟩ := h; rfl
  | .sl _ _, v, h, _ => by
    simp only [LR, Rd] at h
    obtain ⟨A, cc, e, _⟩ := h
    simp at e
    subst e
    rfl
  | .elp _ _ _ _, v, h, _ => by simp only [LR] at h; obtain ⟨b, o, rfl, _⟩ := h; rfl
  | .nilif, v, h, _ => by simp only [LR] at h; subst h; rfl
  | .gad _, v, h, _ => by simp only [LR] at h; subst h; rfl
  | .dyn _ _ _, v, h, _ => by simp only [LR] at h; obtain ⟨u, rfl, _⟩ := h; rfl
  | .ifc _ _ _ _, v, h, _ => by
    simp only [LR, Rd] at h
    rcases h with ⟨_, e⟩ | ⟨T, u, _, e, _⟩
    · simp at e; subst e; rfl
    · simp at e; subst e; rfl
  | .own l, v, h, _ => h.2.1
  | .box l o, v, h, _ => h.2.1
  | .rowp l i o, v, h, _ => h.2.1

def V1R (c : Cx) : Bool × List Lf → Value → Prop
  | (true, cs), v => ∃ vs, v = .agg vs ∧ vs.size = cs.length ∧ LsR c cs (vs[·]?)
  | (false, cs), v => ∃ x, cs = [x] ∧ LR c x v
def SVR (c : Cx) : SV → Value → Prop
  | .lf x, v => LR c x v
  | .ag cs, v => ∃ vs, v = .agg vs ∧ vs.size = cs.length ∧ LsR c cs (vs[·]?)
  | .tup xs, v => ∃ vs : Array Value, v = .tuple vs ∧ vs.size = xs.length ∧ ∀ (j : Nat) (x : Bool × List Lf), xs[j]? = some x → ∃ u, vs[j]? = some u ∧ V1R c x u
theorem V1R.ext {c c' : Cx} (k : Ext c c') : ∀ {x : Bool × List Lf} {v : Value}, V1R c x v → V1R c' x v
  | (true, _), _, ⟨vs, e, hs, h⟩ => ⟨vs, e, hs, h.ext k⟩
  | (false, _), _, ⟨x, e, h⟩ => ⟨x, e, h.ext k⟩
theorem SVR.ext {c c' : Cx} (k : Ext c c') : ∀ {x : SV} {v : Value}, SVR c x v → SVR c' x v
  | .lf _, _, h => by simp only [SVR] at *; exact h.ext k
  | .ag _, _, ⟨vs, e, hs, h⟩ => ⟨vs, e, hs, h.ext k⟩
  | .tup _, _, ⟨vs, e, hs, h⟩ => ⟨vs, e, hs, fun j x hx => let ⟨u, hu, hv⟩ := h j x hx; ⟨u, hu, hv.ext k⟩⟩

/-! ### objects -/
def blk : Value → Option Nat
  | .slice (some a) _ _ => some a.block
  | .pointer (some a) => some a.block
  | _ => none
/-- 'B': blocks from there on are new -/
def OR (B : Nat) (W : Nat → Prop) (c : Cx) (l : Nat) : Ob → Prop
  | .box ro cs => ∃ g, c.ι l = .pointer (some ⟨g, 0, none⟩) ∧ (ro = false → W g) ∧ ∃ vs T, c.w.heap[g]? = some (.cells vs T (0, 0)) ∧ vs.size = cs.length ∧ LsR c cs (vs[·]?)
  | .row e t xs => 0 < t.size ∧ ∃ vs, c.w.ownsRow B e t.size (c.ι l) xs.length vs ∧ ∀ i (h : i < xs.length), Rd c.w c.N t xs[i] (fun j => vs[i * t.size + j]?)

structure Kp (W : Nat → Prop) (w0 w : World) : Prop where
  os : w.os = w0.os
  tape : w.tape = w0.tape
  output : w.output = w0.output
  size : w0.heap.size ≤ w.heap.size
  block : ∀ b, b < w0.heap.size → ¬ W b → w.heap[b]? = w0.heap[b]?

/-- what holds no list and no address -/
def Ty.flat : Ty → Bool
  | .int _ | .bool | .str | .nil => true
  | .cons t r => t.flat && r.flat
  | _ => false
theorem Rd.flat {w w' : World} {N N' : Nat → Prop} : ∀ {t : Ty} {d : Den t} {g : Nat → Option Value}, t.flat = true → Rd w N t d g → Rd w' N' t d g
  | .int _, _, _, _, h => by simp only [Rd] at *; exact h
  | .bool, _, _, _, h => by simp only [Rd] at *; exact h
  | .str, _, _, _, h => by simp only [Rd] at *; exact h
  | .nil, _, _, _, h => by simp only [Rd]
  | .cons t r, d, g, hf, h => by
    simp only [Ty.flat, Bool.and_eq_true] at hf
    simp only [Rd] at *
    exact ⟨h.1.flat hf.1, h.2.flat hf.2⟩
  | .sl _, _, _, hf, _ => by cases hf
  | .ifc _ _, _, _, hf, _ => by cases hf
/-- the program's variables that are told: nobody writes them -/
def GI (tab : Tab) (w : World) (N : Nat → Prop) : Prop := ∀ g τ d, (tab.at g).gl = some ⟨τ, d⟩ → τ.flat = true ∧ g < w.heap.size ∧ ¬ N g ∧ Rd w N τ d (fun j => w.cell? ⟨g, j, none⟩)

/-- what a run of a function stands on: its first world, the blocks that it may write, the blocks that nobody reads through -/
structure Bd (tab : Tab) where
  w0 : World
  W : Nat → Prop
  N0 : Nat → Prop
  fresh : ∀ b, w0.heap.size ≤ b → W b
  pin : Nat → Option Value
  lo : ∀ l, l < 1000 → pin l = none
  gi : GI tab w0 N0
  gw : ∀ g, (tab.at g).gl ≠ none → ¬ W g
/-- the heaps of the engine and of the world -/
structure HR {tab : Tab} (B : Bd tab) (c : Cx) : Prop where
  obj : ∀ l o, c.h.obj l = some o → c.h.used l = true ∧ OR B.w0.heap.size B.W c l o
  own : ∀ l o g, c.h.obj l = some o → blk (c.ι l) = some g → c.N g
  inj : ∀ l l' o o' g, c.h.obj l = some o → c.h.obj l' = some o' → blk (c.ι l) = some g → blk (c.ι l') = some g → l = l'
  keep : Kp B.W B.w0 c.w
  base : ∀ b, b < B.w0.heap.size → B.N0 b → c.N b
  low : ∀ b, b < B.w0.heap.size → c.N b → B.N0 b
  pin : ∀ l ro cs v, c.h.obj l = some (.box ro cs) → B.pin l = some v → c.ι l = v

structure Inv {tab : Tab} (B : Bd tab) (nt : Nat) (ι : Nat → Value) (N : Nat → Prop) (s : St) (a : Act) (w : World) : Prop where
  nt : a.tmps.size = nt
  defers : a.defers = []
  heap : HR B ⟨ι, s.heap, w, N⟩
  env : ∀ i, SVR ⟨ι, s.heap, w, N⟩ (s.env i) (a.tmps.getD i undef)
  gen : ∀ i p sv, s.gen i = some (p, sv) → s.done i = true ∧ (∀ x ∈ p, s.done x.1 = true ∧ (slotBool s x.1).isSome) ∧ (gb s p = true → SVR ⟨ι, s.heap, w, N⟩ sv (a.tmps.getD i undef)) ∧ (gb s p = false → a.tmps.getD i undef = undef)

theorem HR.gi {tab : Tab} {B : Bd tab} {c : Cx} (hr : HR B c) : GI tab c.w c.N := by
  intro g τ d h
  obtain ⟨hf, hs, hn, hrd⟩ := B.gi g τ d h
  have hw := B.gw g (by rw [h]; simp)
  refine ⟨hf, Nat.lt_of_lt_of_le hs hr.keep.size, fun hc => hn (hr.low g hs hc), ?_⟩
  exact Rd.congr (fun j _ => (cell_of_block (hr.keep.block g hs hw) _).symm) (hrd.flat hf)

end Go.Eng


set_option linter.unusedVariables false
set_option linter.unusedSimpArgs false
namespace Go.Eng

/-! ### what an operation does -/
def Does (P : Program) (o : Oper) (a : Act) (w : World) (R : Value → World → Prop) : Prop :=
  ∀ (next : Act → World → Prop) (Q : Exit → Act → World → Prop), (∀ v w', R v w' → next (a.put o.dst v) w') → o.wp P a w next Q
theorem does_value {P : Program} {o : Oper} {a : Act} {w w' : World} {v : Value} {R : Value → World → Prop}
    (h : (execOp a.eval o).run P w = .ok (.value v) w') (hr : R v w') : Does P o a w R := by
  intro next Q k
  unfold Oper.wp
  rw [h]
  exact k v w' hr
theorem does_skip {P : Program} {o : Oper} {a : Act} {w w' : World} {R : Value → World → Prop}
    (h : (execOp a.eval o).run P w = .ok .skip w') (hr : R undef w') : Does P o a w R := by
  intro next Q k
  unfold Oper.wp
  rw [h]
  exact k undef w' hr
theorem does_enter {P : Program} {o : Oper} {a : Act} {w w' : World} {f : FuncId} {args : Array Value} {R : Value → World → Prop}
    (h : (execOp a.eval o).run P w = .ok (.enter f args) w')
    (hc : Calls P f args w' fun e w'' => ∃ v, e = .returned v ∧ R v w'') : Does P o a w R := by
  intro next Q k
  unfold Oper.wp
  rw [h]
  show Calls P f args w' _
  refine hc.mono ?_
  rintro e w'' ⟨v, rfl, hr⟩
  exact k v w'' hr
theorem Does.mono {P : Program} {o : Oper} {a : Act} {w : World} {R R' : Value → World → Prop} (h : Does P o a w R) (hr : ∀ v w', R v w' → R' v w') : Does P o a w R' :=
  fun next Q k => h next Q fun v w' r => k v w' (hr v w' r)

/-! ### the types -/
def zv : Lf → Option Value
  | .int k n => some (.int k n)
  | .bool b => some (.bool b)
  | .str s => some (.string ⟨s.toArray⟩)
  | .nilsl => some (.slice none 0 0)
  | .nilif => some .nilIface
  | _ => none
structure EqOk (P : Program) (t : Nat) : Prop where
  fields : ∃ fields : Array Field, P.underlying t = some (.struct fields) ∧ (∀ f ∈ fields.toList, f.name ≠ "_") ∧ fields.toList.map (·.offset) = List.range fields.size
  held : P.stoodInHeld t = false
  guard : P.eqGuardType P.depth t = false
def aggB : Value → Bool
  | .agg _ => true
  | _ => false
/-- a method of a type's values, its own -/
def MsOk (P : Program) (t : Nat) (p : String × Nat) : Prop := ∃ i m, P.info? t = some i ∧ i.methods.find? (·.name == p.1) = some m ∧ m.path = #[] ∧ m.func = some (p.2, false)
structure TyOk (P : Program) (tab : Tab) (t : Nat) : Prop where
  eq : (tab.at t).eq = true → EqOk P t
  ms : ∀ p ∈ (tab.at t).ms, MsOk P t p
  za : (match (tab.at t).k with | .ptr => False | _ => True) → ∀ i z, P.info? t = some i → i.zero = some z → aggB z = (tab.at t).ty.isAgg
  info : ∃ i, P.info? t = some i ∧ i.size = (tab.at t).size ∧ i.bytes = (tab.at t).bytes ∧
    ((match (tab.at t).k with | .ptr => False | _ => True) → ∃ z, i.zero = some z ∧ z.cells.toList.map some = (zeroL (tab.at t).ty).map zv ∧ (tab.at t).ty.size = (tab.at t).size)
  desc : match (tab.at t).k with
    | .int k => P.underlying t = some (.int k) ∧ (tab.at t).ty = .int k ∧ (tab.at t).size = 1
    | .bool => P.underlying t = some .bool ∧ (tab.at t).ty = .bool ∧ (tab.at t).size = 1
    | .str => P.underlying t = some .string ∧ (tab.at t).ty = .str ∧ (tab.at t).size = 1
    | .sl e => P.underlying t = some (.slice e) ∧ (tab.at t).ty = .sl (tab.at e).ty ∧ (tab.at t).size = 1 ∧ 0 < (tab.at e).size ∧ 0 < (tab.at e).bytes ∧ (match (tab.at e).k with | .ptr | .other | .ifc _ => False | _ => True)
    | .st fs => (∃ fields : Array Field, P.underlying t = some (.struct fields) ∧ fields.toList.map (fun f => (f.offset, f.type)) = fs) ∧ (tab.at t).ty.isAgg = true ∧ ∀ p ∈ fs, (tab.at p.2).k ≠ .other
    | .arr n e => P.underlying t = some (.array n e) ∧ (tab.at t).ty.isAgg = true ∧ (tab.at e).k ≠ .other
    | .ptr => (∃ e, P.underlying t = some (.pointer e)) ∧ (tab.at t).size = 1
    | .ifc ids => (∃ want, P.underlying t = some (.interface want)) ∧ (tab.at t).ty = .ifc ids (chain (ids.map fun T => (tab.at T).ty)) ∧ (tab.at t).size = 1
    | .other => True
def TabOk (P : Program) (tab : Tab) : Prop := ∀ t, (tab.at t).k ≠ .other → TyOk P tab t

theorem add_eq (b o j : Nat) : (⟨b, o, none⟩ : Addr).add j = ⟨b, o + j, none⟩ := by
  unfold Addr.add; split <;> simp_all

/-! ### lists of values out of leaves -/
theorem LsR.values {c : Cx} : ∀ {ls : List Lf} {g : Nat → Option Value}, LsR c ls g → ∃ vs : List Value, vs.length = ls.length ∧ (∀ (j : Nat) (v : Value), vs[j]? = some v → g j = some v) ∧ LsR c ls (fun j => vs[j]?)
  | [], g, _ => ⟨[], rfl, by simp, LsR.nil _ _⟩
  | x :: r, g, h => by
    obtain ⟨⟨v, e, hv⟩, hr⟩ := LsR.cons.1 h
    obtain ⟨vs, hl, hg, hR⟩ := LsR.values hr
    refine ⟨v :: vs, by simp [hl], ?_, ?_⟩
    · intro j u hu
      cases j with
      | zero => simp at hu; subst hu; exact e
      | succ j => exact hg j u (by simpa using hu)
    · exact LsR.cons.2 ⟨⟨v, rfl, hv⟩, by simpa using hR⟩

theorem rd_one {w : World} {N : Nat → Prop} : ∀ {t : Ty} {d : Den t} {g : Nat → Option Value}, Rd w N t d g → ∀ j, j < t.size → ∃ v, g j = some v ∧ v.oneCell' = true
  | .int _, _, _, h, j, hj => by simp only [Ty.size] at hj; have : j = 0 := by omega
                                 subst this; exact ⟨_, h, rfl⟩
  | .bool, _, _, h, j, hj => by simp only [Ty.size] at hj; have : j = 0 := by omega
                                subst this; exact ⟨_, h, rfl⟩
  | .str, _, _, h, j, hj => by simp only [Ty.size] at hj; have : j = 0 := by omega
                               subst this; exact ⟨_, h, rfl⟩
  | .sl _, _, _, h, j, hj => by
    simp only [Ty.size] at hj
    have : j = 0 := by omega
    subst this
    simp only [Rd] at h
    obtain ⟨A, c, e, _⟩ := h
    exact ⟨_, e, rfl⟩
  | .nil, _, _, _, j, hj => by simp [Ty.size] at hj
  | .ifc _ _, _, _, h, j, hj => by
    simp only [Ty.size] at hj
    have : j = 0 := by omega
    subst this
    simp only [Rd] at h
    rcases h with ⟨_, e⟩ | ⟨T, u, _, e, _⟩
    · exact ⟨_, e, rfl⟩
    · exact ⟨_, e, rfl⟩
  | .cons t r, d, g, h, j, hj => by
    simp only [Rd] at h
    simp only [Ty.size] at hj
    by_cases hlt : j < t.size
    · exact rd_one h.1 j hlt
    · obtain ⟨v, e, ho⟩ := rd_one h.2 (j - t.size) (by omega)
      exact ⟨v, by rw [← e]; congr 1; omega, ho⟩

/-- the cells of a row of data -/
theorem rows_list {w : World} {N : Nat → Prop} {t : Ty} : ∀ (xs : List (Den t)) (g : Nat → Option Value), (∀ i (h : i < xs.length), Rd w N t xs[i] (fun j => g (i * t.size + j))) →
    ∃ vs : List Value, vs.length = xs.length * t.size ∧ (∀ (j : Nat) (v : Value), vs[j]? = some v → g j = some v) ∧ (∀ v ∈ vs, v.oneCell' = true) ∧
      ∀ i (h : i < xs.length), Rd w N t xs[i] (fun j => vs[i * t.size + j]?)
  | xs, g, h => by
    have one : ∀ j, j < xs.length * t.size → ∃ v, g j = some v ∧ v.oneCell' = true := by
      intro j hj
      have hs : 0 < t.size := by
        rcases Nat.eq_zero_or_pos t.size with h0 | h0
        · rw [h0] at hj; simp at hj
        · exact h0
      have hi : j / t.size < xs.length := Nat.div_lt_of_lt_mul (by rw [Nat.mul_comm]; exact hj)
      obtain ⟨v, e, ho⟩ := rd_one (h (j / t.size) hi) (j % t.size) (Nat.mod_lt _ hs)
      refine ⟨v, ?_, ho⟩
      rw [← e]
      congr 1
      rw [Nat.mul_comm]
      exact (Nat.div_add_mod j t.size).symm
    refine ⟨(List.range (xs.length * t.size)).map fun j => (g j).getD undef, by simp, ?_, ?_, ?_⟩
    · intro j v hv
      simp only [List.getElem?_map, Option.map_eq_some_iff] at hv
      obtain ⟨k, hk, rfl⟩ := hv
      obtain ⟨hkl, hk⟩ := List.getElem?_eq_some_iff.1 hk
      simp at hkl hk
      subst hk
      obtain ⟨v, e, _⟩ := one j hkl
      simp [e]
    · intro v hv
      simp only [List.mem_map, List.mem_range] at hv
      obtain ⟨j, hj, rfl⟩ := hv
      obtain ⟨v, e, ho⟩ := one j hj
      simp [e, ho]
    · intro i hi
      refine Rd.congr (fun j hj => ?_) (h i hi)
      have hlt : i * t.size + j < xs.length * t.size := by
        have : (i + 1) * t.size ≤ xs.length * t.size := Nat.mul_le_mul_right _ hi
        rw [Nat.add_mul] at this
        omega
      obtain ⟨v, e, _⟩ := one _ hlt
      simp [hlt, e]

/-! ### loads -/
section
variable {P : Program} {tab : Tab} {c : Cx}

theorem seg_R {cs : List Lf} {g : Nat → Option Value} (h : LsR c cs g) (off n : Nat) : LsR c (seg cs off n) (fun j => g (off + j)) := (h.drop off).take n

theorem loadVar_R {t b o : Nat} {ls : List Lf} {x : SV} (tk : TabOk P tab) (h : asSV tab t ls = some x) (hl : LsR c ls (fun j => c.w.cell? ⟨b, o + j, none⟩)) :
    ∃ v, (loadVar t ⟨b, o, none⟩).run P c.w = .ok v c.w ∧ SVR c x v := by
  unfold asSV at h
  have plain : ∀ d, P.underlying t = some d → (match d with | .struct _ | .array _ _ => False | _ => True) → ∀ y, ls = [y] → x = .lf y → ∃ v, (loadVar t ⟨b, o, none⟩).run P c.w = .ok v c.w ∧ SVR c x v := by
    intro d hd hp y hy hx
    subst hy hx
    obtain ⟨⟨v, e, hv⟩, _⟩ := LsR.cons.1 hl
    refine ⟨v, ?_, hv⟩
    simp only [Nat.add_zero] at e
    cases d <;> simp_all [loadVar, isAgg, run_underlying hd]
  cases hk : (tab.at t).k with
  | st fs =>
    simp only [hk] at h
    split at h
    · rename_i hs
      simp only [Option.some.injEq] at h
      subst h
      have ok := tk t (by simp [hk])
      obtain ⟨i, hi, his, _⟩ := ok.info
      have hd := ok.desc
      simp only [hk] at hd
      obtain ⟨⟨fields, hu, _⟩, _⟩ := hd
      obtain ⟨vs, hvl, hvg, hvR⟩ := hl.values
      have hr := run_loadCells_list (P := P) c.w ⟨b, o, none⟩ vs (fun j v hj => by rw [add_eq]; exact hvg j v hj)
      refine ⟨.agg vs.toArray, ?_, vs.toArray, rfl, by simp [hvl], by simpa using hvR⟩
      rw [hvl, hs, ← his] at hr
      simp [loadVar, isAgg, run_underlying hu, sizeOf, typeInfo, hi, hr]
    · simp at h
  | arr n e =>
    simp only [hk] at h
    split at h
    · rename_i hs
      simp only [Option.some.injEq] at h
      subst h
      have ok := tk t (by simp [hk])
      obtain ⟨i, hi, his, _⟩ := ok.info
      have hd := ok.desc
      simp only [hk] at hd
      obtain ⟨hu, _⟩ := hd
      obtain ⟨vs, hvl, hvg, hvR⟩ := hl.values
      have hr := run_loadCells_list (P := P) c.w ⟨b, o, none⟩ vs (fun j v hj => by rw [add_eq]; exact hvg j v hj)
      refine ⟨.agg vs.toArray, ?_, vs.toArray, rfl, by simp [hvl], by simpa using hvR⟩
      rw [hvl, hs, ← his] at hr
      simp [loadVar, isAgg, run_underlying hu, sizeOf, typeInfo, hi, hr]
    · simp at h
  | other => simp [hk] at h
  | _ =>
    simp only [hk] at h
    split at h
    · rename_i y
      simp only [Option.some.injEq] at h
      have ok := tk t (by simp [hk])
      have hd := ok.desc
      simp only [hk] at hd
      first
        | exact plain _ hd.1 trivial y rfl h.symm
        | (obtain ⟨⟨e, hu⟩, _⟩ := hd; exact plain _ hu trivial y rfl h.symm)
    · simp at h

theorem getD_eq_getElem' {α : Type} (xs : List α) (i : Nat) (d : α) (h : i < xs.length) : xs.getD i d = xs[i] := by simp [List.getD, h]

theorem row_cells {W : Nat → Prop} {B : Nat} {l e : Nat} {t : Ty} {xs : List (Den t)} {g n cap : Nat} (ho : OR B W c l (.row e t xs)) (hv : c.ι l = .slice (some ⟨g, 0, none⟩) n cap) :
    ∀ i (h : i < xs.length), Rd c.w c.N t xs[i] (fun j => c.w.cell? ⟨g, i * t.size + j, none⟩) := by
  obtain ⟨_, vs, hown, hr⟩ := ho
  intro i hi
  refine Rd.congr (fun j hj => ?_) (hr i hi)
  have hlt : i * t.size + j < vs.length := by
    rw [hown.1]
    have : (i + 1) * t.size ≤ xs.length * t.size := Nat.mul_le_mul_right _ hi
    rw [Nat.add_mul] at this
    omega
  have := hown.cells (g := g) (by rw [hv]; rfl) (i * t.size + j) vs[i * t.size + j] (by simp [hlt])
  rw [add_eq] at this
  simp only [Nat.zero_add] at this
  rw [this]
  simp [hlt]

theorem loadO_sound {B : Bd tab} {t : Nat} {sv x : SV} {va : Value} (tk : TabOk P tab) (hr : HR B c) (h : loadO tab t c.h sv = some x) (ha : SVR c sv va) :
    ∃ v, (Instr.loadAt t va).run P c.w = .ok v c.w ∧ SVR c x v := by
  unfold loadO at h
  split at h
  · rename_i l off
    split at h
    · rename_i ro cs ho
      simp only [SVR, LR] at ha
      obtain ⟨g, hι, rfl⟩ := ha.2.2 _ _ ho
      obtain ⟨_, hO⟩ := hr.obj l _ ho
      obtain ⟨g', hι', _, vs, T, hg, hsz, hls⟩ := hO
      rw [hι] at hι'
      simp only [Value.pointer.injEq, Option.some.injEq, Addr.mk.injEq] at hι'
      obtain ⟨rfl, _⟩ := hι'
      have hc : LsR c (seg cs off (tab.at t).size) (fun j => c.w.cell? ⟨g, off + j, none⟩) := by
        refine LsR.congr (fun j hj => ?_) (seg_R hls off (tab.at t).size)
        simp [World.cell?, hg]
      obtain ⟨v, e, hv⟩ := loadVar_R tk h hc
      exact ⟨v, by simp [Instr.loadAt, Instr.sureAddr, e], hv⟩
    · simp at h
  · rename_i τ xs i off
    simp only [SVR, LR] at ha
    obtain ⟨b, o, rfl, hi, hn, hb, hrd⟩ := ha
    have hc : LsR c (seg (leaves τ (xs.getD i (dflt τ))) off (tab.at t).size) (fun j => c.w.cell? ⟨b, (o + off) + j, none⟩) := by
      refine LsR.congr (fun j hj => ?_) (seg_R (rd_leaves hrd) off (tab.at t).size)
      simp [Nat.add_assoc]
    obtain ⟨v, e, hv⟩ := loadVar_R tk h hc
    exact ⟨v, by simp [Instr.loadAt, Instr.sureAddr, e], hv⟩
  · rename_i l i off
    split at h
    · rename_i e τ xs ho
      simp only [SVR, LR] at ha
      obtain ⟨hi, g, n, cap, hι, rfl⟩ := ha.2.2 _ _ _ ho
      obtain ⟨_, hO⟩ := hr.obj l _ ho
      have hcell := row_cells hO hι i hi
      rw [getD_eq_getElem' _ _ _ hi] at h
      have hc : LsR c (seg (leaves τ xs[i]) off (tab.at t).size) (fun j => c.w.cell? ⟨g, (i * τ.size + off) + j, none⟩) := by
        refine LsR.congr (fun j hj => ?_) (seg_R (rd_leaves hcell) off (tab.at t).size)
        simp [Nat.add_assoc]
      obtain ⟨v, e, hv⟩ := loadVar_R tk h hc
      exact ⟨v, by simp [Instr.loadAt, Instr.sureAddr, e], hv⟩
    · simp at h
  · rename_i g
    split at h
    · rename_i τ d hg
      simp only [SVR, LR] at ha
      subst ha
      obtain ⟨_, _, _, hrd⟩ := hr.gi g τ d hg
      have hc : LsR c (seg (leaves τ d) 0 (tab.at t).size) (fun j => c.w.cell? ⟨g, 0 + j, none⟩) := seg_R (rd_leaves hrd) 0 (tab.at t).size
      obtain ⟨v, e, hv⟩ := loadVar_R tk h hc
      exact ⟨v, by simp [Instr.loadAt, Instr.sureAddr, e], hv⟩
    · simp at h
  · simp at h
end
end Go.Eng


set_option linter.unusedVariables false
set_option linter.unusedSimpArgs false
namespace Go.Eng
variable {tab : Tab}

theorem ownsRow_block {w w' : World} {B e size n : Nat} {v : Value} {xs : List Value} (h : w.ownsRow B e size v n xs) (hb : ∀ g, blk v = some g → w'.heap[g]? = w.heap[g]?) : w'.ownsRow B e size v n xs := by
  refine ⟨h.1, ?_⟩
  rcases h.2 with hn | ⟨g, cap, cur, rfl, hB, hg, rest⟩
  · exact .inl hn
  · exact .inr ⟨g, cap, cur, rfl, hB, (hb g rfl).trans hg, rest⟩

theorem ownsRow_blk {w : World} {B e size n g : Nat} {v : Value} {xs : List Value} (h : w.ownsRow B e size v n xs) (hb : blk v = some g) : B ≤ g ∧ g < w.heap.size ∧ v.ownBlock = some g := by
  rcases h.2 with ⟨rfl, _⟩ | ⟨g', cap, cur, rfl, hB, hg, _⟩
  · simp [blk] at hb
  · simp only [blk, Option.some.injEq] at hb
    subst hb
    exact ⟨hB, (Array.getElem?_eq_some_iff.1 hg).1, rfl⟩

theorem OR.lt {Bz : Nat} {W : Nat → Prop} {c : Cx} {l g : Nat} {o : Ob} (h : OR Bz W c l o) (hb : blk (c.ι l) = some g) : g < c.w.heap.size := by
  cases o with
  | box ro cs =>
    obtain ⟨g', e', _, vs, T, hh, _⟩ := h
    rw [e'] at hb
    simp only [blk, Option.some.injEq] at hb
    subst hb
    exact (Array.getElem?_eq_some_iff.1 hh).1
  | row e t xs =>
    obtain ⟨_, vs, hown, _⟩ := h
    exact (ownsRow_blk hown hb).2.1

theorem OR.ext {Bz : Nat} {W : Nat → Prop} {c c' : Cx} (k : Ext c c') {l : Nat} (hι : c'.ι l = c.ι l) (hb : ∀ g, blk (c.ι l) = some g → c'.w.heap[g]? = c.w.heap[g]?) : ∀ {o : Ob}, OR Bz W c l o → OR Bz W c' l o
  | .box ro cs, h => by
    obtain ⟨g, e, hw, vs, T, hg, hs, hl⟩ := h
    exact ⟨g, hι.trans e, hw, vs, T, (hb g (by rw [e]; rfl)).trans hg, hs, hl.ext k⟩
  | .row e t xs, h => by
    obtain ⟨hp, vs, hown, hr⟩ := h
    refine ⟨hp, vs, ?_, fun i hi => (hr i hi).keeps k.keeps⟩
    rw [hι]
    exact ownsRow_block hown hb

theorem Kp.trans_grown {W : Nat → Prop} {w0 w w' : World} {X : Option Nat} (k : Kp W w0 w) (g : w.grownBy w' X) (hX : ∀ b, X = some b → W b) : Kp W w0 w' :=
  ⟨g.os.trans k.os, g.tape.trans k.tape, g.output.trans k.output, Nat.le_trans k.size g.size, fun b hb hn => by
    rw [g.block b (Nat.lt_of_lt_of_le hb k.size) (fun e => hn (hX b e.symm))]
    exact k.block b hb hn⟩

theorem grown_keeps {w w' : World} {N N' : Nat → Prop} {X : Option Nat} (g : w.grownBy w' X) (hX : ∀ b, X = some b → N b) (hN : ∀ b, b < w.heap.size → N' b → N b) : Keeps w N w' N' :=
  ⟨g.size, fun b hb hn => ⟨g.block b hb (fun e => hn (hX b e.symm)), fun h => hn (hN b hb h)⟩⟩

/-- a new object at an unused place; 'h1' is the heap, or the heap without the row that is grown -/
theorem step_new {B : Bd tab} {c : Cx} (hr : HR B c) (h1 : Heap) (hu1 : h1.used = c.h.used) (ho1 : ∀ l o, h1.obj l = some o → c.h.obj l = some o)
    (X : Option Nat) (hXN : ∀ g, X = some g → c.N g ∧ B.W g ∧ ∀ l o, h1.obj l = some o → blk (c.ι l) ≠ some g)
    {w' : World} (hg : c.w.grownBy w' X) (d : Nat) (hd : c.h.used d = false) (vl : Value) (hvl : ∀ g, blk vl = some g → X = some g ∨ c.w.heap.size ≤ g) (o : Ob)
    (hO : Ext c ⟨upd c.ι d vl, h1.new d o, w', fun b => c.N b ∨ blk vl = some b⟩ → OR B.w0.heap.size B.W ⟨upd c.ι d vl, h1.new d o, w', fun b => c.N b ∨ blk vl = some b⟩ d o)
    (hpin : ∀ ro cs v, o = .box ro cs → B.pin d = some v → vl = v) :
    Ext c ⟨upd c.ι d vl, h1.new d o, w', fun b => c.N b ∨ blk vl = some b⟩ ∧ HR B ⟨upd c.ι d vl, h1.new d o, w', fun b => c.N b ∨ blk vl = some b⟩ := by
  have hne : ∀ l, c.h.used l = true → l ≠ d := fun l hl e => by rw [e, hd] at hl; cases hl
  have ext : Ext c ⟨upd c.ι d vl, h1.new d o, w', fun b => c.N b ∨ blk vl = some b⟩ := by
    refine ⟨grown_keeps hg (fun b e => (hXN b e).1) ?_, ?_, ?_, ?_⟩
    · rintro b hb (h | h)
      · exact h
      · rcases hvl b h with e | e
        · exact (hXN b e).1
        · omega
    · intro l hl
      simp only [Heap.new, upd, hu1]
      split
      · rfl
      · exact hl
    · intro l hl
      simp only [upd, if_neg (hne l hl)]
    · intro l o' hl ho
      simp only [Heap.new, upd, if_neg (hne l hl)] at ho
      exact ⟨o', ho1 l o' ho, Shape.refl o'⟩
  have old : ∀ l o', (h1.new d o).obj l = some o' → l ≠ d → h1.obj l = some o' ∧ c.h.obj l = some o' ∧ upd c.ι d vl l = c.ι l := by
    intro l o' ho hl
    simp only [Heap.new, upd, if_neg hl] at ho
    exact ⟨ho, ho1 l o' ho, by simp only [upd, if_neg hl]⟩
  refine ⟨ext, ⟨?_, ?_, ?_, ?_, ?_, ?_, ?_⟩⟩
  · intro l o' ho
    by_cases hl : l = d
    · subst hl
      simp only [Heap.new, upd, if_true, Option.some.injEq] at ho
      subst ho
      exact ⟨by simp [Heap.new, upd], hO ext⟩
    · obtain ⟨a, b, e⟩ := old l o' ho hl
      obtain ⟨u, hor⟩ := hr.obj l o' b
      refine ⟨ext.used l u, OR.ext ext (ext.place l u) ?_ hor⟩
      intro g hgl
      refine hg.block g ?_ ?_
      · exact hor.lt hgl
      · intro e'
        exact (hXN g e'.symm).2.2 l o' a hgl
  · intro l o' g ho hb
    by_cases hl : l = d
    · subst hl
      simp only [upd, if_true] at hb
      exact .inr hb
    · obtain ⟨a, b, e⟩ := old l o' ho hl
      simp only [upd, if_neg hl] at hb
      exact .inl (hr.own l o' g b hb)
  · intro l l' o1 o2 g ho1' ho2' hb1 hb2
    have new_old : ∀ l o', (h1.new d o).obj l = some o' → l ≠ d → blk vl = some g → blk (c.ι l) ≠ some g := by
      intro l o' ho hl hv hbl
      obtain ⟨a, b, e⟩ := old l o' ho hl
      rcases hvl g hv with e' | e'
      · exact (hXN g e').2.2 l o' a hbl
      · obtain ⟨u, hor⟩ := hr.obj l o' b
        have : g < c.w.heap.size := hor.lt hbl
        omega
    by_cases e1 : l = d <;> by_cases e2 : l' = d
    · rw [e1, e2]
    · exfalso
      subst e1
      simp only [upd, if_true, if_neg e2] at hb1 hb2
      exact new_old l' o2 ho2' e2 hb1 hb2
    · exfalso
      subst e2
      simp only [upd, if_true, if_neg e1] at hb1 hb2
      exact new_old l o1 ho1' e1 hb2 hb1
    · obtain ⟨_, b1, _⟩ := old l o1 ho1' e1
      obtain ⟨_, b2, _⟩ := old l' o2 ho2' e2
      simp only [upd, if_neg e1, if_neg e2] at hb1 hb2
      exact hr.inj l l' o1 o2 g b1 b2 hb1 hb2
  · exact hr.keep.trans_grown hg (fun b e => (hXN b e).2.1)
  · intro b hb hn
    exact .inl (hr.base b hb hn)
  · rintro b hb (hn | hn)
    · exact hr.low b hb hn
    · rcases hvl b hn with e | e
      · exact hr.low b hb (hXN b e).1
      · have := hr.keep.size
        omega
  · intro l ro cs v ho hp
    by_cases hl : l = d
    · subst hl
      simp only [Heap.new, upd, if_true, Option.some.injEq] at ho
      simp only [upd, if_true]
      exact hpin ro cs v ho hp
    · obtain ⟨a, b, e⟩ := old l _ ho hl
      simp only at e ⊢
      rw [e]
      exact hr.pin l ro cs v b hp

/-- an object of the same shape in the place of one that is there -/
theorem step_mod {B : Bd tab} {c : Cx} (hr : HR B c) (l : Nat) (o o' : Ob) (ho : c.h.obj l = some o) (hs : Shape o o') (X : Option Nat) (hX : ∀ g, X = some g → blk (c.ι l) = some g ∧ B.W g)
    {w' : World} (hg : c.w.grownBy w' X) (hO : Ext c ⟨c.ι, c.h.put l o', w', c.N⟩ → OR B.w0.heap.size B.W ⟨c.ι, c.h.put l o', w', c.N⟩ l o') :
    Ext c ⟨c.ι, c.h.put l o', w', c.N⟩ ∧ HR B ⟨c.ι, c.h.put l o', w', c.N⟩ := by
  have ext : Ext c ⟨c.ι, c.h.put l o', w', c.N⟩ := by
    refine ⟨grown_keeps hg (fun b e => hr.own l o b ho (hX b e).1) (fun b _ h => h), fun _ h => h, fun _ _ => rfl, ?_⟩
    intro l' o2 _ h2
    simp only [Heap.put, upd] at h2
    split at h2
    · rename_i e
      subst e
      simp only [Option.some.injEq] at h2
      subst h2
      exact ⟨o, ho, hs⟩
    · exact ⟨o2, h2, Shape.refl _⟩
  have there : ∀ l' o2, (c.h.put l o').obj l' = some o2 → ∃ o3, c.h.obj l' = some o3 := by
    intro l' o2 h2
    simp only [Heap.put, upd] at h2
    split at h2
    · rename_i e; subst e; exact ⟨o, ho⟩
    · exact ⟨o2, h2⟩
  refine ⟨ext, ⟨?_, ?_, ?_, ?_, ?_, ?_, ?_⟩⟩
  · intro l' o2 h2
    by_cases e : l' = l
    · subst e
      simp only [Heap.put, upd, if_true, Option.some.injEq] at h2
      subst h2
      exact ⟨(hr.obj l' o ho).1, hO ext⟩
    · simp only [Heap.put, upd, if_neg e] at h2
      obtain ⟨u, hor⟩ := hr.obj l' o2 h2
      refine ⟨u, OR.ext ext rfl ?_ hor⟩
      intro g hgl
      refine hg.block g (hor.lt hgl) ?_
      intro e'
      exact e (hr.inj l' l o2 o g h2 ho hgl (hX g e'.symm).1)
  · intro l' o2 g h2 hb
    obtain ⟨o3, h3⟩ := there l' o2 h2
    exact hr.own l' o3 g h3 hb
  · intro l1 l2 o1 o2 g h1 h2 hb1 hb2
    obtain ⟨o3, h3⟩ := there l1 o1 h1
    obtain ⟨o4, h4⟩ := there l2 o2 h2
    exact hr.inj l1 l2 o3 o4 g h3 h4 hb1 hb2
  · exact hr.keep.trans_grown hg (fun b e => (hX b e).2)
  · exact hr.base
  · exact hr.low
  · intro l' ro cs v h2 hp
    by_cases e : l' = l
    · subst e
      simp only [Heap.put, upd, if_true, Option.some.injEq] at h2
      subst h2
      cases o with
      | row _ _ _ => exact hs.elim
      | box ro2 cs2 => exact hr.pin l' ro2 cs2 v ho hp
    · simp only [Heap.put, upd, if_neg e] at h2
      exact hr.pin l' ro cs v h2 hp

/-- objects are forgotten -/
theorem step_forget {B : Bd tab} {c : Cx} (hr : HR B c) (h1 : Heap) (hu1 : ∀ l, c.h.used l = true → h1.used l = true) (ho1 : ∀ l o, h1.obj l = some o → c.h.obj l = some o) (N' : Nat → Prop)
    (hN : ∀ b, N' b → c.N b) (hown : ∀ l o g, h1.obj l = some o → blk (c.ι l) = some g → N' g) (hbase : ∀ b, b < B.w0.heap.size → B.N0 b → N' b) :
    Ext c ⟨c.ι, h1, c.w, N'⟩ ∧ HR B ⟨c.ι, h1, c.w, N'⟩ := by
  have ext : Ext c ⟨c.ι, h1, c.w, N'⟩ :=
    ⟨⟨Nat.le_refl _, fun b _ hn => ⟨rfl, fun h => hn (hN b h)⟩⟩, hu1, fun _ _ => rfl, fun l o' _ h => ⟨o', ho1 l o' h, Shape.refl _⟩⟩
  refine ⟨ext, ⟨?_, hown, ?_, hr.keep, hbase, fun b hb hn => hr.low b hb (hN b hn), fun l ro cs v ho hp => hr.pin l ro cs v (ho1 l _ ho) hp⟩⟩
  · intro l o ho
    obtain ⟨u, hor⟩ := hr.obj l o (ho1 l o ho)
    exact ⟨hu1 l u, OR.ext ext rfl (fun _ _ => rfl) hor⟩
  · intro l l' o o' g h h' hb hb'
    exact hr.inj l l' o o' g (ho1 _ _ h) (ho1 _ _ h') hb hb'

/-! ### freezing -/
theorem row_frozen {B : Bd tab} {c : Cx} (hr : HR B c) {l e : Nat} {t : Ty} {xs : List (Den t)} (ho : c.h.obj l = some (.row e t xs)) :
    Ext c ⟨c.ι, c.h.del l, c.w, fun b => c.N b ∧ blk (c.ι l) ≠ some b⟩ ∧ HR B ⟨c.ι, c.h.del l, c.w, fun b => c.N b ∧ blk (c.ι l) ≠ some b⟩ ∧ LR ⟨c.ι, c.h.del l, c.w, fun b => c.N b ∧ blk (c.ι l) ≠ some b⟩ (.sl t xs) (c.ι l) := by
  obtain ⟨u, hor⟩ := hr.obj l _ ho
  have hor' := hor
  obtain ⟨hp, vs, hown, hrd⟩ := hor
  have hdel : ∀ l' o, (c.h.del l).obj l' = some o → l' ≠ l ∧ c.h.obj l' = some o := by
    intro l' o h
    simp only [Heap.del, upd] at h
    split at h
    · cases h
    · rename_i hne; exact ⟨hne, h⟩
  obtain ⟨ext, hr'⟩ := step_forget hr (c.h.del l) (fun _ h => h) (fun l' o h => (hdel l' o h).2) (fun b => c.N b ∧ blk (c.ι l) ≠ some b) (fun b h => h.1)
    (fun l' o g h hb => ⟨hr.own l' o g (hdel l' o h).2 hb, fun e => (hdel l' o h).1 (hr.inj l' l o _ g (hdel l' o h).2 ho hb e)⟩)
    (fun b hb hn => ⟨hr.base b hb hn, fun e => by
      have : b < B.w0.heap.size := hb
      have h2 := (ownsRow_blk hown e).1
      omega⟩)
  refine ⟨ext, hr', ?_⟩
  simp only [LR, Rd]
  rcases hown.2 with ⟨hv, hn⟩ | ⟨g, cap, cur, hv, hB, hg, hnc, hcm, hcs, htake⟩
  · refine ⟨none, 0, by simp [hv, hn], by omega, fun i hi => by omega⟩
  · refine ⟨some ⟨g, 0, none⟩, cap, by simp [hv], hnc, fun i hi => ⟨g, 0, rfl, fun h => h.2 (by rw [hv]; rfl), (Array.getElem?_eq_some_iff.1 hg).1, ?_⟩⟩
    have := row_cells hor' hv i hi
    refine Rd.congr (fun j hj => ?_) (this.keeps ext.keeps)
    simp

/-- blocks that are let go were an object's -/
def Lets (c : Cx) (N' : Nat → Prop) : Prop := ∀ b, c.N b → N' b ∨ ∃ l o, c.h.obj l = some o ∧ blk (c.ι l) = some b

theorem frz_sound2 {B : Bd tab} {c : Cx} (hr : HR B c) {x y : Lf} {h1 : Heap} {v : Value} (h : frz c.h x = (y, h1)) (hx : LR c x v) :
    ∃ N', (∀ b, N' b → c.N b) ∧ Lets c N' ∧ Ext c ⟨c.ι, h1, c.w, N'⟩ ∧ HR B ⟨c.ι, h1, c.w, N'⟩ ∧ LR ⟨c.ι, h1, c.w, N'⟩ y v := by
  have same : (y, h1) = (x, c.h) → ∃ N', (∀ b, N' b → c.N b) ∧ Lets c N' ∧ Ext c ⟨c.ι, h1, c.w, N'⟩ ∧ HR B ⟨c.ι, h1, c.w, N'⟩ ∧ LR ⟨c.ι, h1, c.w, N'⟩ y v := by
    intro e
    simp only [Prod.mk.injEq] at e
    obtain ⟨rfl, rfl⟩ := e
    exact ⟨c.N, fun _ h => h, fun _ h => .inl h, Ext.refl c, hr, hx⟩
  cases x with
  | own l =>
    simp only [frz] at h
    split at h
    · rename_i e t xs ho
      simp only [Prod.mk.injEq] at h
      obtain ⟨rfl, rfl⟩ := h
      obtain ⟨b, d, f⟩ := row_frozen hr ho
      refine ⟨_, fun b h => h.1, fun b h => ?_, b, d, ?_⟩
      · by_cases e : blk (c.ι l) = some b
        · exact .inr ⟨l, _, ho, e⟩
        · exact .inl ⟨h, e⟩
      · simp only [LR] at hx
        rw [hx.2.2 _ _ _ ho]
        exact f
    · simp only [Prod.mk.injEq] at h
      obtain ⟨rfl, rfl⟩ := h
      exact ⟨c.N, fun _ h => h, fun _ h => .inl h, Ext.refl c, hr, trivial⟩
  | _ => exact same (by simp only [frz] at h; exact h.symm)
theorem frz_sound {B : Bd tab} {c : Cx} (hr : HR B c) {x y : Lf} {h1 : Heap} {v : Value} (h : frz c.h x = (y, h1)) (hx : LR c x v) :
    ∃ N', (∀ b, N' b → c.N b) ∧ Ext c ⟨c.ι, h1, c.w, N'⟩ ∧ HR B ⟨c.ι, h1, c.w, N'⟩ ∧ LR ⟨c.ι, h1, c.w, N'⟩ y v := by
  obtain ⟨N', a, _, b, d, e⟩ := frz_sound2 hr h hx
  exact ⟨N', a, b, d, e⟩

theorem frzAll_sound {B : Bd tab} : ∀ {ls ys : List Lf} {c : Cx} {h1 : Heap} {g : Nat → Option Value} (hr : HR B c), frzAll c.h ls = (ys, h1) → LsR c ls g →
    ∃ N', (∀ b, N' b → c.N b) ∧ Ext c ⟨c.ι, h1, c.w, N'⟩ ∧ HR B ⟨c.ι, h1, c.w, N'⟩ ∧ LsR ⟨c.ι, h1, c.w, N'⟩ ys g ∧ ys.length = ls.length
  | [], ys, c, h1, g, hr, h, hl => by
    simp only [frzAll, Prod.mk.injEq] at h
    obtain ⟨rfl, rfl⟩ := h
    exact ⟨c.N, fun _ h => h, Ext.refl c, hr, LsR.nil _ _, rfl⟩
  | x :: r, ys, c, h1, g, hr, h, hl => by
    cases hf : frz c.h x with
    | mk y h2 =>
      cases hg : frzAll h2 r with
      | mk zs h3 =>
        simp only [frzAll, hf, hg, Prod.mk.injEq] at h
        obtain ⟨rfl, rfl⟩ := h
        obtain ⟨⟨v, e, hv⟩, hrest⟩ := LsR.cons.1 hl
        obtain ⟨N1, a1, b1, d1, f1⟩ := frz_sound hr hf hv
        obtain ⟨N2, a2, b2, d2, f2, len⟩ := frzAll_sound (c := ⟨c.ι, h2, c.w, N1⟩) d1 hg (hrest.ext b1)
        exact ⟨N2, fun b h => a1 b (a2 b h), b1.trans b2, d2, LsR.cons.2 ⟨⟨v, e, f1.ext b2⟩, f2⟩, by simp [len]⟩

end Go.Eng


set_option linter.unusedVariables false
set_option linter.unusedSimpArgs false
namespace Go.Eng
variable {tab : Tab}

/-- what stands behind an operation -/
def St1 (B : Bd tab) (c : Cx) (sv : SV) (h' : Heap) (v : Value) (w' : World) : Prop :=
  ∃ ι' N', Ext c ⟨ι', h', w', N'⟩ ∧ HR B ⟨ι', h', w', N'⟩ ∧ SVR ⟨ι', h', w', N'⟩ sv v
theorem St1.same {B : Bd tab} {c : Cx} (hr : HR B c) {sv : SV} {v : Value} (h : SVR c sv v) : St1 B c sv c.h v c.w := ⟨c.ι, c.N, Ext.refl c, hr, h⟩

/-! ### values and their cells -/
theorem sv_cells {c : Cx} {sv : SV} {v : Value} (h : SVR c sv v) (ok : sv.ok = true) : v.cells.size = sv.leaves.length ∧ LsR c sv.leaves (fun j => v.cells[j]?) ∧ (∀ x ∈ v.cells.toList, x.oneCell' = true) := by
  cases sv with
  | lf x =>
    simp only [SVR] at h
    have h1 := LR.one h ok
    have hc : v.cells = #[v] := by cases v <;> simp_all [Value.cells, Value.oneCell']
    rw [hc]
    refine ⟨rfl, LsR.cons.2 ⟨⟨v, rfl, h⟩, LsR.nil _ _⟩, ?_⟩
    intro y hy
    simp at hy
    subst hy
    exact h1
  | ag cs =>
    obtain ⟨vs, rfl, hs, hl⟩ := h
    refine ⟨hs, hl, ?_⟩
    intro y hy
    simp only [Value.cells] at hy
    obtain ⟨j, hj⟩ := List.mem_iff_getElem?.1 hy
    have hj' : j < cs.length := by
      have := (List.getElem?_eq_some_iff.1 hj).1
      simpa [hs] using this
    obtain ⟨u, hu, hlr⟩ := hl j cs[j] (by simp [hj'])
    have e : u = y := by
      have hj2 : vs[j]? = some y := by simpa using hj
      exact (Option.some.inj (hj2.symm.trans hu)).symm
    subst e
    refine LR.one hlr ?_
    simp only [SV.ok, List.all_eq_true] at ok
    exact ok _ (List.getElem_mem hj')
  | tup xs => simp [SV.ok] at ok

theorem zeros_rd {w : World} {N : Nat → Prop} : ∀ (t : Ty) (g : Nat → Option Value), (∀ j x, (zeroL t)[j]? = some x → zv x = g j) → Rd w N t (dflt t) g
  | .int k, g, h => by simpa [Rd, dflt, zv, eq_comm] using h 0 _ rfl
  | .bool, g, h => by simpa [Rd, dflt, zv, eq_comm] using h 0 _ rfl
  | .str, g, h => by simpa [Rd, dflt, zv, eq_comm] using h 0 _ rfl
  | .nil, g, h => trivial
  | .sl t, g, h => by
    have := h 0 _ rfl
    simp only [zv] at this
    simp only [Rd, dflt]
    exact ⟨none, 0, by simpa using this.symm, by simp, fun i hi => by simp at hi⟩
  | .ifc ids p, g, h => by
    have := h 0 _ rfl
    simp only [zv] at this
    simp only [Rd, dflt]
    exact .inl ⟨by simp, this.symm⟩
  | .cons t r, g, h => by
    have hlen : ∀ t, (zeroL t).length = t.size := by
      intro t
      induction t with
      | cons t r iht ihr => simp [zeroL, Ty.size, iht, ihr]
      | _ => rfl
    simp only [Rd, dflt]
    refine ⟨zeros_rd t g (fun j x hx => h j x ?_), zeros_rd r _ (fun j x hx => h (t.size + j) x ?_)⟩
    · simp only [zeroL]
      rw [List.getElem?_append_left (List.getElem?_eq_some_iff.1 hx).1]
      exact hx
    · simp only [zeroL]
      rw [List.getElem?_append_right (by rw [hlen]; omega), hlen]
      simpa using hx
theorem zeroL_length : ∀ t : Ty, (zeroL t).length = t.size := by
  intro t
  induction t with
  | cons t r iht ihr => simp [zeroL, Ty.size, iht, ihr]
  | _ => rfl
theorem zeroL_R {c : Cx} {t : Ty} {z : Value} (h : z.cells.toList.map some = (zeroL t).map zv) : LsR c (zeroL t) (fun j => z.cells[j]?) ∧ z.cells.size = t.size := by
  have hs : z.cells.size = t.size := by
    have := congrArg List.length h
    simpa [zeroL_length] using this
  refine ⟨?_, hs⟩
  intro j x hx
  have hj := congrArg (fun l => l[j]?) h
  simp only [List.getElem?_map, hx, Option.map_some] at hj
  cases hz : z.cells.toList[j]? with
  | none => simp [hz] at hj
  | some v =>
    simp only [hz, Option.map_some, Option.some.injEq] at hj
    refine ⟨v, by simpa using hz, ?_⟩
    cases x <;> simp_all [zv, LR]

theorem grown_alloc (w : World) (o : Go.Obj) : w.grownBy (w.alloc o) none := World.grownBy_alloc w o none

/-! ### new variables -/
section
variable {P : Program} {B : Bd tab} {c : Cx}

theorem new_box (hr : HR B c) {d : Nat} (hd : c.h.used d = false) (hlo : d < 1000) (cs : List Lf) (vs : Array Value) (T : Nat) (hs : vs.size = cs.length) (hl : LsR c cs (fun j => vs[j]?)) :
    St1 B c (.lf (.box d 0)) (c.h.new d (.box false cs)) (.pointer (some ⟨c.w.heap.size, 0, none⟩)) (c.w.alloc (.cells vs T)) := by
  have hsz : B.w0.heap.size ≤ c.w.heap.size := hr.keep.size
  obtain ⟨ext, hr'⟩ := step_new hr c.h rfl (fun _ _ h => h) none (by simp) (grown_alloc c.w (.cells vs T)) d hd (.pointer (some ⟨c.w.heap.size, 0, none⟩))
    (by intro g hg; simp only [blk, Option.some.injEq] at hg; exact .inr (by omega)) (.box false cs)
    (fun ext => ⟨c.w.heap.size, by simp [upd], fun _ => B.fresh _ hsz, vs, T, heap_alloc_new c.w _, hs, hl.ext ext⟩) (fun _ _ _ _ hp => by rw [B.lo d hlo] at hp; cases hp)
  refine ⟨_, _, ext, hr', ?_⟩
  simp only [SVR, LR]
  refine ⟨by simp [Heap.new, upd], rfl, fun ro cs' h => ⟨c.w.heap.size, by simp [upd], rfl⟩⟩

theorem box_sound (hr : HR B c) {t d : Nat} {sv : SV} {v : Value} (h : SVR c sv v) (ok : sv.ok = true) (hd : c.h.used d = false) (hlo : d < 1000) :
    ∃ v' w', (Instr.box t v).run P c.w = .ok v' w' ∧ St1 B c (.lf (.box d 0)) (c.h.new d (.box false sv.leaves)) v' w' := by
  obtain ⟨hs, hl, _⟩ := sv_cells h ok
  exact ⟨_, _, by simp [Instr.box, newVar, newRow], new_box hr hd hlo sv.leaves v.cells t hs hl⟩

theorem alloc_sound (tk : TabOk P tab) (hr : HR B c) {t d : Nat} (hk : (tab.at t).k ≠ .other) (hk' : (tab.at t).k ≠ .ptr) (hd : c.h.used d = false) (hlo : d < 1000) :
    ∃ v' w', (Instr.alloc t true (.tuple #[])).run P c.w = .ok v' w' ∧ St1 B c (.lf (.box d 0)) (c.h.new d (.box false (zeroL (tab.at t).ty))) v' w' := by
  have tok := tk t hk
  obtain ⟨i, hi, his, hib, hz⟩ := tok.info
  obtain ⟨z, hz0, hzc, hzs⟩ := hz (by cases hq : (tab.at t).k <;> simp_all)
  obtain ⟨hl, hsz⟩ := zeroL_R (c := c) hzc
  refine ⟨_, _, ?_, new_box hr hd hlo (zeroL (tab.at t).ty) z.cells t (by rw [hsz, zeroL_length]) hl⟩
  simp [Instr.alloc, zeroValue, typeInfo, hi, hz0, newVar, newRow]

/-! ### stores -/
theorem splice_length {cs new : List Lf} {off : Nat} (h : off + new.length ≤ cs.length) : (splice cs new off).length = cs.length := by
  simp [splice]; omega
theorem splice_R {cs new : List Lf} {off : Nat} {vs : List Value} {us : List Value} (hv : vs.length = cs.length) (hu : us.length = new.length) (hf : off + new.length ≤ cs.length)
    (h1 : LsR c cs (fun j => vs[j]?)) (h2 : LsR c new (fun j => us[j]?)) : LsR c (splice cs new off) (fun j => (vs.take off ++ us ++ vs.drop (off + us.length))[j]?) := by
  unfold splice
  have e1 : (cs.take off).length = off := by simp; omega
  have e2 : (vs.take off).length = off := by simp; omega
  rw [List.append_assoc, List.append_assoc, LsR.append, LsR.append]
  refine ⟨?_, ?_, ?_⟩
  · refine LsR.congr (fun j hj => ?_) (h1.take off)
    rw [e1] at hj
    rw [List.getElem?_append_left (by rw [e2]; exact hj), List.getElem?_take, if_pos hj]
  · refine LsR.congr (fun j hj => ?_) h2
    rw [e1, List.getElem?_append_right (by rw [e2]; omega), e2, List.getElem?_append_left (by omega)]
    congr 1; omega
  · refine LsR.congr (fun j hj => ?_) (h1.drop (off + new.length))
    rw [e1, List.getElem?_append_right (by rw [e2]; omega), e2, List.getElem?_append_right (by omega), List.getElem?_drop, hu]
    congr 1; omega

theorem seg_get (l us : List Value) (p j : Nat) (h : p + us.length ≤ l.length) : (l.take p ++ us ++ l.drop (p + us.length))[j]? = if p ≤ j ∧ j < p + us.length then us[j - p]? else l[j]? := by
  have e2 : (l.take p).length = p := by simp; omega
  rw [List.append_assoc]
  by_cases h1 : j < p
  · rw [List.getElem?_append_left (by rw [e2]; exact h1), List.getElem?_take, if_pos h1, if_neg (by omega)]
  · rw [List.getElem?_append_right (by rw [e2]; omega), e2]
    by_cases h2 : j < p + us.length
    · rw [List.getElem?_append_left (by omega), if_pos ⟨by omega, h2⟩]
    · rw [List.getElem?_append_right (by omega), List.getElem?_drop, if_neg (by omega)]
      congr 1; omega
theorem splice_Rg {cs new : List Lf} {off : Nat} {g g2 : Nat → Option Value} (hf : off + new.length ≤ cs.length) (h1 : LsR c cs g) (h2 : LsR c new g2) :
    LsR c (splice cs new off) (fun j => if off ≤ j ∧ j < off + new.length then g2 (j - off) else g j) := by
  intro j x hx
  unfold splice at hx
  have e1 : (cs.take off).length = off := by simp; omega
  rw [List.append_assoc] at hx
  by_cases a1 : j < off
  · rw [List.getElem?_append_left (by rw [e1]; exact a1), List.getElem?_take, if_pos a1] at hx
    simp only [if_neg (show ¬ (off ≤ j ∧ j < off + new.length) by omega)]
    exact h1 j x hx
  · rw [List.getElem?_append_right (by rw [e1]; omega), e1] at hx
    by_cases a2 : j < off + new.length
    · rw [List.getElem?_append_left (by omega)] at hx
      simp only [if_pos (show off ≤ j ∧ j < off + new.length from ⟨by omega, a2⟩)]
      exact h2 _ x hx
    · rw [List.getElem?_append_right (by omega), List.getElem?_drop] at hx
      simp only [if_neg (show ¬ (off ≤ j ∧ j < off + new.length) by omega)]
      refine h1 j x ?_
      rw [← hx]
      congr 1; omega

theorem setRow_grown (w : World) (g : Nat) (cur : Array Value) : w.grownBy (w.setRow g cur) (some g) :=
  ⟨rfl, rfl, rfl, by simp, fun k _ hk => setRow_other w g k _ (fun e => hk (by simp [e]))⟩

theorem run_storeAt {t : Nat} {g off : Nat} {v : Value} {vs : Array Value} {T : Nat} (tok : TyOk P tab t) (hs : v.cells.size = (tab.at t).size) (hone : ∀ x ∈ v.cells.toList, x.oneCell' = true)
    (hg : c.w.heap[g]? = some (.cells vs T (0, 0))) (hf : off + v.cells.size ≤ vs.size) :
    (Instr.storeAt t (.pointer (some ⟨g, off, none⟩)) v).run P c.w = .ok () (c.w.setRow g (vs.toList.take off ++ v.cells.toList ++ vs.toList.drop (off + v.cells.toList.length)).toArray) := by
  obtain ⟨i, hi, his, _⟩ := tok.info
  have hst := run_storeCells_at P g off T v.cells.toList 0 vs c.w hg (by simpa using hf) hone
  simp only [Nat.add_zero] at hst
  simp [Instr.storeAt, Instr.sureAddr, storeVar, sizeOf, typeInfo, hi, his, hs] at hst ⊢
  exact hst

theorem storeO_sound (tk : TabOk P tab) (hr : HR B c) {t : Nat} {a x : SV} {va vx : Value} {h' : Heap} (hk : (tab.at t).k ≠ .other) (h : storeO tab t c.h a x = some h') (ha : SVR c a va) (hx : SVR c x vx) :
    ∃ w', (Instr.storeAt t va vx).run P c.w = .ok () w' ∧ St1 B c (.lf .bad) h' undef w' := by
  unfold storeO at h
  simp only [] at h
  split at h
  · simp at h
  · rename_i hcond
    have hlen : x.leaves.length = (tab.at t).size := by
      by_cases e : x.leaves.length = (tab.at t).size
      · exact e
      · exact absurd (Or.inl e) hcond
    have hok : x.ok = true := by
      cases hq : x.ok
      · exact absurd (Or.inr hq) hcond
      · rfl
    obtain ⟨hcs, hcl, hone⟩ := sv_cells hx hok
    have tok := tk t hk
    split at h
    · rename_i l off
      split at h
      · rename_i cs ho
        split at h
        · rename_i hfit
          simp only [Option.some.injEq] at h
          subst h
          simp only [SVR, LR] at ha
          obtain ⟨g, hι, rfl⟩ := ha.2.2 _ _ ho
          obtain ⟨_, hO⟩ := hr.obj l _ ho
          obtain ⟨g', hι', hw, vs, T, hg, hsz, hls⟩ := hO
          have hι2 := hι'
          rw [hι] at hι2
          simp only [Value.pointer.injEq, Option.some.injEq, Addr.mk.injEq] at hι2
          obtain ⟨rfl, _⟩ := hι2
          have hrun := run_storeAt (P := P) (c := c) (off := off) tok (hcs.trans hlen) hone hg (by omega)
          have hsp := splice_R (c := c) (vs := vs.toList) (us := vx.cells.toList) (by simpa using hsz) (by simpa using hcs) hfit (by simpa using hls) (by simpa using hcl)
          have hsz2 : (vs.toList.take off ++ vx.cells.toList ++ vs.toList.drop (off + vx.cells.toList.length)).toArray.size = (splice cs x.leaves off).length := by
            rw [splice_length hfit]
            simp only [List.size_toArray, List.length_append, List.length_take, List.length_drop, Array.length_toList]
            omega
          obtain ⟨ext, hr'⟩ := step_mod hr l (.box false cs) (.box false (splice cs x.leaves off)) ho trivial (some g) (by intro b e; simp only [Option.some.injEq] at e; subst e; exact ⟨by rw [hι]; rfl, hw rfl⟩)
            (setRow_grown c.w g (vs.toList.take off ++ vx.cells.toList ++ vs.toList.drop (off + vx.cells.toList.length)).toArray)
            (fun ext => ⟨g, hι, hw, _, T, setRow_heap c.w g vs _ T _ hg, hsz2, LsR.congr (fun j _ => by simp) (hsp.ext ext)⟩)
          exact ⟨_, hrun, _, _, ext, hr', trivial⟩
        · simp at h
      · simp at h
    · rename_i l i off
      cases hf : frzAll c.h x.leaves with
      | mk new' h1 =>
        simp only [hf] at h
        obtain ⟨N1, hN1, ext1, hr1, hnew, hnl⟩ := frzAll_sound hr hf hcl
        split at h
        · rename_i e τ xs ho
          split at h
          · simp at h
          · rename_i hfit
            split at h
            · rename_i d hd
              simp only [Option.some.injEq] at h
              subst h
              have ha1 : LR ⟨c.ι, h1, c.w, N1⟩ (.rowp l i off) va := LR.ext ext1 ha
              simp only [LR] at ha1
              obtain ⟨hi, g, n, cap, hι, rfl⟩ := ha1.2.2 _ _ _ ho
              obtain ⟨_, hO⟩ := hr1.obj l _ ho
              have hO2 := hO
              obtain ⟨hp, vsl, hown, hrd⟩ := hO
              have hblk : blk (c.ι l) = some g := by rw [hι]; rfl
              have hWg : B.W g := B.fresh _ (ownsRow_blk hown hblk).1
              rcases hown.2 with ⟨hv, _⟩ | ⟨g', cap', cur, hv, hB, hg, hnc, hcm, hcs', htake⟩
              · simp only [hι] at hv; cases hv
              · simp only [hι, Value.slice.injEq, Option.some.injEq, Addr.mk.injEq] at hv
                obtain ⟨⟨rfl, _⟩, rfl, rfl⟩ := hv
                have hmul : (i + 1) * τ.size ≤ xs.length * τ.size := Nat.mul_le_mul_right _ hi
                rw [Nat.add_mul, Nat.one_mul] at hmul
                have hmul2 : xs.length * τ.size ≤ cap * τ.size := Nat.mul_le_mul_right _ hnc
                have hvl : vx.cells.toList.length = new'.length := by rw [hnl, ← hcs]; exact Array.length_toList
                have hrun := run_storeAt (P := P) (c := c) (off := i * τ.size + off) tok (hcs.trans hlen) hone hg (by rw [hcs, ← hnl, hcs']; omega)
                have hpos : (i * τ.size + off) + vx.cells.toList.length ≤ cur.toList.length := by rw [hvl, show cur.toList.length = cur.size from Array.length_toList, hcs']; omega
                generalize hcur' : (cur.toList.take (i * τ.size + off) ++ vx.cells.toList ++ cur.toList.drop (i * τ.size + off + vx.cells.toList.length)) = cur' at hrun
                have hget : ∀ j, cur'[j]? = if i * τ.size + off ≤ j ∧ j < i * τ.size + off + vx.cells.toList.length then vx.cells.toList[j - (i * τ.size + off)]? else cur.toList[j]? := by
                  intro j; rw [← hcur']; exact seg_get _ _ _ _ hpos
                have hlen' : cur'.length = cap * τ.size := by
                  rw [← hcur']
                  simp only [List.length_append, List.length_take, List.length_drop]
                  rw [Array.length_toList] at hpos ⊢
                  omega
                have hvsl : ∀ j, j < xs.length * τ.size → vsl[j]? = cur.toList[j]? := by
                  intro j hj; rw [← htake, List.getElem?_take, if_pos hj]
                have hold := hrd i hi
                have hsp : LsR ⟨c.ι, h1, c.w, N1⟩ (splice (leaves τ (xs.getD i (dflt τ))) new' off) (fun j => (cur'.take (xs.length * τ.size))[i * τ.size + j]?) := by
                  rw [getD_eq_getElem' _ _ _ hi]
                  have h0 := splice_Rg (c := ⟨c.ι, h1, c.w, N1⟩) (off := off) (by rw [leaves_length]; omega) (rd_leaves hold) hnew
                  refine LsR.congr (fun j hj => ?_) h0
                  have hj' : j < τ.size := by rw [splice_length (by rw [leaves_length]; omega), leaves_length] at hj; exact hj
                  have hL : i * τ.size + j < xs.length * τ.size := by omega
                  by_cases hc1 : off ≤ j ∧ j < off + new'.length
                  · rw [if_pos hc1, List.getElem?_take, if_pos hL, hget, hvl, if_pos ⟨by omega, by omega⟩]
                    simp only [Array.getElem?_toList]
                    congr 1; omega
                  · rw [if_neg hc1, List.getElem?_take, if_pos hL, hget, hvl, if_neg (by omega)]
                    exact hvsl _ hL
                obtain ⟨hdr, _⟩ := ofAll_rd hd hsp
                obtain ⟨ext2, hr2⟩ := step_mod hr1 l (.row e τ xs) (.row e τ (xs.set i d)) ho ⟨rfl, rfl, by simp⟩ (some g) (by intro b e; simp only [Option.some.injEq] at e; subst e; exact ⟨hblk, hWg⟩)
                  (setRow_grown c.w g cur'.toArray)
                  (fun ext => ⟨hp, cur'.take (xs.length * τ.size), ⟨by rw [List.length_take, hlen', List.length_set]; exact Nat.min_eq_left hmul2, .inr ⟨g, cap, cur'.toArray, by rw [List.length_set]; exact hι, hB, setRow_heap c.w g cur _ e _ hg, by rw [List.length_set]; exact hnc, hcm, by simpa using hlen', by simp⟩⟩, by
                    intro k hk
                    simp only [List.length_set] at hk
                    by_cases hki : k = i
                    · subst hki
                      simp only [List.getElem_set_self]
                      exact hdr.keeps ext.keeps
                    · rw [List.getElem_set_ne (fun e => hki e.symm)]
                      refine Rd.congr (fun j hj => ?_) ((hrd k hk).keeps ext.keeps)
                      have hmk : (k + 1) * τ.size ≤ xs.length * τ.size := Nat.mul_le_mul_right _ hk
                      rw [Nat.add_mul, Nat.one_mul] at hmk
                      rw [List.getElem?_take, if_pos (by omega), hget, hvl, if_neg ?_]
                      · exact hvsl _ (by omega)
                      · rcases Nat.lt_or_gt_of_ne hki with hlt | hlt
                        · have : (k + 1) * τ.size ≤ i * τ.size := Nat.mul_le_mul_right _ hlt
                          rw [Nat.add_mul, Nat.one_mul] at this
                          omega
                        · have : (i + 1) * τ.size ≤ k * τ.size := Nat.mul_le_mul_right _ hlt
                          rw [Nat.add_mul, Nat.one_mul] at this
                          omega⟩)
                exact ⟨_, hrun, _, _, ext1.trans ext2, hr2, trivial⟩
            · simp at h
        · simp at h
    · simp at h
end
end Go.Eng


set_option linter.unusedVariables false
set_option linter.unusedSimpArgs false
namespace Go.Eng
section
variable {P : Program} {tab : Tab} {B : Bd tab} {c : Cx}

theorem ownsRow_one {w : World} {Bz e size n : Nat} {v : Value} {xs : List Value} (h : w.ownsRow Bz e size v n xs) : v.oneCell' = true := by
  rcases h.2 with ⟨rfl, _⟩ | ⟨g, cap, cur, rfl, _⟩ <;> rfl

theorem new_row (hr : HR B c) (h1 : Heap) (hu1 : h1.used = c.h.used) (ho1 : ∀ l o, h1.obj l = some o → c.h.obj l = some o)
    (X : Option Nat) (hXN : ∀ g, X = some g → c.N g ∧ B.W g ∧ ∀ l o, h1.obj l = some o → blk (c.ι l) ≠ some g)
    {w' : World} (hg : c.w.grownBy w' X) {d : Nat} (hd : c.h.used d = false) {v' : Value} (hvl : ∀ g, blk v' = some g → X = some g ∨ c.w.heap.size ≤ g)
    {e : Nat} {τ : Ty} {xs : List (Den τ)} {vs : List Value} (hp : 0 < τ.size) (hown : w'.ownsRow B.w0.heap.size e τ.size v' xs.length vs)
    (hrd : ∀ i (h : i < xs.length), Rd c.w c.N τ xs[i] (fun j => vs[i * τ.size + j]?)) :
    St1 B c (.lf (.own d)) (h1.new d (.row e τ xs)) v' w' := by
  obtain ⟨ext, hr'⟩ := step_new hr h1 hu1 ho1 X hXN hg d hd v' hvl (.row e τ xs)
    (fun ext => ⟨hp, vs, by simpa [upd] using hown, fun i hi => (hrd i hi).keeps ext.keeps⟩) (fun _ _ _ h => by cases h)
  refine ⟨_, _, ext, hr', ?_⟩
  simp only [SVR, LR]
  exact ⟨by simp [Heap.new, upd], ownsRow_one hown, fun e t xs _ => by simp [upd]⟩

theorem tab_elem (tk : TabOk P tab) {T e : Nat} (hk : (tab.at T).k = .sl e) : P.underlying T = some (.slice e) ∧ 0 < (tab.at e).size ∧ 0 < (tab.at e).bytes ∧ ∃ i z, P.info? e = some i ∧ i.size = (tab.at e).ty.size ∧ i.bytes = (tab.at e).bytes ∧ i.zero = some z ∧
    z.cells.toList.map some = (zeroL (tab.at e).ty).map zv ∧ (tab.at e).ty.size = (tab.at e).size := by
  have tok := tk T (by simp [hk])
  have hd := tok.desc
  simp only [hk] at hd
  obtain ⟨hu, _, _, hs, hb, hq⟩ := hd
  have tok2 := tk e (by intro h; simp [h] at hq)
  obtain ⟨i, hi, his, hib, hz⟩ := tok2.info
  obtain ⟨z, hz0, hzc, hzs⟩ := hz (by cases hh : (tab.at e).k <;> simp_all)
  exact ⟨hu, hs, hb, i, z, hi, his.trans hzs.symm, hib, hz0, hzc, hzs⟩

theorem makeSlice_sound (tk : TabOk P tab) (hr : HR B c) {T e d : Nat} (hk : (tab.at T).k = .sl e) (hd : c.h.used d = false) {n m : Int} (h0 : 0 ≤ n) (h1 : n ≤ m) (h2 : m * (tab.at e).bytes ≤ 140737488355328) :
    ∃ v' w', (Instr.makeSlice T (.int .i64 n) (.int .i64 m)).run P c.w = .ok v' w' ∧ St1 B c (.lf (.own d)) (c.h.new d (.row e (tab.at e).ty (List.replicate n.toNat (dflt (tab.at e).ty)))) v' w' := by
  obtain ⟨hu, hs, hb, i, z, hi, his, hib, hz0, hzc, hzs⟩ := tab_elem tk hk
  have hm63 : m ≤ 140737488355328 := by
    have : m * 1 ≤ m * (tab.at e).bytes := Int.mul_le_mul_of_nonneg_left (by omega) (by omega)
    omega
  have hrun := run_make (P := P) c.w T e i z hu hi hz0 .i64 .i64 n m h0 h1 (by rw [hib, Int.mul_comm]; omega) (by omega)
  obtain ⟨hzR, hzsz⟩ := zeroL_R (c := c) hzc
  have hsz : B.w0.heap.size ≤ c.w.heap.size := hr.keep.size
  refine ⟨_, _, hrun, ?_⟩
  have hnm : n.toNat * i.size ≤ m.toNat * i.size := Nat.mul_le_mul_right _ (by omega)
  refine new_row hr c.h rfl (fun _ _ h => h) none (by simp) (grown_alloc c.w _) hd (by intro g hg; simp only [blk, Option.some.injEq] at hg; exact .inr (by omega))
    (vs := (madeCells z.cells (m.toNat * i.size)).toList.take (n.toNat * i.size)) (by rw [hzs]; exact hs) ?_ ?_
  · rw [← his, List.length_replicate]
    refine ⟨by rw [List.length_take, Array.length_toList, size_madeCells]; exact Nat.min_eq_left hnm, .inr ⟨c.w.heap.size, m.toNat, _, rfl, hsz, heap_alloc_new c.w _, by omega, by simp only [maxLen]; omega, size_madeCells _ _, rfl⟩⟩
  · intro k hk
    simp only [List.length_replicate] at hk
    simp only [List.getElem_replicate]
    refine zeros_rd _ _ (fun j x hx => ?_)
    have hj : j < (tab.at e).ty.size := by rw [← zeroL_length]; exact (List.getElem?_eq_some_iff.1 hx).1
    have hj2 : k * (tab.at e).ty.size + j < n.toNat * i.size := by
      have : (k + 1) * (tab.at e).ty.size ≤ n.toNat * (tab.at e).ty.size := Nat.mul_le_mul_right _ hk
      rw [Nat.add_mul, Nat.one_mul] at this
      rw [his]; omega
    have hpos : 0 < z.cells.size := by rw [hzsz]; omega
    have hmod : (k * (tab.at e).ty.size + j) % z.cells.size = j := by
      rw [hzsz, Nat.mul_comm, Nat.mul_add_mod, Nat.mod_eq_of_lt hj]
    have hzj := congrArg (fun l => l[j]?) hzc
    simp only [List.getElem?_map, hx, Option.map_some] at hzj
    have hjz : j < z.cells.size := by rw [hzsz]; exact hj
    rw [List.getElem?_take, if_pos hj2]
    simp only [Array.getElem?_toList, madeCells, Array.getElem?_map, Array.getElem?_range]
    rw [if_pos (by omega)]
    simp only [Option.map_some, hmod]
    simp [hjz] at hzj ⊢
    exact hzj.symm

/-! ### a slice that is read as a whole -/
theorem cast_row {α : Type} {t τ : Ty} (q : t = τ) (xs : List (Den t)) : (q ▸ xs : List (Den τ)).length = xs.length := by subst q; rfl

theorem seq_src (hr : HR B c) {τ : Ty} {x : SV} {ys : List (Den τ)} {vx : Value} (h : seqOf τ c.h x = some ys) (hx : SVR c x vx) :
    ∃ (A : Option Addr) (cc : Nat) (news : List Value), vx = .slice A ys.length cc ∧ (0 < ys.length → ∃ b o, A = some ⟨b, o, none⟩) ∧ news.length = ys.length * τ.size ∧
      (∀ b o, A = some ⟨b, o, none⟩ → ∀ (j : Nat) (u : Value), news[j]? = some u → c.w.cell? ⟨b, o + j, none⟩ = some u) ∧ (∀ u ∈ news, u.oneCell' = true) ∧
      ∀ i (hi : i < ys.length), Rd c.w c.N τ ys[i] (fun j => news[i * τ.size + j]?) := by
  have frozen : ∀ v, Rd c.w c.N (.sl τ) ys (fun j => if j = 0 then some v else none) → v = vx → ∃ (A : Option Addr) (cc : Nat) (news : List Value), vx = .slice A ys.length cc ∧ (0 < ys.length → ∃ b o, A = some ⟨b, o, none⟩) ∧ news.length = ys.length * τ.size ∧
      (∀ b o, A = some ⟨b, o, none⟩ → ∀ (j : Nat) (u : Value), news[j]? = some u → c.w.cell? ⟨b, o + j, none⟩ = some u) ∧ (∀ u ∈ news, u.oneCell' = true) ∧
      ∀ i (hi : i < ys.length), Rd c.w c.N τ ys[i] (fun j => news[i * τ.size + j]?) := by
    rintro v hrd rfl
    simp only [Rd] at hrd
    obtain ⟨A, cc, e, _, hel⟩ := hrd
    simp only [if_true, Option.some.injEq] at e
    subst e
    by_cases h0 : ys.length = 0
    · refine ⟨A, cc, [], rfl, fun h => by omega, by simp [h0], fun _ _ _ j u hu => by simp at hu, by simp, fun i hi => by omega⟩
    · obtain ⟨b, o, rfl, _⟩ := hel 0 (by omega)
      obtain ⟨news, hl, hg, ho, hR⟩ := rows_list (w := c.w) (N := c.N) ys (fun j => c.w.cell? ⟨b, o + j, none⟩) (fun i hi => by
        obtain ⟨b', o', e', _, _, hr'⟩ := hel i hi
        simp only [Option.some.injEq, Addr.mk.injEq] at e'
        obtain ⟨rfl, rfl, _⟩ := e'
        exact Rd.congr (fun j _ => by rw [Nat.add_assoc]) hr')
      refine ⟨some ⟨b, o, none⟩, cc, news, rfl, fun _ => ⟨b, o, rfl⟩, hl, ?_, ho, hR⟩
      intro b' o' e' j u hu
      simp only [Option.some.injEq, Addr.mk.injEq] at e'
      obtain ⟨rfl, rfl, _⟩ := e'
      exact hg j u hu
  cases x with
  | ag cs => simp [seqOf] at h
  | tup xs => simp [seqOf] at h
  | lf y =>
    by_cases hy : ∃ l, y = .own l
    · obtain ⟨l, rfl⟩ := hy
      simp only [seqOf] at h
      split at h
      · rename_i e t xs ho
        split at h
        · rename_i q
          subst q
          simp only [Option.some.injEq] at h
          subst h
          simp only [SVR, LR] at hx
          have hv := hx.2.2 _ _ _ ho
          subst hv
          obtain ⟨_, hO⟩ := hr.obj l _ ho
          have hO2 := hO
          obtain ⟨hp, vs, hown, hrd⟩ := hO
          have hone : ∀ u ∈ vs, u.oneCell' = true := by
            intro u hu
            obtain ⟨k, hk, rfl⟩ := List.mem_iff_getElem.1 hu
            rw [hown.1] at hk
            have hi : k / t.size < xs.length := Nat.div_lt_of_lt_mul (by rw [Nat.mul_comm]; exact hk)
            obtain ⟨v, e1, ho1⟩ := rd_one (hrd (k / t.size) hi) (k % t.size) (Nat.mod_lt _ hp)
            have : k / t.size * t.size + k % t.size = k := by rw [Nat.mul_comm]; exact Nat.div_add_mod k t.size
            simp only [this] at e1
            rw [List.getElem?_eq_getElem (by rw [hown.1]; exact hk)] at e1
            simp only [Option.some.injEq] at e1
            rw [e1]; exact ho1
          rcases hown.2 with ⟨hv, hn⟩ | ⟨g, cap, cur, hv, _⟩
          · refine ⟨none, 0, vs, by simp [hv, hn], fun h => by omega, hown.1, fun b o e => by simp at e, hone, hrd⟩
          · refine ⟨some ⟨g, 0, none⟩, cap, vs, by simp [hv], fun _ => ⟨g, 0, rfl⟩, hown.1, ?_, hone, hrd⟩
            intro b o e j u hu
            simp only [Option.some.injEq, Addr.mk.injEq] at e
            obtain ⟨rfl, rfl, _⟩ := e
            have := hown.cells (g := g) (by rw [hv]; rfl) j u hu
            rwa [add_eq] at this
        · simp at h
      · simp at h
    · have h' : slOf τ y = some ys := by
        cases y <;> simp_all [seqOf]
      exact frozen vx (slOf_rd h' hx) rfl

theorem append_nothing (w : World) (t ty e : TypeId) (i : TypeInfo) (ht : P.underlying t = some (.slice e)) (hi : P.info? e = some i) {Bz size n : Nat} {v : Value} {xs : List Value} (hown : w.ownsRow Bz e size v n xs) (A : Option Addr) (cc : Nat) :
    (Builtin.append_ #[t, t] ty #[v, .slice A 0 cc]).run P w = .ok v w := by
  rcases hown.2 with ⟨rfl, rfl⟩ | ⟨g, cap, cur, rfl, _, _, hnc, _⟩
  · rcases A with _ | a <;> simp [Builtin.append_, run_underlying ht, sizeOf, typeInfo, hi, Builtin.lenOf, Builtin.firstCells, loadCells, loadCellsFrom]
  · rcases A with _ | a <;> simp [Builtin.append_, run_underlying ht, sizeOf, typeInfo, hi, Builtin.lenOf, Builtin.firstCells, hnc, storeCells, loadCells, loadCellsFrom]

theorem run_append_own2 (w : World) (base : Nat) (t ty e : TypeId) (i : TypeInfo) (z : Value) (size bytes : Nat) (ht : P.underlying t = some (.slice e)) (hi : P.info? e = some i) (hz : i.zero = some z)
    (hsize : i.size = size) (hby : i.bytes = bytes) (hzs : z.cells.size = size) (hsz : 0 < size)
    (v : Value) (n : Nat) (xs : List Value) (hown : w.ownsRow base e size v n xs)
    (a : Addr) (m c : Nat) (news : List Value) (hl : news.length = m * size) (hnews : ∀ (j : Nat) (u : Value), news[j]? = some u → w.cell? (a.add j) = some u) (h1 : ∀ u ∈ news, u.oneCell' = true)
    (h63 : n + m ≤ maxLen) (hbytes : (n + m) * bytes ≤ 140737488355328) (hbase : base ≤ w.heap.size) (hm : m ≠ 0) :
    ∃ v' w', (Builtin.append_ #[t, t] ty #[v, .slice (some a) m c]).run P w = .ok v' w' ∧ w'.ownsRow base e size v' (n + m) (xs ++ news) ∧ w.grownBy w' v.ownBlock ∧
      ∀ g, blk v' = some g → v.ownBlock = some g ∨ w.heap.size ≤ g := by
  obtain ⟨v', w', hr, h2, h3, h4⟩ := run_append_own (P := P) w base t ty e i z size bytes ht hi hz hsize hby hzs hsz v n xs hown a m c news hl hnews h1 h63 hbytes hbase
  refine ⟨v', w', hr, h2, h3, ?_⟩
  subst hsize
  subst hby
  have hsmall : n + m ≤ 9223372036854775807 := by simp only [maxLen] at h63; omega
  intro g hg
  rcases hown.2 with ⟨rfl, rfl⟩ | ⟨g', cap, cur, rfl, hbg, hgg, hnc, hcm, hcs, htake⟩
  · have hr' := run_append_nil (P := P) w t ty e i z ht hi hz a m c news hl hnews (by omega) (by omega) (by have hb := hbytes; simp only [Nat.zero_add] at hb; omega)
    rw [hr'] at hr
    simp only [Result.ok.injEq] at hr
    obtain ⟨rfl, _⟩ := hr
    simp only [blk, Option.some.injEq] at hg
    exact .inr (by omega)
  · by_cases hroom : n + m ≤ cap
    · have hfit : n * i.size + news.length ≤ cur.size := by rw [hl, hcs, ← Nat.add_mul]; exact Nat.mul_le_mul_right _ hroom
      have hr' := run_append_room (P := P) w t ty e i ht hi g' n cap cur hgg a m c news hl hnews h1 hroom hfit
      rw [hr'] at hr
      simp only [Result.ok.injEq] at hr
      obtain ⟨rfl, _⟩ := hr
      simp only [blk, Option.some.injEq] at hg
      exact .inl (by simp [Value.ownBlock, hg])
    · have holds : ∀ j u, xs[j]? = some u → w.cell? ((⟨g', 0, none⟩ : Addr).add j) = some u := hown.cells (g := g') rfl
      have hr' := run_append_grow (P := P) w t ty e i z ht hi hz ⟨g', 0, none⟩ n cap xs hown.1 holds a m c news hl hnews (by omega) (by omega) (growslice_fits (by omega) hbytes)
      rw [hr'] at hr
      simp only [Result.ok.injEq] at hr
      obtain ⟨rfl, _⟩ := hr
      simp only [blk, Option.some.injEq] at hg
      exact .inr (by omega)

theorem concat_rd {w : World} {N : Nat → Prop} {τ : Ty} {xs ys : List (Den τ)} {vs us : List Value} (hv : vs.length = xs.length * τ.size)
    (h1 : ∀ i (h : i < xs.length), Rd w N τ xs[i] (fun j => vs[i * τ.size + j]?)) (h2 : ∀ i (h : i < ys.length), Rd w N τ ys[i] (fun j => us[i * τ.size + j]?)) :
    ∀ i (h : i < (xs ++ ys).length), Rd w N τ (xs ++ ys)[i] (fun j => (vs ++ us)[i * τ.size + j]?) := by
  intro i hi
  by_cases hlt : i < xs.length
  · rw [List.getElem_append_left hlt]
    refine Rd.congr (fun j hj => ?_) (h1 i hlt)
    have : (i + 1) * τ.size ≤ xs.length * τ.size := Nat.mul_le_mul_right _ hlt
    rw [Nat.add_mul, Nat.one_mul] at this
    rw [List.getElem?_append_left (by omega)]
  · rw [List.getElem_append_right (by omega)]
    refine Rd.congr (fun j hj => ?_) (h2 (i - xs.length) (by simp at hi; omega))
    have : xs.length * τ.size ≤ i * τ.size := Nat.mul_le_mul_right _ (by omega)
    rw [List.getElem?_append_right (by omega), hv, Nat.mul_sub_right_distrib]
    congr 1; omega

theorem del_obj {h : Heap} {l l' : Nat} {o : Ob} (hh : (h.del l).obj l' = some o) : l' ≠ l ∧ h.obj l' = some o := by
  simp only [Heap.del, upd] at hh
  split at hh
  · cases hh
  · rename_i hne; exact ⟨hne, hh⟩

theorem ownSeq_src (hr : HR B c) {e : Nat} {τ : Ty} {s : SV} {vs : Value} {xs : List (Den τ)} {h1 : Heap} (h2 : ownSeq e τ c.h s = some (xs, h1)) (hs : SVR c s vs) :
    ∃ us, c.w.ownsRow B.w0.heap.size e τ.size vs xs.length us ∧ (∀ i (h : i < xs.length), Rd c.w c.N τ xs[i] (fun j => us[i * τ.size + j]?)) ∧
      h1.used = c.h.used ∧ (∀ l o, h1.obj l = some o → c.h.obj l = some o) ∧ (∀ g, vs.ownBlock = some g → c.N g ∧ B.W g ∧ ∀ l o, h1.obj l = some o → blk (c.ι l) ≠ some g) := by
  cases s with
  | ag _ => simp [ownSeq] at h2
  | tup _ => simp [ownSeq] at h2
  | lf y =>
    cases y with
    | own l =>
      simp only [ownSeq] at h2
      split at h2
      · rename_i e' t zs ho
        split at h2
        · rename_i q
          split at h2
          · rename_i e2
            subst e2
            subst q
            simp only [Option.some.injEq, Prod.mk.injEq] at h2
            obtain ⟨rfl, rfl⟩ := h2
            simp only [SVR, LR] at hs
            have hv := hs.2.2 _ _ _ ho
            subst hv
            obtain ⟨_, hO⟩ := hr.obj l _ ho
            obtain ⟨_, us, hown, hrd⟩ := hO
            refine ⟨us, hown, hrd, rfl, fun l' o h => (del_obj h).2, ?_⟩
            intro g hg
            have hbk : blk (c.ι l) = some g := by
              rcases hown.2 with ⟨hv, _⟩ | ⟨g', cap, cur, hv, _⟩
              · rw [hv] at hg; simp [Value.ownBlock] at hg
              · rw [hv] at hg ⊢; simpa [Value.ownBlock, blk] using hg
            refine ⟨hr.own l _ g ho hbk, B.fresh _ (ownsRow_blk hown hbk).1, ?_⟩
            intro l' o h e
            obtain ⟨hne, h'⟩ := del_obj h
            exact hne (hr.inj l' l o _ g h' ho e hbk)
          · simp at h2
        · simp at h2
      · simp at h2
    | nilsl =>
      simp only [ownSeq, Option.some.injEq, Prod.mk.injEq] at h2
      obtain ⟨rfl, rfl⟩ := h2
      simp only [SVR, LR] at hs
      subst hs
      exact ⟨[], ⟨by simp, .inl ⟨rfl, rfl⟩⟩, fun i hi => by simp at hi, rfl, fun _ _ h => h, fun g hg => by simp [Value.ownBlock] at hg⟩
    | _ => simp [ownSeq] at h2

theorem append_sound (tk : TabOk P tab) (hr : HR B c) {T e d ty : Nat} (hk : (tab.at T).k = .sl e) (hd : c.h.used d = false) {s x : SV} {vs vx : Value} {xs ys : List (Den (tab.at e).ty)} {h1 : Heap}
    (h2 : ownSeq e (tab.at e).ty c.h s = some (xs, h1)) (h3 : seqOf (tab.at e).ty c.h x = some ys) (hs : SVR c s vs) (hx : SVR c x vx) (hb : (xs.length + ys.length) * (tab.at e).bytes ≤ 140737488355328) :
    ∃ v' w', (Builtin.append_ #[T, T] ty #[vs, vx]).run P c.w = .ok v' w' ∧ St1 B c (.lf (.own d)) (h1.new d (.row e (tab.at e).ty (xs ++ ys))) v' w' := by
  obtain ⟨hu, hsz, hbp, i, z, hi, his, hib, hz0, hzc, hzs⟩ := tab_elem tk hk
  obtain ⟨_, hzsz⟩ := zeroL_R (c := c) hzc
  obtain ⟨A, cc, news, rfl, hA, hnl, hcell, hone, hRy⟩ := seq_src hr h3 hx
  have hp : 0 < (tab.at e).ty.size := by omega
  obtain ⟨us, hown, hRx, hu1, ho1, hXN⟩ := ownSeq_src hr h2 hs
  have hvl0 : ∀ g, blk vs = some g → vs.ownBlock = some g := fun g hg => (ownsRow_blk hown hg).2.2
  by_cases h0 : ys.length = 0
  · have hys : ys = [] := List.eq_nil_of_length_eq_zero h0
    subst hys
    refine ⟨vs, c.w, by rw [show ([] : List (Den (tab.at e).ty)).length = 0 from rfl]; exact append_nothing c.w T ty e i hu hi hown A cc, ?_⟩
    rw [List.append_nil]
    exact new_row hr h1 hu1 ho1 vs.ownBlock hXN ⟨rfl, rfl, rfl, Nat.le_refl _, fun _ _ _ => rfl⟩ hd (fun g hg => .inl (hvl0 g hg)) hp hown hRx
  · obtain ⟨b, o, rfl⟩ := hA (by omega)
    have h63 : xs.length + ys.length ≤ 140737488355328 := by
      have : (xs.length + ys.length) * 1 ≤ (xs.length + ys.length) * (tab.at e).bytes := Nat.mul_le_mul_left _ hbp
      omega
    obtain ⟨v', w', hrun, hown', hgr, hblk⟩ := run_append_own2 (P := P) c.w B.w0.heap.size T ty e i z (tab.at e).ty.size (tab.at e).bytes hu hi hz0 his hib hzsz hp vs xs.length us hown ⟨b, o, none⟩ ys.length cc news hnl
      (fun j u hu => by rw [add_eq]; exact hcell b o rfl j u hu) hone (by simp only [maxLen]; omega) hb hr.keep.size h0
    refine ⟨v', w', hrun, ?_⟩
    exact new_row hr h1 hu1 ho1 vs.ownBlock hXN hgr hd hblk hp (by rw [List.length_append]; exact hown') (concat_rd hown.1 hRx hRy)
end
end Go.Eng


set_option linter.unusedVariables false
set_option linter.unusedSimpArgs false
namespace Go.Eng
section
variable {P : Program} {tab : Tab} {B : Bd tab} {c : Cx}

theorem copy_sound (tk : TabOk P tab) (hr : HR B c) {T T2 e e' l ty : Nat} (hk : (tab.at T).k = .sl e) (hs1 : (tab.at e).size = 1) {t : Ty} {zs : List (Den t)} (ho : c.h.obj l = some (.row e' t zs))
    {vs vx : Value} {x : SV} {xs ys : List (Den (tab.at e).ty)} (h2 : seqOf (tab.at e).ty c.h (.lf (.own l)) = some xs) (h3 : seqOf (tab.at e).ty c.h x = some ys) (hs : SVR c (.lf (.own l)) vs) (hx : SVR c x vx) :
    ∃ w', (Builtin.copy_ #[T, T2] ty #[vs, vx]).run P c.w = .ok (.int .i64 (min ys.length xs.length : Nat)) w' ∧
      St1 B c (.lf (.int .i64 (min ys.length xs.length : Nat))) (c.h.put l (.row e' (tab.at e).ty (ys.take xs.length ++ xs.drop ys.length))) (.int .i64 (min ys.length xs.length : Nat)) w' := by
  obtain ⟨hu, hsz, hbp, i, z, hi, his, hib, hz0, hzc, hzs⟩ := tab_elem tk hk
  obtain ⟨A, cc, news, rfl, hA, hnl, hcell, hone, hRy⟩ := seq_src hr h3 hx
  rw [hs1] at hzs
  have hi1 : i.size = 1 := his.trans hzs
  generalize (tab.at e).ty = τ at *
  simp only [seqOf, ho] at h2
  split at h2
  · rename_i q
    subst q
    simp only [Option.some.injEq] at h2
    subst h2
    simp only [SVR, LR] at hs
    have hv := hs.2.2 _ _ _ ho
    subst hv
    obtain ⟨_, hO⟩ := hr.obj l _ ho
    obtain ⟨hp, us, hown, hrd⟩ := hO
    have hlen : (ys.take zs.length ++ zs.drop ys.length).length = zs.length := by simp; omega
    rw [hzs, Nat.mul_one] at hnl
    have hus : us.length = zs.length := by have := hown.1; rw [hzs, Nat.mul_one] at this; exact this
    -- the cells behind
    have hR : ∀ i (h : i < (ys.take zs.length ++ zs.drop ys.length).length), Rd c.w c.N t (ys.take zs.length ++ zs.drop ys.length)[i] (fun j => (news.take zs.length ++ us.drop news.length)[i * t.size + j]?) := by
      refine concat_rd (by simp [hnl, hzs]) ?_ ?_
      · intro k hk
        simp only [List.length_take] at hk
        simp only [List.getElem_take]
        refine Rd.congr (fun j hj => ?_) (hRy k (by omega))
        rw [hzs] at hj ⊢
        rw [List.getElem?_take, if_pos (by omega)]
      · intro k hk
        simp only [List.length_drop] at hk
        simp only [List.getElem_drop]
        refine Rd.congr (fun j hj => ?_) (hrd (ys.length + k) (by omega))
        rw [hzs] at hj ⊢
        rw [List.getElem?_drop, hnl]
        congr 1; omega
    rcases hown.2 with ⟨hv, hn⟩ | ⟨g, cap, cur, hv, hB, hg, hnc, hcm, hcs, htake⟩
    · -- nothing is copied
      have h0 : min ys.length zs.length = 0 := by omega
      refine ⟨c.w, ?_, ?_⟩
      · have h0' : Nat.min ys.length zs.length = 0 := h0
        rw [hv, hn, Nat.min_zero]
        rcases A with _ | a <;> simp [Builtin.copy_, run_underlying hu, Builtin.lenOf, Builtin.firstCells, sizeOf, typeInfo, hi, hi1, loadCells, loadCellsFrom, goInt]
      · have hnil : ys.take zs.length ++ zs.drop ys.length = zs := by
          have : zs = [] := List.eq_nil_of_length_eq_zero hn
          subst this; simp
        rw [hnil]
        obtain ⟨ext, hr'⟩ := step_mod hr l (.row e' t zs) (.row e' t zs) ho ⟨rfl, rfl, rfl⟩ none (by simp) ⟨rfl, rfl, rfl, Nat.le_refl _, fun _ _ _ => rfl⟩
          (fun ext => ⟨hp, us, hown, fun i h => (hrd i h).keeps ext.keeps⟩)
        exact ⟨_, _, ext, hr', rfl⟩
    · have hblk : blk (c.ι l) = some g := by rw [hv]; rfl
      have hcl : cur.size = cap := by rw [hcs, hzs, Nat.mul_one]
      have htk : cur.toList.take zs.length = us := by rw [← htake, hzs, Nat.mul_one]
      have hcs1 : (news.take zs.length).length = min ys.length zs.length := by rw [List.length_take, hnl, Nat.min_comm]
      have hrun : (Builtin.copy_ #[T, T2] ty #[c.ι l, .slice A ys.length cc]).run P c.w = .ok (goInt (news.take zs.length).length) (c.w.setRow g (cur.toList.take 0 ++ news.take zs.length ++ cur.toList.drop (0 + (news.take zs.length).length)).toArray) := by
        by_cases h0 : ys.length = 0
        · have hn0 : news = [] := List.eq_nil_of_length_eq_zero (by omega)
          subst hn0
          rw [hv, h0]
          have := setRow_self c.w g cur e' (0, 0) hg
          rcases A with _ | a <;> simp [Builtin.copy_, run_underlying hu, Builtin.lenOf, Builtin.firstCells, sizeOf, typeInfo, hi, hi1, loadCells, loadCellsFrom, goInt, storeCells, this]
        · obtain ⟨b, o, rfl⟩ := hA (by omega)
          rw [hv]
          refine run_copy_row P c.w T T2 ty e g 0 zs.length cap ⟨b, o, none⟩ ys.length cc cur e' (news.take zs.length) hu (by simp [hi, hi1]) hg (by rw [hcs1]) ?_ ?_ ?_
          · intro j v hj
            rw [add_eq]
            rw [List.getElem?_take] at hj
            split at hj
            · exact hcell b o rfl j v hj
            · simp at hj
          · rw [hcs1]; omega
          · intro v hv'
            exact hone v (List.mem_of_mem_take hv')
      have hc' : (cur.toList.take 0 ++ news.take zs.length ++ cur.toList.drop (0 + (news.take zs.length).length)) = news.take zs.length ++ cur.toList.drop (min ys.length zs.length) := by
        rw [List.take_zero, List.nil_append, hcs1, Nat.zero_add]
      rw [hc'] at hrun
      refine ⟨_, by rw [hrun, hcs1]; rfl, ?_⟩
      have hcl2 : cur.toList.length = cap := by rw [Array.length_toList]; exact hcl
      have hsz' : (news.take zs.length ++ cur.toList.drop (min ys.length zs.length)).toArray.size = cap * t.size := by
        rw [hzs, Nat.mul_one]
        simp only [List.size_toArray, List.length_append, List.length_drop, hcs1]
        omega
      have htk' : (news.take zs.length ++ cur.toList.drop (min ys.length zs.length)).take zs.length = news.take zs.length ++ us.drop news.length := by
        rw [List.take_append, hcs1, List.take_take, Nat.min_self]
        congr 1
        rw [← htk, List.drop_take, hnl]
        by_cases hle : ys.length ≤ zs.length
        · rw [Nat.min_eq_left hle]
        · rw [Nat.min_eq_right (by omega), Nat.sub_self, List.take_zero, show zs.length - ys.length = 0 by omega, List.take_zero]
      obtain ⟨ext, hr'⟩ := step_mod hr l (.row e' t zs) (.row e' t (ys.take zs.length ++ zs.drop ys.length)) ho ⟨rfl, rfl, hlen.symm⟩ (some g) (by intro b e; simp only [Option.some.injEq] at e; subst e; exact ⟨hblk, B.fresh _ hB⟩)
        (setRow_grown c.w g (news.take zs.length ++ cur.toList.drop (min ys.length zs.length)).toArray)
        (fun ext => ⟨hp, news.take zs.length ++ us.drop news.length, ⟨by rw [hlen, hzs, Nat.mul_one, List.length_append, hcs1, List.length_drop, hus, hnl]; omega, .inr ⟨g, cap, _, by rw [hlen]; exact hv, hB, setRow_heap c.w g cur _ e' _ hg, by rw [hlen]; exact hnc, hcm, hsz', by
            rw [hlen, hzs, Nat.mul_one]
            exact htk'⟩⟩, fun i h => (hR i h).keeps ext.keeps⟩)
      exact ⟨_, _, ext, hr', rfl⟩
  · simp at h2

/-! ### literals -/
theorem fold_get (vs : List Value) (off : Nat) : ∀ (start : Nat) (cells : Array Value) (k : Nat), ((vs.zipIdx start).foldl (fun cs x => cs.setIfInBounds (off + x.2) x.1) cells)[k]? =
    if off + start ≤ k ∧ k < off + start + vs.length ∧ k < cells.size then vs[k - off - start]? else cells[k]? := by
  induction vs with
  | nil => intro start cells k; simp; intro h1 h2 h3; omega
  | cons v r ih =>
    intro start cells k
    simp only [List.zipIdx_cons, List.foldl_cons, ih, Array.size_setIfInBounds, List.length_cons]
    by_cases hk : k = off + start
    · subst hk
      rw [if_neg (by omega)]
      by_cases hsz : off + start < cells.size
      · rw [if_pos (by omega)]
        simp [hsz, show off + start - off - start = 0 by omega]
      · rw [if_neg (by omega)]
        simp [hsz]
    · by_cases h2 : off + (start + 1) ≤ k ∧ k < off + (start + 1) + r.length ∧ k < cells.size
      · rw [if_pos h2, if_pos (by omega)]
        rw [show k - off - start = (k - off - (start + 1)) + 1 by omega]
        simp
      · rw [if_neg h2, Array.getElem?_setIfInBounds_ne (by omega)]
        by_cases h3 : off + start ≤ k ∧ k < off + start + (r.length + 1) ∧ k < cells.size
        · omega
        · rw [if_neg h3]
theorem fold_size (vs : List Value) (off : Nat) : ∀ (start : Nat) (cells : Array Value), ((vs.zipIdx start).foldl (fun cs x => cs.setIfInBounds (off + x.2) x.1) cells).size = cells.size := by
  induction vs with
  | nil => intro start cells; rfl
  | cons v r ih => intro start cells; simp only [List.zipIdx_cons, List.foldl_cons, ih, Array.size_setIfInBounds]

theorem fold_arr (vs : Array Value) (off : Nat) (cells : Array Value) : vs.zipIdx.foldl (fun cs x => cs.setIfInBounds (off + x.2) x.1) cells = ((vs.toList.zipIdx 0).foldl (fun cs x => cs.setIfInBounds (off + x.2) x.1) cells) := by
  rw [← Array.foldl_toList, Array.toList_zipIdx]

theorem fill_slots (size : Nat) : ∀ (ps : List (Nat × Value)) (k : Nat) (cells : Array Value), ps.map (·.1) = List.range' k ps.length → (∀ p ∈ ps, p.2.cells.size = size) → (k + ps.length) * size ≤ cells.size →
    ∃ cells', Instr.fill (fun i => some (i * size, size)) cells ps = some cells' ∧ cells'.size = cells.size ∧ (∀ j, j < k * size → cells'[j]? = cells[j]?) ∧
      ∀ (i j : Nat) (p : Nat × Value), ps[i]? = some p → j < size → cells'[(k + i) * size + j]? = p.2.cells[j]?
  | [], k, cells, _, _, _ => ⟨cells, rfl, rfl, fun _ _ => rfl, fun i j p h => by simp at h⟩
  | (q, v) :: r, k, cells, hm, hs, hf => by
    simp only [List.map_cons, List.length_cons, List.range'_succ, List.cons.injEq] at hm
    obtain ⟨rfl, hm⟩ := hm
    have hv : v.cells.size = size := hs (q, v) (by simp)
    simp only [List.length_cons] at hf
    have hq : (q + 1) * size ≤ (q + (r.length + 1)) * size := Nat.mul_le_mul_right _ (by omega)
    rw [Nat.add_mul, Nat.one_mul] at hq
    have hfold := fold_arr v.cells (q * size) cells
    obtain ⟨cells', h1, h2, h3, h4⟩ := fill_slots size r (q + 1) (v.cells.zipIdx.foldl (fun cs x => cs.setIfInBounds (q * size + x.2) x.1) cells) hm (fun p hp => hs p (by simp [hp]))
      (by rw [hfold, fold_size, show q + 1 + r.length = q + (r.length + 1) by omega]; exact hf)
    have hq1 : (q + 1) * size = q * size + size := by rw [Nat.add_mul, Nat.one_mul]
    refine ⟨cells', ?_, ?_, ?_, ?_⟩
    · simp only [Instr.fill]
      rw [if_neg (by simp [hv]; omega)]
      exact h1
    · rw [h2, hfold, fold_size]
    · intro j hj
      rw [h3 j (by omega), hfold, fold_get, if_neg (by omega)]
    · intro i j p hp hj
      cases i with
      | zero =>
        simp only [List.getElem?_cons_zero, Option.some.injEq] at hp
        subst hp
        rw [Nat.add_zero, h3 _ (by omega), hfold, fold_get, if_pos (by simp [hv]; omega)]
        simp only [Array.getElem?_toList]
        congr 1; omega
      | succ i =>
        simp only [List.getElem?_cons_succ] at hp
        have := h4 i j p hp hj
        rw [show q + (i + 1) = q + 1 + i by omega]
        exact this

theorem listOf_sound : ∀ {τ : Ty} {svs : List SV} {c : Cx} {ds : List (Den τ)} {h1 : Heap} {vs : List Value} (hr : HR B c), listOf τ svs c.h = some (ds, h1) → svs.length = vs.length →
    (∀ (i : Nat) (x : SV) (v : Value), svs[i]? = some x → vs[i]? = some v → SVR c x v) →
    ∃ N', (∀ b, N' b → c.N b) ∧ Ext c ⟨c.ι, h1, c.w, N'⟩ ∧ HR B ⟨c.ι, h1, c.w, N'⟩ ∧ ds.length = svs.length ∧
      (∀ v ∈ vs, v.cells.size = τ.size) ∧ (∀ v ∈ vs, ∀ x ∈ v.cells.toList, x.oneCell' = true) ∧ ∀ i (hi : i < ds.length) (v : Value), vs[i]? = some v → Rd c.w N' τ ds[i] (fun j => v.cells[j]?)
  | τ, [], c, ds, h1, vs, hr, h, hl, hv => by
    simp only [listOf, Option.some.injEq, Prod.mk.injEq] at h
    obtain ⟨rfl, rfl⟩ := h
    have : vs = [] := List.eq_nil_of_length_eq_zero (by simpa using hl.symm)
    subst this
    exact ⟨c.N, fun _ h => h, Ext.refl c, hr, rfl, by simp, by simp, fun i hi => by simp at hi⟩
  | τ, x :: r, c, ds, h1, vs, hr, h, hl, hv => by
    simp only [listOf] at h
    split at h
    · simp at h
    · rename_i hok
      cases hf : frzAll c.h x.leaves with
      | mk cs h2 =>
        simp only [hf] at h
        split at h
        · rename_i d hd
          split at h
          · rename_i es h3 hrest
            simp only [Option.some.injEq, Prod.mk.injEq] at h
            obtain ⟨rfl, rfl⟩ := h
            cases vs with
            | nil => simp at hl
            | cons v us =>
              obtain ⟨hcs, hcl, hone⟩ := sv_cells (hv 0 x v rfl rfl) (by simpa using hok)
              obtain ⟨N1, a1, b1, d1, f1, len1⟩ := frzAll_sound hr hf hcl
              obtain ⟨hrd, hsz⟩ := ofAll_rd hd f1
              obtain ⟨N2, a2, b2, d2, len2, s2, o2, r2⟩ := listOf_sound (c := ⟨c.ι, h2, c.w, N1⟩) d1 hrest (by simpa using hl) (fun i y u hy hu => (hv (i + 1) y u (by simpa using hy) (by simpa using hu)).ext b1)
              refine ⟨N2, fun b h => a1 b (a2 b h), b1.trans b2, d2, by simp [len2], ?_, ?_, ?_⟩
              · intro u hu
                rcases List.mem_cons.1 hu with rfl | hu
                · rw [hcs, ← len1, hsz]
                · exact s2 u hu
              · intro u hu
                rcases List.mem_cons.1 hu with rfl | hu
                · exact hone
                · exact o2 u hu
              · intro i hi u hu
                cases i with
                | zero =>
                  simp only [List.getElem?_cons_zero, Option.some.injEq] at hu
                  subst hu
                  exact hrd.keeps b2.keeps
                | succ i => exact r2 i (by simpa using hi) u (by simpa using hu)
          · simp at h
        · simp at h

theorem frz_used (h : Heap) (x : Lf) : (frz h x).2.used = h.used := by
  unfold frz; split
  · split <;> rfl
  · rfl
theorem frzAll_used : ∀ (l : List Lf) (h : Heap), (frzAll h l).2.used = h.used
  | [], h => rfl
  | x :: r, h => by simp only [frzAll, frzAll_used r, frz_used]
theorem listOf_used {τ : Ty} : ∀ (l : List SV) (h : Heap) {ds : List (Den τ)} {h1 : Heap}, listOf τ l h = some (ds, h1) → h1.used = h.used
  | [], h, ds, h1, hh => by simp only [listOf, Option.some.injEq, Prod.mk.injEq] at hh; rw [hh.2]
  | x :: r, h, ds, h1, hh => by
    simp only [listOf] at hh
    split at hh
    · simp at hh
    · cases hf : frzAll h x.leaves with
      | mk cs h2 =>
        simp only [hf] at hh
        split at hh
        · split at hh
          · rename_i h3 hrest
            simp only [Option.some.injEq, Prod.mk.injEq] at hh
            rw [← hh.2, listOf_used r h2 hrest]
            have := frzAll_used x.leaves h
            rw [hf] at this
            exact this
          · simp at hh
        · simp at hh

theorem buildSlice_sound (tk : TabOk P tab) (hr : HR B c) {T e d n : Nat} (hk : (tab.at T).k = .sl e) (hd : c.h.used d = false) {ps : List (Nat × SV)} {qs : List (Nat × Value)} (hm : ps.map (·.1) = List.range n)
    (hq : qs.map (·.1) = ps.map (·.1)) (hv : ∀ (i : Nat) (p : Nat × SV) (q : Nat × Value), ps[i]? = some p → qs[i]? = some q → SVR c p.2 q.2) {xs : List (Den (tab.at e).ty)} {h1 : Heap}
    (hx : listOf (tab.at e).ty (ps.map (·.2)) c.h = some (xs, h1)) (hn : n * (tab.at e).size ≤ 16777216) :
    ∃ v' w', (Instr.buildSlice T n qs.toArray).run P c.w = .ok v' w' ∧ St1 B c (.lf (.own d)) (h1.new d (.row e (tab.at e).ty xs)) v' w' := by
  obtain ⟨hu, hsz, hbp, i, z, hi, his, hib, hz0, hzc, hzs⟩ := tab_elem tk hk
  have hlen : qs.length = ps.length := by have := congrArg List.length hq; simpa using this
  have hpn : ps.length = n := by have := congrArg List.length hm; simpa using this
  obtain ⟨N1, a1, b1, d1, len1, s1, o1, r1⟩ := listOf_sound (vs := qs.map (·.2)) hr hx (by simp [hlen]) (by
    intro i x v hx hv'
    simp only [List.getElem?_map, Option.map_eq_some_iff] at hx hv'
    obtain ⟨p, hp, rfl⟩ := hx
    obtain ⟨q, hq', rfl⟩ := hv'
    exact hv i p q hp hq')
  simp only [List.length_map] at len1
  have his' : i.size = (tab.at e).size := his.trans hzs
  obtain ⟨cells', f1, f2, f3, f4⟩ := fill_slots i.size qs 0 ((Array.range (n * i.size)).map (z.cells[· % z.cells.size]!)) (by rw [hq, hm, hlen, hpn, List.range_eq_range'])
    (fun p hp => by rw [his]; exact s1 p.2 (List.mem_map.2 ⟨p, hp, rfl⟩)) (by simp [hlen, hpn])
  simp only [Array.size_map, Array.size_range] at f2
  have hB : B.w0.heap.size ≤ c.w.heap.size := hr.keep.size
  have hrun : (Instr.buildSlice T n qs.toArray).run P c.w = .ok (.slice (some ⟨c.w.heap.size, 0, none⟩) n n) (c.w.alloc (.cells cells' e)) := by
    have hlim : ¬ (16777216 < n * i.size) := by rw [his']; omega
    by_cases h0 : n * i.size = 0
    · have hn0 : n = 0 := by
        rcases Nat.mul_eq_zero.1 h0 with h | h
        · exact h
        · omega
      subst hn0
      have hq0 : qs = [] := List.eq_nil_of_length_eq_zero (by omega)
      subst hq0
      simp only [Instr.fill, Option.some.injEq] at f1
      subst f1
      simp [Instr.buildSlice, run_underlying hu, sizeOf, typeInfo, hi, Instr.fill, newRow, Array.range_zero']
    · simp [Instr.buildSlice, run_underlying hu, sizeOf, typeInfo, zeroValue, hi, hz0, hlim, h0, f1, newRow]
  refine ⟨_, _, hrun, ?_⟩
  have hcap : n ≤ 16777216 := by
    have : n * 1 ≤ n * (tab.at e).size := Nat.mul_le_mul_left _ hsz
    omega
  have hR : ∀ k (hk' : k < xs.length), Rd c.w N1 (tab.at e).ty xs[k] (fun j => cells'.toList[k * (tab.at e).ty.size + j]?) := by
    intro k hk'
    have hkq : k < qs.length := by omega
    have := r1 k hk' qs[k].2 (by simp [hkq])
    refine Rd.congr (fun j hj => ?_) this
    have := f4 k j qs[k] (by simp [hkq]) (by rw [his]; exact hj)
    rw [Nat.zero_add, his] at this
    rw [← this]
    simp
  obtain ⟨ι', N', ext, hr', hsv⟩ := new_row (c := ⟨c.ι, h1, c.w, N1⟩) d1 h1 rfl (fun _ _ h => h) none (by simp) (grown_alloc c.w (.cells cells' e)) (d := d) (by simp only; rw [listOf_used _ _ hx]; exact hd) (v' := .slice (some ⟨c.w.heap.size, 0, none⟩) n n) (by intro g hg; simp only [blk, Option.some.injEq] at hg; exact .inr (by simp only; omega))
    (e := e) (τ := (tab.at e).ty) (xs := xs) (vs := cells'.toList) (by omega)
    ⟨by rw [Array.length_toList, f2, len1, hpn, his], .inr ⟨c.w.heap.size, n, cells', by rw [len1, hpn], hB, heap_alloc_new c.w _, by rw [len1, hpn]; exact Nat.le_refl _, by simp only [maxLen]; omega, by rw [f2, his], by
      rw [len1, hpn]
      exact List.take_of_length_le (by rw [Array.length_toList, f2, his]; exact Nat.le_refl _)⟩⟩ hR
  exact ⟨ι', N', b1.trans ext, hr', hsv⟩
end
end Go.Eng


set_option linter.unusedVariables false
set_option linter.unusedSimpArgs false
namespace Go.Eng
section
variable {P : Program} {tab : Tab} {B : Bd tab} {c : Cx}

theorem layO_sound {T : Nat} {pl : Nat → Option (Nat × Nat)} (hpl : ∀ f off ft, place? tab T f = some (off, ft) → pl f = some (off, (tab.at ft).size)) : ∀ {ps : List (Nat × SV)} {qs : List (Nat × Value)} {cs cs' : List Lf} {cells : Array Value}, layO tab T ps cs = some cs' →
    qs.map (·.1) = ps.map (·.1) → (∀ (i : Nat) (p : Nat × SV) (q : Nat × Value), ps[i]? = some p → qs[i]? = some q → SVR c p.2 q.2) → cells.size = cs.length → LsR c cs (fun j => cells[j]?) →
    ∃ cells', Instr.fill pl cells qs = some cells' ∧ cells'.size = cs'.length ∧ cs'.length = cs.length ∧ LsR c cs' (fun j => cells'[j]?)
  | [], qs, cs, cs', cells, h, hq, hv, hs, hl => by
    simp only [layO, Option.some.injEq] at h
    subst h
    have : qs = [] := by cases qs with | nil => rfl | cons _ _ => simp at hq
    subst this
    exact ⟨cells, rfl, hs, rfl, hl⟩
  | (f, x) :: r, qs, cs, cs', cells, h, hq, hv, hs, hl => by
    cases qs with
    | nil => simp at hq
    | cons q us =>
      obtain ⟨q1, v⟩ := q
      simp only [List.map_cons, List.cons.injEq] at hq
      obtain ⟨rfl, hq⟩ := hq
      simp only [layO] at h
      split at h
      · rename_i off ft hf
        split at h
        · rename_i hc
          obtain ⟨h1, h2, h3⟩ := hc
          obtain ⟨hcs, hcl, hone⟩ := sv_cells (hv 0 _ _ rfl rfl) h2
          have hplace : pl q1 = some (off, (tab.at ft).size) := hpl _ _ _ hf
          have hsz : v.cells.size = (tab.at ft).size := hcs.trans h1
          have hfold := fold_arr v.cells off cells
          obtain ⟨cells', g1, g2, g3, g4⟩ := layO_sound hpl (cells := v.cells.zipIdx.foldl (fun cs x => cs.setIfInBounds (off + x.2) x.1) cells) h hq (fun i p q hp hq' => hv (i + 1) p q (by simpa using hp) (by simpa using hq'))
            (by rw [hfold, fold_size, hs, splice_length h3]) (by
              refine LsR.congr (fun j hj => ?_) (splice_Rg h3 hl hcl)
              rw [hfold, fold_get]
              rw [splice_length h3] at hj
              by_cases hin : off ≤ j ∧ j < off + x.leaves.length
              · rw [if_pos hin, if_pos (by rw [Array.length_toList]; omega)]
                simp
              · rw [if_neg hin, if_neg (by rw [Array.length_toList]; omega)])
          refine ⟨cells', ?_, g2, by rw [g3, splice_length h3], g4⟩
          simp only [Instr.fill, hplace]
          rw [if_neg (by simp [hsz]; omega)]
          exact g1
        · simp at h
      · simp at h

theorem places_ok (tk : TabOk P tab) : ∀ (fields : List Field), (∀ f ∈ fields, (tab.at f.type).k ≠ .other) →
    fields.mapM (fun f => (P.info? f.type).map fun i => (f.offset, i.size)) = some (fields.map fun f => (f.offset, (tab.at f.type).size))
  | [], _ => rfl
  | f :: r, h => by
    obtain ⟨i, hi, his, _⟩ := (tk f.type (h f (by simp))).info
    have ih := places_ok tk r (fun g hg => h g (by simp [hg]))
    simp [List.mapM_cons, hi, ih, his]

theorem build_sound (tk : TabOk P tab) (hr : HR B c) {T : Nat} {fs : List (Nat × Nat)} (hk : (tab.at T).k = .st fs) {ps : List (Nat × SV)} {qs : List (Nat × Value)} {cs : List Lf} (h : layO tab T ps (zeroL (tab.at T).ty) = some cs)
    (hq : qs.map (·.1) = ps.map (·.1)) (hv : ∀ (i : Nat) (p : Nat × SV) (q : Nat × Value), ps[i]? = some p → qs[i]? = some q → SVR c p.2 q.2) :
    ∃ v, (Instr.build T qs.toArray).run P c.w = .ok v c.w ∧ SVR c (.ag cs) v := by
  have tok := tk T (by simp [hk])
  have hd := tok.desc
  simp only [hk] at hd
  obtain ⟨⟨fields, hu, hfs⟩, _, hoth⟩ := hd
  obtain ⟨i, hi, his, hib, hz⟩ := tok.info
  obtain ⟨z, hz0, hzc, hzs⟩ := hz (by simp [hk])
  obtain ⟨hzR, hzsz⟩ := zeroL_R (c := c) hzc
  obtain ⟨cells', f1, f2, f3, f4⟩ := layO_sound (pl := fun (i : Nat) => (fs.map fun p => (p.1, (tab.at p.2).size))[i]?) (by intro f off ft hf; simp only [place?, hk] at hf; simp [hf]) h hq hv (cells := z.cells) (by rw [hzsz, zeroL_length]) hzR
  have hpl := places_ok tk fields.toList (fun f hf => hoth (f.offset, f.type) (by rw [← hfs]; exact List.mem_map.2 ⟨f, hf, rfl⟩))
  have hpl2 := run_places (P := P) c.w _ _ hpl
  refine ⟨.agg cells', ?_, cells', rfl, f2, f4⟩
  have e : (fun (i : Nat) => (fs.map fun p => (p.1, (tab.at p.2).size))[i]?) = fun (i : Nat) => Option.map (fun f => (f.offset, (tab.at f.type).size)) fields[i]? := by
    funext i
    rw [← hfs]
    simp only [List.map_map, List.getElem?_map, Array.getElem?_toList]
    rfl
  rw [e] at f1
  simp [Instr.build, run_underlying hu, typeInfo, zeroValue, hi, hz0, Array.mapM_eq_mapM_toList, hpl2, f1]

theorem build_arr (tk : TabOk P tab) (hr : HR B c) {T n e : Nat} (hk : (tab.at T).k = .arr n e) {ps : List (Nat × SV)} {qs : List (Nat × Value)} {cs : List Lf} (h : layO tab T ps (zeroL (tab.at T).ty) = some cs)
    (hq : qs.map (·.1) = ps.map (·.1)) (hv : ∀ (i : Nat) (p : Nat × SV) (q : Nat × Value), ps[i]? = some p → qs[i]? = some q → SVR c p.2 q.2) :
    ∃ v, (Instr.build T qs.toArray).run P c.w = .ok v c.w ∧ SVR c (.ag cs) v := by
  have tok := tk T (by simp [hk])
  have hd := tok.desc
  simp only [hk] at hd
  obtain ⟨hu, _, hoth⟩ := hd
  obtain ⟨i, hi, his, hib, hz⟩ := tok.info
  obtain ⟨z, hz0, hzc, hzs⟩ := hz (by simp [hk])
  obtain ⟨hzR, hzsz⟩ := zeroL_R (c := c) hzc
  obtain ⟨ie, hie, hies, _⟩ := (tk e hoth).info
  obtain ⟨cells', f1, f2, f3, f4⟩ := layO_sound (pl := fun (i : Nat) => some (i * ie.size, ie.size)) (by
    intro f off ft hf
    simp only [place?, hk] at hf
    split at hf
    · simp only [Option.some.injEq, Prod.mk.injEq] at hf
      obtain ⟨rfl, rfl⟩ := hf
      rw [hies]
    · cases hf) h hq hv (cells := z.cells) (by rw [hzsz, zeroL_length]) hzR
  refine ⟨.agg cells', ?_, cells', rfl, f2, f4⟩
  simp [Instr.build, run_underlying hu, sizeOf, typeInfo, zeroValue, hi, hz0, hie, f1]

/-! ### slicing, conversions -/
def OptR (c : Cx) : Option SV → Option Value → Prop
  | none, none => True
  | some x, some v => SVR c x v
  | _, _ => False
theorem optInt_sound {d : Int} {o : Option SV} {n : Int} {vo : Option Value} (h : optInt d o = some n) (hv : OptR c o vo) :
    (vo = none ∧ n = d) ∨ ∃ k, vo = some (.int k n) := by
  cases o with
  | none => cases vo with
    | none => left; simp [optInt] at h; exact ⟨rfl, h.symm⟩
    | some v => exact hv.elim
  | some x => cases vo with
    | none => exact hv.elim
    | some v =>
      right
      cases x with
      | lf y => cases y with
        | int k m =>
          simp only [optInt, Option.some.injEq] at h
          subst h
          change LR c (.int k m) v at hv
          simp only [LR] at hv
          exact ⟨k, by rw [hv]⟩
        | _ => simp [optInt] at h
      | _ => simp [optInt] at h

theorem run_slice_str {T : Nat} {s : List UInt8} {lo hi : Option Value} {l u : Int} (hu : P.underlying T = some .string) (hl : (lo = none ∧ l = 0) ∨ ∃ k, lo = some (.int k l)) (hh : (hi = none ∧ u = s.length) ∨ ∃ k, hi = some (.int k u))
    (h0 : 0 ≤ l) (h1 : l ≤ u) (h2 : u ≤ s.length) :
    (Instr.sliceAt T (.string ⟨s.toArray⟩) lo hi none).run P c.w = .ok (.string ⟨((s.take u.toNat).drop l.toNat).toArray⟩) c.w := by
  have hsz : (⟨s.toArray⟩ : ByteArray).size = s.length := rfl
  have hex : (⟨s.toArray⟩ : ByteArray).extract l.toNat u.toNat = ⟨((s.take u.toNat).drop l.toNat).toArray⟩ := by
    apply ByteArray.ext
    simp [ByteArray.data_extract]
    rw [List.drop_take]
  have h3 : 0 ≤ u := by omega
  have hmx : max u 0 = u := Int.max_eq_left h3
  rcases hl with ⟨rfl, rfl⟩ | ⟨k, rfl⟩ <;> rcases hh with ⟨rfl, rfl⟩ | ⟨k', rfl⟩ <;>
    simp [Instr.sliceAt, Instr.slice, run_underlying hu, Instr.sliceBounds, Instr.sliceBound, asIntOf, h0, h1, h2, h3, hmx, hsz] at hex ⊢ <;> exact hex

theorem run_slice_sl {T e : Nat} {i : TypeInfo} {A : Option Addr} {n cap : Nat} {lo hi : Option Value} {l u : Int} (hu : P.underlying T = some (.slice e)) (hi' : P.info? e = some i) (hl : (lo = none ∧ l = 0) ∨ ∃ k, lo = some (.int k l)) (hh : (hi = none ∧ u = n) ∨ ∃ k, hi = some (.int k u))
    (h0 : 0 ≤ l) (h1 : l ≤ u) (h2 : u ≤ n) (hnc : n ≤ cap) :
    (Instr.sliceAt T (.slice A n cap) lo hi none).run P c.w = .ok (.slice (if cap = l.toNat then A else A.map (·.add (l.toNat * i.size))) (u.toNat - l.toNat) (cap - l.toNat)) c.w := by
  have hu3 : u ≤ cap := by omega
  have h3 : 0 ≤ u := by omega
  have hmx : max u 0 = u := Int.max_eq_left h3
  rcases hl with ⟨rfl, rfl⟩ | ⟨k, rfl⟩ <;> rcases hh with ⟨rfl, rfl⟩ | ⟨k', rfl⟩ <;>
    simp [Instr.sliceAt, Instr.slice, run_underlying hu, Instr.sliceBounds, Instr.sliceBound, asIntOf, sizeOf, typeInfo, hi', h0, h1, h2, hu3, h3, hmx]
end
end Go.Eng


