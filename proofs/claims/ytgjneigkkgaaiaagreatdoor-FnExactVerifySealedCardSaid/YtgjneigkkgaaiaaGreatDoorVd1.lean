/- A typed abstract semantics of Go code and its soundness over the model: part 1. No conditions. -/
import GoSem.Dispatch
import GoSem.Core.Region
import Derived.Calls
import Derived.Laws.AppendOwn
import Derived.Laws.Entries
import Derived.Laws.Slices
import Derived.Laws.StructEq
import Derived.Laws.BytesArg
import Derived.Laws.MakeOwn
import Derived.Laws.Tables
import Derived.Laws.NewFold
import Derived.Laws.CopyRow
import Derived.Tactics2
import Derived.Orders
import Derived.LoopN
import Derived.ProofKit
import Derived.Below
import Derived.Carry
import Derived.ChangeArms
import Derived.IntWalk
set_option linter.unusedVariables false
set_option linter.unusedSimpArgs false
set_option linter.unusedSectionVars false
set_option linter.unnecessarySimpa false
/- VdA -/
namespace Go.Proofs.YtgjneigkkgaaiaaGreatDoor.Vd
universe u v

/-- The types of Go data that the abstract semantics knows. A struct is a chain of `cons` that ends in `one`. -/
inductive Ty where
  | int (k : IntKind) | bool | str | sl (e : Ty) | one (h : Ty) | cons (h t : Ty)
  deriving DecidableEq, Inhabited

@[reducible] def Ty.D : Ty → Type
  | .int _ => Int
  | .bool => Bool
  | .str => ByteArray
  | .sl e => List (Ty.D e)
  | .one h => Ty.D h
  | .cons h t => Ty.D h × Ty.D t

def Ty.agg : Ty → Bool
  | .one _ | .cons _ _ => true
  | _ => false

def Ty.size : Ty → Nat
  | .one h => h.size
  | .cons h t => h.size + t.size
  | _ => 1

def Ty.zero : (t : Ty) → t.D
  | .int _ => (0 : Int)
  | .bool => false
  | .str => ByteArray.empty
  | .sl _ => []
  | .one h => h.zero
  | .cons h t => (h.zero, t.zero)

/-- No slice inside. -/
def Ty.flat : Ty → Bool
  | .sl _ => false
  | .one h => h.flat
  | .cons h t => h.flat && t.flat
  | _ => true

@[reducible] def Prod' : List Ty → Type
  | [] => Unit
  | [t] => t.D
  | t :: ts => t.D × Prod' ts

/-- Every slice inside is of elements that hold no slice. -/
def Ty.shallow : Ty → Bool
  | .sl u => u.flat
  | .one h => h.shallow
  | .cons h t => h.shallow && t.shallow
  | _ => true

inductive C where
  | undef
  | v (t : Ty) (x : t.D) (deps : List Nat)
  | nils                            -- a slice of length 0 and capacity 0
  | ref (l : Nat)
  | ref1 (l i j : Nat) (u : Ty) (ys : List u.D)        -- the slice in cell j of element i of root l, and what it holds
  | pre (l n : Nat)
  | bp (l off : Nat)
  | ap (l i j : Nat) (e : Ty) (x : e.D)                 -- the address of cell j of element i of root l, and that element
  | ap1 (l i j i' j' : Nat) (u : Ty) (ys : List u.D) (y : u.D)    -- the address of cell j' of element i' of the slice there; the slice, the element
  | sp (t : Ty) (x : t.D) (deps : List Nat)
  | sfn (ins : List Ty) (out : Ty) (g : Prod' ins → Option out.D)     -- the address of a variable that holds a function
  | suf (l n : Nat) (e : Ty) (ys : List e.D)            -- the part of root l's array from n on, and what it holds
  | app (l i j : Nat) (u : Ty) (zs : List u.D)          -- what append makes of the slice in cell j of element i of root l
  | lp (l k : Nat) (e : Ty)                             -- the address of element k of an array literal
  | clo (f : Nat) (first : List (Σ t : Ty, t.D)) (caps : List Nat)
  | fn (ins : List Ty) (out : Ty) (g : Prod' ins → Option out.D)

inductive A where
  | none                           -- the model's own 'undef'
  | any                            -- no more is known
  | val (agg : Bool) (cs : List C)
  | tup (vs : List (Bool × List C))

@[reducible] def A.c (c : C) : A := .val false [c]
@[reducible] def A.u : A := .val false [.undef]

inductive Root where
  | box (cs : List C)
  | arr (e : Ty) (xs : List e.D) (deep : Bool)
  | lit (e : Ty) (els : List (List C))
  | gap                                         -- a name that is kept free

structure S where
  fr : List A
  H : List (Option Root)
  dF : List Nat
  dH : List Nat

/-- What an operation sees of the roots; the number of the next new one. -/
structure View where
  root : Nat → Option Root
  nx : Nat

def S.root (s : S) (l : Nat) : Option Root := s.H.getD l Option.none
def S.view (s : S) : View := ⟨s.root, s.H.length⟩

/-- What an operation does: its result; roots that are set; whose snapshots and inner handles die (true: the handles of the root too). -/
structure Delta where
  dst : A
  set : List (Nat × Option Root) := []
  kill : List (Nat × Bool) := []
  mov : List (Nat × C) := []       -- roots that went into another root's element: the handle there

inductive R : Type 1 where
  | ret (d : Delta)
  | fail
  | bnd {α : Type} (m : Option α) (f : α → R)
  | ite (c : Bool) (a b : R)
  | amb (a b : R)      -- what Go does here the data do not tell: both ways must come to the same

open Classical in
noncomputable def ambO {β : Type} (x y : Option β) : Option β := if x = y then x else none

def bindO {α β : Type} (m : Option α) (f : α → Option β) : Option β := match m with
  | some a => f a
  | Option.none => Option.none

noncomputable def R.run {β : Type} : R → (Delta → Option β) → Option β
  | .ret d, k => k d
  | .fail, _ => none
  | .bnd m f, k => bindO m fun a => (f a).run k
  | .ite c a b, k => cond c (a.run k) (b.run k)
  | .amb a b, k => ambO (a.run k) (b.run k)

def guardO (b : Bool) : Option Unit := cond b (some ()) none

/-! ### Cells and data -/

/-- A datum's cells. -/
def expand (deps : List Nat) : (t : Ty) → t.D → List C
  | .one h, x => expand deps h x
  | .cons h t, x => expand deps h x.1 ++ expand deps t x.2
  | .int k, x => [.v (.int k) x []]
  | .bool, x => [.v .bool x []]
  | .str, x => [.v .str x []]
  | .sl e, x => [.v (.sl e) x deps]

/-- A datum as a value. -/
def ofData (deps : List Nat) (t : Ty) (x : t.D) : A := .val t.agg (expand deps t x)

/-- Cell j of a datum: a cell of one-cell type. -/
def cellAt : (t : Ty) → t.D → Nat → Option (Σ t : Ty, t.D)
  | .one h, x, j => cellAt h x j
  | .cons h t, x, j => if j < h.size then cellAt h x.1 j else cellAt t x.2 (j - h.size)
  | t, x, 0 => some ⟨t, x⟩
  | _, _, _ + 1 => Option.none

def castD {t t' : Ty} (h : t = t') (x : t.D) : t'.D := h ▸ x

/-- Cell j of a datum, set. -/
def setAt : (t : Ty) → t.D → Nat → (u : Ty) → u.D → t.D
  | .one h, x, j, u, y => setAt h x j u y
  | .cons h t, x, j, u, y => if j < h.size then (setAt h x.1 j u y, x.2) else (x.1, setAt t x.2 (j - h.size) u y)
  | .int k, x, _, u, y => if h : u = .int k then castD h y else x
  | .bool, x, _, u, y => if h : u = .bool then castD h y else x
  | .str, x, _, u, y => if h : u = .str then castD h y else x
  | .sl e, x, _, u, y => if h : u = .sl e then castD h y else x

/-- What a cell holds, as data of one-cell type t; and what it borrows (array literals aside). -/
def View.data0 (s : View) (c : C) (t : Ty) : Option (t.D × List Nat) :=
  match c with
  | .v t' x deps => if h : t' = t then some (castD h x, deps) else Option.none
  | .nils => match t with
    | .sl _ => some ([], [])
    | _ => Option.none
  | .ref l => match t, s.root l with
    | .sl e, some (.arr e' xs _) => if h : e' = e then some (castD (congrArg Ty.sl h) xs, [l]) else Option.none
    | _, _ => Option.none
  | .pre l n => match t, s.root l with
    | .sl e, some (.arr e' xs _) => if h : e' = e then some (castD (congrArg Ty.sl h) (xs.take n), [l]) else Option.none
    | _, _ => Option.none
  | .ref1 l _ _ u ys => if h : Ty.sl u = t then some (castD h ys, [l]) else Option.none
  | .suf l _ e ys => if h : Ty.sl e = t then some (castD h ys, [l]) else Option.none
  | _ => Option.none

/-- Cells assembled into a datum, `f` reading each. -/
def asmBy (f : C → (t : Ty) → Option (t.D × List Nat)) : (t : Ty) → List C → Option (t.D × List Nat × List C)
  | .one h, cs => asmBy f h cs
  | .cons h t, cs => match asmBy f h cs with
    | some (x, d, r) => match asmBy f t r with
      | some (y, d', r') => some ((x, y), d ++ d', r')
      | Option.none => Option.none
    | Option.none => Option.none
  | .int k, c :: r => match f c (.int k) with | some (x, d) => some (x, d, r) | Option.none => Option.none
  | .bool, c :: r => match f c .bool with | some (x, d) => some (x, d, r) | Option.none => Option.none
  | .str, c :: r => match f c .str with | some (x, d) => some (x, d, r) | Option.none => Option.none
  | .sl e, c :: r => match f c (.sl e) with | some (x, d) => some (x, d, r) | Option.none => Option.none
  | _, [] => Option.none

/-- The elements of an array literal, as data; and what they borrow. -/
def View.litData (s : View) (e : Ty) : List (List C) → Option (List e.D × List Nat)
  | [] => some ([], [])
  | cs :: r => match asmBy s.data0 e cs with
    | some (x, d, []) => match s.litData e r with
      | some (xs, d') => some (x :: xs, d ++ d')
      | Option.none => Option.none
    | _ => Option.none

def View.data (s : View) (c : C) (t : Ty) : Option (t.D × List Nat) :=
  match c with
  | .ref l => match t, s.root l with
    | .sl e, some (.lit e' els) => if e' = e then match s.litData e els with
      | some (xs, d) => some (xs, l :: d)
      | Option.none => Option.none else Option.none
    | t, _ => s.data0 (.ref l) t
  | c => s.data0 c t

def View.asm (s : View) (t : Ty) (cs : List C) : Option (t.D × List Nat × List C) := asmBy s.data t cs

/-- A value as a datum of type t. -/
def View.asData (s : View) (t : Ty) (a : A) : Option (t.D × List Nat) :=
  match a with
  | .val g cs => if g = t.agg then match s.asm t cs with
    | some (x, d, []) => some (x, d)
    | _ => Option.none else Option.none
  | _ => Option.none

def asInt (a : A) : Option Int :=
  match a with
  | .val false [.v (.int _) x _] => some x
  | _ => Option.none

/-- A slice as data: the element type, the elements, what is borrowed. -/
def View.slData (s : View) (a : A) : Option (Σ e : Ty, List e.D × List Nat) :=
  match a with
  | .val false [.v (.sl e) x d] => some ⟨e, x, d⟩
  | .val false [.ref l] => match s.root l with
    | some (.arr e xs _) => some ⟨e, xs, [l]⟩
    | some (.lit e els) => match s.litData e els with
      | some (xs, d) => some ⟨e, xs, l :: d⟩
      | Option.none => Option.none
    | _ => Option.none
  | .val false [.pre l n] => match s.root l with
    | some (.arr e xs _) => some ⟨e, xs.take n, [l]⟩
    | _ => Option.none
  | .val false [.ref1 l _ _ u ys] => some ⟨u, ys, [l]⟩
  | .val false [.suf l _ e ys] => some ⟨e, ys, [l]⟩
  | _ => Option.none

/-! ### A step's effect on the state -/

/-- Does a cell die with root k.1's snapshots and inner handles (k.2: its handles too)? -/
def C.dies (k : Nat × Bool) : C → Bool
  | .v _ _ deps | .sp _ _ deps => deps.contains k.1
  | .ref l | .pre l _ | .bp l _ => k.2 && l == k.1
  | .clo _ _ caps => k.2 && caps.contains k.1
  | .ap l _ _ _ _ | .ref1 l _ _ _ _ | .ap1 l _ _ _ _ _ _ _ | .suf l _ _ _ | .app l _ _ _ _ | .lp l _ _ => l == k.1
  | _ => false

def lookupN {α : Type u} (n : Nat) : List (Nat × α) → Option α
  | [] => Option.none
  | (m, a) :: l => if n = m then some a else lookupN n l

/-- What a step does to the handles: those of dead roots, and those of roots that moved. -/
structure Sweep where
  kill : List (Nat × Bool)
  mov : List (Nat × C)

def newLoc (mov : List (Nat × C)) (l : Nat) : Nat := match lookupN l mov with
  | some (.ref1 l' _ _ _ _) => l'
  | _ => l

def C.hit (k : Sweep) (c : C) : Bool := k.kill.any c.dies || match c with
  | .v _ _ deps | .sp _ _ deps => deps.any fun l => (lookupN l k.mov).isSome
  | .ref l | .pre l _ | .ap l _ _ _ _ | .ref1 l _ _ _ _ | .ap1 l _ _ _ _ _ _ _ | .suf l _ _ _ | .app l _ _ _ _ | .lp l _ _ => (lookupN l k.mov).isSome
  | _ => false

def C.left (k : Sweep) (c : C) : C := if k.kill.any c.dies then .undef else match c with
  | .v t x deps => .v t x (deps.map (newLoc k.mov))
  | .sp t x deps => .sp t x (deps.map (newLoc k.mov))
  | .ref l => match lookupN l k.mov with
    | some c => c
    | Option.none => .ref l
  | .pre l n => if (lookupN l k.mov).isSome then .undef else .pre l n
  | .ap l i j e x => if (lookupN l k.mov).isSome then .undef else .ap l i j e x
  | .ref1 l i j u ys => if (lookupN l k.mov).isSome then .undef else .ref1 l i j u ys
  | .ap1 l i j i' j' u ys y => if (lookupN l k.mov).isSome then .undef else .ap1 l i j i' j' u ys y
  | .suf l n e ys => if (lookupN l k.mov).isSome then .undef else .suf l n e ys
  | .app l i j u zs => if (lookupN l k.mov).isSome then .undef else .app l i j u zs
  | .lp l n e => if (lookupN l k.mov).isSome then .undef else .lp l n e
  | c => c

def A.hit (k : Sweep) : A → Bool
  | .none | .any => false
  | .val _ cs => cs.any (C.hit k)
  | .tup vs => vs.any fun v => v.2.any (C.hit k)

def A.left (k : Sweep) : A → A
  | .none => .none
  | .any => .any
  | .val g cs => .val g (cs.map (C.left k))
  | .tup vs => .tup (vs.map fun v => (v.1, v.2.map (C.left k)))

def Root.hit (k : Sweep) : Root → Bool
  | .box cs => cs.any (C.hit k)
  | .arr .. => false
  | .lit _ els => els.any fun cs => cs.any (C.hit k)
  | .gap => false

def Root.left (k : Sweep) : Root → Root
  | .box cs => .box (cs.map (C.left k))
  | .arr e xs d => .arr e xs d
  | .lit e els => .lit e (els.map fun cs => cs.map (C.left k))
  | .gap => .gap

def hits {α : Type} (p : α → Bool) : Nat → List α → List Nat
  | _, [] => []
  | n, a :: l => if p a then n :: hits p (n + 1) l else hits p (n + 1) l

def S.swept (k : Sweep) (s : S) : S :=
  if k.kill.isEmpty && k.mov.isEmpty then s else
    { fr := s.fr.map (A.left k), H := s.H.map fun o => o.map (Root.left k), dF := hits (A.hit k) 0 s.fr ++ s.dF,
      dH := hits (fun o : Option Root => (o.map (Root.hit k)).getD false) 0 s.H ++ s.dH }

def putR : List (Option Root) → Nat → Option Root → List (Option Root)
  | [], 0, r => [r]
  | [], n + 1, r => Option.none :: putR [] n r
  | _ :: t, 0, r => r :: t
  | h :: t, n + 1, r => h :: putR t n r

def setAll (H : List (Option Root)) : List (Nat × Option Root) → List (Option Root)
  | [] => H
  | (l, r) :: u => setAll (putR H l r) u

def S.put (s : S) (dst : Option Nat) (a : A) : S :=
  match dst with
  | some d => { s with fr := s.fr.set d a, dF := d :: s.dF }
  | Option.none => s

def S.apply (s : S) (dst : Option Nat) (d : Delta) : S :=
  let s' := s.swept ⟨d.kill, d.mov⟩
  { s' with H := setAll s'.H d.set, dH := d.set.map Prod.fst ++ s'.dH }.put dst d.dst

def constC : Value → C
  | .int k n => .v (.int k) n []
  | .bool b => .v .bool b []
  | .string s => .v .str s []
  | .slice Option.none 0 0 => .nils
  | _ => .undef

def flatConst (vs : List Value) : Bool := vs.all fun | .agg _ | .tuple _ => false | _ => true

def constA : Value → A
  | .agg cs => if flatConst cs.toList then .val true (cs.toList.map constC) else .any
  | .tuple _ => .any
  | x => .c (constC x)

def S.eval (s : S) : Operand → A
  | .tmp t => s.fr.getD t .none
  | .const v => constA v
  | .global _ => .u
  | .func f => .c (.clo f [] [])

/-! ### Contracts -/

/-- What a parameter is: data; a value whose slices become the callee's; a value whose slices the callee may write; a pointer to a variable that is read; a pointer to a variable of the caller's; a function. -/
inductive PK where
  | data (t : Ty) | ow (t : Ty) | mv (t : Ty) | rp (t : Ty) | mp (t : Ty) (own : Bool) | fn (ins : List Ty) (out : Ty) | rfn (ins : List Ty) (out : Ty)

@[reducible] def PK.D : PK → Type
  | .data t | .ow t | .mv t | .rp t | .mp t _ => t.D
  | .fn ins out | .rfn ins out => Prod' ins → Option out.D

@[reducible] def In : List PK → Type
  | [] => Unit
  | [p] => p.D
  | p :: ps => p.D × In ps

/-- What comes back of the parameters that may be written. -/
def ioTys : List PK → List Ty
  | [] => []
  | .mv t :: ps | .mp t _ :: ps => t :: ioTys ps
  | _ :: ps => ioTys ps

@[reducible] def OutT (rk : List (Ty × Bool)) (pk : List PK) : List Ty := rk.map (·.1) ++ ioTys pk
@[reducible] def Out (rk : List (Ty × Bool)) (pk : List PK) : Type := Prod' (OutT rk pk)

/-- A contract's plain half: the parameters, the results (true: in memory of their own), the function. -/
structure Con0 where
  pk : List PK
  rk : List (Ty × Bool)
  F : In pk → Option (Out rk pk)

structure Env where
  fix : List Nat
  ty : List (Option Ty)
  other : List Nat        -- further types whose values take one cell
  pairs : List Nat        -- struct types of two ints
  con : List (Nat × Con0)
  cuts : List Nat := []   -- slots: where a slice expression x[:k] is put that stands for all of x from then on

def Env.T (E : Env) (t : TypeId) : Option Ty := E.ty.getD t Option.none

def zeroCells : Ty → List C
  | .one h => zeroCells h
  | .cons h t => zeroCells h ++ zeroCells t
  | .int k => [.v (.int k) (0 : Int) []]
  | .bool => [.v .bool false []]
  | .str => [.v .str ByteArray.empty []]
  | .sl _ => [.nils]

/-- The cells of a variable of type t as it is made. -/
def Env.zeros (E : Env) (t : TypeId) : List C := match E.T t with
  | some T => zeroCells T
  | Option.none => if E.other.contains t then [.undef] else []

/-- Field f of a struct: its offset and its type. -/
def Ty.field : Ty → Nat → Option (Nat × Ty)
  | .one h, 0 => some (0, h)
  | .cons h _, 0 => some (0, h)
  | .cons h t, f + 1 => (t.field f).map fun (o, u) => (h.size + o, u)
  | _, _ => Option.none

def fieldD : (t : Ty) → t.D → Nat → Option (Σ t : Ty, t.D)
  | .one h, x, 0 => some ⟨h, x⟩
  | .cons h _, x, 0 => some ⟨h, x.1⟩
  | .cons _ t, x, f + 1 => fieldD t x.2 f
  | _, _, _ => Option.none

def setCells (cs : List C) (off : Nat) : List C → List C
  | [] => cs
  | c :: r => setCells (cs.set off c) (off + 1) r

def getI {α : Type} (xs : List α) (i : Int) : Option α := if 0 ≤ i then xs[i.toNat]? else Option.none
def lim : Nat := 68719476736
def lenOk (n : Nat) : Bool := decide (n ≤ lim)

/-- Cell j of an element, as it is read: a slice inside is a handle if it is owned. -/
def readCell (l i j : Nat) (deep : Bool) (e : Ty) (x : e.D) : C :=
  match cellAt e x j with
  | some ⟨.sl u, y⟩ => if deep then .ref1 l i j u y else .v (.sl u) y []
  | some ⟨t, y⟩ => .v t y []
  | Option.none => .undef

def readCells (l i j : Nat) (deep : Bool) (e : Ty) (x : e.D) : Nat → List C
  | 0 => []
  | n + 1 => readCell l i j deep e x :: readCells l i (j + 1) deep e x n

/-- Roots that move: the root, the place (element, cell) that it goes to, its element type and elements. -/
structure Mv where
  l : Nat
  i : Nat
  j : Nat
  u : Ty
  ys : List u.D

/-- A cell that goes into an owned array's element (i, cell j): its data; is it owned (or without memory); the root that moves. -/
def View.moved (s : View) (i j : Nat) (c : C) (t : Ty) : Option (t.D × Bool × List Mv) :=
  match t with
  | .sl e => match c with
    | .nils => some ([], e.flat, [])
    | .ref l => match s.root l with
      | some (.arr e' xs _) => if h : e' = e then (if e.flat then some (castD (congrArg Ty.sl h) xs, true, [⟨l, i, j, e', xs⟩]) else Option.none) else Option.none
      | _ => Option.none
    | .v t' x [] => if h : t' = .sl e then some (castD h x, false, []) else Option.none
    | _ => Option.none
  | t => match c with
    | .v t' x _ => if h : t' = t then some (castD h x, true, []) else Option.none
    | _ => Option.none

def View.movedAll (s : View) (i : Nat) : (j : Nat) → (t : Ty) → List C → Option (t.D × Bool × List Mv × List C)
  | j, .one h, cs => s.movedAll i j h cs
  | j, .cons h t, cs => match s.movedAll i j h cs with
    | some (x, b, m, r) => match s.movedAll i (j + h.size) t r with
      | some (y, b', m', r') => some ((x, y), b && b', m ++ m', r')
      | Option.none => Option.none
    | Option.none => Option.none
  | j, .int k, c :: r => match s.moved i j c (.int k) with | some (x, b, m) => some (x, b, m, r) | Option.none => Option.none
  | j, .bool, c :: r => match s.moved i j c .bool with | some (x, b, m) => some (x, b, m, r) | Option.none => Option.none
  | j, .str, c :: r => match s.moved i j c .str with | some (x, b, m) => some (x, b, m, r) | Option.none => Option.none
  | j, .sl e, c :: r => match s.moved i j c (.sl e) with | some (x, b, m) => some (x, b, m, r) | Option.none => Option.none
  | _, _, [] => Option.none

def View.movedEls (s : View) (e : Ty) : (i : Nat) → List (List C) → Option (List e.D × Bool × List Mv)
  | _, [] => some ([], true, [])
  | i, cs :: r => match s.movedAll i 0 e cs with
    | some (x, b, m, []) => match s.movedEls e (i + 1) r with
      | some (xs, b', m') => some (x :: xs, b && b', m ++ m')
      | Option.none => Option.none
    | _ => Option.none

/-- What goes into an owned array of element type e out of a slice: the data; owned; the roots that move (to the elements from number n on). -/
def View.into (s : View) (n : Nat) (e : Ty) (a : A) : Option (List e.D × Bool × List Mv) :=
  match a with
  | .val false [.nils] => some ([], true, [])
  | .val false [.ref l] => match s.root l with
    | some (.arr e' xs _) => if h : e' = e then (if e.flat then some (castD (congrArg Ty.sl h) xs, true, []) else Option.none) else Option.none
    | some (.lit e' els) => if e' = e then s.movedEls e n els else Option.none
    | _ => Option.none
  | .val false [.v (.sl e') x d] => if h : e' = e then (if e.flat then some (castD (congrArg Ty.sl h) x, true, []) else if d = [] then some (castD (congrArg Ty.sl h) x, false, []) else Option.none) else Option.none
  | .val false [.pre l n] => match s.root l with
    | some (.arr e' xs _) => if h : e' = e then (if e.flat then some (castD (congrArg Ty.sl h) (xs.take n), true, []) else Option.none) else Option.none
    | _ => Option.none
  | a => match s.asData (.sl e) a with
    | some (x, _) => if e.flat then some (x, true, []) else Option.none
    | Option.none => Option.none

def noRoots (m : List Nat) : List (Nat × Option Root) := m.map fun l => (l, Option.none)
def mvLocs (m : List Mv) : List Nat := m.map (·.l)
/-- Where the handles of the roots that moved into root l are now. -/
def mvTo (l : Nat) (m : List Mv) : List (Nat × C) := m.map fun q => (q.l, .ref1 l q.i q.j q.u q.ys)
def allDie (m : List Nat) : List (Nat × Bool) := m.map fun l => (l, true)

end Go.Proofs.YtgjneigkkgaaiaaGreatDoor.Vd

/- VdB -/
namespace Go.Proofs.YtgjneigkkgaaiaaGreatDoor.Vd
universe u v

/-! ### Operations -/

def eqD : (t : Ty) → t.D → t.D → Bool
  | .int _, x, y => @BEq.beq Int _ x y
  | .bool, x, y => @BEq.beq Bool _ x y
  | .str, x, y => x.toList == y.toList
  | .sl _, _, _ => false
  | .one h, x, y => eqD h x y
  | .cons h t, x, y => eqD h x.1 y.1 && eqD t x.2 y.2

def retI (k : IntKind) (n : Int) : R := .ret { dst := .c (.v (.int k) n []) }
def retB (b : Bool) : R := .ret { dst := .c (.v .bool b []) }

def bits (op : BinOp) (k : IntKind) (x y : Int) : Int :=
  let a := BitVec.ofInt k.bits x
  let b := BitVec.ofInt k.bits y
  match op with
  | .and => k.wrap (a &&& b).toNat
  | .or => k.wrap (a ||| b).toNat
  | .xor => k.wrap (a ^^^ b).toNat
  | _ => k.wrap (a &&& ~~~b).toNat

def binI (op : BinOp) (k : IntKind) (x y : Int) : R :=
  match op with
  | .add => retI k (k.wrap (x + y))
  | .sub => retI k (k.wrap (x - y))
  | .mul => retI k (k.wrap (x * y))
  | .quo => .bnd (guardO (y != 0)) fun _ => retI k (k.wrap (x.tdiv y))
  | .rem => .bnd (guardO (y != 0)) fun _ => retI k (x.tmod y)
  | .and | .or | .xor | .andNot => retI k (bits op k x y)
  | .eql => retB (x == y)
  | .neq => retB (x != y)
  | .lss => retB (decide (x < y))
  | .leq => retB (decide (x ≤ y))
  | .gtr => retB (decide (x > y))
  | .geq => retB (decide (x ≥ y))
  | _ => .fail

def shl (k : IntKind) (x y : Int) : Int := k.wrap (x * 2 ^ (min y.toNat k.bits))
def shr (k : IntKind) (x y : Int) : Int := x.fdiv (2 ^ (min y.toNat k.bits))

def pairTy : Ty := .cons (.int .i64) (.one (.int .i64))

/-- A slice against nil: one that holds something is none. -/
def nilR (yes : Bool) (a : A) (s : View) : R :=
  match s.slData a with
  | some ⟨_, xs, _⟩ => .ite xs.isEmpty (.amb (retB yes) (retB (!yes))) (retB (!yes))
  | Option.none => .fail

def nilT (E : Env) (op : BinOp) (T : TypeId) (a : A) (s : View) : R :=
  match E.T T with
  | some (.sl _) => match op with
    | .eql => nilR true a s
    | .neq => nilR false a s
    | _ => .fail
  | _ => .fail

def binR (E : Env) (op : BinOp) (T : TypeId) (a b : A) (s : View) : R :=
  match a, b with
  | .val false [.v (.int k) x _], .val false [.v (.int k') y _] =>
    match op with
    | .shl => .bnd (guardO (decide (0 ≤ y))) fun _ => retI k (shl k x y)
    | .shr => .bnd (guardO (decide (0 ≤ y))) fun _ => retI k (shr k x y)
    | _ => if k = k' then binI op k x y else .fail
  | .val false [.v .bool x _], .val false [.v .bool y _] =>
    if E.T T = some .bool then match op with
    | .eql => retB (x == y)
    | .neq => retB (!(x == y))
    | _ => .fail else .fail
  | .val false [.v .str x _], .val false [.v .str y _] =>
    match op with
    | .add => .bnd (guardO (lenOk (x.size + y.size))) fun _ => .ret { dst := .c (.v .str (x ++ y) []) }
    | .eql => retB (x.toList == y.toList)
    | .neq => retB (!(x.toList == y.toList))
    | _ => .fail
  | .val true _, .val true _ =>
    if E.pairs.contains T then match s.asData pairTy a, s.asData pairTy b with
      | some (x, _), some (y, _) => match op with
        | .eql => retB (eqD pairTy x y)
        | .neq => retB (!(eqD pairTy x y))
        | _ => .fail
      | _, _ => .fail else .fail
  | _, _ => .fail

def unR (op : UnOp) (a : A) : R :=
  match op, a with
  | .not, .val false [.v .bool x _] => retB (!x)
  | .neg, .val false [.v (.int k) x _] => retI k (k.wrap (0 - x))
  | .xor, .val false [.v (.int k) x _] => retI k (bits .xor k (if k.signed then -1 else k.max) x)
  | _, _ => .fail

def strOf (xs : List Int) : ByteArray := ⟨(xs.map fun x => x.toNat.toUInt8).toArray⟩
def ofStr (x : ByteArray) : List Int := x.data.toList.map fun b => (b.toNat : Int)

def convR (E : Env) (src dst : TypeId) (a : A) (s : View) : R :=
  match E.T src, E.T dst, a with
  | some (.int _), some (.int k), .val false [.v (.int _) x _] => retI k (k.wrap x)
  | some .str, some .str, .val false [.v .str x _] => .ret { dst := .c (.v .str x []) }
  | some (.sl (.int .u8)), some .str, a => match s.slData a with
    | some ⟨.int .u8, xs, _⟩ => .ret { dst := .c (.v .str (strOf xs) []) }
    | _ => .fail
  | _, _, _ => .fail

def loadR (E : Env) (T : TypeId) (a : A) (s : View) : R :=
  match a with
  | .val false [.bp l off] => match s.root l with
    | some (.box cs) => match E.T T with
      | some t => if off + t.size ≤ cs.length then .ret { dst := .val t.agg ((cs.drop off).take t.size) } else .fail
      | Option.none => if E.other.contains T then if off < cs.length then .ret { dst := .val false ((cs.drop off).take 1) } else .fail else .fail
    | _ => .fail
  | .val false [.ap l i j e x] => match s.root l, E.T T with
    | some (.arr _ _ d), some t => if j + t.size ≤ e.size then .ret { dst := .val t.agg (readCells l i j d e x t.size) } else .fail
    | _, _ => .fail
  | .val false [.ap1 l i' _ _ j' u _ y] => match E.T T with
    | some t => if j' + t.size ≤ u.size then .ret { dst := .val t.agg (readCells l i' j' false u y t.size) } else .fail
    | _ => .fail
  | .val false [.sp t x deps] => if E.T T = some t then .ret { dst := ofData deps t x } else .fail
  | .val false [.sfn ins out g] => if E.other.contains T then .ret { dst := .c (.fn ins out g) } else .fail
  | .val false [.lp l k e] => match s.root l with
    | some (.lit e' els) => if e' = e then if E.T T = some e then match els[k]? with
      | some cs => .ret { dst := .val e.agg cs }
      | Option.none => .fail else .fail else .fail
    | _ => .fail
  | _ => .fail

def isSl : Ty → Bool
  | .sl _ => true
  | _ => false

/-- Cells set in a datum (element i), one after another. -/
def setAts (s : View) (i : Nat) (e : Ty) (x : e.D) (j : Nat) : List C → Option (e.D × Bool × List Mv)
  | [] => some (x, true, [])
  | c :: r => match cellAt e x j with
    | some ⟨u, _⟩ => match s.moved i j c u with
      | some (y, b, m) => match setAts s i e (setAt e x j u y) (j + 1) r with
        | some (x', b', m') => some (x', b && b', m ++ m')
        | Option.none => Option.none
      | Option.none => Option.none
    | Option.none => Option.none

/-- The number of cells of a type's variables. -/
def Env.sz (E : Env) (T : TypeId) : Option Nat := match E.T T with
  | some t => some t.size
  | Option.none => if E.other.contains T then some 1 else Option.none

def vsOf (E : Env) (T : TypeId) : A → Option (List C)
  | .val _ vs => if E.sz T = some vs.length then some vs else Option.none
  | _ => Option.none

/-- What append made of the slice in cell j of element i of root l goes back to its place. -/
def storeAppR (l i j : Nat) (e : Ty) (y : e.D) (e' : Ty) (xs : List e'.D) (d : Bool) : List C → R
  | [.app l' i' j' u zs] => if l' == l && i' == i && j' == j && d then if h : e' = e then
      .ret { dst := .none, set := [(l, some (.arr e ((castD (congrArg Ty.sl h) xs : List e.D).set i (setAt e y j (.sl u) zs)) true))], kill := [(l, false)] } else .fail else .fail
  | _ => .fail

def storeR (E : Env) (T : TypeId) (a x : A) (s : View) : R :=
  match vsOf E T x with
  | Option.none => .fail
  | some vs => match a with
  | .val false [.bp l off] => match s.root l with
    | some (.box cs) => if off + vs.length ≤ cs.length then .ret { dst := .none, set := [(l, some (.box ((setCells cs off vs).map (C.left ⟨[(l, false)], []⟩))))], kill := [(l, false)] } else .fail
    | _ => .fail
  | .val false [.ap l i j e y] => match s.root l with
    | some (.arr e' xs d) => if h : e' = e then match setAts s i e y j vs with
      | some (y', b, m) => if (mvLocs m).contains l || !(mvLocs m).Nodup then .fail else
        if d && b then .ret { dst := .none, set := (l, some (.arr e ((castD (congrArg Ty.sl h) xs : List e.D).set i y') true)) :: noRoots (mvLocs m), kill := [(l, false)], mov := mvTo l m }
        else .ret { dst := .none, set := (l, some (.arr e ((castD (congrArg Ty.sl h) xs : List e.D).set i y') false)) :: noRoots (mvLocs m), kill := (l, false) :: allDie (mvLocs m) }
      | Option.none => storeAppR l i j e y e' xs d vs else .fail
    | _ => .fail
  | .val false [.ap1 l i j i' j' u ys y] => match s.root l with
    | some (.arr e xs true) => if u.flat then match setAts s 0 u y j' vs with
        | some (y', _, []) => .ret { dst := .none, set := [(l, some (.arr e (xs.modify i fun x => setAt e x j (.sl u) (ys.set i' y')) true))], kill := [(l, false)] }
        | _ => .fail else .fail
    | _ => .fail
  | _ => .fail

def fieldAddrR (E : Env) (T : TypeId) (a : A) (f : Nat) : R :=
  match E.T T, a with
  | some t, .val false [p] => match t.field f with
    | some (o, _) => match p with
      | .bp l off => .ret { dst := .c (.bp l (off + o)) }
      | .ap l i j e x => .ret { dst := .c (.ap l i (j + o) e x) }
      | .ap1 l i j i' j' u ys y => .ret { dst := .c (.ap1 l i j i' (j' + o) u ys y) }
      | .sp t' x d => if h : t' = t then match fieldD t (castD h x) f with
        | some ⟨u, y⟩ => .ret { dst := .c (.sp u y d) }
        | Option.none => .fail else .fail
      | _ => .fail
    | Option.none => .fail
  | _, _ => .fail

def areRefs : List (List C) → Bool
  | [] => true
  | [.ref _] :: r => areRefs r
  | _ => false

/-- The address of an element of a literal of slices: each number by itself, so that the slice keeps its name. -/
def litAt (l : Nat) (e : Ty) (i : Int) : List (List C) → Nat → R
  | [], _ => .bnd (Option.none : Option Unit) fun _ => .fail
  | _ :: r, k => .ite (i == (k : Int)) (.ret { dst := .c (.lp l k e) }) (litAt l e i r (k + 1))

def indexAddrR (E : Env) (T : TypeId) (a ix : A) (s : View) : R :=
  match asInt ix with
  | some i => match E.T T with
    | some (.sl e0) => match a with
      | .val false [.v (.sl e) xs d] => if e = e0 then .bnd (getI xs i) fun y => .ret { dst := .c (.sp e y d) } else .fail
      | .val false [.ref l] => match s.root l with
        | some (.arr e xs _) => if e = e0 then .bnd (getI xs i) fun y => .ret { dst := .c (.ap l i.toNat 0 e y) } else .fail
        | some (.lit e els) => if e = e0 then if isSl e && areRefs els then litAt l e i els 0 else match s.litData e els with
          | some (xs, d) => .bnd (getI xs i) fun y => .ret { dst := .c (.sp e y (l :: d)) }
          | Option.none => .fail else .fail
        | _ => .fail
      | .val false [.pre l n] => match s.root l with
        | some (.arr e xs _) => if e = e0 then .bnd (getI (xs.take n) i) fun y => .ret { dst := .c (.ap l i.toNat 0 e y) } else .fail
        | _ => .fail
      | .val false [.suf l _ e ys] => if e = e0 then .bnd (getI ys i) fun y => .ret { dst := .c (.sp e y [l]) } else .fail
      | .val false [.ref1 l i0 j0 u ys] => if u = e0 then .bnd (getI ys i) fun y => .ret { dst := .c (.ap1 l i0 j0 i.toNat 0 u ys y) } else .fail
      | _ => .fail
    | some t => match a with
      | .val false [.bp l off] => match i with
        | .ofNat n => match t.field n with
          | some (o, _) => .ret { dst := .c (.bp l (off + o)) }
          | Option.none => .fail
        | _ => .fail
      | _ => .fail
    | Option.none => .fail
  | Option.none => .fail

def indexR (E : Env) (T : TypeId) (a ix : A) : R :=
  match a, asInt ix, E.T T with
  | .val false [.v .str x _], some i, some .str => .bnd (if 0 ≤ i then x[i.toNat]? else Option.none) fun b => retI .u8 (b.toNat : Int)
  | _, _, _ => .fail

def lenR (E : Env) (T : TypeId) (a : A) (s : View) : R :=
  match E.T T with
  | some .str => match a with
    | .val false [.v .str x _] => retI .i64 (x.size : Int)
    | _ => .fail
  | some (.sl _) => match a with
    | .val false [.v (.sl _) x _] => retI .i64 (x.length : Int)
    | .val false [.nils] => retI .i64 0
    | .val false [.ref l] => match s.root l with
      | some (.arr _ xs _) => retI .i64 (xs.length : Int)
      | some (.lit _ els) => retI .i64 (els.length : Int)
      | _ => .fail
    | .val false [.pre _ n] => retI .i64 (n : Int)
    | .val false [.ref1 _ _ _ _ ys] => retI .i64 (ys.length : Int)
    | .val false [.suf _ _ _ ys] => retI .i64 (ys.length : Int)
    | _ => .fail
  | _ => .fail

/-- The array that append goes on with: its root's number (a new one: none), its elements, owned. -/
def View.base (s : View) (e : Ty) (a : A) : Option (Option Nat × List e.D × Bool) :=
  match a with
  | .val false [.nils] => some (Option.none, [], true)
  | .val false [.ref l] => match s.root l with
    | some (.arr e' xs d) => if h : e' = e then some (some l, castD (congrArg Ty.sl h) xs, d) else Option.none
    | _ => Option.none
  | .val false [.pre l n] => match s.root l with
    | some (.arr e' xs d) => if h : e' = e then if e.flat then some (some l, (castD (congrArg Ty.sl h) (xs.take n)), d) else Option.none else Option.none
    | _ => Option.none
  | _ => Option.none

/-- Append to a slice inside an element. -/
def appInR (e : Ty) (a b : A) (s : View) : R :=
  match a with
  | .val false [.ref1 l i j u ys] => match s.root l with
    | some (.arr e' xs true) => if u = e then if u.flat then match s.into ys.length u b with
      | some (zs, _, []) => .bnd (guardO (lenOk (ys.length + zs.length))) fun _ =>
        .ret { dst := .c (.app l i j u (ys ++ zs)), set := [(l, some (.arr e' xs true))], kill := [(l, false)] }
      | _ => .fail else .fail else .fail
    | _ => .fail
  | _ => .fail

def appendR (E : Env) (T : TypeId) (a b : A) (s : View) : R :=
  match E.T T with
  | some (.sl e) => match s.base e a with
    | some (ol, xs, d) => match s.into xs.length e b with
      | some (ys, d', m) => if !(mvLocs m).Nodup then .fail else .bnd (guardO (lenOk (xs.length + ys.length))) fun _ =>
        let l := ol.getD s.nx
        if (mvLocs m).contains l || E.fix.contains l then .fail else
          if d && d' then .ret { dst := .c (.ref l), set := (l, some (.arr e (xs ++ ys) true)) :: noRoots (mvLocs m), kill := [(l, true)], mov := mvTo l m }
          else .ret { dst := .c (.ref l), set := (l, some (.arr e (xs ++ ys) false)) :: noRoots (mvLocs m), kill := (l, true) :: allDie (mvLocs m) }
      | Option.none => .fail
    | Option.none => appInR e a b s
  | _ => .fail

def copyR (E : Env) (T : TypeId) (a b : A) (s : View) : R :=
  match E.T T with
  | some (.sl e0) => match a, s.slData b with
    | .val false [.ref l], some ⟨e', ys, _⟩ => match s.root l with
      | some (.arr e xs d) => if h : e' = e then if e.flat && e == e0 then
          let ys' : List e.D := castD (congrArg Ty.sl h) ys
          .ret { dst := .c (.v (.int .i64) ((min ys'.length xs.length : Nat) : Int) []), set := [(l, some (.arr e (ys'.take xs.length ++ xs.drop ys'.length) d))], kill := [(l, false)] } else .fail else .fail
      | _ => .fail
    | .val false [.suf l n e1 zs], some ⟨e', ys, _⟩ => match s.root l with
      | some (.arr e xs d) => if h : e' = e then if e.flat && (e == e0 && e1 == e0) then
          let ys' : List e.D := castD (congrArg Ty.sl h) ys
          .ret { dst := .c (.v (.int .i64) ((min ys'.length zs.length : Nat) : Int) []), set := [(l, some (.arr e (xs.take n ++ (ys'.take zs.length ++ xs.drop (n + min ys'.length zs.length))) d))], kill := [(l, false)] } else .fail else .fail
      | _ => .fail
    | _, _ => .fail
  | _ => .fail

def minmaxR (mx : Bool) : List A → R
  | [.val false [.v (.int k) x _], .val false [.v (.int _) y _]] =>
    retI k (if mx then (if x < y then y else x) else (if y < x then y else x))
  | _ => .fail

/-- The bounds of a slice expression over n elements. -/
def sliceB (lo hi : Option A) (n : Nat) : Option (Nat × Nat) :=
  match lo.map asInt, hi.map asInt with
  | Option.none, Option.none => some (0, n)
  | some (some l), Option.none => if 0 ≤ l ∧ l ≤ n then some (l.toNat, n) else Option.none
  | Option.none, some (some h) => if 0 ≤ h ∧ h ≤ n then some (0, h.toNat) else Option.none
  | some (some l), some (some h) => if 0 ≤ l ∧ l ≤ h ∧ h ≤ n then some (l.toNat, h.toNat) else Option.none
  | _, _ => Option.none

def sliceR (E : Env) (T : TypeId) (a : A) (lo hi : Option A) (s : View) : R :=
  match E.T T with
  | some .str => match a with
    | .val false [.v .str x _] => .bnd (sliceB lo hi x.size) fun p => .ret { dst := .c (.v .str (x.extract p.1 p.2) []) }
    | _ => .fail
  | some (.sl e0) => match s.slData a with
    | some ⟨e, xs, d⟩ => if e = e0 then match a, lo with
      | .val false [.ref l], Option.none => match s.root l with
        | some (.arr ..) => .bnd (sliceB Option.none hi xs.length) fun p => .ret { dst := .c (.pre l p.2) }
        | _ => .bnd (sliceB lo hi xs.length) fun p => .ret { dst := .c (.v (.sl e) ((xs.take p.2).drop p.1) d) }
      | .val false [.ref l], some lo' => match s.root l, hi with
        | some (.arr ..), Option.none => if e.flat then .bnd (sliceB (some lo') Option.none xs.length) fun p => .ret { dst := .c (.suf l p.1 e ((xs.take p.2).drop p.1)) }
          else .bnd (sliceB lo hi xs.length) fun p => .ret { dst := .c (.v (.sl e) ((xs.take p.2).drop p.1) d) }
        | _, _ => .bnd (sliceB lo hi xs.length) fun p => .ret { dst := .c (.v (.sl e) ((xs.take p.2).drop p.1) d) }
      | _, lo => .bnd (sliceB lo hi xs.length) fun p => .ret { dst := .c (.v (.sl e) ((xs.take p.2).drop p.1) d) } else .fail
    | Option.none => .fail
  | _ => .fail

/-- A slice expression x[:k] that stands for all of x from then on. -/
def cutR (E : Env) (T : TypeId) (a : A) (lo hi : Option A) (s : View) : R :=
  match E.T T, a, lo with
  | some (.sl e0), .val false [.ref l], Option.none => match s.root l with
    | some (.arr e xs d) => if e = e0 then if E.fix.contains l then .fail else .bnd (sliceB Option.none hi xs.length) fun p => .ret { dst := .c (.ref l), set := [(l, some (.arr e (xs.take p.2) d))], kill := [(l, true)] } else .fail
    | _ => .fail
  | _, _, _ => .fail

def Env.isCut (E : Env) (dst : Option Nat) : Bool := match E.cuts with
  | [] => false
  | cs => match dst with
    | some t => cs.contains t
    | Option.none => false

def partsCells (zeros : List C) : List (Nat × A) → (Nat → Option (Nat × Nat)) → Option (List C)
  | [], _ => some zeros
  | (i, .val _ cs) :: r, place => match place i with
    | some (o, n) => if cs.length = n ∧ o + n ≤ zeros.length then partsCells (setCells zeros o cs) r place else Option.none
    | Option.none => Option.none
  | _, _ => Option.none

def buildR (E : Env) (T : TypeId) (ps : List (Nat × A)) : R :=
  match E.T T with
  | some t => if t.agg then match partsCells (zeroCells t) ps (fun i => (t.field i).map fun (o, u) => (o, u.size)) with
    | some cs => .ret { dst := .val true cs }
    | Option.none => .fail else .fail
  | Option.none => .fail

def partsEls (zero : List C) (n : Nat) (agg : Bool) : List (Nat × A) → List (List C) → Option (List (List C))
  | [], els => some els
  | (i, .val g cs) :: r, els => if i < n ∧ g = agg ∧ cs.length = zero.length then partsEls zero n agg r (els.set i cs) else Option.none
  | _, _ => Option.none

def buildSliceR (E : Env) (T : TypeId) (n : Nat) (ps : List (Nat × A)) (s : View) : R :=
  match E.T T with
  | some (.sl e) => if 16777216 < n * e.size then .fail else match partsEls (zeroCells e) n e.agg ps (List.replicate n (zeroCells e)) with
    | some els => if e.flat || n == 0 then match s.litData e els with
        | some (xs, _) => .ret { dst := .c (.ref s.nx), set := [(s.nx, some (.arr e xs true))], kill := [(s.nx, true)] }
        | Option.none => .fail
      else .ret { dst := .c (.ref s.nx), set := [(s.nx, some (.lit e (els.map fun cs => cs.map (C.left ⟨[(s.nx, true)], []⟩))))], kill := [(s.nx, true)] }
    | Option.none => .fail
  | _ => .fail

def makeSliceR (E : Env) (T : TypeId) (n c : A) (s : View) : R :=
  match E.T T, asInt n, asInt c with
  | some (.sl e), some n, some c => .bnd (guardO (decide (0 ≤ n) && decide (n ≤ c) && decide (c ≤ lim))) fun _ =>
    .ret { dst := .c (.ref s.nx), set := [(s.nx, some (.arr e (List.replicate n.toNat e.zero) e.shallow))], kill := [(s.nx, true)] }
  | _, _, _ => .fail

def capsOf : List A → Option (List Nat)
  | [] => some []
  | .val false [.bp l 0] :: r => (capsOf r).map (l :: ·)
  | _ => Option.none

def makeFuncR (E : Env) (fn : Fn) (first captured : List A) (s : View) : R :=
  match fn, capsOf captured with
  | .func f, some caps => match first with
    | [] => .ret { dst := .c (.clo f [] caps) }
    | [a] => match lookupN f E.con with
      | some { pk := .data t :: _, .. } => if t.flat then match s.asData t a with
        | some (x, _) => .ret { dst := .c (.clo f [⟨t, x⟩] caps) }
        | Option.none => .fail else .fail
      | _ => .fail
    | _ => .fail
  | _, _ => .fail

/-! ### Calls -/

/-- Where a callee's root lies with the caller: nowhere (nil); a root; inside a root's element. -/
inductive Spot where
  | none | root (l : Nat) | in1 (l i j : Nat)
  deriving DecidableEq

def Spot.apart : List Spot → Bool
  | [] => true
  | .none :: r => Spot.apart r
  | .root l :: r => !r.contains (.root l) && Spot.apart r
  | .in1 l i j :: r => !r.contains (.in1 l i j) && Spot.apart r

def Spot.loc : Spot → List Nat
  | .none => []
  | .root l | .in1 l _ _ => [l]

def Spot.main : Spot → List Nat
  | .root l => [l]
  | _ => []

def Spot.inner : Spot → List Nat
  | .in1 l _ _ => [l]
  | _ => []

/-- What a cell holds in memory that can be handed over (mv: lent); where it lies. -/
def View.held (s : View) (mv : Bool) (c : C) (t : Ty) : Option (t.D × List Spot) :=
  match t with
  | .sl e => match c with
    | .nils => some ([], [.none])
    | .ref l => match s.root l with
      | some (.arr e' xs d) => if h : e' = e then if d || e.flat then some (castD (congrArg Ty.sl h) xs, [.root l]) else Option.none else Option.none
      | _ => Option.none
    | .pre l n => if mv then Option.none else match s.root l with
      | some (.arr e' xs d) => if h : e' = e then if d || e.flat then some (castD (congrArg Ty.sl h) (xs.take n), [.root l]) else Option.none else Option.none
      | _ => Option.none
    | .ref1 l i j u ys => if mv then if h : u = e then some (castD (congrArg Ty.sl h) ys, [.in1 l i j]) else Option.none else Option.none
    | _ => Option.none
  | t => match c with
    | .v t' x _ => if h : t' = t then some (castD h x, []) else Option.none
    | _ => Option.none

def View.heldAll (s : View) (mv : Bool) : (t : Ty) → List C → Option (t.D × List Spot × List C)
  | .one h, cs => s.heldAll mv h cs
  | .cons h t, cs => match s.heldAll mv h cs with
    | some (x, p, r) => match s.heldAll mv t r with
      | some (y, p', r') => some ((x, y), p ++ p', r')
      | Option.none => Option.none
    | Option.none => Option.none
  | .int k, c :: r => match s.held mv c (.int k) with | some (x, p) => some (x, p, r) | Option.none => Option.none
  | .bool, c :: r => match s.held mv c .bool with | some (x, p) => some (x, p, r) | Option.none => Option.none
  | .str, c :: r => match s.held mv c .str with | some (x, p) => some (x, p, r) | Option.none => Option.none
  | .sl e, c :: r => match s.held mv c (.sl e) with | some (x, p) => some (x, p, r) | Option.none => Option.none
  | _, [] => Option.none

/-- A value that can be handed over. -/
def View.hold (s : View) (mv : Bool) (t : Ty) (a : A) : Option (t.D × List Spot) :=
  match a with
  | .val g cs => if g = t.agg then match s.heldAll mv t cs with
    | some (x, p, []) => some (x, p)
    | _ => Option.none else Option.none
  | _ => Option.none

def View.with (s : View) (l : Nat) (r : Root) : View := { s with root := fun m => if m = l then some r else s.root m }

/-- New data for a slice that was written. -/
def View.upd (s : View) (p : Spot) (u : Ty) (ys : List u.D) : View :=
  match p with
  | .none => s
  | .root l => match s.root l with
    | some (.arr e _ d) => if h : u = e then s.with l (.arr e (castD (congrArg Ty.sl h) ys) d) else s
    | _ => s
  | .in1 l i j => match s.root l with
    | some (.arr e xs d) => s.with l (.arr e (xs.modify i fun x => setAt e x j (.sl u) ys) d)
    | _ => s

def View.updAll (s : View) : (t : Ty) → t.D → List Spot → View × List Spot
  | .one h, x, ps => s.updAll h x ps
  | .cons h t, x, ps => let r := s.updAll h x.1 ps; r.1.updAll t x.2 r.2
  | .sl u, ys, p :: ps => (s.upd p u ys, ps)
  | _, _, ps => (s, ps)

/-- What an argument gives: slices that are lent; a variable that is lent; slices that are handed over; what is borrowed. -/
structure Got where
  lent : List Spot := []
  box : Option Nat := Option.none
  gone : List Spot := []
  deps : List Nat := []

/-- Where the callee's roots lie. -/
def Got.places (g : Got) : List Spot := (match g.box with
  | some l => [.root l]
  | Option.none => []) ++ (g.lent ++ g.gone)

def View.boxData (s : View) (t : Ty) (a : A) : Option (Nat × t.D × List Nat) :=
  match a with
  | .val false [.bp l 0] => match s.root l with
    | some (.box cs) => match s.asm t cs with
      | some (x, d, []) => some (l, x, d)
      | _ => Option.none
    | _ => Option.none
  | _ => Option.none

def View.boxHold (s : View) (t : Ty) (a : A) : Option (Nat × t.D × List Spot) :=
  match a with
  | .val false [.bp l 0] => match s.root l with
    | some (.box cs) => match s.heldAll false t cs with
      | some (x, p, []) => some (l, x, p)
      | _ => Option.none
    | _ => Option.none
  | _ => Option.none

def tupList : (ts : List Ty) → Prod' ts → List (Σ t : Ty, t.D)
  | [], _ => []
  | [t], x => [⟨t, x⟩]
  | t :: u :: ts, x => ⟨t, x.1⟩ :: tupList (u :: ts) x.2

/-- What a parameter is made of: a datum, a function. -/
inductive Src where
  | d (t : Ty) (x : t.D)
  | f (ins : List Ty) (out : Ty) (g : Prod' ins → Option out.D)

def castF {ins ins' : List Ty} {out out' : Ty} (h : ins' = ins) (h' : out' = out) (g : Prod' ins' → Option out'.D) : Prod' ins → Option out.D := h ▸ h' ▸ g

def PK.from : (p : PK) → Src → Option p.D
  | .data t, .d u x | .rp t, .d u x => if h : u = t then some (castD h x) else Option.none
  | .fn ins out, .f ins' out' g | .rfn ins out, .f ins' out' g => if h : ins' = ins then if h' : out' = out then some (castF h h' g) else Option.none else Option.none
  | _, _ => Option.none

def fillIn : (pk : List PK) → List Src → Option (In pk)
  | [], [] => some ()
  | [p], [x] => p.from x
  | p :: q :: ps, x :: xs => match p.from x, fillIn (q :: ps) xs with
    | some y, some ys => some (y, ys)
    | _, _ => Option.none
  | _, _ => Option.none

def srcs (l : List (Σ t : Ty, t.D)) : List Src := l.map fun x => .d x.1 x.2

def castP {ts us : List Ty} (h : ts = us) (x : Prod' ts) : Prod' us := h ▸ x

/-- What a closure captured, as data; `rec`: how a function among it is taken. -/
def View.capData (s : View) (rec : (ins : List Ty) → (out : Ty) → A → Option ((Prod' ins → Option out.D) × List Nat)) : List PK → List Nat → Option (List Src × List Nat)
  | [], [] => some ([], [])
  | .rp t :: pk, l :: ls => match s.boxData t (.c (.bp l 0)), View.capData s rec pk ls with
    | some (_, x, d), some (r, d') => some (.d t x :: r, l :: d ++ d')
    | _, _ => Option.none
  | .rfn ins out :: pk, l :: ls => match s.root l with
    | some (.box [c]) => match rec ins out (.c c), View.capData s rec pk ls with
      | some (g, d), some (r, d') => some (.f ins out g :: r, l :: d ++ d')
      | _, _ => Option.none
    | _ => Option.none
  | _, _ => Option.none

def PK.isData : PK → Bool
  | .data _ => true
  | _ => false

/-- A function on data. -/
def fnOf (ins : List Ty) (out : Ty) (a : A) : Option ((Prod' ins → Option out.D) × List Nat) :=
  match a with
  | .val false [.fn ins' out' g] => if h : ins' = ins then if h' : out' = out then some (castF h h' g, []) else Option.none else Option.none
  | _ => Option.none

def cloOf (a : A) : Option (Nat × List (Σ t : Ty, t.D) × List Nat) :=
  match a with
  | .val false [.clo f first caps] => some (f, first, caps)
  | _ => Option.none

/-- A closure's function, out of its contract and what it captured. -/
def cloFn (con : Con0) (first : List (Σ t : Ty, t.D)) (ins : List Ty) (out : Ty) (post : List Src) (h : OutT con.rk con.pk = [out]) (x : Prod' ins) : Option out.D :=
  match fillIn con.pk (srcs first ++ srcs (tupList ins x) ++ post) with
  | some i => match con.F i with
    | some y => some (castP h y)
    | Option.none => Option.none
  | Option.none => Option.none

/-- A closure as a function. -/
def View.asFn (E : Env) (s : View) : (fuel : Nat) → (ins : List Ty) → (out : Ty) → (a : A) → Option ((Prod' ins → Option out.D) × List Nat)
  | 0, ins, out, a => fnOf ins out a
  | n + 1, ins, out, a => match cloOf a with
    | Option.none => fnOf ins out a
    | some (f, first, caps) => match lookupN f E.con with
      | some con => match s.capData (View.asFn E s n) (con.pk.drop (first.length + ins.length)) caps with
        | some (post, d) => if h : OutT con.rk con.pk = [out] then if out.flat && con.rk.length == 1 && (con.pk.take (first.length + ins.length)).all PK.isData then
            some (cloFn con first ins out post h, d) else Option.none else Option.none
        | Option.none => Option.none
      | Option.none => Option.none

def View.arg (E : Env) (s : View) : (p : PK) → A → Option (p.D × Got)
  | .data t, a => match s.asData t a with
    | some (x, d) => some (x, { deps := d })
    | Option.none => Option.none
  | .ow t, a => match s.hold false t a with
    | some (x, ps) => some (x, { gone := ps })
    | Option.none => Option.none
  | .mv t, a => match s.hold true t a with
    | some (x, ps) => some (x, { lent := ps })
    | Option.none => Option.none
  | .rp t, a => match s.boxData t a with
    | some (l, x, d) => some (x, { deps := l :: d })
    | Option.none => Option.none
  | .mp t false, a => match s.boxData t a with
    | some (l, x, d) => some (x, { box := some l, deps := d })
    | Option.none => Option.none
  | .mp t true, a => match s.boxHold t a with
    | some (l, x, ps) => some (x, { box := some l, gone := ps })
    | Option.none => Option.none
  | .fn ins out, a => match s.asFn E 3 ins out a with
    | some (g, d) => some (g, { deps := d })
    | Option.none => Option.none
  | .rfn ins out, a => match a with
    | .val false [.bp l 0] => match s.root l with
      | some (.box [c]) => match s.asFn E 3 ins out (.c c) with
        | some (g, d) => some (g, { deps := l :: d })
        | Option.none => Option.none
      | _ => Option.none
    | _ => Option.none

def View.args (E : Env) (s : View) : (pk : List PK) → List A → Option (In pk × List Got)
  | [], [] => some ((), [])
  | [p], [a] => match s.arg E p a with
    | some (x, g) => some (x, [g])
    | Option.none => Option.none
  | p :: q :: ps, a :: as => match s.arg E p a, s.args E (q :: ps) as with
    | some (x, g), some (xs, gs) => some ((x, xs), g :: gs)
    | _, _ => Option.none
  | _, _ => Option.none

/-- A result in memory of its own: its cells, its roots. -/
def ownCells (n : Nat) : (t : Ty) → t.D → List C × List Root
  | .one h, x => ownCells n h x
  | .cons h t, x => let r := ownCells n h x.1; let r' := ownCells (n + r.2.length) t x.2; (r.1 ++ r'.1, r.2 ++ r'.2)
  | .int k, x => ([.v (.int k) x []], [])
  | .bool, x => ([.v .bool x []], [])
  | .str, x => ([.v .str x []], [])
  | .sl e, x => ([.ref n], [.arr e x true])

/-- Cells of a result or of a variable that is given back. -/
def cellsOf (own : Bool) (n : Nat) (deps : List Nat) (t : Ty) (x : t.D) : List C × List Root := if own then ownCells n t x else (expand deps t x, [])

def results (n : Nat) (deps : List Nat) : List (Ty × Bool) → List (Σ t : Ty, t.D) → List (Bool × List C) × List Root × List (Σ t : Ty, t.D)
  | [], r => ([], [], r)
  | (_, own) :: rk, ⟨t, x⟩ :: r =>
    let c := cellsOf own n deps t x
    let q := results (n + c.2.length) deps rk r
    ((t.agg, c.1) :: q.1, c.2 ++ q.2.1, q.2.2)
  | _ :: _, [] => ([], [], [])

/-- What was written goes back: the roots, the new roots. -/
def giveBack (n : Nat) (deps : List Nat) : List PK → List Got → List (Σ t : Ty, t.D) → View → View × List Root
  | .mv _ :: pk, g :: gs, ⟨t, x⟩ :: r, s => giveBack n deps pk gs r (s.updAll t x g.lent).1
  | .mp _ own :: pk, g :: gs, ⟨t, x⟩ :: r, s =>
    let c := cellsOf own n deps t x
    let q := giveBack (n + c.2.length) deps pk gs r (match g.box with
      | some l => s.with l (.box c.1)
      | Option.none => s)
    (q.1, c.2 ++ q.2)
  | _ :: pk, _ :: gs, r, s => giveBack n deps pk gs r s
  | _, _, _, s => (s, [])

def tupA : List (Bool × List C) → A
  | [(g, cs)] => .val g cs
  | vs => .tup vs

def newSet (n : Nat) : List Root → List (Nat × Option Root)
  | [] => []
  | r :: rs => (n, some r) :: newSet (n + 1) rs

/-- The roots that a call touches: those that come back. -/
def backLocs (gs : List Got) : List Nat := gs.flatMap fun g => (match g.box with
  | some l => [l]
  | Option.none => []) ++ g.lent.flatMap Spot.loc

def goneLocs (gs : List Got) : List Nat := gs.flatMap fun g => g.gone.flatMap Spot.loc

/-- The arguments lie apart. -/
def argsApart (gs : List Got) : Bool :=
  let ps := gs.flatMap Got.places
  Spot.apart ps && (ps.flatMap Spot.main).all (fun l => !(ps.flatMap Spot.inner).contains l) && (ps.flatMap Spot.loc).all fun l => !(gs.flatMap (·.deps)).contains l

/-- The number of slices in a type. -/
def nsl : Ty → Nat
  | .sl _ => 1
  | .one h => nsl h
  | .cons h t => nsl h + nsl t
  | _ => 0

/-- The number of new roots that a call brings. -/
def conNames (con : Con0) : Nat := (con.rk.map fun r => if r.2 then nsl r.1 else 0).sum + (con.pk.map fun p => match p with
  | .mp t true => nsl t
  | _ => 0).sum

def callR (E : Env) (f : Nat) (as : List A) (s : View) : R :=
  match lookupN f E.con with
  | some con => match s.args E con.pk as with
    | some (x, gs) => if argsApart gs && (backLocs gs).all (fun l => (s.root l).isSome) then
        .bnd (con.F x) fun y =>
          let q := results s.nx (gs.flatMap (·.deps)) con.rk (tupList _ y)
          let b := giveBack (s.nx + q.2.1.length) (gs.flatMap (·.deps)) con.pk gs q.2.2 s
          .ret { dst := tupA q.1, set := ((backLocs gs).map fun l => (l, b.1.root l)) ++ (noRoots (goneLocs gs) ++ newSet s.nx (q.2.1 ++ b.2)), kill := ((backLocs gs).map fun l => (l, false)) ++ allDie (goneLocs gs ++ List.range' s.nx (q.2.1 ++ b.2).length) }
      else .fail
    | Option.none => .fail
  | Option.none => .fail

def View.dataArgs (s : View) : (ts : List Ty) → List A → Option (Prod' ts)
  | [], [] => some ()
  | [t], [a] => (s.asData t a).map Prod.fst
  | t :: u :: ts, a :: as => match s.asData t a, s.dataArgs (u :: ts) as with
    | some (x, _), some y => some (x, y)
    | _, _ => Option.none
  | _, _ => Option.none

def dynR (E : Env) (a : A) (as : List A) (s : View) : R :=
  match a with
  | .val false [.clo f first caps] => callR E f ((first.map fun x => ofData [] x.1 x.2) ++ as ++ caps.map fun l => .c (.bp l 0)) s
  | .val false [.fn ins out g] => match s.dataArgs ins as with
    | some x => .bnd (g x) fun y => if out.flat then .ret { dst := ofData [] out y } else .fail
    | Option.none => .fail
  | _ => .fail

/-! ### All operations -/

def opR (E : Env) (o : Oper) (ρ : Operand → A) (s : View) : R :=
  match o.op with
  | .move x | .assign x => .ret { dst := ρ x }
  | .pick c a b => match ρ c with
    | .val false [.v .bool x _] => .ite x (.ret { dst := ρ a }) (.ret { dst := ρ b })
    | _ => .fail
  | .alloc t => if (E.zeros t).isEmpty then .fail else .ret { dst := .c (.bp s.nx 0), set := [(s.nx, some (.box (E.zeros t)))], kill := [(s.nx, true)] }
  | .box t x => match ρ x with
    | .val _ cs => .ret { dst := .c (.bp s.nx 0), set := [(s.nx, some (.box (cs.map (C.left ⟨[(s.nx, true)], []⟩))))], kill := [(s.nx, true)] }
    | _ => .fail
  | .build t ps => buildR E t (ps.toList.map fun p => (p.1, ρ p.2))
  | .buildSlice t n ps => buildSliceR E t n (ps.toList.map fun p => (p.1, ρ p.2)) s
  | .load t a => loadR E t (ρ a) s
  | .store t a x => storeR E t (ρ a) (ρ x) s
  | .nilCheck x => match ρ x with
    | .val false [.bp l off] => .ret { dst := .c (.bp l off) }
    | .val false [.sp t x d] => .ret { dst := .c (.sp t x d) }
    | .val false [.ap l i j e x] => .ret { dst := .c (.ap l i j e x) }
    | .val false [.clo f a b] => .ret { dst := .c (.clo f a b) }
    | .val false [.fn a b g] => .ret { dst := .c (.fn a b g) }
    | _ => .fail
  | .binOp op t x (.const (.slice Option.none 0 0)) _ => nilT E op t (ρ x) s
  | .binOp op t x y _ => binR E op t (ρ x) (ρ y) s
  | .unOp op _ x => unR op (ρ x)
  | .convert u t x => convR E u t (ρ x) s
  | .makeInterface _ _ => .ret { dst := .u }
  | .makeFunc fn first caps => makeFuncR E fn (first.toList.map ρ) (caps.toList.map ρ) s
  | .makeSlice t n c => makeSliceR E t (ρ n) (ρ c) s
  | .slice t x lo hi Option.none => if E.isCut o.dst then cutR E t (ρ x) (lo.map ρ) (hi.map ρ) s else sliceR E t (ρ x) (lo.map ρ) (hi.map ρ) s
  | .slice t x Option.none (some (.const (.int _ 0))) (some (.const (.int _ 0))) => match E.T t, s.slData (ρ x) with
    | some (.sl _), some _ => .ret { dst := .c .nils }
    | _, _ => .fail
  | .fieldAddr t x f => fieldAddrR E t (ρ x) f
  | .indexAddr t x i => indexAddrR E t (ρ x) (ρ i) s
  | .index t x i => indexR E t (ρ x) (ρ i)
  | .extract x i => match ρ x with
    | .tup vs => match vs[i]? with
      | some (g, cs) => .ret { dst := .val g cs }
      | Option.none => .fail
    | _ => .fail
  | .call c => match c.callee with
    | .builtin b => match b, c.args.toList.map ρ with
      | .len, [a] => lenR E (c.argTypes.getD 0 0) a s
      | .append, [a, x] => appendR E (c.argTypes.getD 0 0) a x s
      | .copy, [a, x] => copyR E (c.argTypes.getD 0 0) a x s
      | .min, as => minmaxR false as
      | .max, as => minmaxR true as
      | _, _ => .fail
    | .value (.func f) => callR E f (c.args.toList.map ρ) s
    | .value x => dynR E (ρ x) (c.args.toList.map ρ) s
    | _ => .fail
  | _ => .fail

/-! ### Regions -/

def litB (b : Bool) : A := .c (.v .bool b [])

/-- What is new is named, so that it is written once. -/
def Delta.share {β : Type} (yes : Bool) (d : Delta) (k : Delta → Option β) : Option β :=
  match yes, d with
  | true, ⟨.val false [.v (.int i) x deps], s, kl, m⟩ => bindO (some x) fun x => k ⟨.val false [.v (.int i) x deps], s, kl, m⟩
  | true, ⟨a, (l, some (.arr e xs dp)) :: s, kl, m⟩ => bindO (some xs) fun xs => k ⟨a, (l, some (.arr e xs dp)) :: s, kl, m⟩
  | _, d => k d

theorem Delta.share_eq {β : Type} (b : Bool) (d : Delta) (k : Delta → Option β) : d.share b k = k d := by
  unfold Delta.share
  split <;> rfl

/-- Operations whose results are named. -/
def shares (o : Oper) : Bool := match o.op with
  | .binOp op _ _ _ _ => match op with
    | .eql | .neq | .lss | .leq | .gtr | .geq => false
    | _ => true
  | .unOp .. | .store .. => true
  | .call c => match c.callee with
    | .builtin .append | .builtin .copy => true
    | _ => false
  | _ => false

/-! A state is worked out, so that it is worked out once. -/

def forceB {β : Type u} : Bool → (Bool → β) → β
  | true, k => k true
  | false, k => k false

def forceL {α : Type v} {β : Type u} (f : α → (α → β) → β) : List α → (List α → β) → β
  | [], k => k []
  | a :: l, k => f a fun a' => forceL f l fun l' => k (a' :: l')

def C.force {β : Type u} : C → (C → β) → β
  | .undef, k => k .undef
  | .v t x deps, k => forceL (fun n k => k n) deps fun deps => k (.v t x deps)
  | .nils, k => k .nils
  | .ref l, k => k (.ref l)
  | .ref1 l i j u ys, k => k (.ref1 l i j u ys)
  | .pre l n, k => k (.pre l n)
  | .bp l off, k => k (.bp l off)
  | .ap l i j e x, k => k (.ap l i j e x)
  | .ap1 l i j i' j' u ys y, k => k (.ap1 l i j i' j' u ys y)
  | .suf l n e ys, k => k (.suf l n e ys)
  | .app l i j u zs, k => k (.app l i j u zs)
  | .lp l n e, k => k (.lp l n e)
  | .sp t x deps, k => forceL (fun n k => k n) deps fun deps => k (.sp t x deps)
  | .sfn ins out g, k => k (.sfn ins out g)
  | .clo f first caps, k => forceL (fun n k => k n) caps fun caps => k (.clo f first caps)
  | .fn ins out g, k => k (.fn ins out g)

def A.force {β : Type u} : A → (A → β) → β
  | .none, k => k .none
  | .any, k => k .any
  | .val g cs, k => forceB g fun g => forceL C.force cs fun cs => k (.val g cs)
  | .tup vs, k => forceL (fun v k => forceB v.1 fun g => forceL C.force v.2 fun cs => k (g, cs)) vs fun vs => k (.tup vs)

def Root.force {β : Type u} : Root → (Root → β) → β
  | .box cs, k => forceL C.force cs fun cs => k (.box cs)
  | .arr e xs d, k => forceB d fun d => k (.arr e xs d)
  | .lit e els, k => forceL (forceL C.force) els fun els => k (.lit e els)
  | .gap, k => k .gap

def forceO {α : Type v} {β : Type u} (f : α → (α → β) → β) : Option α → (Option α → β) → β
  | Option.none, k => k Option.none
  | some a, k => f a fun a => k (some a)

def S.force {β : Type u} (s : S) (k : S → β) : β :=
  forceL A.force s.fr fun fr => forceL (forceO Root.force) s.H fun H => forceL (fun n k => k n) s.dF fun dF => forceL (fun n k => k n) s.dH fun dH => k ⟨fr, H, dF, dH⟩

theorem forceB_eq {β : Type u} (b : Bool) (k : Bool → β) : forceB b k = k b := by cases b <;> rfl

theorem forceL_eq {α : Type v} {β : Type u} {f : α → (α → β) → β} (hf : ∀ a k, f a k = k a) : ∀ (l : List α) (k : List α → β), forceL f l k = k l
  | [], k => rfl
  | a :: l, k => by simp only [forceL, hf, forceL_eq hf l]

theorem C.force_eq {β : Type u} (c : C) (k : C → β) : c.force k = k c := by
  cases c <;> simp only [C.force] <;> rw [forceL_eq fun _ _ => rfl]

theorem A.force_eq {β : Type u} (x : A) (k : A → β) : x.force k = k x := by
  cases x <;> simp only [A.force, forceB_eq]
  · rw [forceL_eq C.force_eq]
  · rw [forceL_eq fun v k => by rw [forceL_eq C.force_eq]]

theorem Root.force_eq {β : Type u} (x : Root) (k : Root → β) : x.force k = k x := by
  cases x <;> simp only [Root.force, forceB_eq]
  · rw [forceL_eq C.force_eq]
  · rw [forceL_eq (forceL_eq C.force_eq)]

theorem forceO_eq {α : Type v} {β : Type u} {f : α → (α → β) → β} (hf : ∀ a k, f a k = k a) (o : Option α) (k : Option α → β) : forceO f o k = k o := by
  cases o <;> simp only [forceO, hf]

theorem S.force_eq {β : Type u} (s : S) (k : S → β) : s.force k = k s := by
  simp only [S.force]
  rw [forceL_eq A.force_eq, forceL_eq (forceO_eq Root.force_eq), forceL_eq fun _ _ => rfl, forceL_eq fun _ _ => rfl]

noncomputable def opsR {β : Type} (E : Env) (ops : Array Oper) : List Oper → S → (S → Option β) → Option β
  | [], s, k => k s
  | o :: rest, s, k =>
    match o.guard with
    | Option.none => (opR E o s.eval s.view).run fun d => d.share (shares o) fun d => (s.apply o.dst d).force fun s' => opsR E ops rest s' k
    | some (j, want) =>
      match (match ops[j]? with | some oj => oj.dst | Option.none => Option.none) with
      | Option.none => Option.none
      | some g => match s.fr.getD g .none with
        | .none => (s.put o.dst .none).force fun s' => opsR E ops rest s' k
        | .val false [.v .bool b _] =>
          cond b
            (let s' := s.put (some g) (litB true)
             if want then (opR E o s'.eval s'.view).run fun d => d.share (shares o) fun d => (s'.apply o.dst d).force fun s2 => opsR E ops rest s2 k else (s'.put o.dst .none).force fun s2 => opsR E ops rest s2 k)
            (let s' := s.put (some g) (litB false)
             if want then (s'.put o.dst .none).force fun s2 => opsR E ops rest s2 k else (opR E o s'.eval s'.view).run fun d => d.share (shares o) fun d => (s'.apply o.dst d).force fun s2 => opsR E ops rest s2 k)
        | _ => Option.none

/-! ### Regions that draw their order -/

/-- A run in which nothing is left open. -/
def R.runS {β : Type} : R → (Delta → Option β) → Option β
  | .ret d, k => k d
  | .fail, _ => Option.none
  | .bnd m f, k => bindO m fun a => (f a).runS k
  | .ite c a b, k => cond c (a.runS k) (b.runS k)
  | .amb _ _, _ => Option.none

/-- The operations that must come before, as bits; `acc`: those of the earlier ones. -/
def maskOf (acc : List Nat) (o : Oper) : Nat := o.after.toList.foldl (fun m e => if Region.binds .any e then m ||| 2 ^ e.on ||| acc.getD e.on 0 else m) 0

/-- The slots that an operation looks at. -/
def Oper.slots (ops : Array Oper) (o : Oper) : List Nat := (o.op.operands.toList.filterMap fun x => match x with
  | .tmp t => some t
  | _ => Option.none) ++ match o.guard with
  | some (j, _) => match ops[j]? with
    | some oj => oj.dst.toList
    | Option.none => []
  | Option.none => []

def A.names : A → List Nat
  | .val _ cs => cs.flatMap C.names'
  | .tup vs => vs.flatMap fun v => v.2.flatMap C.names'
  | _ => []
where
  C.names' : C → List Nat
    | .v _ _ deps | .sp _ _ deps => deps
    | .ref l | .pre l _ | .bp l _ | .ap l _ _ _ _ | .ref1 l _ _ _ _ | .ap1 l _ _ _ _ _ _ _ | .suf l _ _ _ | .app l _ _ _ _ | .lp l _ _ => [l]
    | .clo _ _ caps => caps
    | _ => []

def Root.names : Root → List Nat
  | .box cs => cs.flatMap A.names.C.names'
  | .lit _ els => els.flatMap fun cs => cs.flatMap A.names.C.names'
  | _ => []

/-- Roots that can be come to. -/
def S.reach (s : S) : Nat → List Nat → List Nat
  | 0, l => l
  | n + 1, l => s.reach n (l ++ l.flatMap fun m => match s.root m with
    | some r => r.names.filter fun k => !l.contains k
    | Option.none => []).eraseDups

/-- What an operation may see of the roots. -/
def S.look (s : S) (slots : List Nat) : List (Nat × Root) := (s.reach 3 ((slots.flatMap fun i => (s.fr.getD i .none).names).eraseDups)).filterMap fun l => match s.root l with
  | some r => some (l, r)
  | Option.none => Option.none

/-- Does it look at roots? -/
def looks (o : Oper) : Bool := match o.op with
  | .move _ | .assign _ | .pick .. | .extract .. | .fieldAddr .. | .alloc _ | .box .. | .build .. => false
  | _ => true

/-- The number of names that an operation may take. -/
def opNames (E : Env) (o : Oper) : Nat := match o.op with
  | .alloc _ | .box .. | .buildSlice .. | .makeSlice .. => 1
  | .call c => match c.callee with
    | .builtin .append => 1
    | .value (.func f) => match lookupN f E.con with
      | some con => conNames con
      | Option.none => 0
    | _ => 0
  | _ => 0

/-- What is kept of an operation that was done. -/
structure Did where
  i : Nat
  mask : Nat
  slots : List Nat
  look : List (Nat × Root)
  nx : Nat
  n : Nat
  pre : S
  dst : Option Nat
  d : Delta

def sets (d : Delta) (l : Nat) : Bool := d.set.any fun u => u.1 == l

/-- q leaves alone what p reads, in state s. -/
def Did.clear (s : S) (p q : Did) : Bool :=
  p.slots.all (fun x => q.dst != some x && !(s.fr.getD x .none).hit ⟨q.d.kill, []⟩) &&
  p.look.all fun lr => !sets q.d lr.1 && match s.root lr.1 with
    | some r => !r.hit ⟨q.d.kill, []⟩
    | Option.none => true

/-- What p does is not hit by q. -/
def Did.spares (p q : Did) : Bool := !p.d.dst.hit ⟨q.d.kill, []⟩ && p.d.set.all fun u => !sets q.d u.1 && match u.2 with
  | some r => !r.hit ⟨q.d.kill, []⟩
  | Option.none => true

/-- q takes none of p's names. -/
def Did.apart (p q : Did) : Bool := q.d.set.all fun u => !(decide (p.nx ≤ u.1) && decide (u.1 < p.nx + p.n))

/-- Two operations (p the earlier) whose order is open. -/
def Did.free (p q : Did) : Bool := p.d.mov.isEmpty && q.d.mov.isEmpty && (match p.dst with
  | some x => q.dst != some x
  | Option.none => true) && p.clear p.pre q && q.clear p.pre p && p.spares q && q.spares p && p.apart q

/-- `acc`: the later first. -/
def didsOk : List Did → Bool
  | [] => true
  | q :: r => (r.all fun p => q.mask.testBit p.i || p.free q) && didsOk r

def drawR {β : Type} (E : Env) (ops : Array Oper) (top : Nat) : List Oper → (i nx : Nat) → (masks : List Nat) → (acc : List Did) → S → (List Did → S → Option β) → Option β
  | [], _, _, _, acc, s, k => k acc s
  | o :: rest, i, nx, masks, acc, s, k =>
    let m := maskOf masks o
    let sl := Oper.slots ops o
    let n := opNames E o
    let skip : S → Option β := fun s => (s.put o.dst .none).force fun s' => drawR E ops top rest (i + 1) (nx + n) (masks ++ [m]) (⟨i, m, sl, [], nx, n, s, o.dst, { dst := .none }⟩ :: acc) s' k
    let run : S → Option β := fun s => let lk := if looks o then s.look sl else []
      (opR E o s.eval ⟨fun l => lookupN l lk, if n == 0 then top else nx⟩).runS fun d => d.share (shares o) fun d =>
        if d.set.all fun u => decide (u.1 < nx + n) then
          (s.apply o.dst d).force fun s' => drawR E ops top rest (i + 1) (nx + n) (masks ++ [m]) (⟨i, m, sl, lk, nx, n, s, o.dst, d⟩ :: acc) s' k
        else Option.none
    match o.guard with
    | Option.none => run s
    | some (j, want) => if !m.testBit j then Option.none else
      match (match ops[j]? with | some oj => oj.dst | Option.none => Option.none) with
      | Option.none => Option.none
      | some g => match s.fr.getD g .none with
        | .none => skip s
        | .val false [.v .bool b []] =>
          cond b (let s' := { s with fr := s.fr.set g (litB true) }; if want then run s' else skip s') (let s' := { s with fr := s.fr.set g (litB false) }; if want then skip s' else run s')
        | _ => Option.none

/-- What may come next, when those of the mask are done. -/
def readyX (ops : Array Oper) (m : Nat) : List Nat := (List.range ops.size).filter fun i => !m.testBit i && match ops[i]? with
  | some o => o.after.toList.all fun e => !Region.binds .any e || m.testBit e.on
  | Option.none => false

noncomputable def ambL {β : Type} : List (Option β) → Option β
  | [] => Option.none
  | [x] => x
  | x :: y :: l => ambO x (ambL (y :: l))

/-- A region that draws its order: every order, one by one. -/
noncomputable def drawX {β : Type} (E : Env) (ops : Array Oper) (k : S → Option β) : Nat → Nat → S → Option β
  | 0, _, _ => Option.none
  | n + 1, m, s => match readyX ops m with
    | [] => k s
    | i :: r => ambL ((i :: r).map fun i => match ops[i]? with
      | some o => match o.guard with
        | Option.none => (opR E o s.eval s.view).run fun d => d.share (shares o) fun d => (s.apply o.dst d).force fun s' => drawX E ops k n (m ||| 2 ^ i) s'
        | some _ => Option.none
      | Option.none => Option.none)

/-- A region that draws its order. -/
noncomputable def drawS {β : Type} (E : Env) (ops : Array Oper) (s : S) (k : S → Option β) : Option β :=
  let n := (ops.toList.map (opNames E)).sum
  let s0 := { s with H := s.H ++ List.replicate n (some .gap) }
  drawR E ops (s.H.length + n) ops.toList 0 s.H.length [] [] s0 fun acc s' => if didsOk acc then k s' else drawX E ops k (ops.size + 1) 0 s

/-! ### Loops and joins: states with holes -/

/-- A cell's hole: a datum (that borrows from the arrays that these slots refer to); an array of its own. -/
inductive HK where
  | data (t : Ty) (deps : List Nat)
  | own (e : Ty) (deep : Bool)

@[reducible] def HK.D : HK → Type
  | .data t _ => t.D
  | .own e _ => List e.D

/-- A hole: a slot that holds one cell; a cell of the variable that a slot points to; what the array that a slot refers to holds. -/
inductive It where
  | slot (i : Nat) (k : HK)
  | cell (i off : Nat) (k : HK)
  | arr (i : Nat) (e : Ty) (deep : Bool)

@[reducible] def It.D : It → Type
  | .slot _ k | .cell _ _ k => k.D
  | .arr _ e _ => List e.D

@[reducible] def Its : List It → Type
  | [] => Unit
  | [i] => i.D
  | i :: j :: is => i.D × Its (j :: is)

structure Tm where
  items : List It
  kill : List Nat := []

/-- The roots that slots refer to. -/
def S.refs (s : S) (ds : List Nat) : List Nat := ds.flatMap fun i => match s.fr.getD i .none with
  | .val false [.ref l] => [l]
  | _ => []

def S.takeC (s : S) (c : C) : (k : HK) → Option k.D
  | .data t ds => match s.view.data c t with
    | some (x, d) => if d.all (s.refs ds).contains then some x else Option.none
    | Option.none => Option.none
  | .own e deep => match c with
    | .nils => some []
    | .ref l => match s.root l with
      | some (.arr e' xs d) => if h : e' = e then if d == deep then some (castD (congrArg Ty.sl h) xs) else Option.none else Option.none
      | _ => Option.none
    | _ => Option.none

def S.take (s : S) : (i : It) → Option i.D
  | .slot i k => match s.fr.getD i .none with
    | .val false [c] => s.takeC c k
    | _ => Option.none
  | .cell i off k => match s.fr.getD i .none with
    | .val false [.bp l 0] => match s.root l with
      | some (.box cs) => match cs[off]? with
        | some c => s.takeC c k
        | Option.none => Option.none
      | _ => Option.none
    | _ => Option.none
  | .arr i e deep => match s.fr.getD i .none with
    | .val false [.ref l] => match s.root l with
      | some (.arr e' xs d) => if h : e' = e then if d == deep then some (castD (congrArg Ty.sl h) xs) else Option.none else Option.none
      | _ => Option.none
    | _ => Option.none

def S.takes (s : S) : (is : List It) → Option (Its is)
  | [] => some ()
  | [i] => s.take i
  | i :: j :: is => match s.take i, s.takes (j :: is) with
    | some x, some y => some (x, y)
    | _, _ => Option.none

def S.giveC (s : S) : (k : HK) → k.D → C × S
  | .data t ds, x => (.v t x (s.refs ds), s)
  | .own e deep, x => (.ref s.H.length, { s with H := s.H ++ [some (.arr e x deep)] })

def S.give (s : S) : (i : It) → i.D → S
  | .slot i k, x => let r := s.giveC k x; { r.2 with fr := r.2.fr.set i (.c r.1) }
  | .cell i off k, x => match s.fr.getD i .none with
    | .val false [.bp l 0] => match s.root l with
      | some (.box cs) => let r := s.giveC k x; { r.2 with H := r.2.H.set l (some (.box (cs.set off r.1))) }
      | _ => s
    | _ => s
  | .arr i e deep, x => match s.fr.getD i .none with
    | .val false [.ref l] => { s with H := s.H.set l (some (.arr e x deep)) }
    | _ => s

def S.gives (s : S) : (is : List It) → Its is → S
  | [], _ => s
  | [i], x => s.give i x
  | i :: j :: is, x => (s.give i x.1).gives (j :: is) x.2

def killSlots (fr : List A) : List Nat → List A
  | [] => fr
  | i :: r => killSlots (fr.set i .any) r

/-- The root that an own hole's handle refers to. -/
def S.ownLoc (s : S) : It → List Nat
  | .slot i (.own _ _) => match s.fr.getD i .none with
    | .val false [.ref l] => [l]
    | _ => []
  | .cell i off (.own _ _) => match s.fr.getD i .none with
    | .val false [.bp l 0] => match s.root l with
      | some (.box cs) => match cs[off]? with
        | some (.ref l2) => [l2]
        | _ => []
      | _ => []
    | _ => []
  | _ => []

/-- The variable that a hole lies in. -/
def S.boxLoc (s : S) : It → List Nat
  | .cell i _ _ => match s.fr.getD i .none with
    | .val false [.bp l 0] => [l]
    | _ => []
  | _ => []

def dropAll (H : List (Option Root)) : List Nat → List (Option Root)
  | [] => H
  | l :: r => dropAll (H.set l Option.none) r

def blank : Option Root → Option Root
  | some (.box cs) => some (.box (cs.map fun _ => .undef))
  | o => o

def blankAll (H : List (Option Root)) : List Nat → List (Option Root)
  | [] => H
  | l :: r => blankAll (H.modify l blank) r

/-- The entry state, without what borrows from roots that holes take. -/
def S.opened (s : S) (t : Tm) : S := s.swept ⟨(t.items.flatMap s.ownLoc).map fun l => (l, true), []⟩

/-- The state at a loop's head (or behind a join), out of the state where it was entered. -/
def S.at (s : S) (t : Tm) (x : Its t.items) : S :=
  let s1 := s.opened t
  { ({ s1 with fr := killSlots s1.fr t.kill, H := blankAll (dropAll s1.H (t.items.flatMap s.ownLoc)) (t.items.flatMap s.boxLoc), dF := [], dH := [] } : S).gives t.items x with dF := [], dH := [] }

def It.slots : It → List Nat
  | .slot i _ => [i]
  | _ => []

/-- The roots that an item stands for, in the state where the loop was entered. -/
def S.locs (s : S) (it : It) : List Nat := s.ownLoc it ++ s.boxLoc it ++ match it with
  | .arr i _ _ => match s.fr.getD i .none with
    | .val false [.ref l] => [l]
    | _ => []
  | _ => []

/-- Behind a loop: what may have changed since, seen from outside. -/
def S.back (s' s : S) (t : Tm) : S :=
  { s' with dF := s'.dF ++ (t.kill ++ (t.items.flatMap It.slots ++ (s.opened t).dF)), dH := s'.dH ++ (t.items.flatMap s.locs ++ (s.opened t).dH) }

/-- The roots that a cell names. -/
def C.names : C → List Nat
  | .v _ _ deps | .sp _ _ deps => deps
  | .ref l | .pre l _ | .bp l _ | .ap l _ _ _ _ | .ref1 l _ _ _ _ | .ap1 l _ _ _ _ _ _ _ | .suf l _ _ _ | .app l _ _ _ _ | .lp l _ _ => [l]
  | .clo _ _ caps => caps
  | _ => []

def C.wf (n : Nat) (c : C) : Bool := c.names.all fun l => decide (l < n)

def A.wf (n : Nat) : A → Bool
  | .val _ cs => cs.all (C.wf n)
  | .tup vs => vs.all fun v => v.2.all (C.wf n)
  | _ => true

def Root.wf (n : Nat) : Root → Bool
  | .box cs => cs.all (C.wf n)
  | .arr .. => true
  | .lit _ els => els.all fun cs => cs.all (C.wf n)
  | .gap => true

/-- Cells name roots that there are. -/
def S.wf (s : S) : Bool := s.fr.all (A.wf s.H.length) && s.H.all fun o => match o with
  | some r => r.wf s.H.length
  | Option.none => true

/-- The cells of a root that is a variable. -/
def S.boxLen (s : S) (l : Nat) : Nat := match s.root l with
  | some (.box cs) => cs.length
  | _ => 0

/-- Nothing but what the holes stand for was changed since the head. -/
def S.within (s0 s : S) (t : Tm) : Bool :=
  decide (t.items.flatMap s.ownLoc).Nodup && ((t.items.flatMap s.ownLoc).all fun l => decide (s0.H.length ≤ l) || (t.items.flatMap s0.ownLoc).contains l) &&
  ((t.items.flatMap s0.boxLoc).all fun l => s0.boxLen l == s.boxLen l) && (s.dF.all fun i => t.kill.contains i || (t.items.any fun it => it.slots.contains i)) &&
  (s.dH.all fun l => decide (s0.H.length ≤ l) || (t.items.any fun it => (s0.locs it).contains l))

/-- The slots that a hole is reached by. -/
def It.via : It → List Nat
  | .slot _ _ => []
  | .cell i _ _ | .arr i _ _ => [i]

/-- The slots whose arrays a hole's datum may borrow from. -/
def It.deps : It → List Nat
  | .slot _ (.data _ ds) | .cell _ _ (.data _ ds) => ds
  | _ => []

/-- A template's holes can be filled one after another: `done`: the own slot holes so far. -/
def Tm.fits (t : Tm) : List Nat → List It → Bool
  | _, [] => true
  | done, it :: r => (it.via.all fun i => !t.kill.contains i && !(t.items.any fun q => q.slots.contains i)) && (it.deps.all fun i => done.contains i || (!t.kill.contains i && !(t.items.any fun q => q.slots.contains i))) &&
    t.fits (match it with
      | .slot i (.own _ _) => i :: done
      | _ => done) r

def Tm.ok (t : Tm) : Bool := t.fits [] t.items && decide (t.items.flatMap It.slots).Nodup && (t.items.flatMap It.slots).all fun i => !t.kill.contains i

/-- A loop may be entered here: its holes lie apart. -/
def S.fitIn (s : S) (E : Env) (t : Tm) : Bool :=
  decide (t.items.flatMap s.ownLoc).Nodup && s.wf && t.ok && ((t.items.flatMap s.ownLoc).all fun l => !E.fix.contains l) &&
  ((t.items.flatMap It.via ++ t.items.flatMap It.deps).all fun i => (t.items.flatMap It.slots).contains i || match s.fr.getD i .none with
    | .val false [.ref l] => !(t.items.flatMap s.ownLoc).contains l
    | _ => true)

/-! ### Roots that are given up at a loop's end -/

/-- A cell that names roots which are given up: the data alone. -/
def C.cede (s : View) (ls : List Nat) (c : C) : C := if (ls.map fun l => (l, true)).any c.dies then match c with
    | .v t x deps => .v t x (deps.filter fun l => !ls.contains l)
    | .sp t x deps => .sp t x (deps.filter fun l => !ls.contains l)
    | c => match s.slData (.c c) with
      | some ⟨e, xs, d⟩ => .v (.sl e) xs (d.filter fun l => !ls.contains l)
      | Option.none => .undef
  else c

def A.cede (s : View) (ls : List Nat) : A → A
  | .none => .none
  | .any => .any
  | .val g cs => .val g (cs.map (C.cede s ls))
  | .tup vs => .tup (vs.map fun v => (v.1, v.2.map (C.cede s ls)))

def Root.cede (s : View) (ls : List Nat) : Root → Root
  | .box cs => .box (cs.map (C.cede s ls))
  | .arr e xs d => .arr e xs d
  | .lit e els => .lit e (els.map fun cs => cs.map (C.cede s ls))
  | .gap => .gap

/-- The state when these roots are given up: what they hold will not be written any more. -/
def S.cede (s : S) (ls : List Nat) : S :=
  { fr := s.fr.map (A.cede s.view ls), H := dropAll (s.H.map fun o => o.map (Root.cede s.view ls)) ls,
    dF := hits (A.hit ⟨ls.map fun l => (l, true), []⟩) 0 s.fr ++ s.dF,
    dH := ls ++ (hits (fun o : Option Root => (o.map (Root.hit ⟨ls.map fun l => (l, true), []⟩)).getD false) 0 s.H ++ s.dH) }

/-- The roots made since that no hole stands for. -/
def S.dead (s : S) (n : Nat) (t : Tm) : List Nat := (List.range' n (s.H.length - n)).filter fun l => !(t.items.flatMap s.ownLoc).contains l

/-- The roots that a cell is a handle of. -/
def C.hands : C → List Nat
  | .ref l | .pre l _ | .bp l _ | .ap l _ _ _ _ | .ref1 l _ _ _ _ | .ap1 l _ _ _ _ _ _ _ | .suf l _ _ _ | .app l _ _ _ _ | .lp l _ _ => [l]
  | .clo _ _ caps => caps
  | _ => []

def A.hands : A → List Nat
  | .val _ cs => cs.flatMap C.hands
  | .tup vs => vs.flatMap fun v => v.2.flatMap C.hands
  | _ => []

def Root.hands : Root → List Nat
  | .box cs => cs.flatMap C.hands
  | .lit _ els => els.flatMap fun cs => cs.flatMap C.hands
  | _ => []

/-- Roots that can be come to by handles. -/
def S.held (s : S) : Nat → List Nat → List Nat
  | 0, l => l
  | n + 1, l => s.held n (l ++ l.flatMap fun m => match s.root m with
    | some r => r.hands
    | Option.none => []).eraseDups

def slotHands (kill : List Nat) : Nat → List A → List Nat
  | _, [] => []
  | n, a :: r => if kill.contains n then slotHands kill (n + 1) r else a.hands ++ slotHands kill (n + 1) r

/-- The roots that are not come to from the slots that a loop leaves. -/
def S.idle (s : S) (E : Env) (t : Tm) : List Nat :=
  let live := s.held 4 (E.fix ++ slotHands t.kill 0 s.fr).eraseDups
  (List.range s.H.length).filter fun l => !live.contains l

/-- The state where a loop is entered: if its holes cannot be filled, roots that nobody holds are given up. -/
noncomputable def S.entered (s : S) (E : Env) (t : Tm) : S := match s.takes t.items with
  | some _ => s
  | Option.none => s.cede (s.idle E t)

/-- The end of a loop's body: the holes' data go on to the next round. -/
def S.onward {β : Type} (s s' : S) (t : Tm) (k : Its t.items → Option β) : Option β :=
  if s.within s' t then match s'.takes t.items with
    | some y => k y
    | Option.none => (fun s2 : S => if s.within s2 t then match s2.takes t.items with
      | some y => k y
      | Option.none => Option.none else Option.none) (s'.cede (s'.dead s.H.length t))
  else Option.none

def iter {σ β : Type} (body : (σ → Option β) → σ → Option β) : Nat → σ → Option β
  | 0, _ => Option.none
  | n + 1, s => body (iter body n) s

def many : Nat := 2 ^ 64

theorem loopO_ex {σ β : Type} (body : (σ → Option β) → σ → Option β) (s : σ) : ∃ r : Option β, r = iter body many s := ⟨_, rfl⟩

/-- A loop. (It is not to be unfolded by mere computation.) -/
noncomputable def loopO {σ β : Type} (body : (σ → Option β) → σ → Option β) (s : σ) : Option β := Classical.choose (loopO_ex body s)

theorem loopO_eq {σ β : Type} (body : (σ → Option β) → σ → Option β) (s : σ) : loopO body s = iter body many s := Classical.choose_spec (loopO_ex body s)

def join {σ β : Type} (k : σ → Option β) (m : (σ → Option β) → Option β) : Option β := m k

structure Hints where
  loops : List (Nat × Tm) := []
  conds : List (Nat × Tm) := []
  regions : List (Nat × Tm) := []
  cuts : List Nat := []

inductive Out1 where
  | normal | exit (id : Nat) | ret

/-- Behind a join: the state where it was entered, with what the ways leave in the holes. -/
noncomputable def joinS {β : Type} (s0 : S) (t : Tm) (k : S → Option β) (m : (S → Option β) → Option β) : Option β :=
  join (fun x => k ((s0.at t x).back s0 t)) fun kk => m fun s => if s0.within s t then match s.takes t.items with
    | some x => kk x
    | Option.none => Option.none else Option.none

noncomputable def semC {β : Type} (E : Env) (h : Hints) : (cur : Nat) → Code → S → (Out1 → S → Option β) → Option β
  | _, .skip, s, K => K .normal s
  | cur, .seq a b, s, K => semC E h cur a s fun e s' => match e with
    | .normal => semC E h cur b s' K
    | e => K e s'
  | cur, .cond c a b, s, K => match s.eval c with
    | .val false [.v .bool x _] => cond x (semC E h cur a s K) (semC E h cur b s K)
    | _ => Option.none
  | _, .block id b, s, K => semC E h id b s fun e s' => match e with
    | .exit i => if i = id then K .normal s' else K (.exit i) s'
    | e => K e s'
  | _, .exit id, s, K => K (.exit id) s
  | _, .ret, s, K => K .ret s
  | _, .region id ops true, s, K => drawS E ops s (K .normal)
  | _, .region id ops false, s, K => opsR E ops ops.toList s (K .normal)
  | cur, .loop body, s, K => match lookupN cur h.loops with
    | some t => (s.entered E t).force fun s => if !s.fitIn E t then Option.none else match s.takes t.items with
      | some x0 => loopO (fun again x => (s.at t x).force fun s1 => semC E h cur body s1 fun e s' => match e with
        | .normal => s.onward s' t again
        | e => (s'.back s t).force fun s2 => K e s2) x0
      | Option.none => Option.none
    | Option.none => Option.none
  | _, _, _, _ => Option.none

/-! ### Functions -/

def resCells (E : Env) (s : S) : List ResultVar → Option (List A)
  | [] => some []
  | .tmp t :: r => (resCells E s r).map (s.fr.getD t .none :: ·)
  | .cell t T :: r => match s.fr.getD t .none with
    | .val false [.bp l 0] => match s.root l, E.T T with
      | some (.box cs), some ty => if cs.length = ty.size then (resCells E s r).map (.val ty.agg cs :: ·) else Option.none
      | _, _ => Option.none
    | _ => Option.none

/-- What goes out: data; the handles that go along; what is borrowed. -/
structure Went where
  xs : List (Σ t : Ty, t.D) := []
  go : List Spot := []
  deps : List Nat := []

def View.went (s : View) (own : Bool) (t : Ty) (a : A) : Option Went :=
  if own then match s.hold false t a with
    | some (x, p) => some ⟨[⟨t, x⟩], p, []⟩
    | Option.none => Option.none
  else match s.asData t a with
    | some (x, d) => some ⟨[⟨t, x⟩], [], d⟩
    | Option.none => Option.none

def Went.app (a b : Went) : Went := ⟨a.xs ++ b.xs, a.go ++ b.go, a.deps ++ b.deps⟩

def View.outs (s : View) : List (Ty × Bool) → List A → Option Went
  | [], [] => some {}
  | (t, own) :: rk, a :: as => match s.went own t a, s.outs rk as with
    | some q, some r => some (q.app r)
    | _, _ => Option.none
  | _, _ => Option.none

/-- A parameter as the callee meets it: its value; the new roots. -/
def entry (n : Nat) : (p : PK) → p.D → A × List Root
  | .data t, x => (ofData [] t x, [])
  | .rp t, x => (.c (.sp t x []), [])
  | .mv t, x | .ow t, x => let r := ownCells n t x; (.val t.agg r.1, r.2)
  | .mp t own, x => let r := cellsOf own (n + 1) [] t x; (.c (.bp n 0), .box r.1 :: r.2)
  | .fn ins out, g => (.c (.fn ins out g), [])
  | .rfn ins out, g => (.c (.sfn ins out g), [])

def entriesL (n : Nat) : List (Σ p : PK, p.D) → List A × List Root
  | [] => ([], [])
  | ⟨p, x⟩ :: r => let e := entry n p x; let q := entriesL (n + e.2.length) r; (e.1 :: q.1, e.2 ++ q.2)

def insL : (pk : List PK) → In pk → List (Σ p : PK, p.D)
  | [], _ => []
  | [p], x => [⟨p, x⟩]
  | p :: q :: ps, x => ⟨p, x.1⟩ :: insL (q :: ps) x.2

/-- The number of roots that a parameter brings. -/
def PK.count : PK → Nat
  | .mv t | .ow t => nsl t
  | .mp t own => 1 + if own then nsl t else 0
  | _ => 0

/-- The roots that stay the caller's. -/
def stays (n : Nat) : List PK → List Nat
  | [] => []
  | p :: pk => (match p with
    | .mv t => List.range' n (nsl t)
    | .mp _ _ => [n]
    | _ => []) ++ stays (n + p.count) pk

/-- The data of arrays that were lent. -/
def View.lent (s : View) : (n : Nat) → (t : Ty) → t.D → Option t.D
  | n, .one h, x => s.lent n h x
  | n, .cons h t, x => match s.lent n h x.1, s.lent (n + nsl h) t x.2 with
    | some y, some z => some (y, z)
    | _, _ => Option.none
  | n, .sl e, _ => match s.root n with
    | some (.arr e' xs d) => if h : e' = e then if d || e.flat then some (castD (congrArg Ty.sl h) xs) else Option.none else Option.none
    | _ => Option.none
  | _, .int _, x => some x
  | _, .bool, x => some x
  | _, .str, x => some x

/-- What the parameters that may be written hold at the end. -/
def View.ios (s : View) : (n : Nat) → List (Σ p : PK, p.D) → Option Went
  | _, [] => some {}
  | n, ⟨.mv t, x⟩ :: r => match s.lent n t x, s.ios (n + nsl t) r with
    | some y, some q => some (Went.app ⟨[⟨t, y⟩], [], []⟩ q)
    | _, _ => Option.none
  | n, ⟨.mp t own, _⟩ :: r => match s.root n with
    | some (.box cs) => match s.went own t (.val t.agg cs), s.ios (n + (1 + if own then nsl t else 0)) r with
      | some w, some q => some (w.app q)
      | _, _ => Option.none
    | _ => Option.none
  | n, ⟨.ow t, _⟩ :: r => s.ios (n + nsl t) r
  | n, _ :: r => s.ios n r

def fillP : (ts : List Ty) → List (Σ t : Ty, t.D) → Option (Prod' ts)
  | [], [] => some ()
  | [t], [⟨u, x⟩] => if h : u = t then some (castD h x) else Option.none
  | t :: t' :: ts, ⟨u, x⟩ :: r => if h : u = t then match fillP (t' :: ts) r with
    | some y => some (castD h x, y)
    | Option.none => Option.none else Option.none
  | _, _ => Option.none

structure FnInfo where
  body : Code
  ntmps : Nat
  results : List ResultVar

/-- What goes out lies apart from what stays, and is not borrowed. -/
def wentApart (pk : List PK) (q : Went) : Bool :=
  Spot.apart q.go && (q.go.flatMap Spot.loc).all (fun l => !(stays 0 pk).contains l) && q.deps.all fun l => !(q.go.flatMap Spot.loc).contains l && !(stays 0 pk).contains l

noncomputable def semF (E : Env) (h : Hints) (fn : FnInfo) (pk : List PK) (rk : List (Ty × Bool)) (x : In pk) : Option (Out rk pk) :=
  let r := entriesL 0 (insL pk x)
  let E' := { E with fix := stays 0 pk, cuts := h.cuts }
  let s0 : S := { fr := r.1 ++ List.replicate (fn.ntmps - r.1.length) .none, H := r.2.map some, dF := [], dH := [] }
  s0.force fun s0 => semC E' h 0 fn.body s0 fun e s => match e with
    | .exit _ => Option.none
    | _ => match resCells E s fn.results with
      | some as => match s.view.outs rk as, s.view.ios 0 (insL pk x) with
        | some o, some i => if wentApart pk (o.app i) then fillP (OutT rk pk) (o.app i).xs else Option.none
        | _, _ => Option.none
      | Option.none => Option.none

end Go.Proofs.YtgjneigkkgaaiaaGreatDoor.Vd

/- VdC -/
namespace Go.Proofs.YtgjneigkkgaaiaaGreatDoor.Vd

/-- Who a block belongs to: nobody (it is only read); it is out of bounds; a root; a slice inside a root's element. -/
inductive Own where
  | free | off | main (l : Nat) | inner (l i j : Nat)
  deriving DecidableEq

def Own.loc : Own → Option Nat
  | .main l | .inner l _ _ => some l
  | _ => Option.none

structure Map where
  own : Nat → Own
  hdr : Nat → Value

def Free (own : Nat → Own) (b : Nat) : Prop := own b = .free
def Al (own : Nat → Own) (deps : List Nat) (b : Nat) : Prop := own b = .free ∨ ∃ l ∈ deps, (own b).loc = some l

theorem Free.al {own : Nat → Own} {deps : List Nat} {b : Nat} (h : Free own b) : Al own deps b := .inl h

/-- Cells that read as a datum, through blocks of A alone. -/
def Rd (w : World) (A : Nat → Prop) : (t : Ty) → t.D → List Value → Prop
  | .int k, x, vs => vs = [.int k x]
  | .bool, x, vs => vs = [.bool x]
  | .str, x, vs => vs = [.string x]
  | .sl e, xs, vs => ∃ a cap, vs = [.slice a xs.length cap] ∧ xs.length ≤ cap ∧
      (xs ≠ [] → ∃ b o, a = some ⟨b, o, none⟩ ∧ A b ∧ ∀ i x, xs[i]? = some x →
        ∃ us, Rd w A e x us ∧ ∀ j u, us[j]? = some u → w.cell? ⟨b, o + i * e.size + j, none⟩ = some u)
  | .one h, x, vs => Rd w A h x vs
  | .cons h t, x, vs => ∃ v1 v2, vs = v1 ++ v2 ∧ Rd w A h x.1 v1 ∧ Rd w A t x.2 v2

theorem Rd.length {w : World} {A : Nat → Prop} : {t : Ty} → {x : t.D} → {vs : List Value} → Rd w A t x vs → vs.length = t.size
  | .int _, _, _, h => by simp only [Rd] at h; subst h; rfl
  | .bool, _, _, h => by simp only [Rd] at h; subst h; rfl
  | .str, _, _, h => by simp only [Rd] at h; subst h; rfl
  | .sl _, _, _, h => by obtain ⟨a, cap, rfl, _⟩ := h; rfl
  | .one h, x, vs, hh => Rd.length (t := h) hh
  | .cons h t, x, vs, hh => by
    obtain ⟨v1, v2, rfl, h1, h2⟩ := hh
    simp [Ty.size, h1.length, h2.length]

theorem Rd.mono {w w' : World} {A A' : Nat → Prop} (hA : ∀ b, b < w.heap.size → A b → A' b ∧ w'.heap[b]? = w.heap[b]?) :
    (t : Ty) → (x : t.D) → (vs : List Value) → Rd w A t x vs → Rd w' A' t x vs
  | .int _, _, _, h => h
  | .bool, _, _, h => h
  | .str, _, _, h => h
  | .sl e, xs, vs, h => by
    obtain ⟨a, cap, rfl, hc, hr⟩ := h
    refine ⟨a, cap, rfl, hc, fun hne => ?_⟩
    obtain ⟨b, o, rfl, hb, hi⟩ := hr hne
    by_cases hbs : b < w.heap.size
    · obtain ⟨h1, h2⟩ := hA b hbs hb
      refine ⟨b, o, rfl, h1, fun i x hx => ?_⟩
      obtain ⟨us, hu, hcell⟩ := hi i x hx
      exact ⟨us, Rd.mono hA e x us hu, fun j u hj => (World.cell?_of_block (by simpa using h2)).trans (hcell j u hj)⟩
    · exfalso
      cases xs with
      | nil => exact hne rfl
      | cons x xs =>
        obtain ⟨us, hu, hcell⟩ := hi 0 x rfl
        have hl := hu.length
        cases us with
        | nil => exact absurd hl (by have := Ty.size_pos e; simp; omega)
        | cons u us => exact hbs (World.block_lt_of_cell? w _ (hcell 0 u rfl))
  | .one h, x, vs, hh => Rd.mono hA h x vs hh
  | .cons h t, x, vs, hh => by
    obtain ⟨v1, v2, rfl, h1, h2⟩ := hh
    exact ⟨v1, v2, rfl, Rd.mono hA h _ _ h1, Rd.mono hA t _ _ h2⟩
where
  Ty.size_pos : (e : Ty) → 0 < e.size
    | .int _ | .bool | .str | .sl _ => by simp [Ty.size]
    | .one h => Ty.size_pos h
    | .cons h t => by have := Ty.size_pos h; simp [Ty.size]; omega

theorem Ty.size_pos (e : Ty) : 0 < e.size := Rd.mono.Ty.size_pos e

theorem Rd.flat {w w' : World} {A A' : Nat → Prop} : (t : Ty) → (x : t.D) → (vs : List Value) → t.flat = true → Rd w A t x vs → Rd w' A' t x vs
  | .int _, _, _, _, h => h
  | .bool, _, _, _, h => h
  | .str, _, _, _, h => h
  | .one h, x, vs, hf, hh => Rd.flat h x vs hf hh
  | .cons h t, x, vs, hf, hh => by
    obtain ⟨v1, v2, rfl, h1, h2⟩ := hh
    simp only [Ty.flat, Bool.and_eq_true] at hf
    exact ⟨v1, v2, rfl, Rd.flat h _ _ hf.1 h1, Rd.flat t _ _ hf.2 h2⟩

/-- A slice in memory of its own. -/
def ArrR (w : World) (own : Nat → Own) (key : Own) (e : Ty) (xs : List e.D) (EL : Nat → e.D → List Value → Prop) (v : Value) : Prop :=
  (∃ a, v = .slice a 0 0 ∧ xs = []) ∨
  ∃ b cap vs T, v = .slice (some ⟨b, 0, none⟩) xs.length cap ∧ xs.length ≤ cap ∧ cap ≤ maxLen ∧ own b = key ∧
    w.heap[b]? = some (.cells vs T (0, 0)) ∧ vs.size = cap * e.size ∧
    ∀ i x, xs[i]? = some x → ∃ us, us.length = e.size ∧ (∀ j u, us[j]? = some u → vs[i * e.size + j]? = some u) ∧ EL i x us

/-- An element whose slices are all in memory of the root's own. -/
def DR (w : World) (own : Nat → Own) (l i : Nat) : (t : Ty) → (j : Nat) → t.D → List Value → Prop
  | .sl u, j, ys, vs => ∃ v, vs = [v] ∧ u.flat = true ∧ ArrR w own (.inner l i j) u ys (fun _ y us => Rd w (Free own) u y us) v
  | .one h, j, x, vs => DR w own l i h j x vs
  | .cons h t, j, x, vs => ∃ v1 v2, vs = v1 ++ v2 ∧ DR w own l i h j x.1 v1 ∧ DR w own l i t (j + h.size) x.2 v2
  | .int k, _, x, vs => vs = [.int k x]
  | .bool, _, x, vs => vs = [.bool x]
  | .str, _, x, vs => vs = [.string x]

def EL (w : World) (own : Nat → Own) (l : Nat) (d : Bool) (e : Ty) (i : Nat) (x : e.D) (us : List Value) : Prop :=
  if d then DR w own l i e 0 x us else Rd w (Free own) e x us

/-- Arguments that read as data. -/
def VD (w : World) (A : Nat → Prop) (t : Ty) (x : t.D) (v : Value) : Prop :=
  ∃ vs, Rd w A t x vs ∧ if t.agg then v = .agg vs.toArray else vs = [v]

def ArgsD (w : World) (A : Nat → Prop) : (ts : List Ty) → Prod' ts → List Value → Prop
  | [], _, vs => vs = []
  | [t], x, vs => ∃ v, vs = [v] ∧ VD w A t x v
  | t :: u :: ts, x, vs => ∃ v r, vs = v :: r ∧ VD w A t x.1 v ∧ ArgsD w A (u :: ts) x.2 r

/-- A later world: what was there and not owned is as it was. -/
structure Later (w w' : World) : Prop where
  size : w.heap.size ≤ w'.heap.size
  os : w'.os = w.os
  tape : w'.tape = w.tape
  output : w'.output = w.output

/-- A function value as a function on data: whenever it is called later on. -/
def FnR (P : Program) (own : Nat → Own) (w : World) (ins : List Ty) (out : Ty) (g : Prod' ins → Option out.D) (v : Value) : Prop :=
  out.flat = true ∧ ∃ f first caps, v = .func (.func f) first caps ∧ (∃ fn, P.funcs[f]? = some fn ∧ fn.name ≠ "runtime.NumGoroutine" ∧ fn.body.isSome = true) ∧
    ∀ (w' : World) (own' : Nat → Own), Later w w' → (∀ b, b < w.heap.size → own b = .free → own' b = .free ∧ w'.heap[b]? = w.heap[b]?) →
      ∀ (x : Prod' ins) (args : List Value) (y : out.D), ArgsD w' (Free own') ins x args → g x = some y →
        Calls P f (first ++ (args.toArray ++ caps)) w' fun e w'' => ∃ v', e = .returned v' ∧ VD w'' (fun _ => False) out y v' ∧ Later w' w'' ∧ ∀ b, b < w'.heap.size → w''.heap[b]? = w'.heap[b]?

def FirstR : List (Σ t : Ty, t.D) → List Value → Prop
  | [], vs => vs = []
  | x :: r, vs => ∃ v q, vs = v :: q ∧ x.1.flat = true ∧ VD default (fun _ => False) x.1 x.2 v ∧ FirstR r q

/-- A cell. -/
def CR (P : Program) (ρ : Map) (w : World) (H : Nat → Option Root) : C → Value → Prop
  | .undef, v => v.oneCell' = true
  | .v t x deps, v => t.agg = false ∧ Rd w (Al ρ.own deps) t x [v]
  | .nils, v => ∃ a, v = .slice a 0 0
  | .ref l, v => v = ρ.hdr l ∧ (∃ a n c, v = .slice a n c)
  | .ref1 l i j u ys, v => ∃ e xs x us, H l = some (.arr e xs true) ∧ xs[i]? = some x ∧ cellAt e x j = some ⟨.sl u, ys⟩ ∧
      us[j]? = some v ∧ DR w ρ.own l i e 0 x us ∧ ∃ b n c, ρ.hdr l = .slice (some ⟨b, 0, none⟩) n c ∧ ρ.own b = .main l ∧ ∀ j u, us[j]? = some u → w.cell? ⟨b, i * e.size + j, none⟩ = some u
  | .pre l n, v => ∃ a m c, ρ.hdr l = .slice a m c ∧ v = .slice a n c ∧ n ≤ m
  | .bp l off, v => ∃ b, ρ.hdr l = .pointer (some ⟨b, 0, none⟩) ∧ v = .pointer (some ⟨b, off, none⟩)
  | .ap l i j e x, v => ∃ xs d b n c, H l = some (.arr e xs d) ∧ xs[i]? = some x ∧ ρ.hdr l = .slice (some ⟨b, 0, none⟩) n c ∧ v = .pointer (some ⟨b, i * e.size + j, none⟩)
  | .ap1 l i j i' j' u ys y, v => ∃ e xs x us b n c, H l = some (.arr e xs true) ∧ xs[i]? = some x ∧ cellAt e x j = some ⟨.sl u, ys⟩ ∧ ys[i']? = some y ∧
      us[j]? = some (.slice (some ⟨b, 0, none⟩) n c) ∧ DR w ρ.own l i e 0 x us ∧ v = .pointer (some ⟨b, i' * u.size + j', none⟩) ∧
      ∃ b n c, ρ.hdr l = .slice (some ⟨b, 0, none⟩) n c ∧ ρ.own b = .main l ∧ ∀ j u, us[j]? = some u → w.cell? ⟨b, i * e.size + j, none⟩ = some u
  | .suf l n e ys, v => ∃ xs d, H l = some (.arr e xs d) ∧ n + ys.length = xs.length ∧ Rd w (Al ρ.own [l]) (.sl e) ys [v] ∧
      (ys ≠ [] → ∃ b m c c', ρ.hdr l = .slice (some ⟨b, 0, none⟩) m c ∧ v = .slice (some ⟨b, n * e.size, none⟩) ys.length c')
  | .app l i j u zs, v => u.flat = true ∧ (∃ e xs x ys, H l = some (.arr e xs true) ∧ xs[i]? = some x ∧ cellAt e x j = some ⟨.sl u, ys⟩) ∧ ArrR w ρ.own (.inner l i j) u zs (fun _ y us => Rd w (Free ρ.own) u y us) v
  | .lp l k e, v => ∃ b n c, ρ.hdr l = .slice (some ⟨b, 0, none⟩) n c ∧ v = .pointer (some ⟨b, k * e.size, none⟩)
  | .sp t x deps, v => ∃ b o us, v = .pointer (some ⟨b, o, none⟩) ∧ Al ρ.own deps b ∧ Rd w (Al ρ.own deps) t x us ∧ ∀ j u, us[j]? = some u → w.cell? ⟨b, o + j, none⟩ = some u
  | .sfn ins out g, v => ∃ b o u, v = .pointer (some ⟨b, o, none⟩) ∧ ρ.own b = .free ∧ w.cell? ⟨b, o, none⟩ = some u ∧ FnR P ρ.own w ins out g u
  | .clo f first caps, v => ∃ fv, v = .func (.func f) fv.toArray (caps.map ρ.hdr).toArray ∧ FirstR first fv ∧ ∀ l ∈ caps, ∃ b, ρ.hdr l = .pointer (some ⟨b, 0, none⟩)
  | .fn ins out g, v => FnR P ρ.own w ins out g v

def CsR (P : Program) (ρ : Map) (w : World) (H : Nat → Option Root) (cs : List C) (vs : List Value) : Prop :=
  cs.length = vs.length ∧ ∀ (j : Nat) c v, cs[j]? = some c → vs[j]? = some v → CR P ρ w H c v

def VR (P : Program) (ρ : Map) (w : World) (H : Nat → Option Root) (g : Bool) (cs : List C) (v : Value) : Prop :=
  ∃ vs, CsR P ρ w H cs vs ∧ if g then v = .agg vs.toArray else vs = [v]

def AR (P : Program) (ρ : Map) (w : World) (H : Nat → Option Root) : A → Value → Prop
  | .none, v => v = undef
  | .any, _ => True
  | .val g cs, v => VR P ρ w H g cs v
  | .tup l, v => ∃ vs : List Value, v = .tuple vs.toArray ∧ l.length = vs.length ∧ ∀ (i : Nat) p v, l[i]? = some p → vs[i]? = some v → VR P ρ w H p.1 p.2 v

def RR (P : Program) (ρ : Map) (w : World) (H : Nat → Option Root) (l : Nat) : Root → Prop
  | .box cs => ∃ b vs T, ρ.hdr l = .pointer (some ⟨b, 0, none⟩) ∧ ρ.own b = .main l ∧ w.heap[b]? = some (.cells (List.toArray vs) T (0, 0)) ∧ CsR P ρ w H cs vs
  | .arr e xs d => ArrR w ρ.own (.main l) e xs (EL w ρ.own l d e) (ρ.hdr l)
  | .lit e els => ∃ b vs T, ρ.hdr l = .slice (some ⟨b, 0, none⟩) els.length els.length ∧ els.length ≤ maxLen ∧ ρ.own b = .main l ∧ w.heap[b]? = some (.cells vs T (0, 0)) ∧ vs.size = els.length * e.size ∧
      ∀ (i : Nat) cs, els[i]? = some cs → cs.length = e.size ∧ ∀ (j : Nat) c, cs[j]? = some c → ∃ v, vs[i * e.size + j]? = some v ∧ CR P ρ w H c v
  | .gap => ∀ b, (ρ.own b).loc ≠ some l

/-- What a call is held against: the world and the owners at its entry; the headers that must stay. -/
structure Ctx where
  w0 : World
  own0 : Nat → Own
  fix : List (Nat × Value)

structure Rel (P : Program) (K : Ctx) (ρ : Map) (s : S) (a : Act) (w : World) : Prop where
  size : a.tmps.size = s.fr.length
  defers : a.defers = []
  slot : ∀ (i : Nat) x, s.fr[i]? = some x → ∃ v, a.tmps[i]? = some v ∧ AR P ρ w s.root x v
  root : ∀ l r, s.root l = some r → RR P ρ w s.root l r
  live : ∀ b l, (ρ.own b).loc = some l → l < s.H.length
  fresh : ∀ b, w.heap.size ≤ b → ρ.own b = .free
  later : Later K.w0 w
  keep : ∀ b, b < K.w0.heap.size → (K.own0 b = .free ∨ K.own0 b = .off) → ρ.own b = K.own0 b ∧ w.heap[b]? = K.w0.heap[b]?
  old : ∀ b, ρ.own b = .off → K.own0 b = .off
  fix : ∀ l v, (l, v) ∈ K.fix → ρ.hdr l = v ∧ l < s.H.length

end Go.Proofs.YtgjneigkkgaaiaaGreatDoor.Vd

/- VdD -/
namespace Go.Proofs.YtgjneigkkgaaiaaGreatDoor.Vd
universe u

def Killed (k : Sweep) (l : Nat) : Prop := ∃ b, (l, b) ∈ k.kill
def KilledAll (k : Sweep) (l : Nat) : Prop := (l, true) ∈ k.kill
def Moved (k : Sweep) (l : Nat) : Prop := (lookupN l k.mov).isSome = true

theorem lookupN_mem {α : Type u} {n : Nat} {a : α} : ∀ {l : List (Nat × α)}, lookupN n l = some a → (n, a) ∈ l
  | [], h => by cases h
  | (m, b) :: l, h => by
    unfold lookupN at h
    split at h
    · rename_i e; subst e; cases h; exact List.mem_cons_self ..
    · exact List.mem_cons_of_mem _ (lookupN_mem h)

/-- What a step must keep: all but the roots that die or move. -/
structure Chg (P : Program) (ρ ρ' : Map) (w w' : World) (H H' : Nat → Option Root) (k : Sweep) : Prop where
  later : Later w w'
  free : ∀ b, b < w.heap.size → ρ.own b = .free → ρ'.own b = .free ∧ w'.heap[b]? = w.heap[b]?
  off : ∀ b, b < w.heap.size → ρ.own b = .off → ρ'.own b = .off ∧ w'.heap[b]? = w.heap[b]?
  noOff : ∀ b, ρ'.own b = .off → ρ.own b = .off
  block : ∀ b l, b < w.heap.size → (ρ.own b).loc = some l → ¬ Killed k l → w'.heap[b]? = w.heap[b]? ∧ (¬ Moved k l → ρ'.own b = ρ.own b)
  hdr : ∀ l, ¬ KilledAll k l → ¬ Moved k l → ρ'.hdr l = ρ.hdr l
  hdrP : ∀ l b, ¬ KilledAll k l → ρ.hdr l = .pointer (some ⟨b, 0, none⟩) → ρ'.hdr l = ρ.hdr l
  arr : ∀ l e xs d, ¬ Killed k l → ¬ Moved k l → H l = some (.arr e xs d) → H' l = some (.arr e xs d)
  mov : ∀ l c, lookupN l k.mov = some c → ¬ Killed k l ∧ (∃ l' i j u ys, c = .ref1 l' i j u ys ∧ ¬ Moved k l') ∧ CR P ρ' w' H' c (ρ.hdr l)
  got : ∀ b l, ¬ Killed k l → ¬ Moved k l → (∀ b, (ρ.own b).loc ≠ some l) → (ρ'.own b).loc ≠ some l
  movB : ∀ b l, b < w.heap.size → (ρ.own b).loc = some l → Moved k l → (ρ'.own b).loc = some (newLoc k.mov l)

variable {P : Program} {ρ ρ' : Map} {w w' : World} {H H' : Nat → Option Root} {k : Sweep}

theorem newLoc_id {l : Nat} (h : ¬ Moved k l) : newLoc k.mov l = l := by
  unfold newLoc
  cases hm : lookupN l k.mov with
  | none => rfl
  | some c => exact absurd (by simp [Moved, hm]) h

theorem not_moved {l : Nat} (h : lookupN l k.mov = none) : ¬ Moved k l := by simp [Moved, h]

theorem Chg.al (h : Chg P ρ ρ' w w' H H' k) {deps : List Nat} (hd : ∀ l ∈ deps, ¬ Killed k l) (b : Nat) (hb : b < w.heap.size) (ha : Al ρ.own deps b) :
    Al ρ'.own (deps.map (newLoc k.mov)) b ∧ w'.heap[b]? = w.heap[b]? := by
  rcases ha with ha | ⟨l, hl, hlo⟩
  · obtain ⟨h1, h2⟩ := h.free b hb ha
    exact ⟨.inl h1, h2⟩
  · obtain ⟨h1, h2⟩ := h.block b l hb hlo (hd l hl)
    refine ⟨.inr ⟨newLoc k.mov l, List.mem_map_of_mem hl, ?_⟩, h1⟩
    by_cases hm : Moved k l
    · exact h.movB b l hb hlo hm
    · rw [h2 hm, hlo, newLoc_id hm]

theorem Chg.rd (h : Chg P ρ ρ' w w' H H' k) {deps : List Nat} (hd : ∀ l ∈ deps, ¬ Killed k l) {t : Ty} {x : t.D} {vs : List Value} (hr : Rd w (Al ρ.own deps) t x vs) :
    Rd w' (Al ρ'.own (deps.map (newLoc k.mov))) t x vs :=
  Rd.mono (fun b hb ha => h.al hd b hb ha) t x vs hr

theorem Chg.rdFree (h : Chg P ρ ρ' w w' H H' k) {t : Ty} {x : t.D} {vs : List Value} (hr : Rd w (Free ρ.own) t x vs) : Rd w' (Free ρ'.own) t x vs :=
  Rd.mono (fun b hb ha => h.free b hb ha) t x vs hr

theorem Later.trans {w₁ w₂ w₃ : World} (h : Later w₁ w₂) (h' : Later w₂ w₃) : Later w₁ w₃ :=
  ⟨Nat.le_trans h.size h'.size, h'.os.trans h.os, h'.tape.trans h.tape, h'.output.trans h.output⟩
theorem Later.refl (w : World) : Later w w := ⟨Nat.le_refl _, rfl, rfl, rfl⟩

theorem Chg.fn (h : Chg P ρ ρ' w w' H H' k) {ins : List Ty} {out : Ty} {g : Prod' ins → Option out.D} {v : Value} (hf : FnR P ρ.own w ins out g v) : FnR P ρ'.own w' ins out g v := by
  obtain ⟨ho, f, first, caps, rfl, hfn, hc⟩ := hf
  refine ⟨ho, f, first, caps, rfl, hfn, fun w2 own2 hl hfr x args y ha hg => hc w2 own2 (h.later.trans hl) (fun b hb hb' => ?_) x args y ha hg⟩
  obtain ⟨h1, h2⟩ := h.free b hb hb'
  obtain ⟨h3, h4⟩ := hfr b (Nat.lt_of_lt_of_le hb h.later.size) h1
  exact ⟨h3, h4.trans h2⟩

theorem cell_of_same {b o : Nat} (h : w'.heap[b]? = w.heap[b]?) : w'.cell? ⟨b, o, none⟩ = w.cell? ⟨b, o, none⟩ := World.cell?_of_block (by simpa using h)

theorem ArrR.step {own own' : Nat → Own} {key : Own} {e : Ty} {xs : List e.D} {EL EL' : Nat → e.D → List Value → Prop} {v : Value}
    (h : ArrR w own key e xs EL v) (hb : ∀ b, b < w.heap.size → own b = key → own' b = key ∧ w'.heap[b]? = w.heap[b]?) (he : ∀ i x us, xs[i]? = some x → EL i x us → EL' i x us) : ArrR w' own' key e xs EL' v := by
  rcases h with h | ⟨b, cap, vs, T, hv, h1, h2, h3, h4, h5, h6⟩
  · exact .inl h
  · obtain ⟨g1, g2⟩ := hb b (Array.getElem?_eq_some_iff.1 h4).1 h3
    refine .inr ⟨b, cap, vs, T, hv, h1, h2, g1, g2.trans h4, h5, fun i x hx => ?_⟩
    obtain ⟨us, q1, q2, q3⟩ := h6 i x hx
    exact ⟨us, q1, q2, he i x us hx q3⟩

theorem DR.step {own own' : Nat → Own} {l i : Nat} (hf : ∀ b, b < w.heap.size → own b = .free → own' b = .free ∧ w'.heap[b]? = w.heap[b]?)
    (hb : ∀ b j, b < w.heap.size → own b = .inner l i j → own' b = .inner l i j ∧ w'.heap[b]? = w.heap[b]?) : (t : Ty) → (j : Nat) → (x : t.D) → (vs : List Value) → DR w own l i t j x vs → DR w' own' l i t j x vs
  | .sl u, j, ys, vs, h => by
    obtain ⟨v, rfl, hu, ha⟩ := h
    exact ⟨v, rfl, hu, ha.step (fun b hs hk => hb b j hs hk) fun i x us _ hr => Rd.flat u x us hu hr⟩
  | .one h, j, x, vs, hh => DR.step hf hb h j x vs hh
  | .cons h t, j, x, vs, hh => by
    obtain ⟨v1, v2, rfl, h1, h2⟩ := hh
    exact ⟨v1, v2, rfl, DR.step hf hb h j _ _ h1, DR.step hf hb t _ _ _ h2⟩
  | .int _, _, _, _, h => h
  | .bool, _, _, _, h => h
  | .str, _, _, _, h => h

theorem dies_spec {c : C} (h : k.kill.any (C.dies · c) = false) : ∀ q ∈ k.kill, C.dies q c = false := by
  intro q hq
  have := List.any_eq_false.1 h q hq
  simpa using this

theorem not_killed_of_deps {deps : List Nat} (h : ∀ q ∈ k.kill, deps.contains q.1 = false) : ∀ l ∈ deps, ¬ Killed k l := by
  rintro l hl ⟨b, hb⟩
  have := h _ hb
  simp [hl] at this

theorem not_killed_of_eq {l : Nat} (h : ∀ q ∈ k.kill, (l == q.1) = false) : ¬ Killed k l := by
  rintro ⟨b, hb⟩
  have := h _ hb
  simp at this

theorem not_killedAll {l : Nat} (h : ∀ q ∈ k.kill, (q.2 && l == q.1) = false) : ¬ KilledAll k l := by
  intro hb
  have := h _ hb
  simp at this

theorem Chg.inner (h : Chg P ρ ρ' w w' H H' k) {l i : Nat} (hk : ¬ Killed k l) (hm : ¬ Moved k l) {e : Ty} {x : e.D} {us : List Value} (hd : DR w ρ.own l i e 0 x us) : DR w' ρ'.own l i e 0 x us :=
  DR.step h.free (fun b j hb ho => ⟨((h.block b l hb (by simp [ho, Own.loc]) hk).2 hm).trans ho, (h.block b l hb (by simp [ho, Own.loc]) hk).1⟩) e 0 x us hd

theorem Chg.mainCells (h : Chg P ρ ρ' w w' H H' k) {l b o : Nat} (hk : ¬ Killed k l) (hm : ¬ Moved k l) (ho : ρ.own b = .main l) {us : List Value}
    (hc : ∀ (j : Nat) u, us[j]? = some u → w.cell? ⟨b, o + j, none⟩ = some u) (hne : us ≠ []) :
    ρ'.own b = .main l ∧ ∀ (j : Nat) u, us[j]? = some u → w'.cell? ⟨b, o + j, none⟩ = some u := by
  have hb : b < w.heap.size := by
    cases us with
    | nil => exact absurd rfl hne
    | cons u us => exact World.block_lt_of_cell? w _ (hc 0 u rfl)
  obtain ⟨h1, h2⟩ := h.block b l hb (by simp [ho, Own.loc]) hk
  exact ⟨(h2 hm).trans ho, fun j u hj => (cell_of_same h1).trans (hc j u hj)⟩

/-- A cell that is left reads as it did. -/
theorem Chg.cell (h : Chg P ρ ρ' w w' H H' k) {c : C} {v : Value} (hc : CR P ρ w H c v) (hone : v.oneCell' = true) : CR P ρ' w' H' (c.left k) v := by
  unfold C.left
  by_cases hd : k.kill.any (C.dies · c) = true
  · rw [if_pos (by simpa using hd)]
    exact hone
  · rw [if_neg (by simpa using hd)]
    have hs := dies_spec (k := k) (by simpa using hd)
    cases c with
    | undef => exact hc
    | v t x deps =>
      have hk := not_killed_of_deps (k := k) (deps := deps) (fun q hq => by simpa [C.dies] using hs q hq)
      exact ⟨hc.1, h.rd hk hc.2⟩
    | nils => exact hc
    | ref l =>
      obtain ⟨rfl, hsl⟩ := hc
      have hk := not_killedAll (k := k) (l := l) (fun q hq => by simpa [C.dies] using hs q hq)
      dsimp only
      cases hm : lookupN l k.mov with
      | none => exact ⟨(h.hdr l hk (not_moved hm)).symm, hsl⟩
      | some c' => exact (h.mov l c' hm).2.2
    | ref1 l i j u ys =>
      have hk := not_killed_of_eq (k := k) (l := l) (fun q hq => by simpa [C.dies] using hs q hq)
      dsimp only
      split
      · exact hone
      · rename_i hm
        have hm' : ¬ Moved k l := hm
        obtain ⟨e, xs, x, us, h1, h2, h3, h4, h5, b, n, c, h6, h8, h7⟩ := hc
        have hka : ¬ KilledAll k l := fun hb => hk ⟨_, hb⟩
        obtain ⟨g1, g2⟩ := h.mainCells hk hm' h8 h7 (by rintro rfl; simp at h4)
        exact ⟨e, xs, x, us, h.arr l _ _ _ hk hm' h1, h2, h3, h4, h.inner hk hm' h5, b, n, c, (h.hdr l hka hm').trans h6, g1, g2⟩
    | pre l n =>
      have hk := not_killedAll (k := k) (l := l) (fun q hq => by simpa [C.dies] using hs q hq)
      dsimp only
      split
      · exact hone
      · rename_i hm
        have hm' : ¬ Moved k l := hm
        obtain ⟨a, m, c, h1, h2, h3⟩ := hc
        exact ⟨a, m, c, (h.hdr l hk hm').trans h1, h2, h3⟩
    | bp l off =>
      obtain ⟨b, h1, h2⟩ := hc
      have hk := not_killedAll (k := k) (l := l) (fun q hq => by simpa [C.dies] using hs q hq)
      exact ⟨b, (h.hdrP l b hk h1).trans h1, h2⟩
    | ap l i j e x =>
      have hk := not_killed_of_eq (k := k) (l := l) (fun q hq => by simpa [C.dies] using hs q hq)
      dsimp only
      split
      · exact hone
      · rename_i hm
        have hm' : ¬ Moved k l := hm
        obtain ⟨xs, d, b, n, c, h1, h2, h3, h4⟩ := hc
        exact ⟨xs, d, b, n, c, h.arr l _ _ _ hk hm' h1, h2, (h.hdr l (fun hb => hk ⟨_, hb⟩) hm').trans h3, h4⟩
    | ap1 l i j i' j' u ys y =>
      have hk := not_killed_of_eq (k := k) (l := l) (fun q hq => by simpa [C.dies] using hs q hq)
      dsimp only
      split
      · exact hone
      · rename_i hm
        have hm' : ¬ Moved k l := hm
        obtain ⟨e, xs, x, us, b', n', c', h1, h2, h3, h3', h4, h5, hv, b, n, c, h6, h8, h7⟩ := hc
        have hka : ¬ KilledAll k l := fun hb => hk ⟨_, hb⟩
        obtain ⟨g1, g2⟩ := h.mainCells hk hm' h8 h7 (by rintro rfl; simp at h4)
        exact ⟨e, xs, x, us, b', n', c', h.arr l _ _ _ hk hm' h1, h2, h3, h3', h4, h.inner hk hm' h5, hv, b, n, c, (h.hdr l hka hm').trans h6, g1, g2⟩
    | suf l n e ys =>
      have hk := not_killed_of_eq (k := k) (l := l) (fun q hq => by simpa [C.dies] using hs q hq)
      dsimp only
      split
      · exact hone
      · rename_i hm
        have hm' : ¬ Moved k l := hm
        obtain ⟨xs, d, h1, h2, h3, h4⟩ := hc
        have h5 := h.rd (deps := [l]) (fun m hm2 => by rw [List.mem_singleton.1 hm2]; exact hk) h3
        simp only [List.map_cons, List.map_nil, newLoc_id hm'] at h5
        refine ⟨xs, d, h.arr l _ _ _ hk hm' h1, h2, h5, fun hne => ?_⟩
        obtain ⟨b, m, c, c', h6, h7⟩ := h4 hne
        exact ⟨b, m, c, c', (h.hdr l (fun hb => hk ⟨_, hb⟩) hm').trans h6, h7⟩
    | app l i j u zs =>
      have hk := not_killed_of_eq (k := k) (l := l) (fun q hq => by simpa [C.dies] using hs q hq)
      dsimp only
      split
      · exact hone
      · rename_i hm
        have hm' : ¬ Moved k l := hm
        obtain ⟨hu, ⟨e, xs, x, ys, h1, h2, h3⟩, h4⟩ := hc
        refine ⟨hu, ⟨e, xs, x, ys, h.arr l _ _ _ hk hm' h1, h2, h3⟩, h4.step (fun b hb ho => ?_) fun i x us _ hr => h.rdFree hr⟩
        obtain ⟨g1, g2⟩ := h.block b l hb (by simp [ho, Own.loc]) hk
        exact ⟨(g2 hm').trans ho, g1⟩
    | lp l n e =>
      have hk := not_killed_of_eq (k := k) (l := l) (fun q hq => by simpa [C.dies] using hs q hq)
      dsimp only
      split
      · exact hone
      · rename_i hm
        have hm' : ¬ Moved k l := hm
        obtain ⟨b, m, c, h1, h2⟩ := hc
        exact ⟨b, m, c, (h.hdr l (fun hb => hk ⟨_, hb⟩) hm').trans h1, h2⟩
    | sp t x deps =>
      have hk := not_killed_of_deps (k := k) (deps := deps) (fun q hq => by simpa [C.dies] using hs q hq)
      obtain ⟨b, o, us, h1, h2, h3, h4⟩ := hc
      have hb : b < w.heap.size := by
        have hl := h3.length
        cases us with
        | nil => exact absurd hl (by have := Ty.size_pos t; simp; omega)
        | cons u us => exact World.block_lt_of_cell? w _ (h4 0 u rfl)
      obtain ⟨g1, g2⟩ := h.al hk b hb h2
      exact ⟨b, o, us, h1, g1, h.rd hk h3, fun j u hj => (cell_of_same g2).trans (h4 j u hj)⟩
    | sfn ins out g =>
      obtain ⟨b, o, u, h1, h2, h3, h4⟩ := hc
      obtain ⟨g1, g2⟩ := h.free b (World.block_lt_of_cell? w _ h3) h2
      exact ⟨b, o, u, h1, g1, (cell_of_same g2).trans h3, h.fn h4⟩
    | clo f first caps =>
      obtain ⟨fv, h1, h2, h3⟩ := hc
      have hk : ∀ l ∈ caps, ¬ KilledAll k l := fun l hl => not_killedAll (k := k) (l := l) (fun q hq => by
        have := hs q hq
        simp only [C.dies, Bool.and_eq_false_iff, List.contains_eq_mem, decide_eq_false_iff_not] at this
        rcases this with h1 | h1
        · simp [h1]
        · have : l ≠ q.1 := by rintro rfl; exact h1 hl
          simp [this])
      refine ⟨fv, ?_, h2, fun l hl => ?_⟩
      · rw [h1]
        congr 2
        refine List.map_congr_left fun l hl => ?_
        obtain ⟨b, hb⟩ := h3 l hl
        exact (h.hdrP l b (hk l hl) hb).symm
      · obtain ⟨b, hb⟩ := h3 l hl
        exact ⟨b, (h.hdrP l b (hk l hl) hb).trans hb⟩
    | fn ins out g => exact h.fn hc

theorem DR.length {own : Nat → Own} {l i : Nat} : (t : Ty) → (j : Nat) → (x : t.D) → (us : List Value) → DR w own l i t j x us → us.length = t.size
  | .sl _, _, _, _, h => by obtain ⟨v, rfl, _⟩ := h; rfl
  | .one h, j, x, us, hh => DR.length h j x us hh
  | .cons h t, j, x, us, hh => by
    obtain ⟨v1, v2, rfl, h1, h2⟩ := hh
    simp [Ty.size, DR.length h _ _ _ h1, DR.length t _ _ _ h2]
  | .int _, _, _, _, h => by simp only [DR] at h; subst h; rfl
  | .bool, _, _, _, h => by simp only [DR] at h; subst h; rfl
  | .str, _, _, _, h => by simp only [DR] at h; subst h; rfl

/-- Cell j of an element: a slice of its own, or a literal. -/
theorem DR.at {own : Nat → Own} {l i : Nat} : (t : Ty) → (j0 : Nat) → (x : t.D) → (us : List Value) → DR w own l i t j0 x us → ∀ j (s : Ty) (y : s.D) v,
    cellAt t x j = some ⟨s, y⟩ → us[j]? = some v → DR w own l i s (j0 + j) y [v] ∧ s.agg = false
  | .sl u, j0, x, us, h, j, s, y, v, hc, hv => by
    cases j with
    | succ j => simp [cellAt] at hc
    | zero =>
      simp only [cellAt, Option.some.injEq] at hc
      cases hc
      obtain ⟨v', rfl, hr⟩ := h
      simp at hv
      subst hv
      exact ⟨⟨v', rfl, hr⟩, rfl⟩
  | .one h, j0, x, us, hh, j, s, y, v, hc, hv => DR.at h j0 x us hh j s y v hc hv
  | .cons h t, j0, x, us, hh, j, s, y, v, hc, hv => by
    obtain ⟨v1, v2, rfl, h1, h2⟩ := hh
    have hl := DR.length h _ _ _ h1
    simp only [cellAt] at hc
    by_cases hj : j < h.size
    · rw [if_pos hj] at hc
      exact DR.at h j0 x.1 v1 h1 j s y v hc (by rwa [List.getElem?_append_left (by omega)] at hv)
    · rw [if_neg hj] at hc
      rw [List.getElem?_append_right (by omega), hl] at hv
      have := DR.at t (j0 + h.size) x.2 v2 h2 (j - h.size) s y v hc hv
      rwa [show j0 + h.size + (j - h.size) = j0 + j by omega] at this
  | .int _, j0, x, us, h, j, s, y, v, hc, hv => by
    cases j with
    | succ j => simp [cellAt] at hc
    | zero =>
      simp only [cellAt, Option.some.injEq] at hc
      cases hc
      simp only [DR] at h
      subst h
      simp at hv
      subst hv
      exact ⟨rfl, rfl⟩
  | .bool, j0, x, us, h, j, s, y, v, hc, hv => by
    cases j with
    | succ j => simp [cellAt] at hc
    | zero =>
      simp only [cellAt, Option.some.injEq] at hc
      cases hc
      simp only [DR] at h
      subst h
      simp at hv
      subst hv
      exact ⟨rfl, rfl⟩
  | .str, j0, x, us, h, j, s, y, v, hc, hv => by
    cases j with
    | succ j => simp [cellAt] at hc
    | zero =>
      simp only [cellAt, Option.some.injEq] at hc
      cases hc
      simp only [DR] at h
      subst h
      simp at hv
      subst hv
      exact ⟨rfl, rfl⟩

theorem Rd.at {A : Nat → Prop} : (t : Ty) → (x : t.D) → (us : List Value) → Rd w A t x us → ∀ j (s : Ty) (y : s.D) v,
    cellAt t x j = some ⟨s, y⟩ → us[j]? = some v → Rd w A s y [v] ∧ s.agg = false
  | .sl u, x, us, h, j, s, y, v, hc, hv => by
    cases j with
    | succ j => simp [cellAt] at hc
    | zero =>
      simp only [cellAt, Option.some.injEq] at hc
      cases hc
      obtain ⟨a, cap, rfl, hr⟩ := h
      simp at hv
      subst hv
      exact ⟨⟨a, cap, rfl, hr⟩, rfl⟩
  | .one h, x, us, hh, j, s, y, v, hc, hv => Rd.at h x us hh j s y v hc hv
  | .cons h t, x, us, hh, j, s, y, v, hc, hv => by
    obtain ⟨v1, v2, rfl, h1, h2⟩ := hh
    have hl := h1.length
    simp only [cellAt] at hc
    by_cases hj : j < h.size
    · rw [if_pos hj] at hc
      exact Rd.at h x.1 v1 h1 j s y v hc (by rwa [List.getElem?_append_left (by omega)] at hv)
    · rw [if_neg hj] at hc
      rw [List.getElem?_append_right (by omega), hl] at hv
      exact Rd.at t x.2 v2 h2 (j - h.size) s y v hc hv
  | .int _, x, us, h, j, s, y, v, hc, hv => by
    cases j with
    | succ j => simp [cellAt] at hc
    | zero =>
      simp only [cellAt, Option.some.injEq] at hc
      cases hc
      simp only [Rd] at h
      subst h
      simp at hv
      subst hv
      exact ⟨rfl, rfl⟩
  | .bool, x, us, h, j, s, y, v, hc, hv => by
    cases j with
    | succ j => simp [cellAt] at hc
    | zero =>
      simp only [cellAt, Option.some.injEq] at hc
      cases hc
      simp only [Rd] at h
      subst h
      simp at hv
      subst hv
      exact ⟨rfl, rfl⟩
  | .str, x, us, h, j, s, y, v, hc, hv => by
    cases j with
    | succ j => simp [cellAt] at hc
    | zero =>
      simp only [cellAt, Option.some.injEq] at hc
      cases hc
      simp only [Rd] at h
      subst h
      simp at hv
      subst hv
      exact ⟨rfl, rfl⟩

theorem ArrR.slice {own : Nat → Own} {key : Own} {e : Ty} {xs : List e.D} {EL : Nat → e.D → List Value → Prop} {v : Value} (h : ArrR w own key e xs EL v) : ∃ a c, v = .slice a xs.length c ∧ xs.length ≤ c := by
  rcases h with ⟨a, rfl, rfl⟩ | ⟨b, cap, vs, T, rfl, hc, _⟩
  · exact ⟨a, 0, rfl, Nat.le_refl _⟩
  · exact ⟨_, cap, rfl, hc⟩

theorem CR.one {c : C} {v : Value} (h : CR P ρ w H c v) : v.oneCell' = true := by
  cases c with
  | undef => exact h
  | v t x deps =>
    obtain ⟨h1, h2⟩ := h
    cases t <;> simp only [Ty.agg, Rd, List.cons.injEq, and_true, Bool.true_eq_false] at h1 h2 <;> first
      | (subst h2; rfl)
      | (obtain ⟨a, c, rfl, _⟩ := h2; rfl)
  | nils => obtain ⟨a, rfl⟩ := h; rfl
  | ref l => obtain ⟨_, a, n, c, rfl⟩ := h; rfl
  | ref1 l i j u ys =>
    obtain ⟨e, xs, x, us, _, _, h3, h4, h5, _⟩ := h
    obtain ⟨⟨v', hv, _, ha⟩, _⟩ := DR.at e 0 x us h5 j _ _ v h3 h4
    obtain ⟨a, c, rfl, _⟩ := ha.slice
    simp at hv
    subst hv
    rfl
  | pre l n => obtain ⟨a, m, c, _, rfl, _⟩ := h; rfl
  | bp l off => obtain ⟨b, _, rfl⟩ := h; rfl
  | ap l i j e x => obtain ⟨_, _, _, _, _, _, _, _, rfl⟩ := h; rfl
  | ap1 l i j i' j' u ys y => obtain ⟨_, _, _, _, _, _, _, _, _, _, _, _, _, rfl, _⟩ := h; rfl
  | suf l n e ys =>
    obtain ⟨xs, d, _, _, h3, _⟩ := h
    obtain ⟨a, c, hv, _⟩ := h3
    simp only [List.cons.injEq, and_true] at hv
    subst hv
    rfl
  | app l i j u zs => obtain ⟨_, _, h⟩ := h; obtain ⟨a, c, rfl, _⟩ := h.slice; rfl
  | lp l n e => obtain ⟨b, m, c, _, rfl⟩ := h; rfl
  | sp t x deps => obtain ⟨b, o, us, rfl, _⟩ := h; rfl
  | sfn ins out g => obtain ⟨b, o, u, rfl, _⟩ := h; rfl
  | clo f first caps => obtain ⟨fv, rfl, _⟩ := h; rfl
  | fn ins out g => obtain ⟨_, f, first, caps, rfl, _⟩ := h; rfl

theorem CsR.left (h : Chg P ρ ρ' w w' H H' k) {cs : List C} {vs : List Value} (hc : CsR P ρ w H cs vs) : CsR P ρ' w' H' (cs.map (C.left k)) vs := by
  refine ⟨by simpa using hc.1, fun j c v hj hv => ?_⟩
  rw [List.getElem?_map] at hj
  cases hcj : cs[j]? with
  | none => simp [hcj] at hj
  | some c0 =>
    simp only [hcj, Option.map_some, Option.some.injEq] at hj
    subst hj
    have := hc.2 j c0 v hcj hv
    exact h.cell this this.one

theorem VR.left (h : Chg P ρ ρ' w w' H H' k) {g : Bool} {cs : List C} {v : Value} (hc : VR P ρ w H g cs v) : VR P ρ' w' H' g (cs.map (C.left k)) v := by
  obtain ⟨vs, h1, h2⟩ := hc
  exact ⟨vs, CsR.left h h1, h2⟩

theorem AR.left (h : Chg P ρ ρ' w w' H H' k) {x : A} {v : Value} (hc : AR P ρ w H x v) : AR P ρ' w' H' (x.left k) v := by
  cases x with
  | none => exact hc
  | any => trivial
  | val g cs => exact VR.left h hc
  | tup l =>
    obtain ⟨vs, h1, h2, h3⟩ := hc
    refine ⟨vs, h1, by simpa using h2, fun i p v hi hv => ?_⟩
    rw [List.getElem?_map] at hi
    cases hli : l[i]? with
    | none => simp [hli] at hi
    | some q =>
      simp only [hli, Option.map_some, Option.some.injEq] at hi
      subst hi
      exact VR.left h (h3 i q v hli hv)

/-- A root that is left alone. -/
theorem RR.left (h : Chg P ρ ρ' w w' H H' k) {l : Nat} {r : Root} (hk : ¬ Killed k l) (hm : ¬ Moved k l) (hr : RR P ρ w H l r) : RR P ρ' w' H' l (r.left k) := by
  have hd := h.hdr l (fun hb => hk ⟨_, hb⟩) hm
  have hb : ∀ b, b < w.heap.size → ρ.own b = .main l → ρ'.own b = .main l ∧ w'.heap[b]? = w.heap[b]? := fun b hb ho => by
    obtain ⟨h1, h2⟩ := h.block b l hb (by simp [ho, Own.loc]) hk
    exact ⟨(h2 hm).trans ho, h1⟩
  cases r with
  | box cs =>
    obtain ⟨b, vs, T, h1, h2, h3, h4⟩ := hr
    obtain ⟨g1, g2⟩ := hb b (Array.getElem?_eq_some_iff.1 h3).1 h2
    exact ⟨b, vs, T, hd.trans h1, g1, g2.trans h3, CsR.left h h4⟩
  | arr e xs d =>
    have hr : ArrR w ρ.own (.main l) e xs (EL w ρ.own l d e) (ρ.hdr l) := hr
    show ArrR w' ρ'.own (.main l) e xs (EL w' ρ'.own l d e) (ρ'.hdr l)
    rw [hd]
    refine hr.step hb fun i x us _ he => ?_
    unfold EL at he ⊢
    split
    · rename_i hdp
      rw [if_pos hdp] at he
      exact h.inner hk hm he
    · rename_i hdp
      rw [if_neg hdp] at he
      exact h.rdFree he
  | lit e els =>
    obtain ⟨b, vs, T, h1, h5, h2, h3, h4, h6⟩ := hr
    obtain ⟨g1, g2⟩ := hb b (Array.getElem?_eq_some_iff.1 h3).1 h2
    refine ⟨b, vs, T, by simpa using hd.trans h1, by simpa using h5, g1, g2.trans h3, by simpa using h4, fun i cs hi => ?_⟩
    rw [List.getElem?_map] at hi
    cases hei : els[i]? with
    | none => simp [hei] at hi
    | some cs0 =>
      simp only [hei, Option.map_some, Option.some.injEq] at hi
      subst hi
      obtain ⟨q1, q2⟩ := h6 i cs0 hei
      refine ⟨by simpa using q1, fun j c hj => ?_⟩
      rw [List.getElem?_map] at hj
      cases hcj : cs0[j]? with
      | none => simp [hcj] at hj
      | some c0 =>
        simp only [hcj, Option.map_some, Option.some.injEq] at hj
        subst hj
        obtain ⟨v, hv1, hv2⟩ := q2 j c0 hcj
        exact ⟨v, hv1, h.cell hv2 hv2.one⟩
  | gap => exact fun b => h.got b l hk hm hr

/-! ### The state behind a step -/

theorem putR_getD : ∀ (H : List (Option Root)) (n : Nat) (r : Option Root) (m : Nat), (putR H n r).getD m none = if m = n then r else H.getD m none
  | [], 0, r, 0 => rfl
  | [], 0, r, m + 1 => by simp [putR]
  | [], n + 1, r, 0 => by simp [putR]
  | [], n + 1, r, m + 1 => by
    have := putR_getD [] n r m
    simp only [putR, List.getD_cons_succ, this, Nat.add_right_cancel_iff]
    simp
  | _ :: t, 0, r, 0 => rfl
  | _ :: t, 0, r, m + 1 => by simp [putR]
  | h :: t, n + 1, r, 0 => by simp [putR]
  | h :: t, n + 1, r, m + 1 => by
    have := putR_getD t n r m
    simp only [putR, List.getD_cons_succ, this, Nat.add_right_cancel_iff]

theorem putR_length_ge : ∀ (H : List (Option Root)) (n : Nat) (r : Option Root), H.length ≤ (putR H n r).length ∧ n < (putR H n r).length
  | [], 0, r => by simp [putR]
  | [], n + 1, r => by have := putR_length_ge [] n r; simp [putR]; exact this.2
  | _ :: t, 0, r => by simp [putR]
  | h :: t, n + 1, r => by have := putR_length_ge t n r; simp [putR]; omega

theorem setAll_get : ∀ (u : List (Nat × Option Root)) (H : List (Option Root)) (l : Nat), ((setAll H u).getD l none = H.getD l none ∧ l ∉ u.map Prod.fst) ∨ (l, (setAll H u).getD l none) ∈ u
  | [], H, l => .inl ⟨rfl, by simp⟩
  | (m, r) :: u, H, l => by
    rcases setAll_get u (putR H m r) l with ⟨h1, h2⟩ | h
    · rw [putR_getD] at h1
      by_cases hlm : l = m
      · rw [if_pos hlm] at h1
        refine .inr ?_
        show (l, (setAll (putR H m r) u).getD l none) ∈ (m, r) :: u
        rw [h1, hlm]
        exact List.mem_cons_self ..
      · rw [if_neg hlm] at h1
        exact .inl ⟨h1, by simp [hlm]; simpa using h2⟩
    · exact .inr (List.mem_cons_of_mem _ h)

theorem setAll_length_ge : ∀ (u : List (Nat × Option Root)) (H : List (Option Root)), H.length ≤ (setAll H u).length ∧ ∀ l r, (l, r) ∈ u → l < (setAll H u).length
  | [], H => ⟨Nat.le_refl _, by simp⟩
  | (m, r) :: u, H => by
    have h1 := putR_length_ge H m r
    have h2 := setAll_length_ge u (putR H m r)
    refine ⟨Nat.le_trans h1.1 h2.1, fun l r' hm => ?_⟩
    rcases List.mem_cons.1 hm with he | he
    · cases he
      exact Nat.lt_of_lt_of_le h1.2 h2.1
    · exact h2.2 l r' he

theorem newLoc_nil (l : Nat) : newLoc [] l = l := rfl

theorem C.left_nil (c : C) : c.left ⟨[], []⟩ = c := by
  have hm : ∀ deps : List Nat, deps.map (newLoc []) = deps := fun deps => by
    have : newLoc [] = id := funext newLoc_nil
    rw [this, List.map_id]
  cases c <;> simp [C.left, lookupN, hm]

theorem A.left_nil (x : A) : x.left ⟨[], []⟩ = x := by
  have h1 : C.left ⟨[], []⟩ = id := funext C.left_nil
  cases x with
  | none => rfl
  | any => rfl
  | val g cs => simp [A.left, h1]
  | tup l => simp [A.left, h1]

theorem Root.left_nil (x : Root) : x.left ⟨[], []⟩ = x := by
  have h1 : C.left ⟨[], []⟩ = id := funext C.left_nil
  cases x with
  | box cs => simp [Root.left, h1]
  | arr e xs d => rfl
  | lit e els => simp [Root.left, h1]
  | gap => rfl

theorem swept_fr (k : Sweep) (s : S) : (s.swept k).fr = s.fr.map (A.left k) := by
  unfold S.swept
  split
  · rename_i h
    obtain ⟨h1, h2⟩ := k
    simp only [Bool.and_eq_true, List.isEmpty_iff] at h
    obtain ⟨rfl, rfl⟩ := h
    have : A.left ⟨[], []⟩ = id := funext A.left_nil
    simp [this]
  · rfl

theorem swept_H (k : Sweep) (s : S) : (s.swept k).H = s.H.map fun o => o.map (Root.left k) := by
  unfold S.swept
  split
  · rename_i h
    obtain ⟨h1, h2⟩ := k
    simp only [Bool.and_eq_true, List.isEmpty_iff] at h
    obtain ⟨rfl, rfl⟩ := h
    have : Root.left ⟨[], []⟩ = id := funext Root.left_nil
    simp [this]
  · rfl

theorem swept_root (k : Sweep) (s : S) (l : Nat) : (s.swept k).root l = (s.root l).map (Root.left k) := by
  simp only [S.root, swept_H, List.getD_eq_getElem?_getD, List.getElem?_map]
  cases s.H[l]? <;> simp

theorem put_H (s : S) (dst : Option Nat) (x : A) : (s.put dst x).H = s.H := by cases dst <;> rfl
theorem put_root (s : S) (dst : Option Nat) (x : A) : (s.put dst x).root = s.root := by cases dst <;> rfl

theorem apply_H (s : S) (dst : Option Nat) (d : Delta) : (s.apply dst d).H = setAll (s.swept ⟨d.kill, d.mov⟩).H d.set := by
  simp [S.apply, put_H]

theorem apply_root (s : S) (dst : Option Nat) (d : Delta) (l : Nat) :
    ((s.apply dst d).root l = (s.root l).map (Root.left ⟨d.kill, d.mov⟩) ∧ l ∉ d.set.map Prod.fst) ∨ (l, (s.apply dst d).root l) ∈ d.set := by
  have h := setAll_get d.set (s.swept ⟨d.kill, d.mov⟩).H l
  rw [← swept_root]
  simp only [S.root, apply_H]
  exact h

theorem apply_fr (s : S) (dst : Option Nat) (d : Delta) : (s.apply dst d).fr = match dst with
    | some i => (s.fr.map (A.left ⟨d.kill, d.mov⟩)).set i d.dst
    | none => s.fr.map (A.left ⟨d.kill, d.mov⟩) := by
  cases dst <;> simp [S.apply, S.put, swept_fr]

theorem tmps_put (a : Act) (dst : Option Nat) (v : Value) : (a.put dst v).tmps = match dst with
    | some i => a.tmps.setIfInBounds i v
    | none => a.tmps := by cases dst <;> rfl

/-- **A step that keeps what it must keep the relation.** -/
theorem Rel.apply {K : Ctx} {s : S} {a : Act} (h : Rel P K ρ s a w) (dst : Option Nat) (d : Delta) (v : Value)
    (hc : Chg P ρ ρ' w w' s.root (s.apply dst d).root ⟨d.kill, d.mov⟩)
    (hset : ∀ l r, (l, some r) ∈ d.set → RR P ρ' w' (s.apply dst d).root l r)
    (htouch : ∀ l, Killed ⟨d.kill, d.mov⟩ l ∨ Moved ⟨d.kill, d.mov⟩ l → l ∈ d.set.map Prod.fst)
    (hdst : dst.isSome = true → AR P ρ' w' (s.apply dst d).root d.dst v)
    (hlive : ∀ b l, (ρ'.own b).loc = some l → l < (s.apply dst d).H.length)
    (hfresh : ∀ b, w'.heap.size ≤ b → ρ'.own b = .free)
    (hfix : ∀ l u, (l, u) ∈ K.fix → ρ'.hdr l = ρ.hdr l) :
    Rel P K ρ' (s.apply dst d) (a.put dst v) w' := by
  refine ⟨?_, ?_, ?_, ?_, hlive, hfresh, h.later.trans hc.later, ?_, ?_, ?_⟩
  · rw [apply_fr, tmps_put]
    cases dst <;> simp [h.size]
  · cases dst <;> exact h.defers
  · intro i x hi
    rw [apply_fr] at hi
    rw [tmps_put]
    have old : ∀ x, (s.fr.map (A.left ⟨d.kill, d.mov⟩))[i]? = some x → ∃ v, a.tmps[i]? = some v ∧ AR P ρ' w' (s.apply dst d).root x v := by
      intro x hx
      rw [List.getElem?_map] at hx
      cases hxi : s.fr[i]? with
      | none => simp [hxi] at hx
      | some x0 =>
        simp only [hxi, Option.map_some, Option.some.injEq] at hx
        subst hx
        obtain ⟨v0, h1, h2⟩ := h.slot i x0 hxi
        exact ⟨v0, h1, AR.left hc h2⟩
    cases dst with
    | none => exact old x hi
    | some j =>
      dsimp only at hi ⊢
      by_cases hj : j = i
      · subst hj
        rw [List.getElem?_set] at hi
        simp only [↓reduceIte, List.length_map] at hi
        split at hi
        · rename_i hlt
          cases hi
          refine ⟨v, ?_, hdst rfl⟩
          simp [h.size, hlt]
        · cases hi
      · rw [List.getElem?_set_ne hj] at hi
        obtain ⟨v0, h1, h2⟩ := old x hi
        exact ⟨v0, by rw [Array.getElem?_setIfInBounds_ne hj]; exact h1, h2⟩
  · intro l r hl
    rcases apply_root s dst d l with ⟨h1, h2⟩ | h1
    · rw [hl] at h1
      cases hr : s.root l with
      | none => simp [hr] at h1
      | some r0 =>
        simp only [hr, Option.map_some, Option.some.injEq] at h1
        subst h1
        exact RR.left hc (fun hk => h2 (htouch l (.inl hk))) (fun hm => h2 (htouch l (.inr hm))) (h.root l r0 hr)
    · rw [hl] at h1
      exact hset l r h1
  · intro b hb ho
    obtain ⟨h1, h2⟩ := h.keep b hb ho
    have hbw : b < w.heap.size := Nat.lt_of_lt_of_le hb h.later.size
    rcases ho with ho | ho
    · obtain ⟨g1, g2⟩ := hc.free b hbw (h1.trans ho)
      exact ⟨g1.trans ho.symm, g2.trans h2⟩
    · obtain ⟨g1, g2⟩ := hc.off b hbw (h1.trans ho)
      exact ⟨g1.trans ho.symm, g2.trans h2⟩
  · intro b ho
    exact h.old b (hc.noOff b ho)
  · intro l u hl
    refine ⟨(hfix l u hl).trans (h.fix l u hl).1, Nat.lt_of_lt_of_le (h.fix l u hl).2 ?_⟩
    rw [apply_H]
    exact Nat.le_trans (by rw [swept_H]; simp) (setAll_length_ge d.set _).1

end Go.Proofs.YtgjneigkkgaaiaaGreatDoor.Vd

/- VdE -/
namespace Go.Proofs.YtgjneigkkgaaiaaGreatDoor.Vd

variable {P : Program} {ρ : Map} {w : World} {s : S} {a : Act} {K : Ctx}

/-! ### What a run of R tells -/

def R.Ok : R → Prop
  | .ret _ => True
  | .fail => False
  | .bnd m f => ∃ a, m = some a ∧ (f a).Ok
  | .ite c a b => if c then a.Ok else b.Ok
  | .amb a b => a.Ok ∧ b.Ok

def R.Yields (d : Delta) : R → Prop
  | .ret d' => d = d'
  | .fail => False
  | .bnd m f => ∃ a, m = some a ∧ (f a).Yields d
  | .ite c a b => if c then a.Yields d else b.Yields d
  | .amb a b => a.Yields d ∨ b.Yields d

theorem R.run_ok {β : Type} {k : Delta → Option β} {y : β} : {r : R} → r.run k = some y → r.Ok ∧ ∀ d, r.Yields d → k d = some y
  | .ret d, h => ⟨trivial, fun d' hd => by cases hd; exact h⟩
  | .fail, h => by cases h
  | .bnd m f, h => by
    cases hm : m with
    | none => simp [R.run, bindO, hm] at h
    | some a =>
      have h' : (f a).run k = some y := by simpa [R.run, bindO, hm] using h
      obtain ⟨h1, h2⟩ := R.run_ok h'
      refine ⟨⟨a, rfl, h1⟩, ?_⟩
      rintro d ⟨a', ha, hd⟩
      cases ha
      exact h2 d hd
  | .ite c r1 r2, h => by
    cases c
    · have h' : r2.run k = some y := h
      obtain ⟨h1, h2⟩ := R.run_ok h'
      exact ⟨by simpa [R.Ok] using h1, fun d hd => h2 d (by simpa [R.Yields] using hd)⟩
    · have h' : r1.run k = some y := h
      obtain ⟨h1, h2⟩ := R.run_ok h'
      exact ⟨by simpa [R.Ok] using h1, fun d hd => h2 d (by simpa [R.Yields] using hd)⟩
  | .amb r1 r2, h => by
    simp only [R.run, ambO] at h
    split at h
    · rename_i he
      obtain ⟨h1, h2⟩ := R.run_ok h
      obtain ⟨h3, h4⟩ := R.run_ok (he ▸ h)
      exact ⟨⟨h1, h3⟩, fun d hd => hd.elim (h2 d) (h4 d)⟩
    · cases h

/-! ### Operands -/

theorem constC_rel (H : Nat → Option Root) {v : Value} (hv : v.oneCell' = true) : CR P ρ w H (constC v) v := by
  unfold constC
  split
  · exact ⟨rfl, rfl⟩
  · exact ⟨rfl, rfl⟩
  · exact ⟨rfl, rfl⟩
  · exact ⟨_, rfl⟩
  · exact hv

theorem flatConst_spec {vs : List Value} (h : flatConst vs = true) : ∀ v ∈ vs, v.oneCell' = true := by
  intro v hv
  have := List.all_eq_true.1 h v hv
  cases v <;> simp_all [Value.oneCell']

theorem CsR.single {H : Nat → Option Root} {c : C} {v : Value} (h : CR P ρ w H c v) : CsR P ρ w H [c] [v] :=
  ⟨rfl, fun j c' v' hc hv => by
    cases j with
    | zero => simp at hc hv; subst hc; subst hv; exact h
    | succ j => simp at hc⟩

theorem CsR.append {H : Nat → Option Root} {cs ds : List C} {vs us : List Value} (h : CsR P ρ w H cs vs) (h' : CsR P ρ w H ds us) : CsR P ρ w H (cs ++ ds) (vs ++ us) := by
  refine ⟨by simp [h.1, h'.1], fun j c v hc hv => ?_⟩
  by_cases hj : j < cs.length
  · rw [List.getElem?_append_left hj] at hc
    rw [List.getElem?_append_left (by rw [← h.1]; exact hj)] at hv
    exact h.2 j c v hc hv
  · rw [List.getElem?_append_right (by omega)] at hc
    rw [List.getElem?_append_right (by rw [← h.1]; omega), ← h.1] at hv
    exact h'.2 _ c v hc hv

theorem VR.one {H : Nat → Option Root} {c : C} {v : Value} (h : CR P ρ w H c v) : VR P ρ w H false [c] v :=
  ⟨[v], ⟨rfl, fun j c' v' hc hv => by
    cases j with
    | zero => simp at hc hv; subst hc; subst hv; exact h
    | succ j => simp at hc⟩, rfl⟩

theorem VR.cell {H : Nat → Option Root} {c : C} {v : Value} (h : VR P ρ w H false [c] v) : CR P ρ w H c v := by
  obtain ⟨vs, ⟨h1, h2⟩, h3⟩ := h
  simp at h3
  subst h3
  exact h2 0 c v rfl rfl

theorem AR.one {H : Nat → Option Root} {c : C} {v : Value} : AR P ρ w H (.c c) v ↔ CR P ρ w H c v := ⟨VR.cell, VR.one⟩

theorem constA_rel (H : Nat → Option Root) (v : Value) : AR P ρ w H (constA v) v := by
  unfold constA
  split
  · rename_i cs
    split
    · rename_i hf
      refine ⟨cs.toList, ⟨by simp, fun j c v hc hv => ?_⟩, by simp⟩
      rw [List.getElem?_map, hv] at hc
      simp at hc
      subst hc
      exact constC_rel H (flatConst_spec hf v (List.mem_of_getElem? hv))
    · trivial
  · trivial
  · rename_i h1 h2
    exact VR.one (constC_rel H (by
      cases v with
      | agg cs => exact absurd rfl (h1 cs)
      | tuple cs => exact absurd rfl (h2 cs)
      | _ => rfl))

theorem Rel.eval (h : Rel P K ρ s a w) (x : Operand) : AR P ρ w s.root (s.eval x) (a.eval x) := by
  cases x with
  | tmp t =>
    show AR P ρ w s.root (s.fr.getD t .none) (a.tmps.getD t undef)
    cases ht : s.fr[t]? with
    | none =>
      have hlen : s.fr.length ≤ t := by simpa using ht
      rw [List.getD_eq_getElem?_getD, ht, Array.getD_eq_getD_getElem?, Array.getElem?_eq_none (by rw [h.size]; exact hlen)]
      rfl
    | some x =>
      obtain ⟨v, h1, h2⟩ := h.slot t x ht
      rw [List.getD_eq_getElem?_getD, ht, Array.getD_eq_getD_getElem?, h1]
      exact h2
  | const v => exact constA_rel _ v
  | global g => exact VR.one rfl
  | func f => exact VR.one ⟨[], by simp [Act.eval], rfl, by simp⟩

/-! ### Steps that change nothing but a slot -/

theorem apply_pure_root (s : S) (dst : Option Nat) (x : A) : (s.apply dst { dst := x }).root = s.root := by
  funext l
  rcases apply_root s dst { dst := x } l with ⟨h, _⟩ | h
  · rw [h]
    have : Root.left ⟨[], []⟩ = id := funext Root.left_nil
    simp [this]
  · cases h

theorem apply_pure_H (s : S) (dst : Option Nat) (x : A) : (s.apply dst { dst := x }).H = s.H := by
  rw [apply_H, swept_H]
  have : Root.left ⟨[], []⟩ = id := funext Root.left_nil
  simp [this, setAll]

theorem Chg.refl (P : Program) (ρ : Map) (w : World) (H : Nat → Option Root) : Chg P ρ ρ w w H H ⟨[], []⟩ where
  later := Later.refl w
  free := fun _ _ h => ⟨h, rfl⟩
  off := fun _ _ h => ⟨h, rfl⟩
  noOff := fun _ h => h
  block := fun _ _ _ _ _ => ⟨rfl, fun _ => rfl⟩
  hdr := fun _ _ _ => rfl
  hdrP := fun _ _ _ _ => rfl
  arr := fun _ _ _ _ _ _ h => h
  mov := fun _ _ h => by cases h
  got := fun _ _ _ _ h => h _
  movB := fun _ _ _ _ h => by cases h

theorem Rel.pure (h : Rel P K ρ s a w) (dst : Option Nat) {x : A} {v : Value} (hx : AR P ρ w s.root x v) : Rel P K ρ (s.apply dst { dst := x }) (a.put dst v) w := by
  refine h.apply dst { dst := x } v ?_ (fun _ _ hm => by cases hm) (fun l hl => ?_) (fun _ => ?_) ?_ h.fresh (fun _ _ _ => rfl)
  · rw [apply_pure_root]
    exact Chg.refl P ρ w s.root
  · rcases hl with ⟨b, hb⟩ | hb
    · cases hb
    · cases hb
  · rw [apply_pure_root]
    exact hx
  · rw [apply_pure_H]
    exact h.live

/-- An operation whose run gives a value. -/
theorem wp_value {o : Oper} {v : Value} {w' : World} {next : Act → World → Prop} {Q : Exit → Act → World → Prop}
    (hr : (execOp a.eval o).run P w = .ok (.value v) w') (h : next (a.put o.dst v) w') : o.wp P a w next Q := by
  unfold Oper.wp
  rw [hr]
  exact h

theorem wp_skip' {o : Oper} {w' : World} {next : Act → World → Prop} {Q : Exit → Act → World → Prop}
    (hr : (execOp a.eval o).run P w = .ok .skip w') (h : next (a.put o.dst undef) w') : o.wp P a w next Q := by
  unfold Oper.wp
  rw [hr]
  exact h

/-- What is to be shown of an operation. -/
def Sound (P : Program) (K : Ctx) (s : S) (a : Act) (w : World) (o : Oper) (r : R) : Prop :=
  r.Ok → ∀ (next : Act → World → Prop) (Q : Exit → Act → World → Prop),
    (∀ d ρ' a' w', r.Yields d → Rel P K ρ' (s.apply o.dst d) a' w' → next a' w') → o.wp P a w next Q

/-- An operation that computes a value. -/
theorem Sound.value (hR : Rel P K ρ s a w) {o : Oper} {x : A} {v : Value} (hr : (execOp a.eval o).run P w = .ok (.value v) w) (hx : AR P ρ w s.root x v) :
    Sound P K s a w o (.ret { dst := x }) := fun _ _ _ hn => wp_value hr (hn _ ρ _ w rfl (hR.pure o.dst hx))

theorem Sound.bnd {o : Oper} {α : Type} {m : Option α} {f : α → R} (h : ∀ a', m = some a' → Sound P K s a w o (f a')) : Sound P K s a w o (.bnd m f) := by
  rintro ⟨a', hm, hok⟩ next Q hn
  exact h a' hm hok next Q fun d ρ' a2 w' hy hr => hn d ρ' a2 w' ⟨a', hm, hy⟩ hr

theorem Sound.guard {o : Oper} {b : Bool} {f : Unit → R} (h : b = true → Sound P K s a w o (f ())) : Sound P K s a w o (.bnd (guardO b) f) :=
  Sound.bnd fun _ hm => h (by cases b <;> simp_all [guardO])

theorem Sound.fail {o : Oper} : Sound P K s a w o .fail := fun h => h.elim

theorem Sound.ite {o : Oper} {c : Bool} {r1 r2 : R} (h1 : c = true → Sound P K s a w o r1) (h2 : c = false → Sound P K s a w o r2) : Sound P K s a w o (.ite c r1 r2) := by
  intro hok next Q hn
  cases c
  · exact h2 rfl (by simpa [R.Ok] using hok) next Q fun d ρ' a2 w' hy hr => hn d ρ' a2 w' (by simpa [R.Yields] using hy) hr
  · exact h1 rfl (by simpa [R.Ok] using hok) next Q fun d ρ' a2 w' hy hr => hn d ρ' a2 w' (by simpa [R.Yields] using hy) hr

theorem Sound.ambL {o : Oper} {r1 r2 : R} (h : Sound P K s a w o r1) : Sound P K s a w o (.amb r1 r2) := by
  rintro ⟨hok, _⟩ next Q hn
  exact h hok next Q fun d ρ' a2 w' hy hr => hn d ρ' a2 w' (.inl hy) hr

theorem Sound.ambR {o : Oper} {r1 r2 : R} (h : Sound P K s a w o r2) : Sound P K s a w o (.amb r1 r2) := by
  rintro ⟨_, hok⟩ next Q hn
  exact h hok next Q fun d ρ' a2 w' hy hr => hn d ρ' a2 w' (.inr hy) hr

end Go.Proofs.YtgjneigkkgaaiaaGreatDoor.Vd

/- VdT -/
namespace Go.Proofs.YtgjneigkkgaaiaaGreatDoor.Vd

def fieldsOf (P : Program) (T : TypeId) : Option (List (TypeId × Nat)) := match P.underlying T with
  | some (.struct fs) => some (fs.toList.map fun f => (f.type, f.offset))
  | some (.array n e) => match P.info? e with
    | some i => some ((List.range n).map fun k => (e, k * i.size))
    | none => none
  | _ => none

def zero1 : Ty → Value → Bool
  | .int k, .int k' n => k == k' && n == 0
  | .bool, .bool b => !b
  | .str, .string s => s.size == 0
  | .sl _, .slice none 0 0 => true
  | _, _ => false

def zeroOK : Ty → List Value → Bool
  | .one h, vs => zeroOK h vs
  | .cons h t, vs => zeroOK h (vs.take h.size) && zeroOK t (vs.drop h.size)
  | .int k, [v] => zero1 (.int k) v
  | .bool, [v] => zero1 .bool v
  | .str, [v] => zero1 .str v
  | .sl e, [v] => zero1 (.sl e) v
  | _, _ => false

def infoOK (P : Program) (t : Ty) (T : TypeId) : Bool := match P.info? T with
  | some i => i.size == t.size && decide (i.bytes ≤ 2048) && (match i.zero with
    | some z => zeroOK t z.cells.toList
    | none => false)
  | none => false

def shp (P : Program) : Ty → TypeId ⊕ (List (TypeId × Nat) × Nat) → Bool
  | .int k, .inl T => (match P.underlying T with | some (.int k') => k == k' | _ => false) && infoOK P (.int k) T
  | .bool, .inl T => (match P.underlying T with | some .bool => true | _ => false) && infoOK P .bool T
  | .str, .inl T => (match P.underlying T with | some .string => true | _ => false) && infoOK P .str T
  | .sl e, .inl T => (match P.underlying T with | some (.slice T') => shp P e (.inl T') | _ => false) && infoOK P (.sl e) T
  | .one h, .inl T => infoOK P (.one h) T && (match fieldsOf P T with | some [(T', 0)] => shp P h (.inl T') | _ => false)
  | .cons h t, .inl T => infoOK P (.cons h t) T && (match fieldsOf P T with | some ((T', 0) :: fs) => shp P h (.inl T') && shp P t (.inr (fs, h.size)) | _ => false)
  | .one h, .inr ([(T', o)], off) => o == off && shp P h (.inl T')
  | .cons h t, .inr ((T', o) :: fs, off) => o == off && shp P h (.inl T') && shp P t (.inr (fs, off + h.size))
  | _, _ => false

def otherOK (P : Program) (T : TypeId) : Bool := (match P.underlying T with
    | some (.struct _) | some (.array _ _) | none => false
    | _ => true) && match P.info? T with
  | some i => i.size == 1 && (match i.zero with
    | some z => (match z with | .agg _ | .tuple _ => false | _ => true)
    | none => false)
  | none => false

def pairOK (P : Program) (T : TypeId) : Bool := match P.underlying T with
  | some (.struct fs) => (match fs.toList with
    | [f, g] => f.name != "_" && g.name != "_" && f.offset == 0 && g.offset == 1 &&
      (match P.underlying f.type, P.underlying g.type with | some (.int .i64), some (.int .i64) => true | _, _ => false)
    | _ => false) && !P.stoodInHeld T && !P.eqGuardType P.depth T
  | _ => false

structure TyOK (P : Program) (E : Env) : Prop where
  ty : ∀ T t, E.T T = some t → shp P t (.inl T) = true
  other : ∀ T, E.other.contains T = true → otherOK P T = true
  pair : ∀ T, E.pairs.contains T = true → pairOK P T = true

variable {P : Program} {E : Env}

theorem shp.info {t : Ty} {T : TypeId} (h : shp P t (.inl T) = true) : infoOK P t T = true := by
  cases t <;> simp only [shp, Bool.and_eq_true] at h <;> first | exact h.2 | exact h.1

theorem infoOK.spec {t : Ty} {T : TypeId} (h : infoOK P t T = true) : ∃ i z, P.info? T = some i ∧ i.size = t.size ∧ i.bytes ≤ 2048 ∧ i.zero = some z ∧ zeroOK t z.cells.toList = true := by
  unfold infoOK at h
  split at h
  · rename_i i hi
    simp only [Bool.and_eq_true, beq_iff_eq, decide_eq_true_eq] at h
    obtain ⟨⟨h1, h2⟩, h3⟩ := h
    split at h3
    · rename_i z hz
      exact ⟨i, z, hi, h1, h2, hz, h3⟩
    · cases h3
  · cases h

theorem zeroOK.length : (t : Ty) → (vs : List Value) → zeroOK t vs = true → vs.length = t.size
  | .one h, vs, hz => zeroOK.length h vs hz
  | .cons h t, vs, hz => by
    simp only [zeroOK, Bool.and_eq_true] at hz
    have h1 := zeroOK.length h _ hz.1
    have h2 := zeroOK.length t _ hz.2
    simp only [List.length_take, List.length_drop] at h1 h2
    have := Ty.size_pos h
    have := Ty.size_pos t
    simp only [Ty.size]
    omega
  | .int _, [v], _ | .bool, [v], _ | .str, [v], _ | .sl _, [v], _ => rfl
  | .int _, [], h | .bool, [], h | .str, [], h | .sl _, [], h => by simp [zeroOK] at h
  | .int _, _ :: _ :: _, h | .bool, _ :: _ :: _, h | .str, _ :: _ :: _, h | .sl _, _ :: _ :: _, h => by simp [zeroOK] at h

theorem zeroOK.rd (w : World) (A : Nat → Prop) : (t : Ty) → (vs : List Value) → zeroOK t vs = true → Rd w A t t.zero vs
  | .one h, vs, hz => zeroOK.rd w A h vs hz
  | .cons h t, vs, hz => by
    simp only [zeroOK, Bool.and_eq_true] at hz
    exact ⟨_, _, (List.take_append_drop h.size vs).symm, zeroOK.rd w A h _ hz.1, zeroOK.rd w A t _ hz.2⟩
  | .int k, [v], h => by
    cases v <;> simp [zeroOK, zero1] at h
    obtain ⟨rfl, rfl⟩ := h
    rfl
  | .bool, [v], h => by
    cases v <;> simp [zeroOK, zero1] at h
    subst h
    rfl
  | .str, [v], h => by
    cases v <;> simp [zeroOK, zero1] at h
    subst h
    rfl
  | .sl e, [v], h => by
    have : v = .slice none 0 0 := by
      cases v <;> simp [zeroOK, zero1] at h
      rename_i a n c
      cases a <;> cases n <;> cases c <;> simp at h ⊢
    subst this
    exact ⟨none, 0, rfl, Nat.le_refl _, fun h => absurd rfl h⟩
  | .int _, [], h | .bool, [], h | .str, [], h | .sl _, [], h => by simp [zeroOK] at h
  | .int _, _ :: _ :: _, h | .bool, _ :: _ :: _, h | .str, _ :: _ :: _, h | .sl _, _ :: _ :: _, h => by simp [zeroOK] at h

theorem zeroOK.cells (ρ : Map) (w : World) (H : Nat → Option Root) : (t : Ty) → (vs : List Value) → zeroOK t vs = true → CsR P ρ w H (zeroCells t) vs
  | .one h, vs, hz => zeroOK.cells ρ w H h vs hz
  | .cons h t, vs, hz => by
    simp only [zeroOK, Bool.and_eq_true] at hz
    have h1 := zeroOK.cells ρ w H h _ hz.1
    have h2 := zeroOK.cells ρ w H t _ hz.2
    have h3 := h1.append h2
    rwa [List.take_append_drop] at h3
  | .int k, [v], h => by
    have := zeroOK.rd w (Al ρ.own []) (.int k) [v] h
    exact CsR.single ⟨rfl, this⟩
  | .bool, [v], h => CsR.single ⟨rfl, zeroOK.rd w (Al ρ.own []) .bool [v] h⟩
  | .str, [v], h => CsR.single ⟨rfl, zeroOK.rd w (Al ρ.own []) .str [v] h⟩
  | .sl e, [v], h => by
    have : v = .slice none 0 0 := by
      cases v <;> simp [zeroOK, zero1] at h
      rename_i a n c
      cases a <;> cases n <;> cases c <;> simp at h ⊢
    subst this
    exact CsR.single ⟨none, rfl⟩
  | .int _, [], h | .bool, [], h | .str, [], h | .sl _, [], h => by simp [zeroOK] at h
  | .int _, _ :: _ :: _, h | .bool, _ :: _ :: _, h | .str, _ :: _ :: _, h | .sl _, _ :: _ :: _, h => by simp [zeroOK] at h

theorem shp.agg {t : Ty} {T : TypeId} (h : shp P t (.inl T) = true) (w : World) : (isAgg T).run P w = .ok t.agg w := by
  have key : ∀ d, P.underlying T = some d → (isAgg T).run P w = .ok (match d with | .struct _ | .array _ _ => true | _ => false) w := by
    intro d hd
    simp only [isAgg, Sem.run_bind, run_underlying hd, Result.andThen_ok]
    cases d <;> rfl
  cases t with
  | int k =>
    simp only [shp, Bool.and_eq_true] at h
    split at h
    · rename_i hd; rw [key _ hd]; rfl
    · simp at h
  | bool =>
    simp only [shp, Bool.and_eq_true] at h
    split at h
    · rename_i hd; rw [key _ hd]; rfl
    · simp at h
  | str =>
    simp only [shp, Bool.and_eq_true] at h
    split at h
    · rename_i hd; rw [key _ hd]; rfl
    · simp at h
  | sl e =>
    simp only [shp, Bool.and_eq_true] at h
    split at h
    · rename_i hd; rw [key _ hd]; rfl
    · simp at h
  | one h0 =>
    simp only [shp, Bool.and_eq_true] at h
    unfold fieldsOf at h
    cases hd : P.underlying T with
    | none => simp [hd] at h
    | some d =>
      rw [key _ hd]
      cases d <;> simp [hd] at h <;> rfl
  | cons h0 t0 =>
    simp only [shp, Bool.and_eq_true] at h
    unfold fieldsOf at h
    cases hd : P.underlying T with
    | none => simp [hd] at h
    | some d =>
      rw [key _ hd]
      cases d <;> simp [hd] at h <;> rfl

theorem shp.size {t : Ty} {T : TypeId} (h : shp P t (.inl T) = true) (w : World) : (sizeOf T).run P w = .ok t.size w := by
  obtain ⟨i, z, hi, h1, _⟩ := infoOK.spec (shp.info h)
  simp [sizeOf, typeInfo, hi, h1]

theorem shp.slice {e : Ty} {T : TypeId} (h : shp P (.sl e) (.inl T) = true) : ∃ T', P.underlying T = some (.slice T') ∧ shp P e (.inl T') = true := by
  simp only [shp, Bool.and_eq_true] at h
  split at h
  · rename_i T' hd; exact ⟨T', hd, h.1⟩
  · simp at h

theorem shp.bool {T : TypeId} (h : shp P .bool (.inl T) = true) : P.underlying T = some .bool := by
  simp only [shp, Bool.and_eq_true] at h
  split at h
  · rename_i hd; exact hd
  · simp at h

theorem shp.str {T : TypeId} (h : shp P .str (.inl T) = true) : P.underlying T = some .string := by
  simp only [shp, Bool.and_eq_true] at h
  split at h
  · rename_i hd; exact hd
  · simp at h

theorem shp.int {k : IntKind} {T : TypeId} (h : shp P (.int k) (.inl T) = true) : P.underlying T = some (.int k) := by
  simp only [shp, Bool.and_eq_true] at h
  split at h
  · rename_i k' hd
    rw [hd]
    have := h.1
    simp only [beq_iff_eq] at this
    rw [this]
  · simp at h

theorem other.agg {T : TypeId} (h : otherOK P T = true) (w : World) : (isAgg T).run P w = .ok false w ∧ (sizeOf T).run P w = .ok 1 w := by
  unfold otherOK at h
  simp only [Bool.and_eq_true] at h
  obtain ⟨h1, h2⟩ := h
  constructor
  · cases hd : P.underlying T with
    | none => simp [hd] at h1
    | some d =>
      simp only [isAgg, Sem.run_bind, run_underlying hd, Result.andThen_ok]
      cases d <;> simp [hd] at h1 <;> rfl
  · split at h2
    · rename_i i hi
      simp only [Bool.and_eq_true, beq_iff_eq] at h2
      simp [sizeOf, typeInfo, hi, h2.1]
    · cases h2

end Go.Proofs.YtgjneigkkgaaiaaGreatDoor.Vd

/- VdF -/
namespace Go.Proofs.YtgjneigkkgaaiaaGreatDoor.Vd

variable {P : Program} {E : Env} {ρ : Map} {w : World} {s : S} {a : Act} {K : Ctx} {H : Nat → Option Root}

theorem Al.mono {own : Nat → Own} {d d' : List Nat} (h : ∀ l ∈ d, l ∈ d') {b : Nat} (hb : Al own d b) : Al own d' b := by
  rcases hb with hb | ⟨l, hl, h2⟩
  · exact .inl hb
  · exact .inr ⟨l, h l hl, h2⟩

theorem Rd.al {own : Nat → Own} {d d' : List Nat} (h : ∀ l ∈ d, l ∈ d') {t : Ty} {x : t.D} {vs : List Value} (hr : Rd w (Al own d) t x vs) : Rd w (Al own d') t x vs :=
  Rd.mono (fun _ _ hb => ⟨hb.mono h, rfl⟩) t x vs hr

theorem Rd.free {own : Nat → Own} {d : List Nat} {t : Ty} {x : t.D} {vs : List Value} (hr : Rd w (Free own) t x vs) : Rd w (Al own d) t x vs :=
  Rd.mono (fun _ _ hb => ⟨.inl hb, rfl⟩) t x vs hr

/-- Two owned slices read as data. -/
theorem ArrR.rd {own : Nat → Own} {key : Own} {e : Ty} {xs : List e.D} {EL : Nat → e.D → List Value → Prop} {v : Value} {A : Nat → Prop}
    (h : ArrR w own key e xs EL v) (hk : ∀ b, own b = key → A b) (he : ∀ i x us, xs[i]? = some x → EL i x us → Rd w A e x us) : Rd w A (.sl e) xs [v] := by
  rcases h with ⟨q, rfl, rfl⟩ | ⟨b, cap, vs, T, rfl, h1, h2, h3, h4, h5, h6⟩
  · exact ⟨q, 0, rfl, Nat.le_refl _, fun h => absurd rfl h⟩
  · refine ⟨_, cap, rfl, h1, fun _ => ⟨b, 0, rfl, hk b h3, fun i x hx => ?_⟩⟩
    obtain ⟨us, q1, q2, q3⟩ := h6 i x hx
    refine ⟨us, he i x us hx q3, fun j u hj => ?_⟩
    rw [Nat.zero_add, cell_of_row w b _ vs T (0, 0) h4]
    exact q2 j u hj

theorem DR.rd {own : Nat → Own} {l i : Nat} {A : Nat → Prop} (hA : ∀ b, Al own [l] b → A b) : (t : Ty) → (j : Nat) → (x : t.D) → (us : List Value) → DR w own l i t j x us → Rd w A t x us
  | .sl u, j, ys, us, h => by
    obtain ⟨v, rfl, hu, ha⟩ := h
    exact ha.rd (fun b hb => hA b (.inr ⟨l, by simp, by simp [hb, Own.loc]⟩)) fun i x us _ hr => Rd.flat u x us hu hr
  | .one h, j, x, us, hh => DR.rd hA h j x us hh
  | .cons h t, j, x, us, hh => by
    obtain ⟨v1, v2, rfl, h1, h2⟩ := hh
    exact ⟨v1, v2, rfl, DR.rd hA h j _ _ h1, DR.rd hA t _ _ _ h2⟩
  | .int _, _, _, _, h => h
  | .bool, _, _, _, h => h
  | .str, _, _, _, h => h

theorem EL.rd {own : Nat → Own} {l i : Nat} {d : Bool} {e : Ty} {x : e.D} {us : List Value} {A : Nat → Prop} (hA : ∀ b, Al own [l] b → A b) (h : EL w own l d e i x us) : Rd w A e x us := by
  unfold EL at h
  split at h
  · exact DR.rd hA e 0 x us h
  · exact Rd.mono (fun b _ hb => ⟨hA b (.inl hb), rfl⟩) e x us h

theorem RR.rd {l : Nat} {e : Ty} {xs : List e.D} {d : Bool} {A : Nat → Prop} (hA : ∀ b, Al ρ.own [l] b → A b) (h : RR P ρ w H l (.arr e xs d)) : Rd w A (.sl e) xs [ρ.hdr l] := by
  have h' : ArrR w ρ.own (.main l) e xs (EL w ρ.own l d e) (ρ.hdr l) := h
  exact h'.rd (fun b hb => hA b (.inr ⟨l, by simp, by simp [hb, Own.loc]⟩)) fun i x us _ he => he.rd hA

/-- The first n elements. -/
theorem Rd.take {A : Nat → Prop} {e : Ty} {xs : List e.D} {q : Option Addr} {m c n c' : Nat} (h : Rd w A (.sl e) xs [.slice q m c]) (hn : n ≤ xs.length) (hc : n ≤ c') : Rd w A (.sl e) (xs.take n) [.slice q n c'] := by
  obtain ⟨q', cap, he, h1, h2⟩ := h
  simp only [List.cons.injEq, Value.slice.injEq, and_true] at he
  obtain ⟨rfl, rfl, rfl⟩ := he
  refine ⟨q, c', by simp [hn], by simp; omega, fun hne => ?_⟩
  obtain ⟨b, o, rfl, hb, hi⟩ := h2 (by rintro rfl; simp at hne)
  refine ⟨b, o, rfl, hb, fun i x hx => hi i x ?_⟩
  rw [List.getElem?_take] at hx
  split at hx
  · exact hx
  · cases hx

/-- The elements from n on. -/
theorem Rd.drop {A : Nat → Prop} {e : Ty} {xs : List e.D} {b o m c n c' : Nat} (h : Rd w A (.sl e) xs [.slice (some ⟨b, o, none⟩) m c]) (hc : xs.length - n ≤ c') :
    Rd w A (.sl e) (xs.drop n) [.slice (some ⟨b, o + n * e.size, none⟩) (xs.length - n) c'] := by
  obtain ⟨q', cap, he, h1, h2⟩ := h
  simp only [List.cons.injEq, Value.slice.injEq, and_true] at he
  obtain ⟨rfl, rfl, rfl⟩ := he
  refine ⟨some ⟨b, o + n * e.size, none⟩, c', by simp, by simpa using hc, fun hne => ?_⟩
  obtain ⟨b', o', he, hb, hi⟩ := h2 (by rintro rfl; simp at hne)
  cases he
  refine ⟨b, o + n * e.size, rfl, hb, fun i x hx => ?_⟩
  rw [List.getElem?_drop] at hx
  obtain ⟨us, h3, h4⟩ := hi _ x hx
  refine ⟨us, h3, fun j u hj => ?_⟩
  have := h4 j u hj
  rwa [show o + (n + i) * e.size + j = o + n * e.size + i * e.size + j by rw [Nat.add_mul]; omega] at this

theorem Rd.empty {A : Nat → Prop} {e : Ty} {q : Option Addr} {c : Nat} : Rd w A (.sl e) [] [.slice q 0 c] := ⟨q, c, rfl, Nat.zero_le _, fun h => absurd rfl h⟩

theorem castD_rfl {t : Ty} (x : t.D) : castD rfl x = x := rfl

/-- What is seen of the roots holds of them. -/
def Seen (V : View) (s : S) : Prop := ∀ l r, V.root l = some r → s.root l = some r

theorem Seen.self (s : S) : Seen s.view s := fun _ _ h => h

theorem data0_rd {V : View} (hV : Seen V s) (hroot : ∀ l r, s.root l = some r → RR P ρ w s.root l r) {c : C} {t : Ty} {x : t.D} {d : List Nat} {v : Value}
    (h : V.data0 c t = some (x, d)) (hc : CR P ρ w s.root c v) : Rd w (Al ρ.own d) t x [v] ∧ t.agg = false := by
  cases c with
  | v t' x' deps =>
    simp only [View.data0] at h
    split at h
    · rename_i he
      subst he
      simp only [Option.some.injEq, Prod.mk.injEq] at h
      obtain ⟨rfl, rfl⟩ := h
      exact ⟨hc.2, hc.1⟩
    · cases h
  | nils =>
    simp only [View.data0] at h
    split at h
    · simp only [Option.some.injEq, Prod.mk.injEq] at h
      obtain ⟨rfl, rfl⟩ := h
      obtain ⟨q, rfl⟩ := hc
      exact ⟨Rd.empty, rfl⟩
    · cases h
  | ref l =>
    cases t with
    | sl e =>
      cases hl : V.root l with
      | none => simp [View.data0, hl] at h
      | some r =>
        cases r with
        | arr e' xs d' =>
          simp only [View.data0, hl] at h
          split at h
          · rename_i he
            subst he
            simp only [Option.some.injEq, Prod.mk.injEq] at h
            obtain ⟨rfl, rfl⟩ := h
            obtain ⟨rfl, _⟩ := hc
            exact ⟨RR.rd (fun _ hb => hb) (hroot l _ (hV l _ hl)), rfl⟩
          · cases h
        | _ => simp [View.data0, hl] at h
    | _ => simp [View.data0] at h
  | pre l n =>
    cases t with
    | sl e =>
      cases hl : V.root l with
      | none => simp [View.data0, hl] at h
      | some r =>
        cases r with
        | arr e' xs d' =>
          simp only [View.data0, hl] at h
          split at h
          · rename_i he
            subst he
            simp only [Option.some.injEq, Prod.mk.injEq] at h
            obtain ⟨rfl, rfl⟩ := h
            obtain ⟨q, m, c, h1, rfl, h2⟩ := hc
            have hr := RR.rd (A := Al ρ.own [l]) (fun _ hb => hb) (hroot l _ (hV l _ hl))
            rw [h1] at hr
            have hm : m = xs.length ∧ xs.length ≤ c := by
              obtain ⟨q', cap, he, h1, _⟩ := hr
              simp only [List.cons.injEq, Value.slice.injEq, and_true] at he
              omega
            exact ⟨hr.take (by omega) (by omega), rfl⟩
          · cases h
        | _ => simp [View.data0, hl] at h
    | _ => simp [View.data0] at h
  | ref1 l i j u ys =>
    simp only [View.data0] at h
    split at h
    · rename_i he
      subst he
      simp only [Option.some.injEq, Prod.mk.injEq] at h
      obtain ⟨rfl, rfl⟩ := h
      obtain ⟨e, xs, x, us, h1, h2, h3, h4, h5, _⟩ := hc
      exact ⟨DR.rd (fun _ hb => hb) _ _ _ _ (DR.at e 0 x us h5 j _ _ v h3 h4).1, rfl⟩
    · cases h
  | suf l n e ys =>
    simp only [View.data0] at h
    split at h
    · rename_i he
      subst he
      simp only [Option.some.injEq, Prod.mk.injEq] at h
      obtain ⟨rfl, rfl⟩ := h
      obtain ⟨xs, d, h1, h2, h3, _⟩ := hc
      exact ⟨h3, rfl⟩
    · cases h
  | _ => simp [View.data0] at h

theorem asmBy_rd {f : C → (t : Ty) → Option (t.D × List Nat)} {A : List Nat → Nat → Prop} (hA : ∀ d d' b, (∀ l ∈ d, l ∈ d') → A d b → A d' b)
    (hf : ∀ c (t : Ty) x d v, f c t = some (x, d) → CR P ρ w H c v → Rd w (A d) t x [v]) : (t : Ty) → (cs : List C) → (x : t.D) → (d : List Nat) → (r : List C) → (vs : List Value) →
    asmBy f t cs = some (x, d, r) → CsR P ρ w H cs vs → ∃ v1 v2, vs = v1 ++ v2 ∧ Rd w (A d) t x v1 ∧ CsR P ρ w H r v2
  | .one h, cs, x, d, r, vs, ha, hc => asmBy_rd hA hf h cs x d r vs ha hc
  | .cons h t, cs, x, d, r, vs, ha, hc => by
    simp only [asmBy] at ha
    split at ha
    · rename_i x1 d1 r1 h1
      split at ha
      · rename_i x2 d2 r2 h2
        simp only [Option.some.injEq, Prod.mk.injEq] at ha
        obtain ⟨rfl, rfl, rfl⟩ := ha
        obtain ⟨v1, v2, rfl, g1, g2⟩ := asmBy_rd hA hf h cs x1 d1 r1 vs h1 hc
        obtain ⟨v3, v4, rfl, g3, g4⟩ := asmBy_rd hA hf t r1 x2 d2 r2 v2 h2 g2
        refine ⟨v1 ++ v3, v4, by simp, ⟨v1, v3, rfl, ?_, ?_⟩, g4⟩
        · exact Rd.mono (fun b _ hb => ⟨hA d1 _ b (fun l hl => List.mem_append_left _ hl) hb, rfl⟩) h x1 v1 g1
        · exact Rd.mono (fun b _ hb => ⟨hA d2 _ b (fun l hl => List.mem_append_right _ hl) hb, rfl⟩) t x2 v3 g3
      · cases ha
    · cases ha
  | .int k, cs, x, d, r, vs, ha, hc => asm1 hf _ _ x d r vs (fun c r => by cases hq : f c (.int k) <;> simp [asmBy, hq]) (by simp [asmBy]) ha hc
  | .bool, cs, x, d, r, vs, ha, hc => asm1 hf _ _ x d r vs (fun c r => by cases hq : f c .bool <;> simp [asmBy, hq]) (by simp [asmBy]) ha hc
  | .str, cs, x, d, r, vs, ha, hc => asm1 hf _ _ x d r vs (fun c r => by cases hq : f c .str <;> simp [asmBy, hq]) (by simp [asmBy]) ha hc
  | .sl e, cs, x, d, r, vs, ha, hc => asm1 hf _ _ x d r vs (fun c r => by cases hq : f c (.sl e) <;> simp [asmBy, hq]) (by simp [asmBy]) ha hc
where
  asm1 {f : C → (t : Ty) → Option (t.D × List Nat)} {A : List Nat → Nat → Prop} (hf : ∀ c (t : Ty) x d v, f c t = some (x, d) → CR P ρ w H c v → Rd w (A d) t x [v]) (t : Ty) (cs : List C)
      (x : t.D) (d : List Nat) (r : List C) (vs : List Value) (h1 : ∀ c r, asmBy f t (c :: r) = (f c t).map fun q => (q.1, q.2, r)) (h0 : asmBy f t [] = none)
      (ha : asmBy f t cs = some (x, d, r)) (hc : CsR P ρ w H cs vs) : ∃ v1 v2, vs = v1 ++ v2 ∧ Rd w (A d) t x v1 ∧ CsR P ρ w H r v2 := by
    cases cs with
    | nil => rw [h0] at ha; cases ha
    | cons c cs =>
      rw [h1] at ha
      cases hq : f c t with
      | none => simp [hq] at ha
      | some q =>
        obtain ⟨x', d'⟩ := q
        simp only [hq, Option.map_some, Option.some.injEq, Prod.mk.injEq] at ha
        obtain ⟨rfl, rfl, rfl⟩ := ha
        obtain ⟨v, vs', rfl⟩ : ∃ v vs', vs = v :: vs' := by
          cases vs with
          | nil => have := hc.1; simp at this
          | cons v vs' => exact ⟨v, vs', rfl⟩
        refine ⟨[v], vs', rfl, hf c t _ _ v hq (hc.2 0 c v rfl rfl), by have := hc.1; simpa using this, fun j c' v' hj hv => hc.2 (j + 1) c' v' (by simpa using hj) (by simpa using hv)⟩

theorem litData_rd {V : View} (hV : Seen V s) (hroot : ∀ l r, s.root l = some r → RR P ρ w s.root l r) {e : Ty} : (els : List (List C)) → (xs : List e.D) → (d : List Nat) → V.litData e els = some (xs, d) →
    xs.length = els.length ∧ ∀ (i : Nat) x cs us, xs[i]? = some x → els[i]? = some cs → CsR P ρ w s.root cs us → Rd w (Al ρ.own d) e x us
  | [], xs, d, h => by
    simp only [View.litData, Option.some.injEq, Prod.mk.injEq] at h
    obtain ⟨rfl, rfl⟩ := h
    exact ⟨rfl, fun i x cs us hx => by simp at hx⟩
  | cs0 :: r, xs, d, h => by
    simp only [View.litData] at h
    split at h
    · rename_i x0 d0 h0
      split at h
      · rename_i xs1 d1 h1
        simp only [Option.some.injEq, Prod.mk.injEq] at h
        obtain ⟨rfl, rfl⟩ := h
        obtain ⟨g1, g2⟩ := litData_rd hV hroot r xs1 d1 h1
        refine ⟨by simp [g1], fun i x cs us hx hcs hc => ?_⟩
        cases i with
        | zero =>
          simp at hx hcs
          subst hx
          subst hcs
          obtain ⟨v1, v2, rfl, q1, q2⟩ := asmBy_rd (A := Al ρ.own) (fun d d' b hm hb => hb.mono hm) (fun c t x d v hf hcr => (data0_rd hV hroot hf hcr).1) e cs0 x0 d0 [] us h0 hc
          have : v2 = [] := by have := q2.1; simpa using this.symm
          subst this
          rw [List.append_nil]
          exact q1.al fun l hl => List.mem_append_left _ hl
        | succ i => exact (g2 i x cs us (by simpa using hx) (by simpa using hcs) hc).al fun l hl => List.mem_append_right _ hl
      · cases h
    · cases h

theorem lit_rd {V : View} (hV : Seen V s) (hroot : ∀ l r, s.root l = some r → RR P ρ w s.root l r) {l : Nat} {e : Ty} {els : List (List C)} {xs : List e.D} {d : List Nat}
    (hl : s.root l = some (.lit e els)) (h : V.litData e els = some (xs, d)) : Rd w (Al ρ.own (l :: d)) (.sl e) xs [ρ.hdr l] ∧ ∃ b, ρ.hdr l = .slice (some ⟨b, 0, none⟩) xs.length xs.length := by
  obtain ⟨b, vs, T, h1, h5, h2, h3, h4, h6⟩ := hroot l _ hl
  obtain ⟨g1, g2⟩ := litData_rd hV hroot els xs d h
  rw [h1, ← g1]
  refine ⟨⟨_, _, rfl, Nat.le_refl _, fun _ => ⟨b, 0, rfl, .inr ⟨l, List.mem_cons_self .., by simp [h2, Own.loc]⟩, fun i x hx => ?_⟩⟩, b, rfl⟩
  have hi : i < els.length := by rw [← g1]; exact (List.getElem?_eq_some_iff.1 hx).1
  obtain ⟨q1, q2⟩ := h6 i els[i] (List.getElem?_eq_getElem hi)
  -- the cells of element i
  have hcells : ∀ j, j < e.size → ∃ v, vs[i * e.size + j]? = some v := fun j hj => by
    obtain ⟨v, hv, _⟩ := q2 j (els[i][j]'(by rw [q1]; exact hj)) (List.getElem?_eq_getElem _)
    exact ⟨v, hv⟩
  let us : List Value := (List.range e.size).map fun j => vs.getD (i * e.size + j) undef
  have hus : CsR P ρ w s.root els[i] us := by
    refine ⟨by simp [us, q1], fun j c v hc hv => ?_⟩
    obtain ⟨v', hv', hcr⟩ := q2 j c hc
    have hj : j < e.size := by rw [← q1]; exact (List.getElem?_eq_some_iff.1 hc).1
    simp only [us, List.getElem?_map, List.getElem?_range hj, Option.map_some, Option.some.injEq, Array.getD_eq_getD_getElem?, hv', Option.getD_some] at hv
    subst hv
    exact hcr
  refine ⟨us, (g2 i x els[i] us hx (List.getElem?_eq_getElem hi) hus).al fun l hl => List.mem_cons_of_mem _ hl, fun j u hj => ?_⟩
  have hjs : j < e.size := by have := (List.getElem?_eq_some_iff.1 hj).1; simpa [us] using this
  obtain ⟨v, hv⟩ := hcells j hjs
  simp only [us, List.getElem?_map, List.getElem?_range hjs, Option.map_some, Option.some.injEq, Array.getD_eq_getD_getElem?, hv, Option.getD_some] at hj
  subst hj
  rw [Nat.zero_add, cell_of_row w b _ vs T (0, 0) h3]
  exact hv

theorem data_rd {V : View} (hV : Seen V s) (hroot : ∀ l r, s.root l = some r → RR P ρ w s.root l r) {c : C} {t : Ty} {x : t.D} {d : List Nat} {v : Value}
    (h : V.data c t = some (x, d)) (hc : CR P ρ w s.root c v) : Rd w (Al ρ.own d) t x [v] ∧ t.agg = false := by
  cases c with
  | ref l =>
    cases t with
    | sl e =>
      cases hl : V.root l with
      | none => exact data0_rd hV hroot (by simpa [View.data, hl] using h) hc
      | some r =>
        cases r with
        | lit e' els =>
          simp only [View.data, hl] at h
          split at h
          · rename_i he
            subst he
            split at h
            · rename_i xs d' hd
              simp only [Option.some.injEq, Prod.mk.injEq] at h
              obtain ⟨rfl, rfl⟩ := h
              obtain ⟨rfl, _⟩ := hc
              exact ⟨(lit_rd hV hroot (hV l _ hl) hd).1, rfl⟩
            · cases h
          · cases h
        | _ => exact data0_rd hV hroot (by simpa [View.data, hl] using h) hc
    | _ => exact data0_rd hV hroot (by simpa [View.data] using h) hc
  | _ => exact data0_rd hV hroot (by simpa [View.data] using h) hc

theorem asm_rd {V : View} (hV : Seen V s) (hroot : ∀ l r, s.root l = some r → RR P ρ w s.root l r) {t : Ty} {cs : List C} {x : t.D} {d : List Nat} {vs : List Value}
    (h : V.asm t cs = some (x, d, [])) (hc : CsR P ρ w s.root cs vs) : Rd w (Al ρ.own d) t x vs := by
  obtain ⟨v1, v2, rfl, q1, q2⟩ := asmBy_rd (A := Al ρ.own) (fun d d' b hm hb => hb.mono hm) (fun c t x d v hf hcr => (data_rd hV hroot hf hcr).1) t cs x d [] vs h hc
  have : v2 = [] := by have := q2.1; simpa using this.symm
  subst this
  rwa [List.append_nil]

/-- A value as a datum. -/
theorem asData_vd {V : View} (hV : Seen V s) (hroot : ∀ l r, s.root l = some r → RR P ρ w s.root l r) {t : Ty} {A : A} {x : t.D} {d : List Nat} {v : Value}
    (h : V.asData t A = some (x, d)) (ha : AR P ρ w s.root A v) : VD w (Al ρ.own d) t x v := by
  unfold View.asData at h
  split at h
  · rename_i g cs
    split at h
    · rename_i hg
      split at h
      · rename_i x' d' hx
        simp only [Option.some.injEq, Prod.mk.injEq] at h
        obtain ⟨rfl, rfl⟩ := h
        obtain ⟨vs, hc, hv⟩ := ha
        rw [hg] at hv
        refine ⟨vs, asm_rd hV hroot hx hc, ?_⟩
        split <;> rename_i hq <;> simpa [hq] using hv
      · cases h
    · cases h
  · cases h

end Go.Proofs.YtgjneigkkgaaiaaGreatDoor.Vd

/- VdG -/
namespace Go.Proofs.YtgjneigkkgaaiaaGreatDoor.Vd

variable {P : Program} {E : Env} {ρ : Map} {w : World} {s : S} {a : Act} {K : Ctx} {H : Nat → Option Root}

theorem AR.int {k : IntKind} {n : Int} {d : List Nat} {v : Value} (h : AR P ρ w H (.val false [.v (.int k) n d]) v) : v = .int k n := by
  have h' := VR.cell h
  have h2 := h'.2
  simp only [Rd, List.cons.injEq, and_true] at h2
  exact h2

theorem AR.bool {b : Bool} {d : List Nat} {v : Value} (h : AR P ρ w H (.val false [.v .bool b d]) v) : v = .bool b := by
  have h' := VR.cell h
  have h2 := h'.2
  simp only [Rd, List.cons.injEq, and_true] at h2
  exact h2

theorem AR.str {b : ByteArray} {d : List Nat} {v : Value} (h : AR P ρ w H (.val false [.v .str b d]) v) : v = .string b := by
  have h' := VR.cell h
  have h2 := h'.2
  simp only [Rd, List.cons.injEq, and_true] at h2
  exact h2

theorem AR.ofInt (k : IntKind) (n : Int) (d : List Nat) : AR P ρ w H (.c (.v (.int k) n d)) (.int k n) := VR.one ⟨rfl, rfl⟩
theorem AR.ofBool (b : Bool) (d : List Nat) : AR P ρ w H (.c (.v .bool b d)) (.bool b) := VR.one ⟨rfl, rfl⟩
theorem AR.ofStr (b : ByteArray) (d : List Nat) : AR P ρ w H (.c (.v .str b d)) (.string b) := VR.one ⟨rfl, rfl⟩

theorem AR.slice1 {e : Ty} {xs : List e.D} {d : List Nat} {v : Value} (h : AR P ρ w H (.val false [.v (.sl e) xs d]) v) : ∃ q c, v = .slice q xs.length c ∧ xs.length ≤ c := by
  obtain ⟨_, q, c, hv, hc, _⟩ := VR.cell h
  simp only [List.cons.injEq, and_true] at hv
  exact ⟨q, c, hv, hc⟩

/-- A slice as data. -/
theorem slData_rd {V : View} (hV : Seen V s) (hroot : ∀ l r, s.root l = some r → RR P ρ w s.root l r) {A : A} {e : Ty} {xs : List e.D} {d : List Nat} {v : Value}
    (h : V.slData A = some ⟨e, xs, d⟩) (ha : AR P ρ w s.root A v) : Rd w (Al ρ.own d) (.sl e) xs [v] := by
  unfold View.slData at h
  split at h
  · simp only [Option.some.injEq] at h
    cases h
    exact (VR.cell ha).2
  · rename_i l
    have hc := VR.cell ha
    split at h
    · rename_i e' xs' d' hl
      simp only [Option.some.injEq] at h
      cases h
      exact (data0_rd (c := .ref l) (t := .sl e) (x := xs) (d := [l]) hV hroot (by simp [View.data0, hl, castD]) hc).1
    · rename_i e' els hl
      split at h
      · rename_i xs' d' hd
        simp only [Option.some.injEq] at h
        cases h
        obtain ⟨rfl, _⟩ := hc
        exact (lit_rd hV hroot (hV l _ hl) hd).1
      · cases h
    · cases h
  · rename_i l n
    have hc := VR.cell ha
    split at h
    · rename_i e' xs' d' hl
      simp only [Option.some.injEq] at h
      cases h
      exact (data0_rd (c := .pre l n) (t := .sl e) (x := xs'.take n) (d := [l]) hV hroot (by simp [View.data0, hl, castD]) hc).1
    · cases h
  · rename_i l i j u ys
    have hc := VR.cell ha
    simp only [Option.some.injEq] at h
    cases h
    exact (data0_rd (c := .ref1 l i j e xs) (t := .sl e) (x := xs) (d := [l]) hV hroot (by simp [View.data0, castD]) hc).1
  · have hc := VR.cell ha
    simp only [Option.some.injEq] at h
    cases h
    obtain ⟨_, _, _, _, h3, _⟩ := hc
    exact h3
  · cases h

theorem Rd.slice {A : Nat → Prop} {e : Ty} {xs : List e.D} {v : Value} (h : Rd w A (.sl e) xs [v]) : ∃ q c, v = .slice q xs.length c ∧ xs.length ≤ c := by
  obtain ⟨q, c, hv, hc, _⟩ := h
  simp only [List.cons.injEq, and_true] at hv
  exact ⟨q, c, hv, hc⟩

/-! ### binary operations -/

theorem run_binOp {o : Oper} {op : BinOp} {T yT : TypeId} {x y : Operand} (ho : o.op = .binOp op T x y yT) {v : Value} {w' : World}
    (hg : ((eqGuard op T x y (a.eval x) (a.eval y)).run P w) = .ok () w) (hb : (binOp op T (a.eval x) (a.eval y)).run P w = .ok v w') : (execOp a.eval o).run P w = .ok (.value v) w' := by
  simp [execOp, ho, hg, hb]

theorem eqGuard_int (op : BinOp) (T : TypeId) (x y : Operand) (k : IntKind) (n : Int) (v : Value) : (eqGuard op T x y (.int k n) v).run P w = .ok () w := by
  rw [eqGuard_at_int]; rfl

theorem binI_sound (hR : Rel P K ρ s a w) {o : Oper} {op : BinOp} {T yT : TypeId} {x y : Operand} (ho : o.op = .binOp op T x y yT) {k : IntKind} {m n : Int}
    (hx : a.eval x = .int k m) (hy : a.eval y = .int k n) : Sound P K s a w o (binI op k m n) := by
  have hg := eqGuard_int (P := P) (w := w) op T x y k m (a.eval y)
  rw [← hx] at hg
  have fin : ∀ (A : A) (v : Value), (binOp op T (a.eval x) (a.eval y)).run P w = .ok v w → AR P ρ w s.root A v → Sound P K s a w o (.ret { dst := A }) :=
    fun A v hb ha => Sound.value hR (run_binOp ho hg hb) ha
  cases op with
  | add => exact fin _ (.int k (k.wrap (m + n))) (by simp [hx, hy, binOp, Op.intArith]) (AR.ofInt _ _ _)
  | sub => exact fin _ (.int k (k.wrap (m - n))) (by simp [hx, hy, binOp, Op.intArith]) (AR.ofInt _ _ _)
  | mul => exact fin _ (.int k (k.wrap (m * n))) (by simp [hx, hy, binOp, Op.intArith]) (AR.ofInt _ _ _)
  | quo =>
    refine Sound.guard fun hn => ?_
    have hn' : n ≠ 0 := by simpa using hn
    exact fin _ (.int k (k.wrap (m.tdiv n))) (by simp [hx, hy, binOp, Op.intDiv, hn']) (AR.ofInt _ _ _)
  | rem =>
    refine Sound.guard fun hn => ?_
    have hn' : n ≠ 0 := by simpa using hn
    exact fin _ (.int k (m.tmod n)) (by simp [hx, hy, binOp, Op.intDiv, hn']) (AR.ofInt _ _ _)
  | and => exact fin _ (.int k (bits .and k m n)) (by simp [hx, hy, binOp, Op.intBits, bits]) (AR.ofInt _ _ _)
  | or => exact fin _ (.int k (bits .or k m n)) (by simp [hx, hy, binOp, Op.intBits, bits]) (AR.ofInt _ _ _)
  | xor => exact fin _ (.int k (bits .xor k m n)) (by simp [hx, hy, binOp, Op.intBits, bits]) (AR.ofInt _ _ _)
  | andNot => exact fin _ (.int k (bits .andNot k m n)) (by simp [hx, hy, binOp, Op.intBits, bits]) (AR.ofInt _ _ _)
  | eql => exact fin _ (.bool (m == n)) (by simp [hx, hy, binOp, Op.intCmp]) (AR.ofBool _ _)
  | neq => exact fin _ (.bool (m != n)) (by simp [hx, hy, binOp, Op.intCmp]) (AR.ofBool _ _)
  | lss => exact fin _ (.bool (decide (m < n))) (by simp [hx, hy, binOp, Op.intCmp]) (AR.ofBool _ _)
  | leq => exact fin _ (.bool (decide (m ≤ n))) (by simp [hx, hy, binOp, Op.intCmp]) (AR.ofBool _ _)
  | gtr => exact fin _ (.bool (decide (m > n))) (by simp [hx, hy, binOp, Op.intCmp]) (AR.ofBool _ _)
  | geq => exact fin _ (.bool (decide (m ≥ n))) (by simp [hx, hy, binOp, Op.intCmp]) (AR.ofBool _ _)
  | _ => exact Sound.fail

theorem eqD_pair (x y : pairTy.D) : eqD pairTy x y = (@BEq.beq Int _ x.1 y.1 && @BEq.beq Int _ x.2 y.2) := rfl

theorem pair_spec {T : TypeId} (h : pairOK P T = true) : ∃ f g, P.underlying T = some (.struct #[f, g]) ∧ f.name ≠ "_" ∧ g.name ≠ "_" ∧ f.offset = 0 ∧ g.offset = 1 ∧
    P.underlying f.type = some (.int .i64) ∧ P.underlying g.type = some (.int .i64) ∧ P.stoodInHeld T = false ∧ P.eqGuardType P.depth T = false := by
  unfold pairOK at h
  split at h
  · rename_i fs hd
    simp only [Bool.and_eq_true, Bool.not_eq_true'] at h
    obtain ⟨⟨h1, h2⟩, h3⟩ := h
    split at h1
    · rename_i f g hfs
      simp only [Bool.and_eq_true, bne_iff_ne, beq_iff_eq] at h1
      obtain ⟨⟨⟨⟨hf, hg⟩, of⟩, og⟩, ht⟩ := h1
      split at ht
      · rename_i hfT hgT
        have hfs' : fs = #[f, g] := by
          cases fs
          simpa using hfs
        subst hfs'
        exact ⟨f, g, hd, hf, hg, of, og, hfT, hgT, h2, h3⟩
      · cases ht
    · cases h1
  · cases h

theorem pair_equal {T : TypeId} (h : pairOK P T = true) (x1 x2 y1 y2 : Int) (w : World) :
    (Op.equalIn 10000 T (.agg #[.int .i64 x1, .int .i64 x2]) (.agg #[.int .i64 y1, .int .i64 y2])).run P w = .ok ((x1 == y1) && (x2 == y2)) w := by
  obtain ⟨f, g, hd, hf, hg, of, og, hfT, hgT, h2, h3⟩ := pair_spec h
  have hfs : P.fieldsOf T = #[f, g] := by simp [Program.fieldsOf, hd]
  have hAf : ∀ w, (isAgg f.type).run P w = .ok false w := fun w => by simp [isAgg, run_underlying hfT]
  have hAg : ∀ w, (isAgg g.type).run P w = .ok false w := fun w => by simp [isAgg, run_underlying hgT]
  rw [show (10000 : Nat) = 9999 + 1 from rfl, run_equalIn_struct w 9999 T _ _ (by rw [hfs]; exact hd) h2, hfs]
  have e1 : ∀ w (a b : Int), (Op.equalIn 9999 f.type (.int .i64 a) (.int .i64 b)).run P w = .ok (a == b) w := fun w a b => run_equalIn_int w 9998 f.type .i64 .i64 a b hfT
  have e2 : ∀ w (a b : Int), (Op.equalIn 9999 g.type (.int .i64 a) (.int .i64 b)).run P w = .ok (a == b) w := fun w a b => run_equalIn_int w 9998 g.type .i64 .i64 a b hgT
  have p1 : ∀ w (a b : Int), (part f.type #[.int .i64 a, .int .i64 b] f.offset).run P w = .ok (.int .i64 a) w := fun w a b => by simp [part, hAf, of]
  have p2 : ∀ w (a b : Int), (part g.type #[.int .i64 a, .int .i64 b] g.offset).run P w = .ok (.int .i64 b) w := fun w a b => by simp [part, hAg, og]
  simp only [Op.eqFields, ne_eq, hf, hg, not_false_eq_true, if_true, Sem.run_bind, Sem.run_ite, p1, p2, e1, e2, Result.andThen_ok, Sem.run_pure]
  cases x1 == y1 <;> cases x2 == y2 <;> simp

theorem pair_cells {A : Nat → Prop} {x : pairTy.D} {v : Value} (h : VD w A pairTy x v) : v = .agg #[.int .i64 x.1, .int .i64 x.2] := by
  obtain ⟨vs, h1, h2⟩ := h
  obtain ⟨v1, v2, rfl, h3, h4⟩ := h1
  simp only [Rd] at h3 h4
  subst h3
  subst h4
  simpa [pairTy, Ty.agg] using h2

theorem binR_sound (hR : Rel P K ρ s a w) (hT : TyOK P E) {V : View} (hV : Seen V s) {o : Oper} {op : BinOp} {T yT : TypeId} {x y : Operand} (ho : o.op = .binOp op T x y yT) {X Y : A}
    (hx : AR P ρ w s.root X (a.eval x)) (hy : AR P ρ w s.root Y (a.eval y)) : Sound P K s a w o (binR E op T X Y V) := by
  unfold binR
  split
  · rename_i k m d k' n d'
    have ex := hx.int
    have ey := hy.int
    have hg := eqGuard_int (P := P) (w := w) op T x y k m (a.eval y)
    rw [← ex] at hg
    split
    · refine Sound.guard fun hn => ?_
      have hn' : ¬ (n : Int) < 0 := Int.not_lt.2 (of_decide_eq_true hn)
      exact Sound.value hR (run_binOp ho hg (v := .int k (shl k m n)) (by simp [ex, ey, binOp, Op.shift, hn', shl])) (AR.ofInt _ _ _)
    · refine Sound.guard fun hn => ?_
      have hn' : ¬ (n : Int) < 0 := Int.not_lt.2 (of_decide_eq_true hn)
      exact Sound.value hR (run_binOp ho hg (v := .int k (shr k m n)) (by simp [ex, ey, binOp, Op.shift, hn', shr])) (AR.ofInt _ _ _)
    · split
      · rename_i hk
        subst hk
        exact binI_sound hR ho ex ey
      · exact Sound.fail
  · rename_i m d n d'
    have ex := hx.bool
    have ey := hy.bool
    have hg : (eqGuard op T x y (a.eval x) (a.eval y)).run P w = .ok () w := by rw [ex, eqGuard_at_bool]; rfl
    split
    · rename_i hTb
      have hu := shp.bool (hT.ty T _ hTb)
      have he : (Op.equal T (.bool m) (.bool n)).run P w = .ok (m == n) w := by
        rw [Op.equal, show Op.maxDepth = 9999 + 1 from rfl]
        exact run_equalIn_bool' w 9999 T m n hu
      split
      · exact Sound.value hR (run_binOp ho hg (v := .bool (m == n)) (by rw [ex, ey]; simp [binOp, he])) (AR.ofBool _ _)
      · exact Sound.value hR (run_binOp ho hg (v := .bool (!(m == n))) (by rw [ex, ey]; simp [binOp, he])) (AR.ofBool _ _)
      · exact Sound.fail
    · exact Sound.fail
  · rename_i m d n d'
    have ex := hx.str
    have ey := hy.str
    have hg : (eqGuard op T x y (a.eval x) (a.eval y)).run P w = .ok () w := by rw [ex, eqGuard_at_string]; rfl
    split
    · refine Sound.guard fun hn => ?_
      have hn0 : ByteArray.size m + ByteArray.size n ≤ 68719476736 := of_decide_eq_true hn
      have hn' : ¬ ((ByteArray.size m + ByteArray.size n : Nat) : Int) > IntKind.i64.max := by
        rw [IntKind.max_i64]
        omega
      exact Sound.value hR (run_binOp ho hg (v := .string (m ++ n)) (by rw [ex, ey]; simp only [binOp, Op.stringOp]; rw [if_neg hn']; rfl)) (AR.ofStr _ _)
    · exact Sound.value hR (run_binOp ho hg (v := .bool (m.toList == n.toList)) (by simp [ex, ey, binOp, Op.stringOp])) (AR.ofBool _ _)
    · exact Sound.value hR (run_binOp ho hg (v := .bool (!(m.toList == n.toList))) (by simp [ex, ey, binOp, Op.stringOp])) (AR.ofBool _ _)
    · exact Sound.fail
  · split
    · rename_i hp
      have hpo := hT.pair T hp
      split
      · rename_i p d q d' hpx hqy
        have ex := pair_cells (asData_vd hV hR.root hpx hx)
        have ey := pair_cells (asData_vd hV hR.root hqy hy)
        have hg : (eqGuard op T x y (a.eval x) (a.eval y)).run P w = .ok () w := by
          rw [ex, ey]
          obtain ⟨_, _, _, _, _, _, _, _, _, _, h3⟩ := pair_spec hpo
          exact run_eqGuard_agg w op T x y _ _ h3
        split
        · exact Sound.value hR (run_binOp ho hg (v := .bool (eqD pairTy p q)) (by rw [ex, ey, run_eql_struct, pair_equal hpo]; rfl)) (AR.ofBool _ _)
        · exact Sound.value hR (run_binOp ho hg (v := .bool (!(eqD pairTy p q))) (by rw [ex, ey, run_neq_struct, pair_equal hpo]; rfl)) (AR.ofBool _ _)
        · exact Sound.fail
      · exact Sound.fail
    · exact Sound.fail
  · exact Sound.fail

end Go.Proofs.YtgjneigkkgaaiaaGreatDoor.Vd

/- VdH -/
namespace Go.Proofs.YtgjneigkkgaaiaaGreatDoor.Vd

variable {P : Program} {E : Env} {ρ : Map} {w : World} {s : S} {a : Act} {K : Ctx} {H : Nat → Option Root}

theorem nilT_sound (hR : Rel P K ρ s a w) (hT : TyOK P E) {V : View} (hV : Seen V s) {o : Oper} {op : BinOp} {T yT : TypeId} {x : Operand} (ho : o.op = .binOp op T x (.const (.slice none 0 0)) yT) {X : A}
    (hx : AR P ρ w s.root X (a.eval x)) : Sound P K s a w o (nilT E op T X V) := by
  unfold nilT
  split
  · rename_i e hTe
    obtain ⟨T', hu, _⟩ := shp.slice (hT.ty T _ hTe)
    have key : ∀ yes, (∀ b : Bool, (binOp op T (a.eval x) (.slice none 0 0)).run P w = .ok (.bool b) w → True) →
        (∀ q n c, (binOp op T (.slice q n c) (.slice none 0 0)).run P w = .ok (.bool (if q.isNone then yes else !yes)) w) → Sound P K s a w o (nilR yes X V) := by
      intro yes _ hb
      unfold nilR
      split
      · rename_i e' xs d hd
        obtain ⟨q, c, hv, _⟩ := (slData_rd hV hR.root hd hx).slice
        have hg : (eqGuard op T x (.const (.slice none 0 0)) (a.eval x) (a.eval (.const (.slice none 0 0)))).run P w = .ok () w := by rw [hv, eqGuard_at_slice]; rfl
        have run : (execOp a.eval o).run P w = .ok (.value (.bool (if q.isNone then yes else !yes))) w := run_binOp ho hg (by rw [hv]; exact hb q _ c)
        have hne : xs.isEmpty = false → q.isNone = false := by
          intro hxs
          obtain ⟨q', c', he, _, hr⟩ := slData_rd hV hR.root hd hx
          rw [hv] at he
          simp only [List.cons.injEq, Value.slice.injEq, and_true] at he
          obtain ⟨b, o, hq, _⟩ := hr (by rintro rfl; simp at hxs)
          rw [he.1, hq]
          rfl
        refine Sound.ite (fun _ => ?_) (fun hxs => ?_)
        · cases hq : q.isNone with
          | true => rw [hq] at run; exact Sound.ambL (Sound.value hR run (AR.ofBool _ _))
          | false => rw [hq] at run; exact Sound.ambR (Sound.value hR run (AR.ofBool _ _))
        · rw [hne hxs] at run
          exact Sound.value hR run (AR.ofBool _ _)
      · exact Sound.fail
    have he : ∀ q n c, (Op.equal T (.slice q n c) (.slice none 0 0)).run P w = .ok q.isNone w := by
      intro q n c
      rw [Op.equal, show Op.maxDepth = 9999 + 1 from rfl]
      generalize 9999 = k
      cases q <;> simp [Op.equalIn, run_underlying hu]
    split
    · exact key true (fun _ _ => trivial) fun q n c => by cases q <;> simp [binOp, he]
    · exact key false (fun _ _ => trivial) fun q n c => by cases q <;> simp [binOp, he]
    · exact Sound.fail
  · exact Sound.fail

theorem move_sound (hR : Rel P K ρ s a w) {o : Oper} {x : Operand} (ho : o.op = .move x ∨ o.op = .assign x) {X : A} (hx : AR P ρ w s.root X (a.eval x)) : Sound P K s a w o (.ret { dst := X }) :=
  Sound.value hR (by rcases ho with ho | ho <;> simp [execOp, ho]) hx

theorem pick_sound (hR : Rel P K ρ s a w) {o : Oper} {c x y : Operand} (ho : o.op = .pick c x y) {b : Bool} {d : List Nat} {X Y : A} (hc : AR P ρ w s.root (.val false [.v .bool b d]) (a.eval c))
    (hx : AR P ρ w s.root X (a.eval x)) (hy : AR P ρ w s.root Y (a.eval y)) : Sound P K s a w o (.ite b (.ret { dst := X }) (.ret { dst := Y })) := by
  have ec := hc.bool
  refine Sound.ite (fun hb => ?_) (fun hb => ?_)
  · exact Sound.value hR (v := a.eval x) (by simp [execOp, ho, ec, asBool, hb]) hx
  · exact Sound.value hR (v := a.eval y) (by simp [execOp, ho, ec, asBool, hb]) hy

theorem unR_sound (hR : Rel P K ρ s a w) {o : Oper} {op : UnOp} {T : TypeId} {x : Operand} (ho : o.op = .unOp op T x) {X : A} (hx : AR P ρ w s.root X (a.eval x)) : Sound P K s a w o (unR op X) := by
  unfold unR
  split
  · have ex := hx.bool
    exact Sound.value hR (by simp [execOp, ho, ex, Op.unary]) (AR.ofBool _ _)
  · rename_i k n d
    have ex := hx.int
    exact Sound.value hR (v := .int k (k.wrap (0 - n))) (by simp [execOp, ho, ex, Op.unary, Op.intArith]) (AR.ofInt _ _ _)
  · rename_i k n d
    have ex := hx.int
    exact Sound.value hR (v := .int k (bits .xor k (if k.signed then -1 else k.max) n)) (by simp [execOp, ho, ex, Op.unary, Op.intBits, bits]) (AR.ofInt _ _ _)
  · exact Sound.fail

theorem lenR_sound (hR : Rel P K ρ s a w) (hT : TyOK P E) {V : View} (hV : Seen V s) {o : Oper} {T : TypeId} {x : Operand} (ho : o.op = .call { callee := .builtin .len, args := #[x], argTypes := #[T] }) {X : A}
    (hx : AR P ρ w s.root X (a.eval x)) : Sound P K s a w o (lenR E T X V) := by
  have hsl : ∀ q n c e, E.T T = some (.sl e) → a.eval x = .slice q n c → (execOp a.eval o).run P w = .ok (.value (.int .i64 (n : Int))) w := by
    intro q n c e he hv
    obtain ⟨T', hu, _⟩ := shp.slice (hT.ty T _ he)
    simp [execOp, ho, resolve, invoke, builtin, hv, Builtin.len_, run_underlying hu, goInt]
  unfold lenR
  split
  · rename_i he
    split
    · rename_i b d
      have ex := hx.str
      have hu := shp.str (hT.ty T _ he)
      exact Sound.value hR (v := .int .i64 (ByteArray.size b : Int)) (by simp [execOp, ho, resolve, invoke, builtin, ex, Builtin.len_, run_underlying hu, goInt]) (AR.ofInt _ _ _)
    · exact Sound.fail
  · rename_i e he
    split
    · rename_i xs d
      obtain ⟨q, c, hv, _⟩ := AR.slice1 hx
      exact Sound.value hR (hsl q _ c e he hv) (AR.ofInt _ _ _)
    · obtain ⟨q, hv⟩ := VR.cell hx
      exact Sound.value hR (hsl q 0 0 e he hv) (AR.ofInt _ _ _)
    · rename_i l
      obtain ⟨hv, _⟩ := VR.cell hx
      split
      · rename_i e' xs d hl
        obtain ⟨q, c, hh, _⟩ := (RR.rd (A := Al ρ.own [l]) (fun _ hb => hb) (hR.root l _ (hV l _ hl))).slice
        rw [hh] at hv
        exact Sound.value hR (hsl q _ c e he hv) (AR.ofInt _ _ _)
      · rename_i e' els hl
        obtain ⟨b, vs, TT, h1, _⟩ := hR.root l _ (hV l _ hl)
        rw [h1] at hv
        exact Sound.value hR (hsl _ _ _ e he hv) (AR.ofInt _ _ _)
      · exact Sound.fail
    · rename_i l n
      obtain ⟨q, m, c, _, hv, _⟩ := VR.cell hx
      exact Sound.value hR (hsl q n c e he hv) (AR.ofInt _ _ _)
    · rename_i l i j u ys
      have hr := (data0_rd (c := .ref1 l i j u ys) (t := .sl u) (x := ys) (d := [l]) hV hR.root (by simp [View.data0, castD]) (VR.cell hx)).1
      obtain ⟨q, c, hv, _⟩ := hr.slice
      exact Sound.value hR (hsl q _ c e he hv) (AR.ofInt _ _ _)
    · obtain ⟨_, _, _, _, hr, _⟩ := VR.cell hx
      obtain ⟨q, c, hv, _⟩ := hr.slice
      exact Sound.value hR (hsl q _ c e he hv) (AR.ofInt _ _ _)
    · exact Sound.fail
  · exact Sound.fail

theorem minmaxR_sound (hR : Rel P K ρ s a w) {o : Oper} {mx : Bool} {x y : Operand} {ts : Array TypeId} (ho : o.op = .call { callee := .builtin (if mx then .max else .min), args := #[x, y], argTypes := ts }) {X Y : A}
    (hx : AR P ρ w s.root X (a.eval x)) (hy : AR P ρ w s.root Y (a.eval y)) : Sound P K s a w o (minmaxR mx [X, Y]) := by
  unfold minmaxR
  split
  · rename_i k m d k' n d' heq
    simp only [List.cons.injEq, and_true] at heq
    obtain ⟨rfl, rfl⟩ := heq
    have ex := hx.int
    have ey := hy.int
    cases mx
    · exact Sound.value hR (v := .int k (if (n : Int) < m then n else m)) (by simp [execOp, ho, resolve, invoke, builtin, ex, ey, Builtin.min_, Builtin.min2]) (AR.ofInt _ _ _)
    · exact Sound.value hR (v := .int k (if (m : Int) < n then n else m)) (by simp [execOp, ho, resolve, invoke, builtin, ex, ey, Builtin.max_, Builtin.max2]) (AR.ofInt _ _ _)
  · exact Sound.fail

theorem indexR_sound (hR : Rel P K ρ s a w) (hT : TyOK P E) {o : Oper} {T : TypeId} {x y : Operand} (ho : o.op = .index T x y) {X Y : A}
    (hx : AR P ρ w s.root X (a.eval x)) (hy : AR P ρ w s.root Y (a.eval y)) : Sound P K s a w o (indexR E T X Y) := by
  unfold indexR
  split
  · rename_i b d i hi hTs
    have hu := shp.str (hT.ty T _ hTs)
    have ex := hx.str
    unfold asInt at hi
    split at hi
    · rename_i k n d'
      simp only [Option.some.injEq] at hi
      subst hi
      have ey := hy.int
      refine Sound.bnd fun c hc => ?_
      split at hc
      · rename_i h0
        have h0' : 0 ≤ (n : Int) := h0
        exact Sound.value hR (v := .int .u8 (c.toNat : Int)) (by simp [execOp, ho, Instr.index, ex, ey, asIntOf, run_underlying hu, h0', hc]) (AR.ofInt _ _ _)
      · cases hc
    · cases hi
  · exact Sound.fail

end Go.Proofs.YtgjneigkkgaaiaaGreatDoor.Vd

/- VdI -/
namespace Go.Proofs.YtgjneigkkgaaiaaGreatDoor.Vd

variable {P : Program} {E : Env} {ρ : Map} {w : World} {s : S} {a : Act} {K : Ctx} {H : Nat → Option Root}

theorem bytes_cells {A : Nat → Prop} {xs : List Int} {q : Option Addr} {c n : Nat} (h : Rd w A (.sl (.int .u8)) xs [.slice q n c]) :
    n = xs.length ∧ (xs = [] ∨ ∃ b o, q = some ⟨b, o, none⟩ ∧ ∀ i, i < xs.length → w.cell? ⟨b, o + i, none⟩ = some (.int .u8 (xs.getD i 0))) := by
  obtain ⟨q', c', he, _, hr⟩ := h
  simp only [List.cons.injEq, Value.slice.injEq, and_true] at he
  refine ⟨he.2.1, ?_⟩
  by_cases hx : xs = []
  · exact .inl hx
  · obtain ⟨b, o, hq, _, hi⟩ := hr hx
    refine .inr ⟨b, o, he.1.trans hq, fun i hlt => ?_⟩
    obtain ⟨us, hu, hc⟩ := hi i xs[i] (List.getElem?_eq_getElem hlt)
    simp only [Rd] at hu
    subst hu
    have := hc 0 _ rfl
    simp only [Ty.size, Nat.mul_one, Nat.add_zero] at this
    rw [this]
    simp [hlt]

theorem convR_sound (hR : Rel P K ρ s a w) (hT : TyOK P E) {V : View} (hV : Seen V s) {o : Oper} {S T : TypeId} {x : Operand} (ho : o.op = .convert S T x) {X : A}
    (hx : AR P ρ w s.root X (a.eval x)) : Sound P K s a w o (convR E S T X V) := by
  unfold convR
  split
  · rename_i k0 k k1 n d hS hD
    have us := shp.int (hT.ty S _ hS)
    have ud := shp.int (hT.ty T _ hD)
    have ex := hx.int
    exact Sound.value hR (v := .int k (k.wrap n)) (by simp [execOp, ho, ex, convert, run_underlying us, run_underlying ud, Conv.intToInt]) (AR.ofInt _ _ _)
  · rename_i b d hS hD
    have us := shp.str (hT.ty S _ hS)
    have ud := shp.str (hT.ty T _ hD)
    have ex := hx.str
    exact Sound.value hR (v := .string b) (by simp [execOp, ho, ex, convert, run_underlying us, run_underlying ud]) (AR.ofStr _ _)
  · rename_i hS hD
    obtain ⟨e, us, he⟩ := shp.slice (hT.ty S _ hS)
    have ue := shp.int he
    have ud := shp.str (hT.ty T _ hD)
    split
    · rename_i xs d hd
      have hr := slData_rd hV hR.root hd hx
      obtain ⟨q, c, hv, _⟩ := hr.slice
      rw [hv] at hr
      obtain ⟨_, hb⟩ := bytes_cells hr
      have hstr : strOfNums xs = strOf xs := rfl
      rcases hb with rfl | ⟨b, o', rfl, hc⟩
      · have hload : (loadCells (q.getD default) 0).run P w = .ok (([] : List Int).map (Value.int .u8)).toArray w := by simp [loadCells, loadCellsFrom]
        refine Sound.value hR (v := .string (strOf [])) ?_ (AR.ofStr _ _)
        simp only [execOp, ho, hv, Sem.run_bind]
        cases q with
        | none => rw [run_convert_bytes_nil w S e us ue _ _ T ud]; rfl
        | some q => 
          rw [run_convert_bytes_string w S T e _ _ c us ue ud]
          have h2 := run_bytesToString (P := P) w q 0 c [] (by simp [loadCells, loadCellsFrom])
          rw [show ([] : List Int).length = 0 from rfl, h2]; rfl
      · refine Sound.value hR (v := .string (strOf xs)) ?_ (AR.ofStr _ _)
        simp only [execOp, ho, hv, Sem.run_bind]
        rw [run_convert_bytes_arg w S e us ue b o' xs.length c xs rfl hc T ud]
        rfl
    · exact Sound.fail
  · exact Sound.fail

theorem extract_sound (hR : Rel P K ρ s a w) {o : Oper} {x : Operand} {i : Nat} (ho : o.op = .extract x i) {vs : List (Bool × List C)} {g : Bool} {cs : List C} (hi : vs[i]? = some (g, cs))
    (hx : AR P ρ w s.root (.tup vs) (a.eval x)) : Sound P K s a w o (.ret { dst := .val g cs }) := by
  obtain ⟨us, hu, hl, hr⟩ := hx
  obtain ⟨u, hui⟩ : ∃ u, us[i]? = some u := by
    have : i < us.length := by rw [← hl]; exact (List.getElem?_eq_some_iff.1 hi).1
    exact ⟨us[i], List.getElem?_eq_getElem this⟩
  exact Sound.value hR (v := u) (by simp [execOp, ho, hu, Instr.extract, hui]) (hr i _ _ hi hui)

theorem iface_sound (hR : Rel P K ρ s a w) {o : Oper} {x : Operand} {T : TypeId} (ho : o.op = .makeInterface T x) {d : TypeDesc} (hd : P.underlying T = some d) (hn : ∀ m, d ≠ .interface m) :
    Sound P K s a w o (.ret { dst := .u }) := by
  refine Sound.value hR (v := .iface T (a.eval x)) ?_ (VR.one rfl)
  simp only [execOp, ho, Instr.makeInterface, Sem.run_bind, run_underlying hd, Result.andThen_ok]
  cases d <;> first | exact absurd rfl (hn _) | rfl

theorem nilCheck_sound (hR : Rel P K ρ s a w) {o : Oper} {x : Operand} (ho : o.op = .nilCheck x) {c : C} (hc : match c with | .bp .. | .sp .. | .ap .. | .ap1 .. | .clo .. | .fn .. => True | _ => False)
    (hx : AR P ρ w s.root (.val false [c]) (a.eval x)) : Sound P K s a w o (.ret { dst := .c c }) := by
  have hp : (∃ q, a.eval x = .pointer (some q)) ∨ (∃ f u v, a.eval x = .func (.func f) u v) := by
    have := VR.cell hx
    cases c with
    | bp l off => obtain ⟨b, _, h⟩ := this; exact .inl ⟨_, h⟩
    | sp t y d => obtain ⟨b, o, us, h, _⟩ := this; exact .inl ⟨_, h⟩
    | ap l i j e y => obtain ⟨xs, d, b, n, c, _, _, _, h⟩ := this; exact .inl ⟨_, h⟩
    | ap1 l i j i' j' u ys y => obtain ⟨e, xs, x, us, b, n, c, _, _, _, _, _, _, h, _⟩ := this; exact .inl ⟨_, h⟩
    | clo f fi ca => obtain ⟨fv, h, _⟩ := this; exact .inr ⟨_, _, _, h⟩
    | fn ins out g => obtain ⟨_, f, u, v, h, _⟩ := this; exact .inr ⟨_, _, _, h⟩
    | _ => exact hc.elim
  rcases hp with ⟨q, hq⟩ | ⟨f, u, v, hq⟩
  · exact Sound.value hR (v := .pointer (some q)) (by simp [execOp, ho, hq]) (hq ▸ hx)
  · exact Sound.value hR (v := .func (.func f) u v) (by simp [execOp, ho, hq]) (hq ▸ hx)

end Go.Proofs.YtgjneigkkgaaiaaGreatDoor.Vd

/- VdJ -/
namespace Go.Proofs.YtgjneigkkgaaiaaGreatDoor.Vd

variable {P : Program} {E : Env} {ρ : Map} {w : World} {s : S} {a : Act} {K : Ctx} {H : Nat → Option Root}

/-- What the program's types must be beside the table, operation by operation. -/
def opOK (P : Program) (o : Oper) : Bool :=
  match o.op with
  | .fieldAddr T _ _ => match P.underlying T with | some (.struct _) => true | _ => false
  | .indexAddr T _ _ => match P.underlying T with | some (.struct _) => false | _ => true
  | .makeInterface T _ => match P.underlying T with | some (.interface _) | none => false | _ => true
  | .call c => (match c.callee with
    | .builtin .append => c.argTypes.getD 0 0 == c.argTypes.getD 1 0 && c.argTypes.size == 2
    | .builtin .copy => c.argTypes.size == 2
    | .builtin .len => c.argTypes.size == 1
    | _ => true)
  | _ => true

/-! ### The parts of a type -/

theorem shp.part : (t : Ty) → (fs : List (TypeId × Nat)) → (off : Nat) → shp P t (.inr (fs, off)) = true → ∀ f o u, t.field f = some (o, u) →
    ∃ T', fs[f]? = some (T', off + o) ∧ shp P u (.inl T') = true
  | .one h, fs, off, hs, f, o, u, hf => by
    cases f with
    | succ f => simp [Ty.field] at hf
    | zero =>
      simp only [Ty.field, Option.some.injEq, Prod.mk.injEq] at hf
      obtain ⟨rfl, rfl⟩ := hf
      match fs, hs with
      | [(T', o')], hs =>
        simp only [shp, Bool.and_eq_true, beq_iff_eq] at hs
        exact ⟨T', by simp [hs.1], hs.2⟩
  | .cons h t, fs, off, hs, f, o, u, hf => by
    match fs, hs with
    | (T', o') :: fs, hs =>
      simp only [shp, Bool.and_eq_true, beq_iff_eq] at hs
      cases f with
      | zero =>
        simp only [Ty.field, Option.some.injEq, Prod.mk.injEq] at hf
        obtain ⟨rfl, rfl⟩ := hf
        exact ⟨T', by simp [hs.1.1], hs.1.2⟩
      | succ f =>
        simp only [Ty.field, Option.map_eq_some_iff, Prod.mk.injEq, Prod.exists] at hf
        obtain ⟨o1, u1, h1, rfl, rfl⟩ := hf
        obtain ⟨T1, h2, h3⟩ := shp.part t fs (off + h.size) hs.2 f o1 u1 h1
        exact ⟨T1, by simp [h2, Nat.add_assoc], h3⟩
  | .int _, _, _, hs, _, _, _, hf | .bool, _, _, hs, _, _, _, hf | .str, _, _, hs, _, _, _, hf | .sl _, _, _, hs, _, _, _, hf => by simp [Ty.field] at hf

theorem shp.parts {t : Ty} {T : TypeId} (h : shp P t (.inl T) = true) {f o : Nat} {u : Ty} (hf : t.field f = some (o, u)) :
    ∃ fs T', fieldsOf P T = some fs ∧ fs[f]? = some (T', o) ∧ shp P u (.inl T') = true := by
  cases t with
  | one h0 =>
    simp only [shp, Bool.and_eq_true] at h
    have h2 := h.2
    split at h2
    · rename_i T' hfs
      cases f with
      | succ f => simp [Ty.field] at hf
      | zero =>
        simp only [Ty.field, Option.some.injEq, Prod.mk.injEq] at hf
        obtain ⟨rfl, rfl⟩ := hf
        exact ⟨_, T', hfs, rfl, h2⟩
    · cases h2
  | cons h0 t0 =>
    simp only [shp, Bool.and_eq_true] at h
    have h2 := h.2
    split at h2
    · rename_i T' fs hfs
      simp only [Bool.and_eq_true] at h2
      cases f with
      | zero =>
        simp only [Ty.field, Option.some.injEq, Prod.mk.injEq] at hf
        obtain ⟨rfl, rfl⟩ := hf
        exact ⟨_, T', hfs, rfl, h2.1⟩
      | succ f =>
        simp only [Ty.field, Option.map_eq_some_iff, Prod.mk.injEq, Prod.exists] at hf
        obtain ⟨o1, u1, h1, rfl, rfl⟩ := hf
        obtain ⟨T1, h3, h4⟩ := shp.part t0 fs _ h2.2 f o1 u1 h1
        exact ⟨_, T1, hfs, by simpa using h3, h4⟩
    · cases h2
  | _ => simp [Ty.field] at hf

theorem shp.fieldAt {t : Ty} {T : TypeId} (h : shp P t (.inl T) = true) {fs : Array Field} (hT : P.underlying T = some (.struct fs)) {f o : Nat} {u : Ty} (hf : t.field f = some (o, u)) (q : Addr) (w : World) :
    (Instr.fieldAt T (.pointer (some q)) f).run P w = .ok (.pointer (some (q.add o))) w := by
  obtain ⟨l, T', h1, h2, h3⟩ := shp.parts h hf
  unfold fieldsOf at h1
  rw [hT] at h1
  simp only [Option.some.injEq] at h1
  subst h1
  simp only [List.getElem?_map, Array.getElem?_toList, Option.map_eq_some_iff, Prod.mk.injEq] at h2
  obtain ⟨fd, h4, rfl, rfl⟩ := h2
  have hp := Ty.size_pos u
  have hz : ¬ u.size = 0 := by omega
  simp [Instr.fieldAt, run_underlying hT, h4, Instr.sureAddr, fieldPlace, shp.size h3, hz]

theorem shp.indexAt {t : Ty} {T : TypeId} (h : shp P t (.inl T) = true) {n e : Nat} (hT : P.underlying T = some (.array n e)) {f o : Nat} {u : Ty} (hf : t.field f = some (o, u)) (q : Addr) (k : IntKind) (w : World) :
    (Instr.indexAt T (.pointer (some q)) (.int k (f : Int))).run P w = .ok (.pointer (some (q.add o))) w := by
  obtain ⟨l, T', h1, h2, h3⟩ := shp.parts h hf
  unfold fieldsOf at h1
  rw [hT] at h1
  dsimp only at h1
  split at h1
  · rename_i i hi
    simp only [Option.some.injEq] at h1
    subst h1
    simp only [List.getElem?_map, Option.map_eq_some_iff, Prod.mk.injEq] at h2
    obtain ⟨m, h4, rfl, rfl⟩ := h2
    have hm : m = f ∧ f < n := by
      rw [List.getElem?_eq_some_iff] at h4
      obtain ⟨g1, g2⟩ := h4
      simp at g1 g2
      exact ⟨g2.symm, g1⟩
    obtain ⟨rfl, hlt⟩ := hm
    have hs : (sizeOf e).run P w = .ok i.size w := by simp [sizeOf, typeInfo, hi]
    have h0 : (0 : Int) ≤ (m : Int) ∧ (m : Int) < (n : Int) := by omega
    simp [Instr.indexAt, asIntOf, run_underlying hT, Instr.sureAddr, hs, hlt]
  · cases h1

/-- The part of a datum that a field names. -/
theorem Rd.fieldD {A : Nat → Prop} : (t : Ty) → (x : t.D) → (us : List Value) → Rd w A t x us → ∀ f o u u' (y : u'.D), t.field f = some (o, u) → Vd.fieldD t x f = some ⟨u', y⟩ →
    ∃ us', Rd w A u' y us' ∧ ∀ (j : Nat) v, us'[j]? = some v → us[o + j]? = some v
  | .one h, x, us, hr, f, o, u, u', y, hf, hd => by
    cases f with
    | succ f => simp [Ty.field] at hf
    | zero =>
      simp only [Ty.field, Option.some.injEq, Prod.mk.injEq] at hf
      simp only [Vd.fieldD, Option.some.injEq] at hd
      obtain ⟨rfl, rfl⟩ := hf
      cases hd
      exact ⟨us, hr, fun j v hj => by simpa using hj⟩
  | .cons h t, x, us, hr, f, o, u, u', y, hf, hd => by
    obtain ⟨v1, v2, rfl, h1, h2⟩ := hr
    cases f with
    | zero =>
      simp only [Ty.field, Option.some.injEq, Prod.mk.injEq] at hf
      simp only [Vd.fieldD, Option.some.injEq] at hd
      obtain ⟨rfl, rfl⟩ := hf
      cases hd
      refine ⟨v1, h1, fun j v hj => ?_⟩
      rw [Nat.zero_add, List.getElem?_append_left (List.getElem?_eq_some_iff.1 hj).1]
      exact hj
    | succ f =>
      simp only [Ty.field, Option.map_eq_some_iff, Prod.mk.injEq, Prod.exists] at hf
      obtain ⟨o1, u1, h3, rfl, rfl⟩ := hf
      obtain ⟨us', g1, g2⟩ := Rd.fieldD t x.2 v2 h2 f o1 u1 u' y h3 hd
      refine ⟨us', g1, fun j v hj => ?_⟩
      rw [List.getElem?_append_right (by rw [h1.length]; omega), h1.length, show h.size + o1 + j - h.size = o1 + j by omega]
      exact g2 j v hj
  | .int _, _, _, _, _, _, _, _, _, hf, _ | .bool, _, _, _, _, _, _, _, _, hf, _ | .str, _, _, _, _, _, _, _, _, hf, _ | .sl _, _, _, _, _, _, _, _, _, hf, _ => by simp [Ty.field] at hf

theorem fieldAddrR_sound (hR : Rel P K ρ s a w) (hT : TyOK P E) {o : Oper} {T : TypeId} {x : Operand} {f : Nat} (ho : o.op = .fieldAddr T x f) (hok : opOK P o = true) {X : A}
    (hx : AR P ρ w s.root X (a.eval x)) : Sound P K s a w o (fieldAddrR E T X f) := by
  obtain ⟨fs, hu⟩ : ∃ fs, P.underlying T = some (.struct fs) := by
    simp only [opOK, ho] at hok
    split at hok
    · exact ⟨_, by assumption⟩
    · cases hok
  unfold fieldAddrR
  split
  · rename_i t p hTt
    have hs := hT.ty T _ hTt
    split
    · rename_i o' u hf
      have run : ∀ q, a.eval x = .pointer (some q) → (execOp a.eval o).run P w = .ok (.value (.pointer (some (q.add o')))) w := by
        intro q hq
        simp [execOp, ho, hq, shp.fieldAt hs hu hf]
      split
      · obtain ⟨b, hb, hv⟩ := VR.cell hx
        refine Sound.value hR (run _ hv) (AR.one.2 ⟨b, hb, ?_⟩)
        rw [Addr.add_lit]
      · obtain ⟨xs, d, b, n, c, h1, h2, h3, hv⟩ := VR.cell hx
        refine Sound.value hR (run _ hv) (AR.one.2 ⟨xs, d, b, n, c, h1, h2, h3, ?_⟩)
        rw [Addr.add_lit, Nat.add_assoc]
      · obtain ⟨e, xs, x', us, b, n, c, h1, h2, h3, h4, h5, h6, hv, h7⟩ := VR.cell hx
        refine Sound.value hR (run _ hv) (AR.one.2 ⟨e, xs, x', us, b, n, c, h1, h2, h3, h4, h5, h6, ?_, h7⟩)
        rw [Addr.add_lit, Nat.add_assoc]
      · rename_i t' x' d
        split
        · rename_i heq
          subst heq
          split
          · rename_i u' y hd
            obtain ⟨b, o2, us, hv, h1, h2, h3⟩ := VR.cell hx
            obtain ⟨us', g1, g2⟩ := Rd.fieldD t' x' us h2 f o' u u' y hf hd
            refine Sound.value hR (run _ hv) (AR.one.2 ⟨b, o2 + o', us', by rw [Addr.add_lit], h1, g1, fun j v hj => ?_⟩)
            rw [Nat.add_assoc]
            exact h3 _ v (g2 j v hj)
          · exact Sound.fail
        · exact Sound.fail
      · exact Sound.fail
    · exact Sound.fail
  · exact Sound.fail

end Go.Proofs.YtgjneigkkgaaiaaGreatDoor.Vd

/- VdK -/
namespace Go.Proofs.YtgjneigkkgaaiaaGreatDoor.Vd

variable {P : Program} {E : Env} {ρ : Map} {w : World} {s : S} {a : Act} {K : Ctx} {H : Nat → Option Root}

theorem AR.asInt {X : A} {i : Int} (h : asInt X = some i) {v : Value} (hx : AR P ρ w H X v) : ∃ k, v = .int k i := by
  unfold Vd.asInt at h
  split at h
  · simp only [Option.some.injEq] at h
    subst h
    exact ⟨_, hx.int⟩
  · cases h

theorem getI_spec {α : Type} {xs : List α} {i : Int} {y : α} (h : getI xs i = some y) : 0 ≤ i ∧ i < xs.length ∧ xs[i.toNat]? = some y := by
  unfold getI at h
  split at h
  · rename_i h0
    refine ⟨h0, ?_, h⟩
    have := (List.getElem?_eq_some_iff.1 h).1
    omega
  · cases h

theorem run_indexAt_slice {T e : TypeId} (hT : P.underlying T = some (.slice e)) {n : Nat} (he : (sizeOf e).run P w = .ok n w) {q : Addr} {len c : Nat} {k : IntKind} {i : Int} (h0 : 0 ≤ i) (h1 : i < len) :
    (Instr.indexAt T (.slice (some q) len c) (.int k i)).run P w = .ok (.pointer (some (q.add (i.toNat * n)))) w := by
  simp [Instr.indexAt, asIntOf, run_underlying hT, he, h0, h1]

theorem indexAddrR_sound (hR : Rel P K ρ s a w) (hT : TyOK P E) {V : View} (hV : Seen V s) {o : Oper} {T : TypeId} {x ix : Operand} (ho : o.op = .indexAddr T x ix) (hok : opOK P o = true) {X Y : A}
    (hx : AR P ρ w s.root X (a.eval x)) (hy : AR P ρ w s.root Y (a.eval ix)) : Sound P K s a w o (indexAddrR E T X Y V) := by
  unfold indexAddrR
  split
  · rename_i i hi
    obtain ⟨k, ek⟩ := hy.asInt hi
    split
    · rename_i e0 hTe
      obtain ⟨T', hu, hT'⟩ := shp.slice (hT.ty T _ hTe)
      have run : ∀ b o' len c, a.eval x = .slice (some ⟨b, o', none⟩) len c → 0 ≤ i → i < len → (execOp a.eval o).run P w = .ok (.value (.pointer (some ⟨b, o' + i.toNat * e0.size, none⟩))) w := by
        intro b o' len c hq h0 h1
        have := run_indexAt_slice hu (shp.size hT' w) (q := ⟨b, o', none⟩) (len := len) (c := c) (k := k) h0 h1
        simp [execOp, ho, hq, ek, this, Addr.add_lit]
      -- an element of a slice that reads as data
      have rd : ∀ (xs : List e0.D) d y, Rd w (Al ρ.own d) (.sl e0) xs [a.eval x] → getI xs i = some y → Sound P K s a w o (.ret { dst := .c (.sp e0 y d) }) := by
        intro xs d y hr hg
        obtain ⟨h0, h1, h2⟩ := getI_spec hg
        obtain ⟨q, c, hv, _, hr⟩ := hr
        obtain ⟨b, o', rfl, hb, hi⟩ := hr (by rintro rfl; simp at h2)
        simp only [List.cons.injEq, and_true] at hv
        obtain ⟨us, g1, g2⟩ := hi _ y h2
        exact Sound.value hR (run b o' _ c hv h0 h1) (AR.one.2 ⟨b, _, us, rfl, hb, g1, g2⟩)
      split
      · rename_i e xs d
        split
        · rename_i he
          subst he
          exact Sound.bnd fun y hg => rd xs d y (VR.cell hx).2 hg
        · exact Sound.fail
      · rename_i l
        split
        · rename_i e xs dd hl
          split
          · rename_i he
            subst he
            refine Sound.bnd fun y hg => ?_
            obtain ⟨h0, h1, h2⟩ := getI_spec hg
            have hs := hV l _ hl
            obtain ⟨hv, _⟩ := VR.cell hx
            rcases hR.root l _ hs with ⟨q, hq, rfl⟩ | ⟨b, cap, vs, TT, hh, _⟩
            · simp at h2
            · rw [hh] at hv
              refine Sound.value hR (run b 0 _ cap hv h0 h1) (AR.one.2 ⟨xs, dd, b, _, cap, hs, h2, hh, ?_⟩)
              simp
          · exact Sound.fail
        · rename_i e els hl
          split
          · rename_i he
            subst he
            split
            · have hv := (VR.cell hx).1
              obtain ⟨b, vs, TT, hh, _⟩ := hR.root l _ (hV l _ hl)
              rw [hh] at hv
              have lits : ∀ (r : List (List C)) (k : Nat), k + r.length = els.length → Sound P K s a w o (litAt l e i r k) := by
                intro r
                induction r with
                | nil => exact fun k _ => Sound.bnd fun _ h => by cases h
                | cons c r ih =>
                  intro k hk
                  refine Sound.ite (fun hc => ?_) (fun _ => ih (k + 1) (by simp only [List.length_cons] at hk; omega))
                  have hc' : i = (k : Int) := by simpa using hc
                  refine Sound.value hR (run b 0 _ _ hv (by omega) (by simp only [List.length_cons] at hk; omega)) (AR.one.2 ⟨b, _, _, hh, ?_⟩)
                  simp [hc']
              exact lits els 0 (by omega)
            split
            · rename_i xs d hd
              have hv := (VR.cell hx).1
              have hr := lit_rd hV hR.root (hV l _ hl) hd
              rw [← hv] at hr
              exact Sound.bnd fun y hg => rd xs (l :: d) y hr.1 hg
            · exact Sound.fail
          · exact Sound.fail
        · exact Sound.fail
      · rename_i l n
        split
        · rename_i e xs dd hl
          split
          · rename_i he
            subst he
            refine Sound.bnd fun y hg => ?_
            obtain ⟨h0, h1, h2⟩ := getI_spec hg
            have hs := hV l _ hl
            obtain ⟨q, m, c, hh, hv, hle⟩ := VR.cell hx
            have h3 : xs[i.toNat]? = some y := by
              rw [List.getElem?_take] at h2
              split at h2
              · exact h2
              · cases h2
            rcases hR.root l _ hs with ⟨q', hq, rfl⟩ | ⟨b, cap, vs, TT, hh', _⟩
            · simp at h3
            · rw [hh] at hh'
              simp only [Value.slice.injEq] at hh'
              obtain ⟨rfl, rfl, rfl⟩ := hh'
              refine Sound.value hR (run b 0 n c hv h0 ?_) (AR.one.2 ⟨xs, dd, b, _, c, hs, h3, hh, ?_⟩)
              · simp only [List.length_take] at h1
                omega
              · simp
          · exact Sound.fail
        · exact Sound.fail
      · rename_i l n0 e ys
        split
        · rename_i he
          subst he
          obtain ⟨_, _, _, _, hr, _⟩ := VR.cell hx
          exact Sound.bnd fun y hg => rd ys [l] y hr hg
        · exact Sound.fail
      · rename_i l i0 j0 u ys
        split
        · rename_i he
          subst he
          refine Sound.bnd fun y hg => ?_
          obtain ⟨h0, h1, h2⟩ := getI_spec hg
          obtain ⟨e, xs, x', us, g1, g2, g3, g4, g5, g6⟩ := VR.cell hx
          obtain ⟨⟨v', hv', _, harr⟩, _⟩ := DR.at e 0 x' us g5 j0 (.sl u) ys _ g3 g4
          simp only [List.cons.injEq, and_true] at hv'
          subst hv'
          rcases harr with ⟨q', hq, rfl⟩ | ⟨b, cap, vs, TT, hh', _⟩
          · simp at h2
          · refine Sound.value hR (run b 0 _ cap hh' h0 h1) (AR.one.2 ⟨e, xs, x', us, b, _, cap, g1, g2, g3, h2, hh' ▸ g4, g5, ?_, g6⟩)
            simp
        · exact Sound.fail
      · exact Sound.fail
    · rename_i t hne hTt
      split
      · rename_i l off
        split
        · rename_i n
          split
          · rename_i o' u hf
            have hs := hT.ty T _ hTt
            obtain ⟨b, hb, hv⟩ := VR.cell hx
            have hu : ∃ m e, P.underlying T = some (.array m e) := by
              obtain ⟨fs, T', h1, _⟩ := shp.parts hs hf
              unfold fieldsOf at h1
              simp only [opOK, ho] at hok
              split at h1
              · rename_i hd; simp [hd] at hok
              · exact ⟨_, _, by assumption⟩
              · cases h1
            obtain ⟨m, e, hu⟩ := hu
            have := shp.indexAt hs hu hf ⟨b, off, none⟩ k w
            refine Sound.value hR (v := .pointer (some ⟨b, off + o', none⟩)) ?_ (AR.one.2 ⟨b, hb, rfl⟩)
            simp only [execOp, ho, hv, ek, Sem.run_bind]
            erw [this]
            simp [Addr.add_lit]
          · exact Sound.fail
        · exact Sound.fail
      · exact Sound.fail
    · exact Sound.fail
  · exact Sound.fail

end Go.Proofs.YtgjneigkkgaaiaaGreatDoor.Vd

/- VdL -/
namespace Go.Proofs.YtgjneigkkgaaiaaGreatDoor.Vd

variable {P : Program} {E : Env} {ρ : Map} {w : World} {s : S} {a : Act} {K : Ctx} {H : Nat → Option Root}

theorem Ty.size_one : {t : Ty} → t.agg = false → t.size = 1
  | .int _, _ | .bool, _ | .str, _ | .sl _, _ => rfl
  | .one _, h | .cons _ _, h => by simp [Ty.agg] at h

theorem run_load_us {t : Ty} {T : TypeId} (hs : shp P t (.inl T) = true) {us : List Value} (hl : us.length = t.size) {b o : Nat} (hc : ∀ (j : Nat) u, us[j]? = some u → w.cell? ⟨b, o + j, none⟩ = some u) :
    ∃ v, (Instr.loadAt T (.pointer (some ⟨b, o, none⟩))).run P w = .ok v w ∧ (if t.agg then v = .agg us.toArray else us = [v]) := by
  cases ha : t.agg with
  | true =>
    refine ⟨.agg us.toArray, ?_, by simp⟩
    have h1 := run_loadCells_list (P := P) w ⟨b, o, none⟩ us fun j v hj => by rw [Addr.add_lit]; exact hc j v hj
    rw [hl] at h1
    simp [Instr.loadAt, Instr.sureAddr, loadVar, shp.agg hs, ha, shp.size hs, h1]
  | false =>
    have h1 := Ty.size_one ha
    rw [h1] at hl
    match us, hl with
    | [u], _ =>
      have := hc 0 u rfl
      simp only [Nat.add_zero] at this
      exact ⟨u, by simp [Instr.loadAt, Instr.sureAddr, loadVar, shp.agg hs, ha, this], by simp⟩

theorem run_load_other {T : TypeId} (hs : otherOK P T = true) {b o : Nat} {u : Value} (hc : w.cell? ⟨b, o, none⟩ = some u) :
    (Instr.loadAt T (.pointer (some ⟨b, o, none⟩))).run P w = .ok u w := by
  simp [Instr.loadAt, Instr.sureAddr, loadVar, (other.agg hs w).1, hc]

theorem CsR.sub {cs : List C} {vs : List Value} (h : CsR P ρ w H cs vs) (o n : Nat) : CsR P ρ w H ((cs.drop o).take n) ((vs.drop o).take n) := by
  refine ⟨by simp [h.1], fun j c v hc hv => ?_⟩
  rw [List.getElem?_take] at hc hv
  split at hc
  · rename_i hj
    rw [if_pos hj] at hv
    rw [List.getElem?_drop] at hc hv
    exact h.2 _ c v hc hv
  · cases hc

theorem cellAt_some : (t : Ty) → (x : t.D) → (j : Nat) → j < t.size → ∃ y, cellAt t x j = some y
  | .one h, x, j, hj => cellAt_some h x j hj
  | .cons h t, x, j, hj => by
    simp only [cellAt]
    by_cases h1 : j < h.size
    · rw [if_pos h1]; exact cellAt_some h x.1 j h1
    · rw [if_neg h1]; exact cellAt_some t x.2 _ (by simp only [Ty.size] at hj; omega)
  | .int _, x, 0, _ | .bool, x, 0, _ | .str, x, 0, _ | .sl _, x, 0, _ => ⟨_, rfl⟩
  | .int _, _, _ + 1, h | .bool, _, _ + 1, h | .str, _, _ + 1, h | .sl _, _, _ + 1, h => by simp [Ty.size] at h

theorem readCell_free {l i : Nat} {e : Ty} {x : e.D} {us : List Value} (hr : Rd w (Free ρ.own) e x us) (j : Nat) (v : Value) (hv : us[j]? = some v) : CR P ρ w H (readCell l i j false e x) v := by
  obtain ⟨⟨t, y⟩, hy⟩ := cellAt_some e x j (by rw [← hr.length]; exact (List.getElem?_eq_some_iff.1 hv).1)
  obtain ⟨h1, h2⟩ := Rd.at e x us hr j t y v hy hv
  unfold readCell
  rw [hy]
  cases t <;> exact ⟨h2, Rd.free h1⟩

theorem readCell_deep {l i : Nat} {e : Ty} {xs : List e.D} {x : e.D} {us : List Value} (hl : H l = some (.arr e xs true)) (hi : xs[i]? = some x) (hr : DR w ρ.own l i e 0 x us)
    (hm : ∃ b n c, ρ.hdr l = .slice (some ⟨b, 0, none⟩) n c ∧ ρ.own b = .main l ∧ ∀ (j : Nat) u, us[j]? = some u → w.cell? ⟨b, i * e.size + j, none⟩ = some u)
    (j : Nat) (v : Value) (hv : us[j]? = some v) : CR P ρ w H (readCell l i j true e x) v := by
  obtain ⟨⟨t, y⟩, hy⟩ := cellAt_some e x j (by rw [← DR.length e 0 x us hr]; exact (List.getElem?_eq_some_iff.1 hv).1)
  obtain ⟨h1, h2⟩ := DR.at e 0 x us hr j t y v hy hv
  unfold readCell
  rw [hy]
  cases t with
  | sl u => exact ⟨e, xs, x, us, hl, hi, hy, hv, hr, hm⟩
  | int k => exact ⟨rfl, h1⟩
  | bool => exact ⟨rfl, h1⟩
  | str => exact ⟨rfl, h1⟩
  | one h => cases h2
  | cons h t => cases h2

theorem readCells_rel {l i : Nat} {d : Bool} {e : Ty} {x : e.D} {us : List Value} (hl : us.length = e.size) (hc : ∀ (j : Nat) v, us[j]? = some v → CR P ρ w H (readCell l i j d e x) v) :
    ∀ n j, j + n ≤ e.size → CsR P ρ w H (readCells l i j d e x n) ((us.drop j).take n)
  | 0, j, _ => by simp [readCells, CsR]
  | n + 1, j, h => by
    have hj : j < us.length := by omega
    rw [List.drop_eq_getElem_cons hj, List.take_succ_cons]
    exact (CsR.single (hc j _ (List.getElem?_eq_getElem hj))).append (readCells_rel hl hc n (j + 1) (by omega))

theorem expand_rel {d : List Nat} : (t : Ty) → (x : t.D) → (us : List Value) → Rd w (Al ρ.own d) t x us → CsR P ρ w H (expand d t x) us
  | .one h, x, us, hr => expand_rel h x us hr
  | .cons h t, x, us, hr => by
    obtain ⟨v1, v2, rfl, h1, h2⟩ := hr
    exact (expand_rel h x.1 v1 h1).append (expand_rel t x.2 v2 h2)
  | .int k, x, us, hr => by simp only [Rd] at hr; subst hr; exact CsR.single ⟨rfl, rfl⟩
  | .bool, x, us, hr => by simp only [Rd] at hr; subst hr; exact CsR.single ⟨rfl, rfl⟩
  | .str, x, us, hr => by simp only [Rd] at hr; subst hr; exact CsR.single ⟨rfl, rfl⟩
  | .sl e, x, us, hr => by
    have h := hr
    obtain ⟨q, c, rfl, _⟩ := h
    exact CsR.single ⟨rfl, hr⟩

theorem ofData_rel {d : List Nat} {t : Ty} {x : t.D} {v : Value} (h : VD w (Al ρ.own d) t x v) : AR P ρ w H (ofData d t x) v := by
  obtain ⟨us, h1, h2⟩ := h
  exact ⟨us, expand_rel t x us h1, h2⟩

theorem take_drop_one {α : Type} {l : List α} {o : Nat} {x : α} (h : l[o]? = some x) : (l.drop o).take 1 = [x] := by
  obtain ⟨h1, rfl⟩ := List.getElem?_eq_some_iff.1 h
  rw [List.drop_eq_getElem_cons h1]
  rfl

theorem loadR_sound (hR : Rel P K ρ s a w) (hT : TyOK P E) {V : View} (hV : Seen V s) {o : Oper} {T : TypeId} {x : Operand} (ho : o.op = .load T x) {X : A}
    (hx : AR P ρ w s.root X (a.eval x)) : Sound P K s a w o (loadR E T X V) := by
  -- cells of a known type, from an address on
  have go : ∀ (t : Ty) b o' (us : List Value) (cs : List C), E.T T = some t → a.eval x = .pointer (some ⟨b, o', none⟩) → us.length = t.size → (∀ (j : Nat) u, us[j]? = some u → w.cell? ⟨b, o' + j, none⟩ = some u) →
      CsR P ρ w s.root cs us → Sound P K s a w o (.ret { dst := .val t.agg cs }) := by
    intro t b o' us cs hTt hv hl hc hcs
    obtain ⟨v, h1, h2⟩ := run_load_us (hT.ty T _ hTt) hl hc
    exact Sound.value hR (v := v) (by simp [execOp, ho, hv, h1]) ⟨us, hcs, h2⟩
  unfold loadR
  split
  · rename_i l off
    split
    · rename_i cs hl
      obtain ⟨b, hb, hv⟩ := VR.cell hx
      obtain ⟨b', vs, TT, hb', _, hh, hcs⟩ := hR.root l _ (hV l _ hl)
      rw [hb] at hb'
      simp only [Value.pointer.injEq, Option.some.injEq, Addr.mk.injEq, and_true] at hb'
      subst hb'
      have hcell : ∀ j, w.cell? ⟨b, j, none⟩ = vs[j]? := fun j => by rw [cell_of_row w b j _ TT (0, 0) hh]; simp
      split
      · rename_i t hTt
        split
        · rename_i hle
          rw [hcs.1] at hle
          refine go t b off ((vs.drop off).take t.size) _ hTt hv ?_ (fun j u hj => ?_) (hcs.sub off t.size)
          · simp only [List.length_take, List.length_drop]; omega
          · rw [hcell]
            rw [List.getElem?_take] at hj
            split at hj
            · rwa [List.getElem?_drop] at hj
            · cases hj
        · exact Sound.fail
      · split
        · rename_i hoth
          split
          · rename_i hlt
            rw [hcs.1] at hlt
            have h1 := run_load_other (hT.other T hoth) (w := w) (b := b) (o := off) (u := vs[off]) (by rw [hcell]; exact List.getElem?_eq_getElem hlt)
            refine Sound.value hR (v := vs[off]) (by simp [execOp, ho, hv, h1]) ⟨(vs.drop off).take 1, hcs.sub off 1, ?_⟩
            simp [take_drop_one (List.getElem?_eq_getElem hlt)]
          · exact Sound.fail
        · exact Sound.fail
    · exact Sound.fail
  · rename_i l i j e y
    split
    · rename_i e' xs' d t hl hTt
      obtain ⟨xs, d', b, n, c, g1, g2, g3, hv⟩ := VR.cell hx
      have hs := hV l _ hl
      rw [g1] at hs
      cases hs
      split
      · rename_i hle
        rcases hR.root l _ g1 with ⟨q', hq, rfl⟩ | ⟨b', cap, vs, TT, hh', _, _, hown, hheap, hsz, hel⟩
        · simp at g2
        · rw [g3] at hh'
          simp only [Value.slice.injEq, Option.some.injEq, Addr.mk.injEq, and_true] at hh'
          obtain ⟨rfl, rfl, rfl⟩ := hh'
          obtain ⟨us, q1, q2, q3⟩ := hel i y g2
          have hcell : ∀ (j : Nat) u, us[j]? = some u → w.cell? ⟨b, i * e.size + j, none⟩ = some u := fun j u hj => by
            rw [cell_of_row w b _ vs TT (0, 0) hheap]; exact q2 j u hj
          have hrc : ∀ (j : Nat) v, us[j]? = some v → CR P ρ w s.root (readCell l i j d e y) v := by
            intro j v hj
            unfold EL at q3
            cases d with
            | true => exact readCell_deep g1 g2 (by simpa using q3) ⟨b, _, _, g3, hown, hcell⟩ j v hj
            | false => exact readCell_free (by simpa using q3) j v hj
          refine go t b _ ((us.drop j).take t.size) _ hTt hv ?_ (fun j' u hj => ?_) (readCells_rel q1 hrc t.size j hle)
          · simp only [List.length_take, List.length_drop]; omega
          · rw [List.getElem?_take] at hj
            split at hj
            · rw [List.getElem?_drop] at hj
              rw [Nat.add_assoc]
              exact hcell _ u hj
            · cases hj
      · exact Sound.fail
    · exact Sound.fail
  · rename_i l i j i' j' u ys y
    split
    · rename_i t hTt
      split
      · rename_i hle
        obtain ⟨e, xs, x', us, b, n, c, g1, g2, g3, g4, g5, g6, hv, _⟩ := VR.cell hx
        obtain ⟨⟨v', hv', _, harr⟩, _⟩ := DR.at e 0 x' us g6 j (.sl u) ys _ g3 g5
        simp only [List.cons.injEq, and_true] at hv'
        subst hv'
        rcases harr with ⟨q', hq, rfl⟩ | ⟨b', cap, vs, TT, hh', _, _, hown, hheap, hsz, hel⟩
        · simp at g4
        · simp only [Value.slice.injEq, Option.some.injEq, Addr.mk.injEq, and_true] at hh'
          obtain ⟨rfl, rfl, rfl⟩ := hh'
          obtain ⟨us', q1, q2, q3⟩ := hel i' y g4
          refine go t b _ ((us'.drop j').take t.size) _ hTt hv ?_ (fun k v hj => ?_) (readCells_rel q1 (fun j v hj => readCell_free q3 j v hj) t.size j' hle)
          · simp only [List.length_take, List.length_drop]; omega
          · rw [List.getElem?_take] at hj
            split at hj
            · rw [List.getElem?_drop] at hj
              rw [cell_of_row w b _ vs TT (0, 0) hheap, Nat.add_assoc]
              exact q2 _ v hj
            · cases hj
      · exact Sound.fail
    · exact Sound.fail
  · rename_i t y d
    split
    · rename_i hTt
      obtain ⟨b, o', us, hv, _, h1, h2⟩ := VR.cell hx
      exact go t b o' us _ hTt hv h1.length h2 (expand_rel t y us h1)
    · exact Sound.fail
  · split
    · rename_i hoth
      obtain ⟨b, o', u, hv, _, h1, h2⟩ := VR.cell hx
      have h3 := run_load_other (hT.other T hoth) h1
      exact Sound.value hR (v := u) (by simp [execOp, ho, hv, h3]) (AR.one.2 h2)
    · exact Sound.fail
  · rename_i l k e
    split
    · rename_i e' els hl
      split
      · rename_i he
        subst he
        split
        · rename_i hTt
          split
          · rename_i cs hk
            obtain ⟨b, n, c, hh, hv⟩ := VR.cell hx
            obtain ⟨b', vs, TT, hh', _, _, hheap, hsz, hel⟩ := hR.root l _ (hV l _ hl)
            rw [hh] at hh'
            simp only [Value.slice.injEq, Option.some.injEq, Addr.mk.injEq, and_true] at hh'
            obtain ⟨rfl, _, _⟩ := hh'
            obtain ⟨g1, g2⟩ := hel k cs hk
            have hkl : k < els.length := (List.getElem?_eq_some_iff.1 hk).1
            have hkm : (k + 1) * e'.size ≤ els.length * e'.size := Nat.mul_le_mul_right _ hkl
            rw [Nat.succ_mul] at hkm
            have hus : ∀ (j : Nat) u, ((vs.toList.drop (k * e'.size)).take e'.size)[j]? = some u → vs[k * e'.size + j]? = some u := by
              intro j u hj
              rw [List.getElem?_take] at hj
              split at hj
              · rwa [List.getElem?_drop, Array.getElem?_toList] at hj
              · cases hj
            have hlen : ((vs.toList.drop (k * e'.size)).take e'.size).length = e'.size := by
              simp only [List.length_take, List.length_drop, Array.length_toList]
              omega
            refine go e' b (k * e'.size) _ cs hTt hv hlen (fun j u hj => ?_) ⟨g1.trans hlen.symm, fun j c v hc hv => ?_⟩
            · rw [cell_of_row w b _ vs TT (0, 0) hheap]
              exact hus j u hj
            · obtain ⟨v', h1, h2⟩ := g2 j c hc
              rw [hus j v hv] at h1
              cases h1
              exact h2
          · exact Sound.fail
        · exact Sound.fail
      · exact Sound.fail
    · exact Sound.fail
  · exact Sound.fail

end Go.Proofs.YtgjneigkkgaaiaaGreatDoor.Vd

/- VdM -/
namespace Go.Proofs.YtgjneigkkgaaiaaGreatDoor.Vd

variable {P : Program} {E : Env} {ρ : Map} {w : World} {s : S} {a : Act} {K : Ctx} {H : Nat → Option Root}

theorem run_sliceBound_in {k : IntKind} {i : Int} {y : Nat} {c : BoundsCode} (h0 : 0 ≤ i) (h1 : i ≤ y) : (Instr.sliceBound (.int k i) y c).run P w = .ok i.toNat w := by
  simp [Instr.sliceBound, asIntOf, h0, h1]

/-- The bounds, as the operands give them. -/
theorem sliceB_run {lo hi : Option Operand} {ρA : Operand → A} {f : Operand → Value} (hρ : ∀ o, AR P ρ w H (ρA o) (f o)) {n cap : Nat} (hn : n ≤ cap) {l h : Nat} (hb : sliceB (lo.map ρA) (hi.map ρA) n = some (l, h)) (isSl : Bool) :
    (Instr.sliceBounds isSl n cap (lo.map f) (hi.map f) none).run P w = .ok (l, h, cap) w ∧ l ≤ h ∧ h ≤ n := by
  unfold sliceB at hb
  cases lo with
  | none =>
    cases hi with
    | none =>
      simp only [Option.map_none, Option.some.injEq, Prod.mk.injEq] at hb
      obtain ⟨rfl, rfl⟩ := hb
      exact ⟨by simp [Instr.sliceBounds], by omega, by omega⟩
    | some y =>
      simp only [Option.map_none, Option.map_some] at hb
      split at hb
      · rename_i heq1 heq2; simp at heq2
      · rename_i heq1 heq2; simp at heq1
      · rename_i h' heq1 heq2
        simp only [Option.some.injEq] at heq2
        obtain ⟨k, ek⟩ := (hρ y).asInt heq2
        split at hb
        · rename_i hc
          simp only [Option.some.injEq, Prod.mk.injEq] at hb
          obtain ⟨rfl, rfl⟩ := hb
          have := run_sliceBound_in (P := P) (w := w) (k := k) (c := if isSl then .sliceAcap else .sliceAlen) hc.1 (show h' ≤ (cap : Int) by omega)
          exact ⟨by simp [Instr.sliceBounds, ek, this], by omega, by omega⟩
        · cases hb
      · rename_i heq1 heq2; simp at heq1
      · cases hb
  | some x =>
    cases hi with
    | none =>
      simp only [Option.map_none, Option.map_some] at hb
      split at hb
      · rename_i heq1 heq2; simp at heq1
      · rename_i l' heq1 heq2
        simp only [Option.some.injEq] at heq1
        obtain ⟨k, ek⟩ := (hρ x).asInt heq1
        split at hb
        · rename_i hc
          simp only [Option.some.injEq, Prod.mk.injEq] at hb
          obtain ⟨rfl, rfl⟩ := hb
          have := run_sliceBound_in (P := P) (w := w) (k := k) (c := .sliceB) hc.1 (show l' ≤ (n : Int) by omega)
          exact ⟨by simp [Instr.sliceBounds, ek, this], by omega, by omega⟩
        · cases hb
      · rename_i heq1 heq2; simp at heq1
      · rename_i heq1 heq2; simp at heq2
      · cases hb
    | some y =>
      simp only [Option.map_some] at hb
      split at hb
      · rename_i heq1 heq2; simp at heq1
      · rename_i heq1 heq2; simp at heq2
      · rename_i heq1 heq2; simp at heq1
      · rename_i l' h' heq1 heq2
        simp only [Option.some.injEq] at heq1 heq2
        obtain ⟨k, ek⟩ := (hρ x).asInt heq1
        obtain ⟨k', ek'⟩ := (hρ y).asInt heq2
        split at hb
        · rename_i hc
          simp only [Option.some.injEq, Prod.mk.injEq] at hb
          obtain ⟨rfl, rfl⟩ := hb
          have h1 := run_sliceBound_in (P := P) (w := w) (k := k') (c := if isSl then .sliceAcap else .sliceAlen) (show 0 ≤ h' by omega) (show h' ≤ (cap : Int) by omega)
          have h2 := run_sliceBound_in (P := P) (w := w) (k := k) (c := .sliceB) hc.1 (show l' ≤ (h'.toNat : Int) by omega)
          exact ⟨by simp [Instr.sliceBounds, ek, ek', h1, h2], by omega, by omega⟩
        · cases hb
      · cases hb

theorem Rd.sub {A : Nat → Prop} {e : Ty} {xs : List e.D} {q : Option Addr} {n c l h : Nat} (hr : Rd w A (.sl e) xs [.slice q n c]) (hc : n ≤ c) (hlh : l ≤ h) (hh : h ≤ xs.length) :
    Rd w A (.sl e) ((xs.take h).drop l) [.slice (if c = l then q else q.map (·.add (l * e.size))) (h - l) (c - l)] := by
  have hn : n = xs.length := by
    obtain ⟨q', c', he, _⟩ := hr
    simp only [List.cons.injEq, Value.slice.injEq, and_true] at he
    exact he.2.1
  subst hn
  have h1 := Rd.take hr hh (show h ≤ c by omega)
  by_cases hne : xs.take h = []
  · have : h = 0 := by
      have h2 := congrArg List.length hne
      simp at h2
      rcases h2 with h2 | h2
      · exact h2
      · subst h2; simpa using hh
    subst this
    have : l = 0 := by omega
    subst this
    simp only [List.take_zero, List.drop_zero]
    exact Rd.empty
  · obtain ⟨q', c', he, _, hb⟩ := h1
    obtain ⟨b, o, rfl, _⟩ := hb hne
    simp only [List.cons.injEq, Value.slice.injEq, and_true] at he
    obtain ⟨rfl, _⟩ := he
    by_cases hcl : c = l
    · subst hcl
      have : h = c := by omega
      subst this
      simp only [Nat.sub_self]
      rw [List.drop_of_length_le (by simp; omega)]
      exact Rd.empty
    · simp only [hcl, if_false, Option.map_some, Addr.add_lit]
      have h2 := Rd.drop (n := l) (c' := c - l) (Rd.take hr hh (show h ≤ c by omega)) (by simp; omega)
      simpa [hh] using h2

theorem sliceR_sound (hR : Rel P K ρ s a w) (hT : TyOK P E) {V : View} (hV : Seen V s) {o : Oper} {T : TypeId} {x : Operand} {lo hi : Option Operand} (ho : o.op = .slice T x lo hi none)
    {ρA : Operand → A} (hρ : ∀ o, AR P ρ w s.root (ρA o) (a.eval o)) : Sound P K s a w o (sliceR E T (ρA x) (lo.map ρA) (hi.map ρA) V) := by
  have hx := hρ x
  unfold sliceR
  split
  · rename_i hTe
    have hu := shp.str (hT.ty T _ hTe)
    split
    · rename_i b d hX
      rw [hX] at hx
      have ex := hx.str
      refine Sound.bnd fun p hp => ?_
      obtain ⟨h1, h2, h3⟩ := sliceB_run hρ (Nat.le_refl _) (l := p.1) (h := p.2) hp false
      refine Sound.value hR (v := .string (b.extract p.1 p.2)) ?_ (AR.ofStr _ _)
      simp [execOp, ho, ex, Instr.sliceAt, Instr.slice, run_underlying hu, h1]
    · exact Sound.fail
  · rename_i e0 hTe
    obtain ⟨T', hu, hT'⟩ := shp.slice (hT.ty T _ hTe)
    split
    · rename_i e xs d hd
      split
      · rename_i he
        subst he
        have hr := slData_rd hV hR.root hd hx
        obtain ⟨q, c, hv, hle⟩ := hr.slice
        have run : ∀ l h, sliceB (lo.map ρA) (hi.map ρA) xs.length = some (l, h) → (execOp a.eval o).run P w = .ok (.value (.slice (if c = l then q else q.map (·.add (l * e.size))) (h - l) (c - l))) w ∧ l ≤ h ∧ h ≤ xs.length := by
          intro l h hb
          obtain ⟨h1, h2, h3⟩ := sliceB_run hρ hle hb true
          exact ⟨by simp [execOp, ho, hv, Instr.sliceAt, Instr.slice, run_underlying hu, h1, shp.size hT'], h2, h3⟩
        have gen : Sound P K s a w o (.bnd (sliceB (lo.map ρA) (hi.map ρA) xs.length) fun p => .ret { dst := .c (.v (.sl e) ((xs.take p.2).drop p.1) d) }) := by
          refine Sound.bnd fun p hp => ?_
          obtain ⟨h1, h2, h3⟩ := run p.1 p.2 hp
          rw [hv] at hr
          exact Sound.value hR h1 (AR.one.2 ⟨rfl, Rd.sub hr hle h2 h3⟩)
        split
        · rename_i l hX hlo
          split
          · rename_i e' xs' dd hl
            refine Sound.bnd fun p hp => ?_
            rw [← hlo] at hp
            obtain ⟨h1, h2, h3⟩ := run p.1 p.2 hp
            have hp1 : p.1 = 0 := by
              cases lo with
              | some y => cases hlo
              | none =>
                unfold sliceB at hp
                simp only [Option.map_none] at hp
                split at hp
                · simp only [Option.some.injEq] at hp; rw [← hp]
                · rename_i g1 g2; cases g1
                · split at hp
                  · simp only [Option.some.injEq] at hp; rw [← hp]
                  · cases hp
                · rename_i g1 g2; cases g1
                · cases hp
            rw [hX] at hx
            obtain ⟨hv', _⟩ := VR.cell hx
            rw [hv] at hv'
            have hq : (if c = p.1 then q else q.map (·.add (p.1 * e.size))) = q := by
              rw [hp1]
              split
              · rfl
              · cases q <;> simp [Addr.add]
            rw [hq, hp1, Nat.sub_zero, Nat.sub_zero] at h1
            exact Sound.value hR h1 (AR.one.2 ⟨q, _, c, hv'.symm, rfl, h3⟩)
          · exact gen
        · rename_i l lo' hX hlo
          split
          · rename_i e' xs' dd hl hhi
            split
            · refine Sound.bnd fun p hp => ?_
              rw [← hlo, ← hhi] at hp
              obtain ⟨h1, h2, h3⟩ := run p.1 p.2 hp
              have hp2 : p.2 = xs.length := by
                rw [hlo, hhi] at hp
                unfold sliceB at hp
                simp only [Option.map_some, Option.map_none] at hp
                split at hp
                · rename_i g1 g2; simp at g1
                · split at hp
                  · simp only [Option.some.injEq] at hp; rw [← hp]
                  · cases hp
                · rename_i g1 g2; cases g2
                · rename_i g1 g2; cases g2
                · cases hp
              have hd' : V.slData (.c (.ref l)) = some ⟨e, xs, d⟩ := by rw [hX] at hd; exact hd
              obtain ⟨rfl, hd2⟩ : e' = e ∧ (⟨e', xs', [l]⟩ : Σ e : Ty, List e.D × List Nat) = ⟨e, xs, d⟩ := by
                simp only [View.slData, hl, Option.some.injEq] at hd'
                exact ⟨congrArg Sigma.fst hd', hd'⟩
              simp only [Sigma.mk.injEq, heq_eq_eq, Prod.mk.injEq, true_and] at hd2
              obtain ⟨rfl, rfl⟩ := hd2
              have hs := hV l _ hl
              rw [hX] at hx
              obtain ⟨hv', _⟩ := VR.cell hx
              have hr0 := hr
              rw [hv] at hr
              refine Sound.value hR h1 (AR.one.2 ⟨xs', dd, hs, by simp; omega, Rd.sub hr hle h2 h3, fun hne => ?_⟩)
              have hlt : p.1 < p.2 := by
                rcases Nat.lt_or_ge p.1 p.2 with h | h
                · exact h
                · exact absurd (List.drop_of_length_le (by simp; omega)) hne
              rcases hR.root l _ hs with ⟨q0, hq0, rfl⟩ | ⟨b, cap, vs, TT, hh, _⟩
              · simp at hne
              · rw [hv, hh] at hv'
                simp only [Value.slice.injEq] at hv'
                obtain ⟨rfl, _, rfl⟩ := hv'
                refine ⟨b, _, c, c - p.1, hh, ?_⟩
                rw [if_neg (by omega)]
                have hl2 : ((List.take p.2 xs').drop p.1).length = p.2 - p.1 := by simp; omega
                rw [hl2]
                simp [Addr.add_lit]
            · exact gen
          · exact gen
        · exact gen
      · exact Sound.fail
    · exact Sound.fail
  · exact Sound.fail

end Go.Proofs.YtgjneigkkgaaiaaGreatDoor.Vd

/- VdN -/
namespace Go.Proofs.YtgjneigkkgaaiaaGreatDoor.Vd

variable {P : Program} {E : Env} {ρ : Map} {w : World} {s : S} {a : Act} {K : Ctx} {H : Nat → Option Root}

/-- A name that nothing bears. -/
structure Unused (K : Ctx) (ρ : Map) (s : S) (n : Nat) : Prop where
  root : s.root n = none ∨ s.root n = some .gap
  own : ∀ b, (ρ.own b).loc ≠ some n
  fix : ∀ v, (n, v) ∉ K.fix

theorem Rel.unused (h : Rel P K ρ s a w) : Unused K ρ s s.H.length where
  root := .inl (by simp [S.root])
  own := fun b hb => Nat.lt_irrefl _ (h.live b _ hb)
  fix := fun v hv => Nat.lt_irrefl _ (h.fix _ v hv).2

def Map.new (ρ : Map) (n b : Nat) (v : Value) : Map := ⟨fun b' => if b' = b then .main n else ρ.own b', fun l => if l = n then v else ρ.hdr l⟩

theorem killed_one {n l : Nat} {c : Bool} : Killed ⟨[(n, c)], []⟩ l ↔ l = n := by
  constructor
  · rintro ⟨b, hb⟩
    simp only [List.mem_singleton, Prod.mk.injEq] at hb
    exact hb.1
  · rintro rfl
    exact ⟨c, by simp⟩

theorem not_moved_nil {k : List (Nat × Bool)} {l : Nat} : ¬ Moved ⟨k, []⟩ l := by simp [Moved, lookupN]

theorem root_other {dst : Option Nat} {d : Delta} {l : Nat} (hl : l ∉ d.set.map Prod.fst) : (s.apply dst d).root l = (s.root l).map (Root.left ⟨d.kill, d.mov⟩) := by
  rcases apply_root s dst d l with ⟨h, _⟩ | h
  · exact h
  · exact absurd (List.mem_map.2 ⟨_, h, rfl⟩) hl

theorem root_set {dst : Option Nat} {x : A} {n : Nat} {r : Option Root} {k : List (Nat × Bool)} : (s.apply dst { dst := x, set := [(n, r)], kill := k }).root n = r := by
  rcases apply_root s dst { dst := x, set := [(n, r)], kill := k } n with ⟨_, h⟩ | h
  · exact absurd (by simp) h
  · simp only [List.mem_singleton, Prod.mk.injEq, true_and] at h
    exact h

/-- A new block, a new root. -/
theorem Chg.new (h : Rel P K ρ s a w) {n : Nat} (hn : Unused K ρ s n) {w' : World} (hl : Later w w') (hold : ∀ b, b < w.heap.size → w'.heap[b]? = w.heap[b]?) (v : Value) (dst : Option Nat) (x : A) (r : Root) :
    Chg P ρ (ρ.new n w.heap.size v) w w' s.root (s.apply dst { dst := x, set := [(n, some r)], kill := [(n, true)] }).root ⟨[(n, true)], []⟩ where
  later := hl
  free := fun b hb ho => ⟨by simp [Map.new, Nat.ne_of_lt hb, ho], hold b hb⟩
  off := fun b hb ho => ⟨by simp [Map.new, Nat.ne_of_lt hb, ho], hold b hb⟩
  noOff := fun b ho => by
    simp only [Map.new] at ho
    split at ho
    · cases ho
    · exact ho
  block := fun b l hb _ _ => ⟨hold b hb, fun _ => by simp [Map.new, Nat.ne_of_lt hb]⟩
  hdr := fun l hk _ => by
    have : l ≠ n := by rintro rfl; exact hk (by simp [KilledAll])
    simp [Map.new, this]
  hdrP := fun l b hk _ => by
    have : l ≠ n := by rintro rfl; exact hk (by simp [KilledAll])
    simp [Map.new, this]
  arr := fun l e xs d hk _ hr => by
    have : l ≠ n := fun h => hk (killed_one.2 h)
    rw [root_other (by simpa using this), hr]
    rfl
  mov := fun l c hm => by cases hm
  got := fun b l hk _ h hb => by
    simp only [Map.new] at hb
    split at hb
    · simp only [Own.loc, Option.some.injEq] at hb
      exact hk (killed_one.2 hb.symm)
    · exact h b hb
  movB := fun b l _ _ hm => absurd hm not_moved_nil

theorem Rel.new (h : Rel P K ρ s a w) {n : Nat} (hn : Unused K ρ s n) {w' : World} (hl : Later w w') (hold : ∀ b, b < w.heap.size → w'.heap[b]? = w.heap[b]?) (hsz : w'.heap.size = w.heap.size + 1) {hd : Value}
    {dst : Option Nat} {x : A} {v : Value} {r : Root}
    (hr : Chg P ρ (ρ.new n w.heap.size hd) w w' s.root (s.apply dst { dst := x, set := [(n, some r)], kill := [(n, true)] }).root ⟨[(n, true)], []⟩ →
      RR P (ρ.new n w.heap.size hd) w' (s.apply dst { dst := x, set := [(n, some r)], kill := [(n, true)] }).root n r ∧ AR P (ρ.new n w.heap.size hd) w' (s.apply dst { dst := x, set := [(n, some r)], kill := [(n, true)] }).root x v) :
    Rel P K (ρ.new n w.heap.size hd) (s.apply dst { dst := x, set := [(n, some r)], kill := [(n, true)] }) (a.put dst v) w' := by
  have hc := Chg.new h hn hl hold hd dst x r
  obtain ⟨h1, h2⟩ := hr hc
  refine h.apply dst _ v hc ?_ ?_ (fun _ => h2) ?_ ?_ ?_
  · intro l r' hm
    simp only [List.mem_singleton, Prod.mk.injEq, Option.some.injEq] at hm
    obtain ⟨rfl, rfl⟩ := hm
    exact h1
  · rintro l (hk | hm)
    · rw [killed_one.1 hk]; simp
    · exact absurd hm not_moved_nil
  · intro b l hb
    rw [apply_H]
    simp only [Map.new] at hb
    split at hb
    · simp only [Own.loc, Option.some.injEq] at hb
      subst hb
      exact (setAll_length_ge _ _).2 n (some r) (by simp)
    · exact Nat.lt_of_lt_of_le (h.live b l hb) (Nat.le_trans (by rw [swept_H]; simp) (setAll_length_ge _ _).1)
  · intro b hb
    simp only [Map.new]
    rw [if_neg (by omega)]
    exact h.fresh b (by omega)
  · intro l u hl
    have : l ≠ n := by rintro rfl; exact hn.fix u hl
    simp [Map.new, this]

theorem Later.alloc (w : World) (o : Obj) : Later w (w.alloc o) := ⟨by show _ ≤ (w.heap.push o).size; simp, rfl, rfl, rfl⟩
theorem alloc_old (w : World) (o : Obj) (b : Nat) (hb : b < w.heap.size) : (w.alloc o).heap[b]? = w.heap[b]? := by
  show (w.heap.push o)[b]? = _
  rw [Array.getElem?_push_lt hb, Array.getElem?_eq_getElem hb]
theorem alloc_new (w : World) (o : Obj) : (w.alloc o).heap[w.heap.size]? = some o := by show (w.heap.push o)[_]? = _; simp
theorem alloc_size (w : World) (o : Obj) : (w.alloc o).heap.size = w.heap.size + 1 := by show (w.heap.push o).size = _; simp

/-- An operation that lays a new block. -/
theorem Sound.new (hR : Rel P K ρ s a w) {n : Nat} (hn : Unused K ρ s n) {o : Oper} {x : A} {v : Value} {r : Root} {cells : Array Value} {T : TypeId} (hd : Value)
    (run : (execOp a.eval o).run P w = .ok (.value v) (w.alloc (.cells cells T)))
    (hr : ∀ H', Chg P ρ (ρ.new n w.heap.size hd) w (w.alloc (.cells cells T)) s.root H' ⟨[(n, true)], []⟩ → H' n = some r →
      RR P (ρ.new n w.heap.size hd) (w.alloc (.cells cells T)) H' n r ∧ AR P (ρ.new n w.heap.size hd) (w.alloc (.cells cells T)) H' x v) :
    Sound P K s a w o (.ret { dst := x, set := [(n, some r)], kill := [(n, true)] }) := by
  intro _ next Q hnext
  refine wp_value run (hnext _ _ _ _ rfl (hR.new hn (Later.alloc w _) (alloc_old w _) (alloc_size w _) fun hc => hr _ hc root_set))

theorem cells_one {v : Value} (h : v.oneCell' = true) : v.cells = #[v] := by
  cases v <;> simp_all [Value.cells, Value.oneCell']

theorem VR.cells {g : Bool} {cs : List C} {v : Value} (h : VR P ρ w H g cs v) : ∃ vs, CsR P ρ w H cs vs ∧ v.cells = vs.toArray := by
  obtain ⟨vs, h1, h2⟩ := h
  cases g with
  | true => exact ⟨vs, h1, by simp at h2; subst h2; rfl⟩
  | false =>
    simp at h2
    subst h2
    refine ⟨[v], h1, ?_⟩
    obtain ⟨c, hc⟩ : ∃ c, cs = [c] := by
      have := h1.1
      match cs, this with
      | [c], _ => exact ⟨c, rfl⟩
    subst hc
    exact cells_one ((h1.2 0 c v rfl rfl).one)

theorem box_new {n b : Nat} {cs : List C} {vs : List Value} {T : TypeId} {H' : Nat → Option Root} {w' : World} (hb : w'.heap[b]? = some (.cells vs.toArray T (0, 0))) {ρ' : Map} (ho : ρ'.own b = .main n) (hh : ρ'.hdr n = .pointer (some ⟨b, 0, none⟩))
    (hcs : CsR P ρ' w' H' cs vs) : RR P ρ' w' H' n (.box cs) ∧ AR P ρ' w' H' (.c (.bp n 0)) (.pointer (some ⟨b, 0, none⟩)) :=
  ⟨⟨b, vs, T, hh, ho, hb, hcs⟩, AR.one.2 ⟨b, hh, rfl⟩⟩

theorem box_sound (hR : Rel P K ρ s a w) {n : Nat} (hn : Unused K ρ s n) {o : Oper} {T : TypeId} {x : Operand} (ho : o.op = .box T x) {g : Bool} {cs : List C} (hx : AR P ρ w s.root (.val g cs) (a.eval x)) :
    Sound P K s a w o (.ret { dst := .c (.bp n 0), set := [(n, some (.box (cs.map (C.left ⟨[(n, true)], []⟩))))], kill := [(n, true)] }) := by
  obtain ⟨vs, h1, h2⟩ := VR.cells hx
  refine Sound.new hR hn (.pointer (some ⟨w.heap.size, 0, none⟩)) (cells := vs.toArray) (T := T) (v := .pointer (some ⟨w.heap.size, 0, none⟩)) ?_ fun H' hc _ => ?_
  · simp [execOp, ho, Instr.box, newVar, newRow, h2]
  · exact box_new (alloc_new w _) (by simp [Map.new]) (by simp [Map.new]) (CsR.left hc h1)

theorem alloc_sound (hR : Rel P K ρ s a w) (hT : TyOK P E) {n : Nat} (hn : Unused K ρ s n) {o : Oper} {T : TypeId} (ho : o.op = .alloc T) (hz : (E.zeros T).isEmpty = false) :
    Sound P K s a w o (.ret { dst := .c (.bp n 0), set := [(n, some (.box (E.zeros T)))], kill := [(n, true)] }) := by
  have go : ∀ (z : Value) (vs : List Value), (zeroValue T).run P w = .ok z w → z.cells = vs.toArray → (∀ ρ' w' H', CsR P ρ' w' H' (E.zeros T) vs) →
      Sound P K s a w o (.ret { dst := .c (.bp n 0), set := [(n, some (.box (E.zeros T)))], kill := [(n, true)] }) := by
    intro z vs hz h2 h3
    refine Sound.new hR hn (.pointer (some ⟨w.heap.size, 0, none⟩)) (cells := vs.toArray) (T := T) (v := .pointer (some ⟨w.heap.size, 0, none⟩)) ?_ fun H' hc _ => ?_
    · simp [execOp, ho, Instr.alloc, hz, newVar, newRow, h2]
    · exact box_new (alloc_new w _) (by simp [Map.new]) (by simp [Map.new]) (h3 _ _ _)
  unfold Env.zeros at hz ⊢
  unfold Env.zeros at go
  cases hTt : E.T T with
  | some t =>
    simp only [hTt] at go ⊢
    obtain ⟨i, z, hi, _, _, hz', hzo⟩ := infoOK.spec (shp.info (hT.ty T t hTt))
    exact go z z.cells.toList (by simp [zeroValue, typeInfo, hi, hz']) (by simp) fun ρ' w' H' => zeroOK.cells ρ' w' H' t _ hzo
  | none =>
    simp only [hTt] at go hz ⊢
    split at hz
    · rename_i hoth
      rw [if_pos hoth] at go ⊢
      have h1 := hT.other T hoth
      unfold otherOK at h1
      simp only [Bool.and_eq_true] at h1
      obtain ⟨_, h2⟩ := h1
      split at h2
      · rename_i i hi
        simp only [Bool.and_eq_true] at h2
        obtain ⟨_, h3⟩ := h2
        split at h3
        · rename_i z hz'
          have hone : z.oneCell' = true := by cases z <;> simp_all [Value.oneCell']
          exact go z [z] (by simp [zeroValue, typeInfo, hi, hz']) (cells_one hone) fun ρ' w' H' => CsR.single hone
        · cases h3
      · cases h2
    · cases hz

end Go.Proofs.YtgjneigkkgaaiaaGreatDoor.Vd

/- VdO -/
namespace Go.Proofs.YtgjneigkkgaaiaaGreatDoor.Vd

variable {P : Program} {E : Env} {ρ : Map} {w : World} {s : S} {a : Act} {K : Ctx} {H : Nat → Option Root}

def putAll (off : Nat) (cells : Array Value) (l : List (Value × Nat)) : Array Value := l.foldl (fun cs (c, j) => cs.setIfInBounds (off + j) c) cells

theorem putAll_spec (off : Nat) : ∀ (vs : List Value) (m : Nat) (cells : Array Value), (putAll off cells (vs.zipIdx m)).size = cells.size ∧
    ∀ k, (putAll off cells (vs.zipIdx m))[k]? = if off + m ≤ k ∧ k < off + m + vs.length ∧ k < cells.size then vs[k - (off + m)]? else cells[k]?
  | [], m, cells => ⟨rfl, fun k => by rw [if_neg (by simp only [List.length_nil]; omega)]; rfl⟩
  | v :: vs, m, cells => by
    obtain ⟨h1, h2⟩ := putAll_spec off vs (m + 1) (cells.setIfInBounds (off + m) v)
    have he : putAll off cells ((v :: vs).zipIdx m) = putAll off (cells.setIfInBounds (off + m) v) (vs.zipIdx (m + 1)) := rfl
    rw [he]
    refine ⟨by rw [h1]; simp, fun k => ?_⟩
    rw [h2 k]
    simp only [Array.size_setIfInBounds, List.length_cons]
    by_cases hk : k = off + m
    · subst hk
      rw [if_neg (by omega)]
      by_cases hs : off + m < cells.size
      · rw [if_pos (by omega), Array.getElem?_setIfInBounds_self_of_lt hs]
        simp
      · rw [if_neg (by omega), Array.getElem?_eq_none (by simp; omega), Array.getElem?_eq_none (by omega)]
    · by_cases hc : off + (m + 1) ≤ k ∧ k < off + (m + 1) + vs.length ∧ k < cells.size
      · rw [if_pos hc, if_pos (by omega)]
        rw [show k - (off + m) = (k - (off + (m + 1))) + 1 by omega, List.getElem?_cons_succ]
      · rw [if_neg hc, if_neg (by omega), Array.getElem?_setIfInBounds_ne (by omega)]

theorem setCells_spec : ∀ (ds cs : List C) (off : Nat), (setCells cs off ds).length = cs.length ∧
    ∀ k : Nat, (setCells cs off ds)[k]? = if off ≤ k ∧ k < off + ds.length ∧ k < cs.length then ds[k - off]? else cs[k]?
  | [], cs, off => ⟨rfl, fun k => by rw [if_neg (by simp only [List.length_nil]; omega)]; rfl⟩
  | c :: ds, cs, off => by
    obtain ⟨h1, h2⟩ := setCells_spec ds (cs.set off c) (off + 1)
    refine ⟨by rw [setCells, h1]; simp, fun k => ?_⟩
    rw [setCells, h2 k]
    simp only [List.length_set, List.length_cons]
    by_cases hk : k = off
    · subst hk
      rw [if_neg (by omega)]
      by_cases hs : k < cs.length
      · rw [if_pos (by omega), List.getElem?_set_self hs]
        simp
      · rw [if_neg (by omega), List.getElem?_eq_none (by simp; omega), List.getElem?_eq_none (by omega)]
    · by_cases hc : off + 1 ≤ k ∧ k < off + 1 + ds.length ∧ k < cs.length
      · rw [if_pos hc, if_pos (by omega)]
        rw [show k - off = (k - (off + 1)) + 1 by omega, List.getElem?_cons_succ]
      · rw [if_neg hc, if_neg (by omega), List.getElem?_set_ne (by omega)]

theorem CsR.put {cs ds : List C} {cells : Array Value} {us : List Value} (h : CsR P ρ w H cs cells.toList) (h' : CsR P ρ w H ds us) (off : Nat) :
    CsR P ρ w H (setCells cs off ds) (putAll off cells us.zipIdx).toList := by
  obtain ⟨h1, h2⟩ := putAll_spec off us 0 cells
  obtain ⟨h3, h4⟩ := setCells_spec ds cs off
  have hl := h.1
  simp only [Array.length_toList] at hl
  refine ⟨h3.trans (hl.trans (h1.symm.trans Array.length_toList.symm)), fun k c v hc hv => ?_⟩
  rw [h4 k] at hc
  rw [Array.getElem?_toList, h2 k] at hv
  simp only [Nat.add_zero] at hv
  rw [← hl, ← h'.1] at hv
  split at hc
  · rename_i hk
    rw [if_pos hk] at hv
    exact h'.2 _ c v hc hv
  · rename_i hk
    rw [if_neg hk] at hv
    exact h.2 k c v hc (by simpa using hv)

theorem fill_cons (place : Nat → Option (Nat × Nat)) (cells : Array Value) (i : Nat) (v : Value) (rest : List (Nat × Value)) {vs : List Value} (hv : v.cells = vs.toArray) {off : Nat} (hp : place i = some (off, vs.length)) (hl : off + vs.length ≤ cells.size) :
    Instr.fill place cells ((i, v) :: rest) = Instr.fill place (putAll off cells vs.zipIdx) rest := by
  simp only [Instr.fill, hp, hv, List.size_toArray]
  rw [if_neg (by simp; omega)]
  congr 1
  simp [putAll]

/-- The parts of a composite value. -/
theorem fill_rel {ρA : Operand → A} {f : Operand → Value} (hρ : ∀ o, AR P ρ w H (ρA o) (f o)) {place place' : Nat → Option (Nat × Nat)} (hp : ∀ i o n, place i = some (o, n) → place' i = some (o, n)) :
    ∀ (ps : List (Nat × Operand)) (zs cs : List C) (cells : Array Value), partsCells zs (ps.map fun p => (p.1, ρA p.2)) place = some cs → CsR P ρ w H zs cells.toList →
      ∃ cells', Instr.fill place' cells (ps.map fun p => (p.1, f p.2)) = some cells' ∧ CsR P ρ w H cs cells'.toList
  | [], zs, cs, cells, h, hz => by
    simp only [List.map_nil, partsCells, Option.some.injEq] at h
    subst h
    exact ⟨cells, rfl, hz⟩
  | (i, x) :: ps, zs, cs, cells, h, hz => by
    simp only [List.map_cons] at h
    have hx := hρ x
    cases hX : ρA x with
    | val g ds =>
      rw [hX] at h hx
      simp only [partsCells] at h
      split at h
      · rename_i off n hpl
        split at h
        · rename_i hc
          obtain ⟨us, h1, h2⟩ := VR.cells hx
          have hl : zs.length = cells.size := by simpa using hz.1
          have hn : us.length = n := by rw [← h1.1, hc.1]
          obtain ⟨cells', g1, g2⟩ := fill_rel hρ hp ps _ cs _ h (hz.put h1 off)
          refine ⟨cells', ?_, g2⟩
          rw [List.map_cons, fill_cons place' cells i _ _ h2 (by rw [hn]; exact hp _ _ _ hpl) (by omega)]
          exact g1
        · cases h
      · cases h
    | none => rw [hX] at h; simp [partsCells] at h
    | any => rw [hX] at h; simp [partsCells] at h
    | tup vs => rw [hX] at h; simp [partsCells] at h

theorem mapM_some {α β : Type} {g : α → Option β} : ∀ (l : List α), (∀ x ∈ l, ∃ y, g x = some y) → ∃ ys, l.mapM g = some ys ∧ ∀ (i : Nat) x y, l[i]? = some x → g x = some y → ys[i]? = some y
  | [], _ => ⟨[], rfl, fun i x y h => by simp at h⟩
  | x :: l, h => by
    obtain ⟨y, hy⟩ := h x (by simp)
    obtain ⟨ys, h1, h2⟩ := mapM_some l fun x hx => h x (List.mem_cons_of_mem _ hx)
    refine ⟨y :: ys, by simp [List.mapM_cons, hy, h1], fun i x' y' hi hg => ?_⟩
    cases i with
    | zero => simp at hi; subst hi; rw [hy] at hg; simpa using hg
    | succ i => exact h2 i x' y' (by simpa using hi) hg

theorem shp.partAll : (t : Ty) → (fs : List (TypeId × Nat)) → (off : Nat) → shp P t (.inr (fs, off)) = true → ∀ q ∈ fs, ∃ u, shp P u (.inl q.1) = true
  | .one h, fs, off, hs, q, hq => by
    match fs, hs with
    | [(T', o')], hs =>
      simp only [shp, Bool.and_eq_true] at hs
      simp only [List.mem_singleton] at hq
      subst hq
      exact ⟨h, hs.2⟩
  | .cons h t, fs, off, hs, q, hq => by
    match fs, hs with
    | (T', o') :: fs, hs =>
      simp only [shp, Bool.and_eq_true] at hs
      rcases List.mem_cons.1 hq with rfl | hq
      · exact ⟨h, hs.1.2⟩
      · exact shp.partAll t fs _ hs.2 q hq
  | .int _, _, _, hs, _, _ | .bool, _, _, hs, _, _ | .str, _, _, hs, _, _ | .sl _, _, _, hs, _, _ => by simp [shp] at hs

theorem shp.partsAll {t : Ty} {T : TypeId} (h : shp P t (.inl T) = true) (ha : t.agg = true) : ∃ fs, fieldsOf P T = some fs ∧ ∀ q ∈ fs, ∃ u, shp P u (.inl q.1) = true := by
  cases t with
  | one h0 =>
    simp only [shp, Bool.and_eq_true] at h
    have h2 := h.2
    split at h2
    · rename_i T' hfs
      exact ⟨_, hfs, fun q hq => by simp only [List.mem_singleton] at hq; subst hq; exact ⟨h0, h2⟩⟩
    · cases h2
  | cons h0 t0 =>
    simp only [shp, Bool.and_eq_true] at h
    have h2 := h.2
    split at h2
    · rename_i T' fs hfs
      simp only [Bool.and_eq_true] at h2
      refine ⟨_, hfs, fun q hq => ?_⟩
      rcases List.mem_cons.1 hq with rfl | hq
      · exact ⟨h0, h2.1⟩
      · exact shp.partAll t0 fs _ h2.2 q hq
    · cases h2
  | _ => simp [Ty.agg] at ha

theorem info_size {u : Ty} {T : TypeId} (h : shp P u (.inl T) = true) : ∃ i, P.info? T = some i ∧ i.size = u.size := by
  obtain ⟨i, z, h1, h2, _⟩ := infoOK.spec (shp.info h)
  exact ⟨i, h1, h2⟩

theorem buildR_sound (hR : Rel P K ρ s a w) (hT : TyOK P E) {o : Oper} {T : TypeId} {ps : Array (Nat × Operand)} (ho : o.op = .build T ps)
    {ρA : Operand → A} (hρ : ∀ o, AR P ρ w s.root (ρA o) (a.eval o)) : Sound P K s a w o (buildR E T (ps.toList.map fun p => (p.1, ρA p.2))) := by
  unfold buildR
  split
  · rename_i t hTt
    have hs := hT.ty T t hTt
    split
    · rename_i ha
      split
      · rename_i cs hcs
        obtain ⟨it, z, hi, _, _, hz, hzo⟩ := infoOK.spec (shp.info hs)
        obtain ⟨fs, hf, hall⟩ := shp.partsAll hs ha
        have hzr := zeroOK.cells (P := P) ρ w s.root t _ hzo
        have fin : ∀ place', (∀ i o n, (fun i => (t.field i).map fun (o, u) => (o, u.size)) i = some (o, n) → place' i = some (o, n)) →
            P.built T (ps.toList.map fun p => (p.1, a.eval p.2)) = Instr.fill place' z.cells (ps.toList.map fun p => (p.1, a.eval p.2)) → Sound P K s a w o (.ret { dst := .val true cs }) := by
          intro place' hp hb
          obtain ⟨cells', h1, h2⟩ := fill_rel hρ hp ps.toList _ cs _ hcs hzr
          have hb' : P.built T (ps.map fun p => (p.1, a.eval p.2)).toList = some cells' := by rw [Array.toList_map, hb, h1]
          have := run_build w T (ps.map fun p => (p.1, a.eval p.2)) cells' hb'
          refine Sound.value hR (v := .agg cells') ?_ ⟨cells'.toList, h2, by simp⟩
          simp only [execOp, ho, Sem.run_bind]
          rw [this]
          rfl
        unfold fieldsOf at hf
        split at hf
        · rename_i fields hu
          simp only [Option.some.injEq] at hf
          obtain ⟨places, g1, g2⟩ := mapM_some (g := fun f : Field => (P.info? f.type).map fun i => (f.offset, i.size)) fields.toList fun f hf' => by
            obtain ⟨u, hu'⟩ := hall (f.type, f.offset) (by rw [← hf]; exact List.mem_map.2 ⟨f, hf', rfl⟩)
            obtain ⟨i, h1, h2⟩ := info_size hu'
            exact ⟨_, by simp only [h1]; rfl⟩
          refine fin (places.toArray[·]?) (fun i o n h => ?_) ?_
          · simp only [Option.map_eq_some_iff, Prod.mk.injEq, Prod.exists] at h
            obtain ⟨o', u, h1, rfl, rfl⟩ := h
            obtain ⟨fs', T', q1, q2, q3⟩ := shp.parts hs h1
            unfold fieldsOf at q1
            rw [hu] at q1
            simp only [Option.some.injEq] at q1
            subst q1
            simp only [List.getElem?_map, Option.map_eq_some_iff, Prod.mk.injEq] at q2
            obtain ⟨fd, h4, rfl, rfl⟩ := q2
            obtain ⟨i', h5, h6⟩ := info_size q3
            have := g2 i fd (fd.offset, u.size) h4 (by simp [h5, h6])
            simpa using this
          · unfold Program.built
            simp only [hi, hu, hz, g1]
        · rename_i n e hu
          split at hf
          · rename_i ie hie
            simp only [Option.some.injEq] at hf
            refine fin (fun i => some (i * ie.size, ie.size)) (fun i o n' h => ?_) ?_
            · simp only [Option.map_eq_some_iff, Prod.mk.injEq, Prod.exists] at h
              obtain ⟨o', u, h1, rfl, rfl⟩ := h
              obtain ⟨fs', T', q1, q2, q3⟩ := shp.parts hs h1
              unfold fieldsOf at q1
              rw [hu] at q1
              simp only [hie, Option.some.injEq] at q1
              subst q1
              simp only [List.getElem?_map, Option.map_eq_some_iff, Prod.mk.injEq] at q2
              obtain ⟨m, h4, rfl, rfl⟩ := q2
              obtain ⟨i', h5, h6⟩ := info_size q3
              rw [hie] at h5
              cases h5
              have hm : m = i := by
                rw [List.getElem?_eq_some_iff] at h4
                obtain ⟨p1, p2⟩ := h4
                simp at p2
                exact p2.symm
              rw [h6, hm]
            · unfold Program.built
              simp only [hi, hu, hz, hie]
          · cases hf
        · cases hf
      · exact Sound.fail
    · exact Sound.fail
  · exact Sound.fail

end Go.Proofs.YtgjneigkkgaaiaaGreatDoor.Vd

/- VdP -/
namespace Go.Proofs.YtgjneigkkgaaiaaGreatDoor.Vd

variable {P : Program} {E : Env} {ρ : Map} {w : World} {s : S} {a : Act} {K : Ctx} {H : Nat → Option Root}

theorem DR.ofFlat {own : Nat → Own} {l i : Nat} {A : Nat → Prop} : (t : Ty) → (j : Nat) → (x : t.D) → (us : List Value) → t.flat = true → Rd w A t x us → DR w own l i t j x us
  | .one h, j, x, us, hf, hr => DR.ofFlat h j x us hf hr
  | .cons h t, j, x, us, hf, hr => by
    obtain ⟨v1, v2, rfl, h1, h2⟩ := hr
    simp only [Ty.flat, Bool.and_eq_true] at hf
    exact ⟨v1, v2, rfl, DR.ofFlat h _ _ _ hf.1 h1, DR.ofFlat t _ _ _ hf.2 h2⟩
  | .int _, _, _, _, _, hr => hr
  | .bool, _, _, _, _, hr => hr
  | .str, _, _, _, _, hr => hr
  | .sl _, _, _, _, hf, _ => by simp [Ty.flat] at hf

theorem zeroOK.dr (w : World) (own : Nat → Own) (l i : Nat) : (t : Ty) → (j : Nat) → (vs : List Value) → t.shallow = true → zeroOK t vs = true → DR w own l i t j t.zero vs
  | .one h, j, vs, hf, hz => zeroOK.dr w own l i h j vs hf hz
  | .cons h t, j, vs, hf, hz => by
    simp only [zeroOK, Bool.and_eq_true] at hz
    simp only [Ty.shallow, Bool.and_eq_true] at hf
    exact ⟨_, _, (List.take_append_drop h.size vs).symm, zeroOK.dr w own l i h _ _ hf.1 hz.1, zeroOK.dr w own l i t _ _ hf.2 hz.2⟩
  | .sl u, j, vs, hf, hz => by
    have := zeroOK.rd w (Free own) (.sl u) vs hz
    match vs, hz with
    | [v], hz =>
      have hv : v = .slice none 0 0 := by
        cases v <;> simp [zeroOK, zero1] at hz
        rename_i a n c
        cases a <;> cases n <;> cases c <;> simp at hz ⊢
      exact ⟨v, rfl, hf, .inl ⟨none, hv, rfl⟩⟩
  | .int k, j, vs, _, hz => zeroOK.rd w (Free own) (.int k) vs hz
  | .bool, j, vs, _, hz => zeroOK.rd w (Free own) .bool vs hz
  | .str, j, vs, _, hz => zeroOK.rd w (Free own) .str vs hz

theorem madeCells_get {z : Array Value} {n k : Nat} (hk : k < n) (hz : 0 < z.size) : (madeCells z n)[k]? = z[k % z.size]? := by
  have h1 : k % z.size < z.size := Nat.mod_lt _ hz
  simp [madeCells, hk, h1, getElem!_pos]

theorem row_index {i n sz j : Nat} (hi : i < n) (hj : j < sz) : i * sz + j < n * sz ∧ (i * sz + j) % sz = j := by
  constructor
  · calc i * sz + j < i * sz + sz := by omega
      _ = (i + 1) * sz := by rw [Nat.add_mul, Nat.one_mul]
      _ ≤ n * sz := Nat.mul_le_mul_right _ hi
  · rw [Nat.mul_comm, Nat.mul_add_mod]
    exact Nat.mod_eq_of_lt hj

theorem maxLen_ge {n : Nat} (h : n ≤ lim) : n ≤ maxLen := Nat.le_trans h (by decide)

theorem makeSliceR_sound (hR : Rel P K ρ s a w) (hT : TyOK P E) {V : View} (hn : Unused K ρ s V.nx) {o : Oper} {T : TypeId} {x y : Operand} (ho : o.op = .makeSlice T x y) {X Y : A}
    (hx : AR P ρ w s.root X (a.eval x)) (hy : AR P ρ w s.root Y (a.eval y)) : Sound P K s a w o (makeSliceR E T X Y V) := by
  unfold makeSliceR
  split
  · rename_i e n c hTe hX hY
    obtain ⟨kn, en⟩ := hx.asInt hX
    obtain ⟨kc, ec⟩ := hy.asInt hY
    refine Sound.guard fun hg => ?_
    simp only [Bool.and_eq_true, decide_eq_true_eq] at hg
    obtain ⟨⟨h0, h1⟩, h2⟩ := hg
    obtain ⟨T', hu, hT'⟩ := shp.slice (hT.ty T _ hTe)
    obtain ⟨i, z, hi, hsz, hby, hz, hzo⟩ := infoOK.spec (shp.info hT')
    have hc : c ≤ 68719476736 := h2
    have hb : (i.bytes : Int) * c ≤ 281474976710656 := by
      have h3 : (i.bytes : Int) ≤ 2048 := Int.ofNat_le.2 hby
      have h4 : (i.bytes : Int) * c ≤ 2048 * c := Int.mul_le_mul_of_nonneg_right h3 (by omega)
      omega
    have run := run_make (P := P) w T T' i z hu hi hz kn kc n c h0 h1 hb (by omega)
    have hzl : z.cells.size = e.size := by have := zeroOK.length e _ hzo; rwa [Array.length_toList] at this
    have hpos := Ty.size_pos e
    refine Sound.new hR hn (.slice (some ⟨w.heap.size, 0, none⟩) n.toNat c.toNat) (cells := madeCells z.cells (c.toNat * i.size)) (T := T') (v := .slice (some ⟨w.heap.size, 0, none⟩) n.toNat c.toNat) ?_ fun H' hc' hH => ?_
    · simp only [execOp, ho, en, ec, Sem.run_bind]
      rw [run]
      rfl
    · constructor
      · refine .inr ⟨w.heap.size, c.toNat, _, T', ?_, ?_, ?_, ?_, alloc_new w _, ?_, ?_⟩
        · simp [Map.new]
        · simp; omega
        · exact maxLen_ge (by show c.toNat ≤ 68719476736; omega)
        · simp [Map.new]
        · rw [size_madeCells, hsz]
        · intro k x hk
          rw [List.getElem?_replicate] at hk
          split at hk
          · rename_i hlt
            cases hk
            refine ⟨z.cells.toList, by simpa using hzl, fun j u hj => ?_, ?_⟩
            · have hjl : j < e.size := by
                have := (List.getElem?_eq_some_iff.1 hj).1
                simpa [hzl] using this
              obtain ⟨g1, g2⟩ := row_index (i := k) (n := c.toNat) (sz := e.size) (by omega) hjl
              rw [madeCells_get (by rw [hsz]; exact g1) (by omega), hzl, g2]
              simpa using hj
            · unfold EL
              cases hsh : e.shallow with
              | true => exact zeroOK.dr _ _ _ _ e 0 _ hsh hzo
              | false => exact zeroOK.rd _ _ e _ hzo
          · cases hk
      · exact AR.one.2 ⟨by simp [Map.new], _, _, _, rfl⟩
  · exact Sound.fail

/-- The rows of a slice literal. -/
def Rows (P : Program) (ρ : Map) (w : World) (H : Nat → Option Root) (n sz : Nat) (els : List (List C)) (cells : Array Value) : Prop :=
  els.length = n ∧ cells.size = n * sz ∧ ∀ (i : Nat) cs, els[i]? = some cs → ∃ us, CsR P ρ w H cs us ∧ us.length = sz ∧ ∀ (j : Nat) u, us[j]? = some u → cells[i * sz + j]? = some u

theorem Rows.put {n sz : Nat} {els : List (List C)} {cells : Array Value} (h : Rows P ρ w H n sz els cells) {i : Nat} (hi : i < n) {cs : List C} {us : List Value} (hc : CsR P ρ w H cs us) (hl : us.length = sz) :
    Rows P ρ w H n sz (els.set i cs) (putAll (i * sz) cells us.zipIdx) := by
  obtain ⟨h1, h2, h3⟩ := h
  obtain ⟨g1, g2⟩ := putAll_spec (i * sz) us 0 cells
  refine ⟨by simp [h1], g1.trans h2, fun k ds hk => ?_⟩
  have hrow : (i + 1) * sz ≤ n * sz := Nat.mul_le_mul_right _ hi
  rw [Nat.add_mul, Nat.one_mul] at hrow
  by_cases hki : k = i
  · subst hki
    rw [List.getElem?_set_self (by omega)] at hk
    cases hk
    refine ⟨us, hc, hl, fun j u hj => ?_⟩
    have hjl := (List.getElem?_eq_some_iff.1 hj).1
    rw [g2, if_pos (by omega)]
    rw [show k * sz + j - (k * sz + 0) = j by omega]
    exact hj
  · rw [List.getElem?_set_ne (Ne.symm hki)] at hk
    obtain ⟨us', q1, q2, q3⟩ := h3 k ds hk
    refine ⟨us', q1, q2, fun j u hj => ?_⟩
    have hjl := (List.getElem?_eq_some_iff.1 hj).1
    rw [g2, if_neg ?_]
    · exact q3 j u hj
    · rintro ⟨p1, p2, _⟩
      rcases Nat.lt_or_gt_of_ne hki with hlt | hgt
      · have : (k + 1) * sz ≤ i * sz := Nat.mul_le_mul_right _ hlt
        rw [Nat.add_mul, Nat.one_mul] at this
        omega
      · have : (i + 1) * sz ≤ k * sz := Nat.mul_le_mul_right _ hgt
        rw [Nat.add_mul, Nat.one_mul] at this
        omega

theorem rows_fill {ρA : Operand → A} {f : Operand → Value} (hρ : ∀ o, AR P ρ w H (ρA o) (f o)) {n sz : Nat} {agg : Bool} {zero : List C} (hz : zero.length = sz) :
    ∀ (ps : List (Nat × Operand)) (els els' : List (List C)) (cells : Array Value), partsEls zero n agg (ps.map fun p => (p.1, ρA p.2)) els = some els' → Rows P ρ w H n sz els cells →
      ∃ cells', Instr.fill (fun i => some (i * sz, sz)) cells (ps.map fun p => (p.1, f p.2)) = some cells' ∧ Rows P ρ w H n sz els' cells'
  | [], els, els', cells, h, hr => by
    simp only [List.map_nil, partsEls, Option.some.injEq] at h
    subst h
    exact ⟨cells, rfl, hr⟩
  | (i, x) :: ps, els, els', cells, h, hr => by
    simp only [List.map_cons] at h
    have hx := hρ x
    cases hX : ρA x with
    | val g ds =>
      rw [hX] at h hx
      simp only [partsEls] at h
      split at h
      · rename_i hc
        obtain ⟨us, h1, h2⟩ := VR.cells hx
        have hn : us.length = sz := by rw [← h1.1, hc.2.2, hz]
        obtain ⟨cells', g1, g2⟩ := rows_fill hρ hz ps _ els' _ h (hr.put hc.1 h1 hn)
        refine ⟨cells', ?_, g2⟩
        have hrow : (i + 1) * sz ≤ n * sz := Nat.mul_le_mul_right _ hc.1
        rw [Nat.add_mul, Nat.one_mul] at hrow
        rw [List.map_cons, fill_cons _ cells i _ _ h2 (by rw [hn]) (by rw [hn, hr.2.1]; omega)]
        exact g1
      · cases h
    | none => rw [hX] at h; simp [partsEls] at h
    | any => rw [hX] at h; simp [partsEls] at h
    | tup vs => rw [hX] at h; simp [partsEls] at h

theorem buildSliceR_sound (hR : Rel P K ρ s a w) (hT : TyOK P E) {V : View} (hV : Seen V s) (hn : Unused K ρ s V.nx) {o : Oper} {T : TypeId} {n : Nat} {ps : Array (Nat × Operand)} (ho : o.op = .buildSlice T n ps)
    {ρA : Operand → A} (hρ : ∀ o, AR P ρ w s.root (ρA o) (a.eval o)) : Sound P K s a w o (buildSliceR E T n (ps.toList.map fun p => (p.1, ρA p.2)) V) := by
  unfold buildSliceR
  split
  · rename_i e hTe
    split
    · exact Sound.fail
    · rename_i hsmall
      split
      · rename_i els hels
        obtain ⟨T', hu, hT'⟩ := shp.slice (hT.ty T _ hTe)
        obtain ⟨i, z, hi, hsz, hby, hz, hzo⟩ := infoOK.spec (shp.info hT')
        have hzl : z.cells.size = e.size := by have := zeroOK.length e _ hzo; simpa using this
        have hpos := Ty.size_pos e
        have hzr := zeroOK.cells (P := P) ρ w s.root e _ hzo
        have h0 : Rows P ρ w s.root n e.size (List.replicate n (zeroCells e)) (madeCells z.cells (n * e.size)) := by
          refine ⟨by simp, size_madeCells _ _, fun k cs hk => ?_⟩
          rw [List.getElem?_replicate] at hk
          split at hk
          · rename_i hlt
            cases hk
            refine ⟨z.cells.toList, hzr, by simpa using hzl, fun j u hj => ?_⟩
            have hjl : j < e.size := by
              have := (List.getElem?_eq_some_iff.1 hj).1
              simpa [hzl] using this
            obtain ⟨g1, g2⟩ := row_index (i := k) (n := n) (sz := e.size) hlt hjl
            rw [madeCells_get g1 (by omega), hzl, g2]
            simpa using hj
          · cases hk
        obtain ⟨cells, hfill, hrows⟩ := rows_fill hρ (by have := hzr.1; simpa [hzl] using this) ps.toList _ els _ hels h0
        have hrun : (execOp a.eval o).run P w = .ok (.value (.slice (some ⟨w.heap.size, 0, none⟩) n n)) (w.alloc (.cells cells T')) := by
          have hs : (sizeOf T').run P w = .ok e.size w := shp.size hT' w
          have hf' : Instr.fill (fun i => some (i * e.size, e.size)) ((Array.range (n * e.size)).map (z.cells[· % z.cells.size]!)) (ps.map fun p => (p.1, a.eval p.2)).toList = some cells := by
            rw [Array.toList_map]; exact hfill
          by_cases hne : n * e.size = 0
          · have hz0 : ((Array.range (n * e.size)).map (z.cells[· % z.cells.size]!)) = #[] := by simp [hne, Array.range_zero']
            rw [hz0, Array.toList_map] at hf'
            simp only [execOp, ho, Sem.run_bind, Instr.buildSlice, run_underlying hu, Result.andThen_ok, hs]
            simp [hne, newRow, Array.range_zero', hf']
          · have hle : ¬ 2 ^ 24 < n * e.size := hsmall
            have hzv : (zeroValue T').run P w = .ok z w := by simp [zeroValue, typeInfo, hi, hz]
            simp only [execOp, ho, Sem.run_bind, Instr.buildSlice, run_underlying hu, Result.andThen_ok, hs]
            simp only [gt_iff_lt, if_neg hle, if_neg hne, Sem.run_bind, Sem.run_pure, Result.andThen_ok, hzv, hf']
            simp [newRow]
        have hnl : n ≤ maxLen := by
          have : n * 1 ≤ n * e.size := Nat.mul_le_mul_left _ hpos
          exact maxLen_ge (by show n ≤ 68719476736; omega)
        split
        · rename_i hflat
          split
          · rename_i xs d hd
            obtain ⟨g1, g2⟩ := litData_rd hV hR.root els xs d hd
            have hxl : xs.length = n := by rw [g1, hrows.1]
            refine Sound.new hR hn (.slice (some ⟨w.heap.size, 0, none⟩) n n) (cells := cells) (T := T') (v := .slice (some ⟨w.heap.size, 0, none⟩) n n) hrun fun H' hc' hH => ?_
            constructor
            · refine .inr ⟨w.heap.size, n, cells, T', ?_, by omega, hnl, ?_, alloc_new w _, hrows.2.1, ?_⟩
              · simp [Map.new, hxl]
              · simp [Map.new]
              · intro k x hk
                have hkl := (List.getElem?_eq_some_iff.1 hk).1
                have hkl' : k < els.length := by omega
                obtain ⟨us, q1, q2, q3⟩ := hrows.2.2 k els[k] (List.getElem?_eq_getElem hkl')
                have hrd := g2 k x _ us hk (List.getElem?_eq_getElem hkl') q1
                refine ⟨us, q2, q3, ?_⟩
                have hfl : e.flat = true := by
                  simp only [Bool.or_eq_true, beq_iff_eq] at hflat
                  rcases hflat with h | h
                  · exact h
                  · omega
                simp only [EL, if_true]
                exact DR.ofFlat (A := Al ρ.own d) e 0 x us hfl (Rd.flat e x us hfl hrd)
            · exact AR.one.2 ⟨by simp [Map.new], _, _, _, rfl⟩
          · exact Sound.fail
        · refine Sound.new hR hn (.slice (some ⟨w.heap.size, 0, none⟩) n n) (cells := cells) (T := T') (v := .slice (some ⟨w.heap.size, 0, none⟩) n n) hrun fun H' hc' hH => ?_
          constructor
          · refine ⟨w.heap.size, cells, T', ?_, ?_, ?_, alloc_new w _, ?_, ?_⟩
            · simp [Map.new, hrows.1]
            · simpa [hrows.1] using hnl
            · simp [Map.new]
            · simpa [hrows.1] using hrows.2.1
            · intro k cs hk
              rw [List.getElem?_map, Option.map_eq_some_iff] at hk
              obtain ⟨cs0, hk0, rfl⟩ := hk
              obtain ⟨us, q1, q2, q3⟩ := hrows.2.2 k cs0 hk0
              have hl := CsR.left hc' q1
              refine ⟨by rw [hl.1, q2], fun j c hj => ?_⟩
              have hjl : j < us.length := by rw [← hl.1]; exact (List.getElem?_eq_some_iff.1 hj).1
              exact ⟨us[j], q3 j _ (List.getElem?_eq_getElem hjl), hl.2 j c _ hj (List.getElem?_eq_getElem hjl)⟩
          · exact AR.one.2 ⟨by simp [Map.new], _, _, _, rfl⟩
      · exact Sound.fail
  · exact Sound.fail

end Go.Proofs.YtgjneigkkgaaiaaGreatDoor.Vd

