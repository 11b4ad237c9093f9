/- What each operation does to the abstract state; no condition. -/
import Derived.Test.YtkdohmgacodhjaaPx2
import Derived.Laws.Bits
set_option linter.unusedVariables false
set_option linter.unusedSimpArgs false
namespace Go.Proofs.YtkdohmgacodhjaaPx
open Go.RowKit

/-! ### Signatures: a function's typed arguments and results -/
structure VT where
  agg : Bool
  t : Ty
  deriving DecidableEq

def Tup : List VT → Type
  | [] => Unit
  | [a] => a.t.D
  | a :: b :: l => a.t.D × Tup (b :: l)

structure Sig where
  args : List VT
  res : List VT
  own : Bool
  fn : Tup args → Option (Tup res)

def VT.enc (v : VT) (x : v.t.D) : V1 := if v.agg then .agg (v.t.cells x) else match v.t.cells x with | [s] => .one s | cs => .agg cs

def encTup : (l : List VT) → Tup l → List V1
  | [], _ => []
  | [a], x => [a.enc x]
  | a :: b :: l, x => a.enc x.1 :: encTup (b :: l) x.2

def toSV : List V1 → SV
  | [x] => .val x
  | xs => .tup xs

def Ty.ofCells : (t : Ty) → List Sc → Option (t.D × List Sc)
  | .int, .int .i64 n :: r => some (n, r)
  | .bool, .bool b :: r => some (b, r)
  | .pair a b, cs => match a.ofCells cs with
    | some (x, r) => match b.ofCells r with
      | some (y, r) => some ((x, y), r)
      | none => none
    | none => none
  | .sl t, .sl t' xs :: r => if h : t' = t then some (h ▸ xs, r) else none
  | .sl _, .nil :: r => some ([], r)
  | .ref t, .ep t' x 0 :: r => if h : t' = t then some (h ▸ x, r) else none
  | .clo g t, .clo g' t' x :: r => if h : t' = t then (if g' = g then some (h ▸ x, r) else none) else none
  | .fn g, .func g' [] :: r => if g' = g then some ((), r) else none
  | .num k, .int k' n :: r => if k' = k then some (n, r) else none
  | _, _ => none

def V1.cells : V1 → List Sc
  | .one s => [s]
  | .agg cs => cs

def VT.dec (v : VT) (x : V1) : Option v.t.D :=
  match v.agg, x with
  | true, .agg cs => match v.t.ofCells cs with | some (y, []) => some y | _ => none
  | false, .one s => match v.t.ofCells [s] with | some (y, []) => some y | _ => none
  | _, _ => none

def decTup : (l : List VT) → List V1 → Option (Tup l)
  | [] => fun xs => match xs with
    | [] => some ()
    | _ :: _ => none
  | [a] => fun xs => match xs with
    | [x] => a.dec x
    | _ => none
  | a :: b :: l => fun xs => match xs with
    | x :: xs => (match a.dec x, decTup (b :: l) xs with
      | some y, some z => some (y, z)
      | _, _ => none)
    | [] => none

/-- Own rows in the place of slices, named from 'base' on. -/
def ownL : Nat → List Sc → List Sc × List (Nat × Blk) × Nat
  | i, [] => ([], [], i)
  | i, .sl t xs :: r => let (a, b, j) := ownL (i + 1) r; (.row i :: a, (i, .row t xs) :: b, j)
  | i, s :: r => let (a, b, j) := ownL i r; (s :: a, b, j)

def ownVs : Nat → List V1 → List V1 × List (Nat × Blk) × Nat
  | i, [] => ([], [], i)
  | i, .one s :: r => let (a, b, j) := ownL i [s]; let (c, d, k) := ownVs j r; ((match a with | [s] => .one s | cs => .agg cs) :: c, b ++ d, k)
  | i, .agg cs :: r => let (a, b, j) := ownL i cs; let (c, d, k) := ownVs j r; (.agg a :: c, b ++ d, k)

def Sig.out (s : Sig) (base : Nat) (r : Tup s.res) : List V1 × List (Nat × Blk) :=
  if s.own then let (a, b, _) := ownVs base (encTup s.res r); (a, b) else (encTup s.res r, [])

def Ty.hasSl : Ty → Bool
  | .int | .bool => false
  | .pair a b => a.hasSl || b.hasSl
  | .sl _ => true
  | .ref _ => true
  | .clo _ _ => true
  | .fn _ => false
  | .num _ => false

/-! ### Programs that read the abstract state -/
inductive RM (α : Type) : Type where
  | ret (a : α)
  | fail
  | tmp (t : Nat) (k : SV → RM α)
  | blk (i : Nat) (k : Blk → RM α)
  | br (b : Bool) (x y : RM α)
  | call (f : FuncId) (s : Sig) (x : Tup s.args) (k : Tup s.res → RM α)

def RM.Ev {α : Type} (fE : Nat → Option SV) (fH : Nat → Option Blk) : RM α → α → Prop
  | .ret a, a' => a' = a
  | .fail, _ => False
  | .tmp t k, a' => ∃ sv, fE t = some sv ∧ (k sv).Ev fE fH a'
  | .blk i k, a' => ∃ b, fH i = some b ∧ (k b).Ev fE fH a'
  | .br b x y, a' => (b = true ∧ x.Ev fE fH a') ∨ (b = false ∧ y.Ev fE fH a')
  | .call _ s x k, a' => ∃ r, s.fn x = some r ∧ (k r).Ev fE fH a'

/-- What an operation leaves: its value, and what becomes of blocks. -/
structure Eff where
  dst : SV
  wr : List (Nat × Option Blk)

section
variable {α : Type}

def constSc : Value → Option Sc
  | .int k n => some (.int k n)
  | .bool b => some (.bool b)
  | .slice none 0 0 => some .nil
  | .func (.func f) ⟨[]⟩ ⟨[]⟩ => some (.func f [])
  | _ => none

def constScs : List Value → Option (List Sc)
  | [] => some []
  | v :: vs => match constSc v, constScs vs with
    | some s, some ss => some (s :: ss)
    | _, _ => none

def constSV : Value → Option SV
  | .agg vs => (constScs vs.toList).map fun cs => .val (.agg cs)
  | v => (constSc v).map fun s => .val (.one s)

def ev (o : Operand) (k : SV → RM α) : RM α :=
  match o with
  | .tmp t => .tmp t k
  | .const v => match constSV v with
    | some s => k s
    | none => .fail
  | .func f => k (.val (.one (.func f [])))
  | .global _ => .fail

def evS (o : Operand) (k : Sc → RM α) : RM α := ev o fun | .val (.one s) => k s | _ => .fail
def evI (o : Operand) (k : IntKind → Int → RM α) : RM α := evS o fun | .int q n => k q n | _ => .fail
def evV (o : Operand) (k : V1 → RM α) : RM α := ev o fun | .val x => k x | _ => .fail
def evL : List Operand → (List V1 → RM α) → RM α
  | [], k => k []
  | o :: os, k => evV o fun x => evL os fun xs => k (x :: xs)

def one (s : Sc) : RM Eff := .ret ⟨.val (.one s), []⟩

def Sc.ok : Sc → Bool
  | .undef => false
  | _ => true

/-- A number of 'len' cases for an index. -/
def pick (i : Int) : (len : Nat) → (k : Nat → RM α) → RM α
  | 0, _ => .fail
  | n + 1, k => .br (decide (i = n)) (k n) (pick i n k)

def cut {t : Ty} (xs : List t.D) (l h : Nat) : List t.D := (xs.take h).drop l

def sealS (s : Sc) (k : Sc → List Nat → RM α) : RM α :=
  match s with
  | .row i => .blk i fun | .row t xs => k (.sl t xs) [i] | _ => .fail
  | .vw i t l h => .blk i fun | .row t' xs => if t' = t then k (.sl t' (cut xs l h)) [i] else .fail | _ => .fail
  | .int a b => k (.int a b) []
  | .bool b => k (.bool b) []
  | .sl t xs => k (.sl t xs) []
  | .nil => k .nil []
  | _ => .fail

def sealL : List Sc → (List Sc → List Nat → RM α) → RM α
  | [], k => k [] []
  | s :: ss, k => sealS s fun s ds => sealL ss fun ss es => k (s :: ss) (ds ++ es)

def sealVs : List V1 → (List V1 → List Nat → RM α) → RM α
  | [], k => k [] []
  | .one s :: vs, k => sealS s fun s ds => sealVs vs fun vs es => k (.one s :: vs) (ds ++ es)
  | .agg cs :: vs, k => sealL cs fun cs ds => sealVs vs fun vs es => k (.agg cs :: vs) (ds ++ es)

/-- A box's datum, where a pointer to it is handed on. -/
def sealRef (t : Ty) (i o : Nat) (k : t.D → List Nat → RM α) : RM α :=
  .blk i fun
  | .box cs => sealL ((cs.drop o).take t.size) fun ys ds => (match t.ofCells ys with
    | some (y, []) => k y (i :: ds)
    | _ => .fail)
  | _ => .fail

def sealCaps : (t : Ty) → List (Nat × Nat) → (t.D → List Nat → RM α) → RM α
  | .ref t, (i, o) :: [] => fun k => sealRef t i o k
  | .pair (.ref t) b, (i, o) :: l => fun k => sealRef t i o fun x ds => sealCaps b l fun y es => k (x, y) (ds ++ es)
  | _, _ => fun _ => .fail

/-- An argument, where its type is known. -/
def sealA (v : VT) (x : V1) (k : V1 → List Nat → RM α) : RM α :=
  match v.t, x with
  | .ref t, .one (.ptr i o) => sealRef t i o fun y ds => k (.one (.ep t y 0)) ds
  | .ref _, .one (.ep t y j) => k (.one (.ep t y j)) []
  | .clo _ t, .one (.func f caps) => sealCaps t caps fun y ds => k (.one (.clo f t y)) ds
  | .clo _ _, .one (.clo f t y) => k (.one (.clo f t y)) []
  | .fn _, .one (.func f []) => k (.one (.func f [])) []
  | _, .one s => sealS s fun s ds => k (.one s) ds
  | _, .agg cs => sealL cs fun cs ds => k (.agg cs) ds

def sealAs : List VT → List V1 → (List V1 → List Nat → RM α) → RM α
  | [], [], k => k [] []
  | v :: l, x :: xs, k => sealA v x fun y ds => sealAs l xs fun ys es => k (y :: ys) (ds ++ es)
  | _, _, _ => .fail

/-- The number under which a call's contract is kept: the function's, and that of a function value handed in. -/
def cloKey : List V1 → Nat
  | [] => 0
  | .one (.func f _) :: _ => f + 1
  | .one (.clo f _ _) :: _ => f + 1
  | _ :: l => cloKey l
def keyOf (g : Nat) (xs : List V1) : Nat := g + 1000000 * cloKey xs
def unK (k : Nat) : Nat := k % 1000000
/-- Under this number a list of contracts says that a row which is cut is looked at, and not taken over. -/
def flagK : Nat := 999999999999

def capsOf : List V1 → Option (List (Nat × Nat))
  | [] => some []
  | .one (.ptr i o) :: l => (match capsOf l with | some r => some ((i, o) :: r) | none => none)
  | _ => none

def isAggT (P : Program) (t : TypeId) : Option Bool := (P.underlying t).map fun | .struct _ | .array _ _ => true | _ => false
def szOf (P : Program) (t : TypeId) : Option Nat := (P.info? t).map (·.size)

/-- Cells as a value of a type. -/
def mkVal (ag : Bool) (m : Nat) (cs : List Sc) (k : SV → RM α) : RM α :=
  if cs.length = m then (if ag then k (.val (.agg cs)) else match cs with | [s] => k (.val (.one s)) | _ => .fail) else .fail

def aLoad (P : Program) (t : TypeId) (p : Sc) (k : SV → RM α) : RM α :=
  match isAggT P t, szOf P t with
  | some ag, some sz =>
    let m := if ag then sz else 1
    match p with
    | .ptr i o => .blk i fun | .box cs => mkVal ag m ((cs.drop o).take m) k | _ => .fail
    | .rp i t' q j => .blk i fun | .row t'' xs => if t' = t'' then mkVal ag m (((t''.cells (xs.getD q t''.dflt)).drop j).take m) k else .fail | _ => .fail
    | .ep t' x j => mkVal ag m (((t'.cells x).drop j).take m) k
    | _ => .fail
  | _, _ => .fail

def setL (cs : List Sc) (o : Nat) (xs : List Sc) : List Sc := cs.take o ++ xs ++ cs.drop (o + xs.length)

def aStore (P : Program) (t : TypeId) (p : Sc) (x : V1) : RM Eff :=
  if szOf P t = some x.cells.length ∧ x.cells.all Sc.ok = true then
    match p with
    | .ptr i o => .blk i fun
      | .box cs => if o + x.cells.length ≤ cs.length then .ret ⟨.val (.one .undef), [(i, some (.box (setL cs o x.cells)))]⟩ else .fail
      | _ => .fail
    | .rp i t' q 0 => sealL x.cells fun ys ds => .blk i fun
      | .row t'' xs => if t' = t'' ∧ ¬ i ∈ ds then (match t''.ofCells ys with
        | some (y, []) => .ret ⟨.val (.one .undef), ds.map (fun d => (d, none)) ++ [(i, some (.row t'' (xs.set q y)))]⟩
        | _ => .fail) else .fail
      | _ => .fail
    | _ => .fail
  else .fail

def zeroOf (P : Program) (t : TypeId) : Option (List Sc) :=
  match (P.info? t).bind (·.zero) with
  | some v => match constSV v with
    | some (.val x) => some x.cells
    | _ => none
  | none => none

def tyOfL (f : TypeId → Option Ty) : List TypeId → Option Ty
  | [] => none
  | [t] => f t
  | t :: ts => match f t, tyOfL f ts with
    | some a, some b => some (.pair a b)
    | _, _ => none

/-- The type of plain data that a type of the program is. -/
def tyOf (P : Program) : Nat → TypeId → Option Ty
  | 0, _ => none
  | d + 1, t => match P.underlying t with
    | some (.int .i64) => some .int
    | some (.int k) => some (.num k)
    | some .bool => some .bool
    | some (.slice e) => (tyOf P d e).map .sl
    | some (.struct fs) => tyOfL (tyOf P d) (fs.toList.map (·.type))
    | some (.array n e) => tyOfL (tyOf P d) (List.replicate n e)
    | _ => none

def fillL : List Sc → List (Nat × List Sc) → Option (List Sc)
  | cs, [] => some cs
  | cs, (o, xs) :: r => if o + xs.length ≤ cs.length then fillL (setL cs o xs) r else none

/-- Where a struct's or an array's part lies, and how great it is. -/
def placeOf (P : Program) (t : TypeId) (i : Nat) : Option (Nat × Nat) :=
  match P.underlying t with
  | some (.struct fs) => match fs[i]? with
    | some f => (szOf P f.type).map fun s => (f.offset, s)
    | none => none
  | some (.array _ e) => (szOf P e).map fun s => (i * s, s)
  | _ => none

def partsL (P : Program) (t : TypeId) : List Nat → List V1 → Option (List (Nat × List Sc))
  | [], [] => some []
  | i :: is, v :: vs => match placeOf P t i, partsL P t is vs with
    | some (o, s), some r => if v.cells.length = s ∧ v.cells.all Sc.ok = true then some ((o, v.cells) :: r) else none
    | _, _ => none
  | _, _ => none

/-- A number in its kind's range. -/
def wrapI (k : IntKind) (n : Int) : Int := match k with | .i64 => wrap64 n | k => k.wrap n

def intBin (op : BinOp) (k : IntKind) (x y : Int) : RM Eff :=
  let w (n : Int) : RM Eff := one (.int k (wrapI k n))
  match op with
  | .add => w (x + y)
  | .sub => w (x - y)
  | .mul => w (x * y)
  | .quo => .br (decide (y = 0)) .fail (w (x.tdiv y))
  | .rem => .br (decide (y = 0)) .fail (one (.int k (x.tmod y)))
  | .and => one (.int k (bits .and k x y))
  | .or => one (.int k (bits .or k x y))
  | .shl => .br (decide (y < 0)) .fail (w (x * 2 ^ min y.toNat k.bits))
  | .shr => .br (decide (y < 0)) .fail (one (.int k (x.fdiv (2 ^ min y.toNat k.bits))))
  | .eql => one (.bool (x == y))
  | .neq => one (.bool (x != y))
  | .lss => one (.bool (decide (x < y)))
  | .leq => one (.bool (decide (x ≤ y)))
  | .gtr => one (.bool (decide (x > y)))
  | .geq => one (.bool (decide (x ≥ y)))
  | _ => .fail

def isShift : BinOp → Bool
  | .shl | .shr => true
  | _ => false

def minL (k : IntKind) : Int → List V1 → Option Int
  | x, [] => some x
  | x, .one (.int _ y) :: r => minL k (if y < x then y else x) r
  | _, _ :: _ => none
def maxL (k : IntKind) : Int → List V1 → Option Int
  | x, [] => some x
  | x, .one (.int _ y) :: r => maxL k (if y > x then y else x) r
  | _, _ :: _ => none

/-- A slice's contents. -/
def rowsOf (t : Ty) (s : Sc) (k : List t.D → List Nat → RM α) : RM α :=
  match s with
  | .nil => k [] []
  | .sl t' xs => if h : t' = t then k (h ▸ xs) [] else .fail
  | .sln _ t' xs => if h : t' = t then k (h ▸ xs) [] else .fail
  | .row i => .blk i fun | .row t' xs => if h : t' = t then k (h ▸ xs) [i] else .fail | _ => .fail
  | .vw i t1 l r => if t1 = t then .blk i fun | .row t' xs => if h : t' = t then k (h ▸ cut xs l r) [i] else .fail | _ => .fail else .fail
  | _ => .fail

/-- A length, spelt so that the kernel stands still at it where the list is not known (flagged functions alone). -/
def lenI : Nat → Int
  | 0 => 0
  | n + 1 => lenI n + 1
theorem lenI_eq : ∀ n : Nat, lenI n = (n : Int)
  | 0 => rfl
  | n + 1 => by rw [lenI, lenI_eq n]; rfl

def lenOf (s : Sc) (k : Nat → RM α) : RM α :=
  match s with
  | .nil => k 0
  | .sl _ xs => k xs.length
  | .bsl _ _ n => k n
  | .vw _ _ l r => k (r - l)
  | .row i => .blk i fun | .row _ xs => k xs.length | _ => .fail
  | _ => .fail

def bound (i : Int) (lo hi : Nat) (x : RM α) : RM α := .br (decide ((lo : Int) ≤ i)) (.br (decide (i ≤ hi)) x .fail) .fail

/-- The bounds of a cut. -/
def lowB (lo : Option Operand) (h : Nat) (k : Nat → Nat → RM α) : RM α :=
  match lo with
  | some o => evI o fun _ i => bound i 0 h (k i.toNat h)
  | none => k 0 h

def bounds (len : Nat) (lo hi : Option Operand) (k : Nat → Nat → RM α) : RM α :=
  match hi with
  | some o => evI o fun _ i => bound i 0 len (lowB lo i.toNat k)
  | none => lowB lo len k

/-- Own rows of this bear no slices. -/
def Ty.rowsPlain : Ty → Bool
  | .int | .bool | .num _ => true
  | .pair a b => a.rowsPlain && b.rowsPlain
  | .sl t => !t.hasSl
  | .ref _ | .clo _ _ | .fn _ => false

def aCall (Γ : FuncId → Option Sig) (id : Nat) (g : FuncId) (xs : List V1) : RM Eff :=
  match Nat.beq (unK (keyOf g xs)) g, Nat.beq (keyOf g xs) flagK with
  | false, _ => .fail
  | true, true => .fail
  | true, false => (match Γ (keyOf g xs) with
    | some s => sealAs s.args xs fun ys ds => (match decTup s.args ys with
      | some x => if s.res.any (·.t.hasSl) = true then (match s.own && s.res.all (·.t.rowsPlain) with
          | true => .call (keyOf g xs) s x fun r => if (s.out id r).2.all (fun p => decide (id ≤ p.1) && decide (p.1 < id + 32)) = true then
            .ret ⟨toSV (s.out id r).1, (s.out id r).2.map fun p => (p.1, some p.2)⟩ else .fail
          | false => .call (keyOf g xs) s x fun r => if (s.out id r).2.all (fun p => decide (id ≤ p.1) && decide (p.1 < id + 32)) = true then
            .ret ⟨toSV (s.out id r).1, ds.map (fun d => (d, none)) ++ (s.out id r).2.map fun p => (p.1, some p.2)⟩ else .fail)
        else if s.own = true then .fail else .call (keyOf g xs) s x fun r => .ret ⟨toSV (encTup s.res r), []⟩
      | none => .fail)
    | none => .fail)

def sameOp : Operand → Operand → Bool
  | .tmp a, .tmp b => a == b
  | .const (.int .i64 m), .const (.int .i64 n) => m == n
  | _, _ => false

/-- Where a struct's field lies, and how great it is. -/
def fieldOf (P : Program) (t : TypeId) (i : Nat) : Option (Nat × Nat) :=
  match P.underlying t with
  | some (.struct fs) => match fs[i]? with
    | some f => (szOf P f.type).map fun s => (f.offset, s)
    | none => none
  | _ => none

def aFieldAddr (P : Program) (t : TypeId) (i : Nat) (p : Sc) : RM Eff :=
  match fieldOf P t i with
  | some (off, sz) => if sz = 0 then .fail else (match p with
    | .ptr b o => one (.ptr b (o + off))
    | .rp b t' q j => one (.rp b t' q (j + off))
    | .ep t' y j => one (.ep t' y (j + off))
    | _ => .fail)
  | none => .fail

def aField (P : Program) (t : TypeId) (i : Nat) (v : V1) : RM Eff :=
  match v, P.underlying t with
  | .agg cs, some (.struct fs) => (match fs[i]? with
    | some f => (match isAggT P f.type, szOf P f.type with
      | some ag, some sz => mkVal ag (if ag then sz else 1) ((cs.drop f.offset).take (if ag then sz else 1)) fun s => .ret ⟨s, []⟩
      | _, _ => .fail)
    | none => .fail)
  | _, _ => .fail

def aIndexAddr (P : Program) (t : TypeId) (p : Sc) (n : Int) : RM Eff :=
  match P.underlying t with
  | some (.array len e) => (match szOf P e, p with
    | some sz, .ptr b o => if len ≤ 1 then .fail else pick n len fun k => one (.ptr b (o + k * sz))
    | _, _ => .fail)
  | some (.slice e) => (match szOf P e, p with
    | some sz, .sl t' xs => if t'.size = sz then .br (decide (0 ≤ n)) (.br (decide (n < xs.length)) (one (.ep t' (xs.getD n.toNat t'.dflt) 0)) .fail) .fail else .fail
    | some sz, .row b => .blk b fun x => (match x with
      | .row t' xs => if t'.size = sz then .br (decide (0 ≤ n)) (.br (decide (n < xs.length)) (one (.rp b t' n.toNat 0)) .fail) .fail else .fail
      | _ => .fail)
    | some sz, .bsl b o len => pick n len fun k => one (.ptr b (o + k * sz))
    | _, _ => .fail)
  | _ => .fail

def aIndex (P : Program) (t : TypeId) (v : V1) (n : Int) : RM Eff :=
  match P.underlying t, v with
  | some (.array len e), .agg cs => (match isAggT P e, szOf P e with
    | some ag, some sz => pick n len fun k => mkVal ag (if ag then sz else 1) ((cs.drop (k * sz)).take (if ag then sz else 1)) fun s => .ret ⟨s, []⟩
    | _, _ => .fail)
  | _, _ => .fail

def aMakeSlice (P : Program) (id : Nat) (t : TypeId) (k : IntKind) (n : Int) : RM Eff :=
  match P.underlying t with
  | some (.slice e) => (match tyOf P 5 e, (P.info? e).map (fun i => (i.size, i.bytes)), zeroOf P e with
    | some ty, some (sz, by'), some z =>
      (match ty.ofCells z with
      | some (y, []) => if k = .i64 ∧ sz = ty.size ∧ by' ≤ 256 then
        .br (decide (0 ≤ n)) (.br (decide (n ≤ 1000000)) (.ret ⟨.val (.one (.row id)), [(id, some (.row ty (List.replicate n.toNat y)))]⟩) .fail) .fail else .fail
      | _ => .fail)
    | _, _, _ => .fail)
  | _ => .fail

def ofRows (ty : Ty) : List V1 → Option (List ty.D)
  | [] => some []
  | v :: vs => match ty.ofCells v.cells with
    | some (y, []) => (match ofRows ty vs with
      | some ys => some (y :: ys)
      | none => none)
    | _ => none

def aBuildSlice (P : Program) (id : Nat) (t : TypeId) (len : Nat) (is : List Nat) (vs : List V1) : RM Eff :=
  match P.underlying t with
  | some (.slice e) => (match szOf P e with
    | some sz => if vs.all (fun v => v.cells.length == sz && v.cells.all Sc.ok) = true ∧ is = List.range len ∧ sz ≠ 0 ∧ len * sz ≤ 1000 ∧ len ≠ 0 ∧ vs.length = len ∧ (zeroOf P e).isSome = true then
        (match (tyOf P 5 e).bind fun ty => (if ty.size = sz then ofRows ty vs else none).map fun xs => (⟨ty, xs⟩ : (ty : Ty) × List ty.D) with
        | some ⟨ty, xs⟩ => .ret ⟨.val (.one (.row id)), [(id, some (.row ty xs))]⟩
        | none => .ret ⟨.val (.one (.bsl id 0 len)), [(id, some (.box (vs.flatMap V1.cells)))]⟩)
      else .fail
    | none => .fail)
  | _ => .fail

/-- What a composite literal gives, where it is to be read alone. -/
def sealB (sm : Bool) (x : RM Eff) : RM Eff :=
  match sm, x with
  | true, .ret ⟨.val (.one (.row i)), [(j, some (.row t xs))]⟩ => if i = j then .ret ⟨.val (.one (.sl t xs)), [(i, none)]⟩ else .fail
  | _, x => x

def aEmptySlice (P : Program) (id : Nat) (t : TypeId) (is : List Nat) : RM Eff :=
  match P.underlying t with
  | some (.slice e) => (match szOf P e, tyOf P 5 e, is with
    | some _, some ty, [] => .ret ⟨.val (.one (.row id)), [(id, some (.row ty []))]⟩
    | _, _, _ => .fail)
  | _ => .fail

def aSlice (P : Program) (vwm : Bool) (id : Nat) (t : TypeId) (p : Sc) (lo hi : Option Operand) : RM Eff :=
  match P.underlying t with
  | some (.slice e) => (match szOf P e, p with
    | some sz, .sl t' xs => if t'.size = sz then bounds xs.length lo hi fun l h => one (.sl t' (cut xs l h)) else .fail
    | some sz, .row b => .blk b fun x => (match x with
      | .row t' xs => if t'.size = sz then bounds xs.length lo hi fun l h => (match vwm with
        | true => one (.vw b t' l h)
        | false => .ret ⟨.val (.one (.row id)), [(b, none), (id, some (.row t' (cut xs l h)))]⟩) else .fail
      | _ => .fail)
    | _, _ => .fail)
  | _ => .fail

def aAppend (P : Program) (id : Nat) (t t' : TypeId) (a b : Sc) : RM Eff :=
  match P.underlying t, (if t = t' then some () else none) with
  | some (.slice e), some _ => (match tyOf P 5 e, (P.info? e).map (fun i => (i.size, i.bytes)), zeroOf P e with
    | some ty, some (sz, by'), some z => if sz = ty.size ∧ by' ≤ 256 ∧ 0 < by' ∧ z.length = sz then
        rowsOf ty a fun xs ds => rowsOf ty b fun ys es =>
          if ds ≠ [] ∧ ds = es then .fail else (match a with
          | .sl _ _ => .fail
          | .sln _ _ _ => .fail
          | .vw _ _ _ _ => .fail
          | _ => .br (decide (xs.length + ys.length ≤ 1000000)) (.ret ⟨.val (.one (.row id)), ds.map (fun d => (d, none)) ++ [(id, some (.row ty (xs ++ ys)))]⟩) .fail)
      else .fail
    | _, _, _ => .fail)
  | _, _ => .fail

/-- What is copied over part of an own row. -/
def over3 {t : Ty} (xs ys : List t.D) (l n : Nat) : List t.D := xs.take l ++ ys.take n ++ xs.drop (l + n)

def aCopyTo (P : Program) (i : Nat) (ty : Ty) (l h : Option Nat) (b : Sc) : RM Eff :=
  .blk i fun
  | .row t' xs => if e : t' = ty then rowsOf ty b fun ys _ =>
      (match l, h with
      | some l, some h => .ret ⟨.val (.one (.int .i64 (min ys.length (h - l) : Nat))), [(i, some (.row ty (over3 (t := ty) (e ▸ xs) ys l (min ys.length (h - l)))))]⟩
      | _, _ => .ret ⟨.val (.one (.int .i64 (min ys.length xs.length : Nat))), [(i, some (.row ty (over3 (t := ty) (e ▸ xs) ys 0 (min ys.length xs.length))))]⟩) else .fail
  | _ => .fail

def aCopy (P : Program) (t : TypeId) (a b : Sc) : RM Eff :=
  match P.underlying t with
  | some (.slice e) => (match tyOf P 5 e, szOf P e with
    | some ty, some sz => if sz = ty.size then (match a with
      | .row i => aCopyTo P i ty none none b
      | .vw i t' l h => if t' = ty then aCopyTo P i ty (some l) (some h) b else .fail
      | _ => .fail) else .fail
    | _, _ => .fail)
  | _ => .fail

def aBin (P : Program) (op : BinOp) (xt : TypeId) (a b : Sc) : RM Eff :=
  match a, b with
  | .int k m, .int k' n => if k = k' ∨ isShift op = true then intBin op k m n else .fail
  | .bool p, .bool q => (match P.underlying xt, op with
    | some .bool, .eql => one (.bool (p == q))
    | some .bool, .neq => one (.bool (!(p == q)))
    | _, _ => .fail)
  | .sln nn _ _, .nil => (match P.underlying xt, op with
    | some (.slice _), .eql => one (.bool !nn)
    | _, _ => .fail)
  | _, _ => .fail

/-- A part of an aggregate's cells. -/
def partOf (P : Program) (t : TypeId) (off : Nat) (xs : List Sc) : Option (List Sc) :=
  match isAggT P t, szOf P t with
  | some ag, some sz => (match Nat.beq ((xs.drop off).take (if ag then sz else 1)).length (if ag then sz else 1) with
    | true => some ((xs.drop off).take (if ag then sz else 1))
    | false => none)
  | _, _ => none

def eqFs (P : Program) (f : TypeId → List Sc → List Sc → Option Bool) : List Field → List Sc → List Sc → Option Bool
  | [], _, _ => some true
  | g :: gs, xs, ys => if g.name = "_" then none else match partOf P g.type g.offset xs, partOf P g.type g.offset ys with
    | some a, some b => (match f g.type a b, eqFs P f gs xs ys with
      | some r, some q => some (r && q)
      | _, _ => none)
    | _, _ => none

def eqIs (P : Program) (e : TypeId) (f : List Sc → List Sc → Option Bool) : List Nat → List Sc → List Sc → Option Bool
  | [], _, _ => some true
  | i :: is, xs, ys => match partOf P e (i * P.cellsOf e) xs, partOf P e (i * P.cellsOf e) ys with
    | some a, some b => (match f a b, eqIs P e f is xs ys with
      | some r, some q => some (r && q)
      | _, _ => none)
    | _, _ => none

/-- '==' of numbers, bools, and of structs and arrays of such. -/
def eqTy (P : Program) : Nat → TypeId → List Sc → List Sc → Option Bool
  | 0, _, _, _ => none
  | d + 1, t, xs, ys => match P.underlying t with
    | some (.int _) => (match xs, ys with | [.int k a], [.int k' b] => if k = k' then some (a == b) else none | _, _ => none)
    | some .bool => (match xs, ys with | [.bool a], [.bool b] => some (a == b) | _, _ => none)
    | some (.struct fs) => (match P.stoodInHeld t with | false => eqFs P (eqTy P d) fs.toList xs ys | true => none)
    | some (.array n e) => (match P.info? e with | some _ => eqIs P e (eqTy P d e) (List.range n) xs ys | none => none)
    | _ => none

def aEqAgg (P : Program) (op : BinOp) (xt : TypeId) (xs ys : List Sc) : RM Eff :=
  match isAggT P xt, P.eqGuardType P.depth xt, eqTy P 8 xt xs ys, op with
  | some true, false, some r, .eql => one (.bool r)
  | some true, false, some r, .neq => one (.bool !r)
  | _, _, _, _ => .fail

def aBin2 (P : Program) (op : BinOp) (xt : TypeId) (a b : V1) : RM Eff :=
  match a, b with
  | .one s, .one s' => aBin P op xt s s'
  | .agg xs, .agg ys => aEqAgg P op xt xs ys
  | _, _ => .fail

def aUn (op : UnOp) (a : Sc) : RM Eff :=
  match op, a with
  | .not, .bool b => one (.bool !b)
  | .neg, .int k n => one (.int k (wrapI k (0 - n)))
  | _, _ => .fail

/-- All parts of a struct have a size. -/
def allSz (P : Program) (t : TypeId) : Bool :=
  match P.underlying t with
  | some (.struct fs) => fs.toList.all fun f => (szOf P f.type).isSome
  | some (.array _ e) => (szOf P e).isSome
  | _ => false

def aBuild (P : Program) (t : TypeId) (is : List Nat) (vs : List V1) : RM Eff :=
  match zeroOf P t, (if allSz P t = true then partsL P t is vs else none) with
  | some z, some l => (match fillL z l with
    | some cs => .ret ⟨.val (.agg cs), []⟩
    | none => .fail)
  | _, _ => .fail

def aBuiltin (P : Program) (hdn : Bool) (id : Nat) (b : Builtin) (args : List Operand) (ts : List TypeId) : RM Eff :=
  match b, args, ts with
  | .len, [x], [t] => evS x fun s => (match P.underlying t with
    | some (.slice _) => lenOf s fun n => (match hdn with | true => one (.int .i64 (lenI n)) | false => one (.int .i64 n))
    | _ => .fail)
  | .min, x :: l, _ => evI x fun k n => evL l fun vs => (match minL k n vs with
    | some m => one (.int k m)
    | none => .fail)
  | .max, x :: l, _ => evI x fun k n => evL l fun vs => (match maxL k n vs with
    | some m => one (.int k m)
    | none => .fail)
  | .append, [x, y], [t, t'] => evS x fun a => evS y fun b => aAppend P id t t' a b
  | .copy, [x, y], [t, _] => evS x fun a => evS y fun b => aCopy P t a b
  | _, _, _ => .fail

def aop (P : Program) (Γ : FuncId → Option Sig) (id : Nat) (o : Op) : RM Eff :=
  match o with
  | .move x => ev x fun s => .ret ⟨s, []⟩
  | .assign x => ev x fun s => .ret ⟨s, []⟩
  | .pick c x y => evS c fun q => (match q with
    | .bool b => .br b (ev x fun s => .ret ⟨s, []⟩) (ev y fun s => .ret ⟨s, []⟩)
    | _ => .fail)
  | .alloc t => (match zeroOf P t with
    | some cs => .ret ⟨.val (.one (.ptr id 0)), [(id, some (.box cs))]⟩
    | none => .fail)
  | .box _ x => evV x fun v => if v.cells.all Sc.ok = true then .ret ⟨.val (.one (.ptr id 0)), [(id, some (.box v.cells))]⟩ else .fail
  | .build t parts => evL (parts.toList.map (·.2)) fun vs => aBuild P t (parts.toList.map (·.1)) vs
  | .load t x => evS x fun p => aLoad P t p fun s => .ret ⟨s, []⟩
  | .store t x y => evS x fun p => evV y fun v => aStore P t p v
  | .binOp op xt x y _ => evV x fun a => evV y fun b => aBin2 P op xt a b
  | .unOp op _ x => evS x fun a => aUn op a
  | .convert src dst x => evI x fun _ n => (match P.underlying src, P.underlying dst with
    | some _, some (.int k) => one (.int k (wrapI k n))
    | _, _ => .fail)
  | .extract x i => ev x fun s => (match s with
    | .tup vs => (match vs[i]? with | some v => .ret ⟨.val v, []⟩ | none => .fail)
    | _ => .fail)
  | .fieldAddr t x i => evS x fun p => aFieldAddr P t i p
  | .field t x i => evV x fun v => aField P t i v
  | .indexAddr t x i => evS x fun p => evI i fun _ n => aIndexAddr P t p n
  | .index t x i => evV x fun v => evI i fun _ n => aIndex P t v n
  | .makeSlice t l c => if sameOp l c = true then evI l fun k n => aMakeSlice P id t k n else .fail
  | .buildSlice t len parts => if len = 0 then aEmptySlice P id t (parts.toList.map (·.1)) else evL (parts.toList.map (·.2)) fun vs => sealB (match Γ flagK with | some _ => true | none => false) (aBuildSlice P id t len (parts.toList.map (·.1)) vs)
  | .slice t x lo hi none => evS x fun p => aSlice P (match Γ flagK with | some _ => true | none => false) id t p lo hi
  | .makeFunc (.func f) first captured => (match first.toList with
    | [] => evL captured.toList fun xs => (match capsOf xs with | some caps => one (.func f caps) | none => .fail)
    | _ => .fail)
  | .call c => (match c.callee with
    | .value f => evS f fun s => (match s with
      | .func g caps => evL c.args.toList fun xs => aCall Γ id g (xs ++ caps.map fun p => .one (.ptr p.1 p.2))
      | .clo g t y => evL c.args.toList fun xs => aCall Γ id g (xs ++ (t.cells y).map V1.one)
      | _ => .fail)
    | .builtin b => aBuiltin P (match Γ flagK with | some s => s.own | none => false) id b c.args.toList c.argTypes.toList
    | _ => .fail)
  | _ => .fail

end
end Go.Proofs.YtkdohmgacodhjaaPx
