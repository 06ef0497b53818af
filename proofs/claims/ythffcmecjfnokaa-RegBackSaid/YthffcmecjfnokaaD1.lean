/- The evaluator: values, memory, a compiled form of the model's code, and how it is run. -/
import Derived.Orders
import Derived.KernelRfl
import Derived.Deep.MidRow
import Derived.Laws.CopyRow
namespace Dd
open Go
set_option linter.unusedVariables false

abbrev Path := List Nat

inductive V where
  | bool (b : Bool)
  | int (k : IntKind) (n : Int)
  | str (s : ByteArray)
  | nilp
  | ptr (b off : Nat) (path : Path) (t : TypeId)
  | nils
  | slice (b base : Nat) (off : Nat → Nat) (pre : Path) (start len : Nat) (cap : Option Nat) (t : TypeId)
  | nilf
  | func (fn : FuncId) (first captured : List V)
  | nili
  | iface (t : TypeId) (v : V)
  | nilm
  | map (b : Nat)
  | agg (t : TypeId) (ps : List V)
  | arr (t : TypeId) (n : Nat) (f : Nat → V)
  | tup (vs : List V)
  deriving Inhabited

inductive Blk where
  | free
  | gone
  | row (rw : Bool) (n : Nat) (f : Nat → V)
  | mp (es : List (V × V))
  deriving Inhabited

abbrev Heap := List (TypeId × Blk)
abbrev Env := List (Nat × V)

def lk {α : Type} : List (Nat × α) → Nat → Option α
  | [], _ => none
  | (i, v) :: l, n => bif Nat.beq i n then some v else lk l n

def nth {α : Type} : List α → Nat → Option α
  | [], _ => none
  | a :: _, 0 => some a
  | _ :: l, n + 1 => nth l n

def setNth {α : Type} : List α → Nat → α → List α
  | [], _, _ => []
  | _ :: l, 0, b => b :: l
  | a :: l, n + 1, b => a :: setNth l n b

def updF {α : Type} (f : Nat → α) (i : Nat) (v : α) : Nat → α := fun j => bif Nat.beq j i then v else f j

/-- the kind of a type -/
inductive Tk where
  | agg | bool | int (k : IntKind) | str | ptr | sl | fn | ifc | mp

def kb : IntKind → IntKind → Bool
  | .i8, .i8 | .i16, .i16 | .i32, .i32 | .i64, .i64 | .u8, .u8 | .u16, .u16 | .u32, .u32 | .u64, .u64 => true
  | _, _ => false

def tkV : Tk → V → Bool
  | .bool, .bool _ => true
  | .int k, .int k' _ => kb k k'
  | .str, .str _ => true
  | .ptr, .nilp | .ptr, .ptr .. => true
  | .sl, .nils | .sl, .slice .. => true
  | .fn, .nilf | .fn, .func .. => true
  | .ifc, .nili | .ifc, .iface .. => true
  | .mp, .nilm | .mp, .map _ => true
  | _, _ => false

def tkOf : Option TypeDesc → Option Tk
  | some (.struct _) | some (.array _ _) => some .agg
  | some .bool => some .bool
  | some (.int k) => some (.int k)
  | some .string => some .str
  | some (.pointer _) => some .ptr
  | some (.slice _) => some .sl
  | some (.func ..) => some .fn
  | some (.interface _) => some .ifc
  | some (.map _ _) => some .mp
  | _ => none

def tkB (d : Option TypeDesc) (v : V) : Bool :=
  match tkOf d with
  | some tk => tkV tk v
  | none => false

inductive O where
  | t (n : Nat)
  | k (v : V)

/-- what an operation touches -/
inductive FP where
  | none
  | ex (b : Nat)
  | rd (b : Nat) (p : Path)
  | wr (b : Nat) (p : Path)
  | rdall
  | all

inductive Op1 where
  | mov (x : O)
  | pick (c a b : O)
  | pickb (c a b : O)
  | alloc (slot : Nat) (t : TypeId) (z : V)
  | box (slot : Nat) (t : TypeId) (ag : Tk) (x : O)
  | build (t : TypeId) (one : Bool) (tags : List (TypeId × Tk)) (z : V) (ps : List (Nat × O))
  | load (t : TypeId) (x : O)
  | store (t : TypeId) (ag : Tk) (a x : O)
  | nilCheck (x : O)
  | fieldAddr (s : TypeId) (x : O) (k off : Nat) (ft : TypeId)
  | field (s : TypeId) (x : O) (k : Nat)
  | arrAddr (s : TypeId) (n es : Nat) (et : TypeId) (x i : O)
  | slAddr (et : TypeId) (es : Nat) (x i : O)
  | index (s : TypeId) (m : Nat) (x i : O)
  | bin (op : BinOp) (x y : O)
  | sh (op : BinOp) (x y : O)
  | eqv (t : TypeId) (tk : Tk) (neg : Bool) (x y : O)
  | un (op : UnOp) (x : O)
  | conv (k : IntKind) (x : O)
  | mkIface (t : TypeId) (x : O)
  | mkFunc (f : FuncId) (first captured : List O)
  | extract (x : O) (i : Nat)
  | call (f : Nat) (args : List O)
  | callv (x : O) (args : List O)
  | mn (x y : O)
  | mx (x y : O)
  | len (str : Bool) (x : O)

structure Opr where
  dst : Option Nat
  op : Op1
  guard : Option (Nat × Bool)

inductive IR where
  | skip
  | region (na : Nat) (ops : List Opr) (un : Option (List (List Nat)))
  | seq (a b : IR)
  | cond (c : O) (x y : IR)
  | block (id : Nat) (b : IR)
  | loop (b : IR)
  | exit (id : Nat)
  | ret

inductive It where
  | code (c : IR)
  | inBlock (id : Nat)
  | inLoop (b : IR)

/-- what is asked (none: nothing) -/
abbrev Pre := Option Prop
def Pre.ok : Pre → Prop
  | none => True
  | some p => p
def pand : Pre → Prop → Prop
  | none, q => q
  | some p, q => p ∧ q
theorem pand_iff {p : Pre} {q : Prop} : pand p q ↔ Pre.ok p ∧ q := by cases p <;> simp [pand, Pre.ok]

inductive Con where
  | pure (F : List V → Option (Pre × V))
  | read (F : List V → Heap → Option (Pre × V))
  | heap (D : List V → Heap → Option (Pre × V × Heap))

def O.ev (E : Env) : O → Option V
  | .t n => lk E n
  | .k v => some v

def evs (E : Env) : List O → Option (List V)
  | [] => some []
  | x :: l => match x.ev E, evs E l with
    | some v, some vs => some (v :: vs)
    | _, _ => none

def evp (E : Env) : List (Nat × O) → Option (List (Nat × V))
  | [] => some []
  | (i, x) :: l => match x.ev E, evp E l with
    | some v, some vs => some ((i, v) :: vs)
    | _, _ => none

def nav : V → Path → Option V
  | v, [] => some v
  | .agg _ ps, k :: p => navs ps k p
  | .arr _ _ f, k :: p => nav (f k) p
  | _, _ :: _ => none
 where
  navs : List V → Nat → Path → Option V
    | [], _, _ => none
    | v :: _, 0, p => nav v p
    | _ :: l, k + 1, p => navs l k p

def putAt : V → Path → V → Option V
  | _, [], x => some x
  | .agg t ps, k :: p, x => match puts ps k p x with
    | some ps' => some (.agg t ps')
    | none => none
  | .arr t n f, k :: p, x => match putAt (f k) p x with
    | some u => some (.arr t n (updF f k u))
    | none => none
  | _, _ :: _, _ => none
 where
  puts : List V → Nat → Path → V → Option (List V)
    | [], _, _, _ => none
    | v :: l, 0, p, x => match putAt v p x with
      | some u => some (u :: l)
      | none => none
    | v :: l, k + 1, p, x => match puts l k p x with
      | some l' => some (v :: l')
      | none => none

def Heap.rd (H : Heap) (b : Nat) (p : Path) : Option V :=
  match nth H b, p with
  | some (_, .row _ _ f), i :: p => nav (f i) p
  | _, _ => none

def Heap.wr (H : Heap) (b : Nat) (p : Path) (x : V) : Option Heap :=
  match nth H b, p with
  | some (t, .row true n f), i :: p => match putAt (f i) p x with
    | some u => some (setNth H b (t, .row true n (updF f i u)))
    | none => none
  | _, _ => none

/-- does a value bear the type t (of the kind tk)? -/
def tagB (t : TypeId) (tk : Tk) (v : V) : Bool :=
  match tk with
  | .agg => match v with
    | .agg t' _ => Nat.beq t t'
    | .arr t' _ _ => Nat.beq t t'
    | _ => false
  | tk => tkV tk v

def isRow : Option (TypeId × Blk) → Bool
  | some (_, .row ..) => true
  | _ => false

structure Res where
  pre : Pre
  v : V
  h : Heap
  fp : FP

def bitsI (f : Nat → Nat → Nat) (k : IntKind) (a b : Int) : Int :=
  k.wrap (f (a % (2 ^ k.bits : Nat)).toNat (b % (2 ^ k.bits : Nat)).toNat : Nat)

def binI (op : BinOp) (k : IntKind) (a b : Int) : Option (Pre × V) :=
  match op with
  | .add => some (none, .int k (k.wrap (a + b)))
  | .sub => some (none, .int k (k.wrap (a - b)))
  | .mul => some (none, .int k (k.wrap (a * b)))
  | .quo => some (some (b ≠ 0), .int k (k.wrap (a.tdiv b)))
  | .rem => some (some (b ≠ 0), .int k (a.tmod b))
  | .and => some (none, .int k (bitsI (· &&& ·) k a b))
  | .or => some (none, .int k (bitsI (· ||| ·) k a b))
  | .xor => some (none, .int k (bitsI (· ^^^ ·) k a b))
  | .eql => some (none, .bool (a == b))
  | .neq => some (none, .bool (a != b))
  | .lss => some (none, .bool (decide (a < b)))
  | .leq => some (none, .bool (decide (a ≤ b)))
  | .gtr => some (none, .bool (decide (a > b)))
  | .geq => some (none, .bool (decide (a ≥ b)))
  | _ => none

def shI (op : BinOp) (k : IntKind) (a b : Int) : Option (Pre × V) :=
  match op with
  | .shl => some (some (0 ≤ b), .int k (k.wrap (a * 2 ^ (min b.toNat k.bits))))
  | .shr => some (some (0 ≤ b), .int k (a.fdiv (2 ^ (min b.toNat k.bits))))
  | _ => none

mutual
/-- equality of two values of one type, as far as it is of numbers, bools, texts and what is made of them -/
def veqB : V → V → Bool
  | .bool a, .bool b => a == b
  | .int _ a, .int _ b => a == b
  | .str a, .str b => a.toList == b.toList
  | .agg _ ps, .agg _ qs => veqsB ps qs
  | .arr _ n f, .arr _ _ g => (List.range n).all fun i => veqB (f i) (g i)
  | .nilp, .nilp => true
  | .nils, .nils => true
  | .nilf, .nilf => true
  | _, _ => false
def veqsB : List V → List V → Bool
  | [], [] => true
  | a :: l, b :: m => veqB a b && veqsB l m
  | _, _ => false
end

mutual
/-- where that is asked -/
def veqOk : V → V → Prop
  | .bool _, .bool _ => True
  | .int k _, .int k' _ => kb k k' = true
  | .str _, .str _ => True
  | .agg t ps, .agg t' qs => Nat.beq t t' = true ∧ veqsOk ps qs
  | .arr t n f, .arr t' n' g => Nat.beq t t' = true ∧ Nat.beq n n' = true ∧ ∀ i, i < n → veqOk (f i) (g i)
  | .nilp, .nilp | .nilp, .ptr .. | .ptr .., .nilp => True
  | .nils, .nils | .nils, .slice .. | .slice .., .nils => True
  | .nilf, .nilf | .nilf, .func .. | .func .., .nilf => True
  | _, _ => False
def veqsOk : List V → List V → Prop
  | [], [] => True
  | a :: l, b :: m => veqOk a b ∧ veqsOk l m
  | _, _ => False
end

def buildV : V → List (Nat × V) → Option V
  | u, [] => some u
  | u, (i, v) :: l => match putAt u [i] v with
    | some u' => buildV u' l
    | none => none

/-- do the parts bear their types? (one: of an array, all of one type) -/
def tagsB (one : Bool) (tags : List (TypeId × Tk)) : List (Nat × V) → Bool
  | [] => true
  | (i, v) :: l => (match nth tags (bif one then 0 else i) with
    | some (t, tk) => tagB t tk v
    | none => false) && tagsB one tags l

def conEv (c : Con) (vs : List V) (H : Heap) : Option Res :=
  match c with
  | .pure F => match F vs with
    | some (p, v) => some ⟨p, v, H, .none⟩
    | none => none
  | .read F => match F vs H with
    | some (p, v) => some ⟨p, v, H, .rdall⟩
    | none => none
  | .heap D => match D vs H with
    | some (p, v, H') => some ⟨p, v, H', .all⟩
    | none => none

def Op1.ev (Γ : List (Nat × Con)) (base : Nat) (E : Env) (H : Heap) : Op1 → Option Res
  | .mov x => match x.ev E with
    | some v => some ⟨none, v, H, .none⟩
    | none => none
  | .pick c x y => match c.ev E with
    | some (.bool b) => match (bif b then x.ev E else y.ev E) with
      | some v => some ⟨none, v, H, .none⟩
      | none => none
    | _ => none
  | .pickb c x y => match c.ev E, x.ev E, y.ev E with
    | some (.bool b), some (.bool x), some (.bool y) => some ⟨none, .bool (bif b then x else y), H, .none⟩
    | _, _, _ => none
  | .alloc s t z => match nth H (base + s) with
    | some (_, .free) => some ⟨none, .ptr (base + s) 0 [0] t, setNth H (base + s) (t, .row true 1 (fun _ => z)), .wr (base + s) []⟩
    | _ => none
  | .box s t ag x => match nth H (base + s), x.ev E with
    | some (_, .free), some v => bif tagB t ag v then some ⟨none, .ptr (base + s) 0 [0] t, setNth H (base + s) (t, .row true 1 (fun _ => v)), .wr (base + s) []⟩ else none
    | _, _ => none
  | .build t one tags z ps => match evp E ps with
    | some vs => bif tagsB one tags vs then (match buildV z vs with
      | some u => some ⟨none, u, H, .none⟩
      | none => none) else none
    | none => none
  | .load t x => match x.ev E with
    | some (.ptr b _ p t') => bif Nat.beq t t' then (match H.rd b p with
      | some v => some ⟨none, v, H, .rd b p⟩
      | none => none) else none
    | _ => none
  | .store t ag a x => match a.ev E, x.ev E with
    | some (.ptr b _ p t'), some v => bif Nat.beq t t' && tagB t ag v then (match H.wr b p v with
      | some H' => some ⟨none, .tup [], H', .wr b p⟩
      | none => none) else none
    | _, _ => none
  | .nilCheck x => match x.ev E with
    | some (.ptr b o p t) => some ⟨none, .ptr b o p t, H, .none⟩
    | _ => none
  | .fieldAddr s x k off ft => match x.ev E with
    | some (.ptr b o p t') => bif Nat.beq s t' then some ⟨none, .ptr b (o + off) (p ++ [k]) ft, H, .none⟩ else none
    | _ => none
  | .field s x k => match x.ev E with
    | some (.agg t' ps) => bif Nat.beq s t' then (match nth ps k with
      | some v => some ⟨none, v, H, .none⟩
      | none => none) else none
    | _ => none
  | .arrAddr s n es et x i => match x.ev E, i.ev E with
    | some (.ptr b o p t'), some (.int _ i) => bif Nat.beq s t' then some ⟨some (0 ≤ i ∧ i < n), .ptr b (o + i.toNat * es) (p ++ [i.toNat]) et, H, .none⟩ else none
    | _, _ => none
  | .slAddr et es x i => match x.ev E, i.ev E with
    | some (.slice b base _ pre start ln _ t'), some (.int _ i) => bif Nat.beq et t' && isRow (nth H b) then some ⟨some (0 ≤ i ∧ i < ln), .ptr b (base + (i.toNat + start) * es) (pre ++ [i.toNat + start]) et, H, .ex b⟩ else none
    | _, _ => none
  | .index s m x i => match x.ev E, i.ev E with
    | some (.arr t' n f), some (.int _ i) => bif Nat.beq s t' && Nat.beq m n then some ⟨some (0 ≤ i ∧ i < n), f i.toNat, H, .none⟩ else none
    | _, _ => none
  | .bin op x y => match x.ev E, y.ev E with
    | some (.int k a), some (.int k' b) => bif kb k k' then (match binI op k a b with
      | some (p, v) => some ⟨p, v, H, .none⟩
      | none => none) else none
    | _, _ => none
  | .sh op x y => match x.ev E, y.ev E with
    | some (.int k a), some (.int _ b) => match shI op k a b with
      | some (p, v) => some ⟨p, v, H, .none⟩
      | none => none
    | _, _ => none
  | .eqv t tk ng x y => match x.ev E, y.ev E with
    | some a, some b => bif tagB t tk a && tagB t tk b then some ⟨some (veqOk a b), .bool (bif ng then !(veqB a b) else veqB a b), H, .none⟩ else none
    | _, _ => none
  | .un op x => match op, x.ev E with
    | .not, some (.bool b) => some ⟨none, .bool (!b), H, .none⟩
    | .neg, some (.int k a) => some ⟨none, .int k (k.wrap (0 - a)), H, .none⟩
    | _, _ => none
  | .conv k x => match x.ev E with
    | some (.int _ a) => some ⟨none, .int k (k.wrap a), H, .none⟩
    | _ => none
  | .mkIface t x => match x.ev E with
    | some v => some ⟨none, .iface t v, H, .none⟩
    | none => none
  | .mkFunc f a c => match evs E a, evs E c with
    | some a, some c => some ⟨none, .func f a c, H, .none⟩
    | _, _ => none
  | .extract x i => match x.ev E with
    | some (.tup vs) => match nth vs i with
      | some v => some ⟨none, v, H, .none⟩
      | none => none
    | _ => none
  | .call f args => match evs E args, lk Γ f with
    | some vs, some c => conEv c vs H
    | _, _ => none
  | .callv x args => match x.ev E, evs E args with
    | some (.func f a c), some vs => match lk Γ f with
      | some con => conEv con (a ++ vs ++ c) H
      | none => none
    | _, _ => none
  | .mn x y => match x.ev E, y.ev E with
    | some (.int k a), some (.int k' b) => bif kb k k' then some ⟨none, .int k (if b < a then b else a), H, .none⟩ else none
    | _, _ => none
  | .mx x y => match x.ev E, y.ev E with
    | some (.int k a), some (.int k' b) => bif kb k k' then some ⟨none, .int k (if b > a then b else a), H, .none⟩ else none
    | _, _ => none
  | .len str x => match str, x.ev E with
    | false, some .nils => some ⟨none, .int .i64 0, H, .none⟩
    | false, some (.slice _ _ _ _ _ n _ _) => some ⟨none, .int .i64 n, H, .none⟩
    | true, some (.str s) => some ⟨none, .int .i64 s.size, H, .none⟩
    | _, _ => none

def bindD (E : Env) (d : Option Nat) (v : V) : Env :=
  match d with
  | some d => (d, v) :: E
  | none => E

def pathOff : Path → Path → Bool
  | i :: p, j :: q => bif Nat.beq i j then pathOff p q else true
  | _, _ => false

/-- may two operations that touch these be done in either order? -/
def FP.okB : FP → FP → Bool
  | .none, _ => true
  | _, .none => true
  | .ex b, .wr c q => !(Nat.beq b c) || !q.isEmpty
  | .wr c q, .ex b => !(Nat.beq b c) || !q.isEmpty
  | .ex _, .all => false
  | .all, .ex _ => false
  | .ex _, _ => true
  | _, .ex _ => true
  | .rd _ _, .rd _ _ => true
  | .rd _ _, .rdall => true
  | .rdall, .rd _ _ => true
  | .rdall, .rdall => true
  | .rd b p, .wr c q => !(Nat.beq b c) || pathOff p q
  | .wr b p, .rd c q => !(Nat.beq b c) || pathOff p q
  | .wr b p, .wr c q => !(Nat.beq b c) || pathOff p q
  | _, _ => false

/-- fps: what the operations touched, the last one first; un: of each operation, those ahead of it that need not be ahead -/
def fpsOk (n : Nat) (un : List (List Nat)) (fps : List FP) : Bool :=
  (List.range n).all fun j => match nth un j, nth fps (n - 1 - j) with
    | some l, some y => l.all fun i => match nth fps (n - 1 - i) with
      | some x => x.okB y
      | none => false
    | _, _ => false

/-- bools that are known -/
abbrev Kn := List (Nat × Option Bool)

def knO (K : Kn) : O → Option Bool
  | .t n => match lk K n with
    | some b => b
    | none => none
  | .k (.bool b) => some b
  | .k _ => none

/-- a choice, where it is known which -/
def resK (K : Kn) : Op1 → Op1
  | .pick c x y => match knO K c with
    | some true => .mov x
    | some false => .mov y
    | none => .pickb c x y
  | o => o

/-- what is known of an operation's answer -/
def kn (K : Kn) : Op1 → Option Bool
  | .mov x => knO K x
  | .un .not x => (knO K x).map (!·)
  | _ => none

def bindK (K : Kn) (d : Option Nat) (b : Option Bool) : Kn :=
  match d with
  | some d => (d, b) :: K
  | none => K

def runOps (Γ : List (Nat × Con)) (base : Nat) (F : Env → Kn → Heap → List FP → Prop) : List Opr → Env → Kn → Heap → List FP → Prop
  | [], E, K, H, fps => F E K H fps
  | o :: os, E, K, H, fps =>
    let go (K : Kn) : Prop := match (resK K o.op).ev Γ base E H with
      | some ⟨p, v, H', fp⟩ => pand p (runOps Γ base F os (bindD E o.dst v) (bindK K o.dst (kn K (resK K o.op))) H' (fp :: fps))
      | none => False
    let skip (K : Kn) : Prop := runOps Γ base F os (bindD E o.dst (.tup [])) (bindK K o.dst none) H (.none :: fps)
    match o.guard with
    | none => go K
    | some (g, want) => match knO K (.t g) with
      | some b => match b, want with
        | true, true => go K
        | false, false => go K
        | true, false => skip K
        | false, true => skip K
      | none => match lk E g with
        | some (.bool b) => (b = want → go ((g, some want) :: K)) ∧ (b = !want → skip ((g, some (!want)) :: K))
        | some (.tup []) => skip K
        | _ => False

def pad : Nat → Heap
  | 0 => []
  | n + 1 => (0, .free) :: pad n

def popTo (id : Nat) : List It → Option (List It)
  | .inBlock i :: k => bif Nat.beq id i then some k else popTo id k
  | _ :: k => popTo id k
  | [] => none

/-- run code until it returns (R), or a loop's head (S). -/
def run (Γ : List (Nat × Con)) (S : List It → Env → Heap → Prop) (R : Env → Heap → Prop) : Nat → List It → Env → Kn → Heap → Prop
  | 0, k, E, _, H => S k E H
  | _ + 1, [], E, _, H => R E H
  | n + 1, .code .skip :: k, E, K, H => run Γ S R n k E K H
  | n + 1, .code (.region na ops un) :: k, E, K, H => runOps Γ H.length (fun E K H fps => match un with
    | none => run Γ S R n k E K H
    | some us => fpsOk ops.length us fps = true ∧ run Γ S R n k E K H) ops E K (H ++ pad na) []
  | n + 1, .code (.seq a b) :: k, E, K, H => run Γ S R n (.code a :: .code b :: k) E K H
  | n + 1, .code (.cond c x y) :: k, E, K, H => match knO K c with
    | some true => run Γ S R n (.code x :: k) E K H
    | some false => run Γ S R n (.code y :: k) E K H
    | none => match c with
      | .t g => match lk E g with
        | some (.bool b) => (b = true → run Γ S R n (.code x :: k) E ((g, some true) :: K) H) ∧ (b = false → run Γ S R n (.code y :: k) E ((g, some false) :: K) H)
        | _ => False
      | _ => False
  | n + 1, .code (.block id b) :: k, E, K, H => run Γ S R n (.code b :: .inBlock id :: k) E K H
  | _ + 1, .code (.loop b) :: k, E, _, H => S (.code b :: .inLoop b :: k) E H
  | _ + 1, .inLoop b :: k, E, _, H => S (.code b :: .inLoop b :: k) E H
  | n + 1, .inBlock _ :: k, E, K, H => run Γ S R n k E K H
  | n + 1, .code (.exit id) :: k, E, K, H => match popTo id k with
    | some k' => run Γ S R n k' E K H
    | none => False
  | _ + 1, .code .ret :: _, E, _, H => R E H

structure Leaf (p : Prop) : Prop where
  out : p

/-! Try# from the model's code -/

def isAggT (P : Program) (t : TypeId) : Bool :=
  match P.underlying t with
  | some (.struct _) | some (.array _ _) => true
  | _ => false

def ofScalar : Value → Option V
  | .bool b => some (.bool b)
  | .int k n => some (.int k n)
  | .string s => some (.str s)
  | .pointer none => some .nilp
  | .slice none 0 0 => some .nils
  | .map none => some .nilm
  | .nilFunc => some .nilf
  | .nilIface => some .nili
  | .tuple vs => match vs.toList with
    | [] => some (.tup [])
    | _ => none
  | _ => none

def zerosWith (g : TypeId → Option V) : List Field → Option (List V)
  | [] => some []
  | f :: l => match g f.type, zerosWith g l with
    | some z, some zs => some (z :: zs)
    | _, _ => none

/-- the zero value of a type -/
def zeroV (P : Program) : Nat → TypeId → Option V
  | 0, _ => none
  | d + 1, t => match P.underlying t with
    | some .bool => some (.bool false)
    | some (.int k) => some (.int k 0)
    | some .string => some (.str ⟨#[]⟩)
    | some (.pointer _) => some .nilp
    | some (.slice _) => some .nils
    | some (.map _ _) => some .nilm
    | some (.func ..) => some .nilf
    | some (.interface _) => some .nili
    | some (.struct fs) => match zerosWith (zeroV P d) fs.toList with
      | some l => some (.agg t l)
      | none => none
    | some (.array n e) => match zeroV P d e with
      | some z => some (.arr t n (fun _ => z))
      | none => none
    | _ => none

def ofOperand : Operand → Option O
  | .tmp t => some (.t t)
  | .const v => (ofScalar v).map .k
  | .func f => some (.k (.func f [] []))
  | .global _ => none

def ofOperands : List Operand → Option (List O)
  | [] => some []
  | x :: l => match ofOperand x, ofOperands l with
    | some y, some m => some (y :: m)
    | _, _ => none

def ofParts : List (Nat × Operand) → Option (List (Nat × O))
  | [] => some []
  | (i, x) :: l => match ofOperand x, ofParts l with
    | some y, some m => some ((i, y) :: m)
    | _, _ => none

end Dd
