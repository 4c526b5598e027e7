/- The abstract machine: its values, its code, its run, and how its states stand to the model's. No condition. -/
import GoSem.Dispatch
import Derived.Deep.AppendSrc
import Derived.Control
import Derived.Below
import Derived.Laws.Strings
import Derived.Laws.Cells
import Derived.Laws.Tables
set_option linter.all false
namespace Go.Em
variable {α β : Type}

noncomputable def mapR (f : α → β) (l : List α) : List β := List.rec (motive := fun _ => List β) [] (fun x _ ih => f x :: ih) l
noncomputable def allR (p : α → Bool) (l : List α) : Bool := List.rec (motive := fun _ => Bool) true (fun x _ ih => Bool.rec (motive := fun _ => Bool) false ih (p x)) l
noncomputable def appR (l m : List α) : List α := List.rec (motive := fun _ => List α) m (fun x _ ih => x :: ih) l
noncomputable def nthR (l : List α) (n : Nat) : Option α := Nat.rec (motive := fun _ => List α → Option α) (fun l => List.rec (motive := fun _ => Option α) none (fun x _ _ => some x) l) (fun _ ih l => List.rec (motive := fun _ => Option α) none (fun _ r _ => ih r) l) n l
noncomputable def setR (l : List α) (n : Nat) (v : α) : List α := Nat.rec (motive := fun _ => List α → List α) (fun l => List.rec (motive := fun _ => List α) [] (fun _ r _ => v :: r) l) (fun _ ih l => List.rec (motive := fun _ => List α) [] (fun x r _ => x :: ih r) l) n l
noncomputable def dropR (n : Nat) (l : List α) : List α := Nat.rec (motive := fun _ => List α → List α) (fun l => l) (fun _ ih l => List.rec (motive := fun _ => List α) [] (fun _ r _ => ih r) l) n l
noncomputable def takeR (n : Nat) (l : List α) : List α := Nat.rec (motive := fun _ => List α → List α) (fun _ => []) (fun _ ih l => List.rec (motive := fun _ => List α) [] (fun x r _ => x :: ih r) l) n l
noncomputable def lenR (l : List α) : Nat := List.rec (motive := fun _ => Nat) 0 (fun _ _ ih => Nat.succ ih) l
noncomputable def lenIs (n : Nat) (l : List α) : Bool := Nat.rec (motive := fun _ => List α → Bool) (fun l => List.rec (motive := fun _ => Bool) true (fun _ _ _ => false) l) (fun _ ih l => List.rec (motive := fun _ => Bool) false (fun _ r _ => ih r) l) n l
noncomputable def takeN (n : Nat) (l : List α) : Option (List α) := Nat.rec (motive := fun _ => List α → Option (List α)) (fun _ => some []) (fun _ ih l => List.rec (motive := fun _ => Option (List α)) none (fun x r _ => Option.rec (motive := fun _ => Option (List α)) none (fun t => some (x :: t)) (ih r)) l) n l
noncomputable def over (cs vs : List α) : Option (List α) := List.rec (motive := fun _ => List α → Option (List α)) (fun cs => some cs) (fun v _ ih cs => List.rec (motive := fun _ => Option (List α)) none (fun _ r _ => Option.rec (motive := fun _ => Option (List α)) none (fun t => some (v :: t)) (ih r)) cs) vs cs
noncomputable def splice (cs : List α) (n : Nat) (vs : List α) : Option (List α) := Nat.rec (motive := fun _ => List α → Option (List α)) (fun cs => over cs vs) (fun _ ih cs => List.rec (motive := fun _ => Option (List α)) none (fun c r _ => Option.rec (motive := fun _ => Option (List α)) none (fun t => some (c :: t)) (ih r)) cs) n cs
noncomputable def mapO (f : α → Option β) (l : List α) : Option (List β) := List.rec (motive := fun _ => Option (List β)) (some []) (fun x _ ih => Option.rec (motive := fun _ => Option (List β)) none (fun y => Option.rec (motive := fun _ => Option (List β)) none (fun t => some (y :: t)) ih) (f x)) l
noncomputable def repR (n : Nat) (l : List α) : List α := Nat.rec (motive := fun _ => List α) [] (fun _ ih => appR l ih) n

theorem mapR_eq (f : α → β) (l : List α) : mapR f l = l.map f := by induction l with
  | nil => rfl
  | cons x r ih => exact congrArg (f x :: ·) ih
theorem allR_eq (p : α → Bool) (l : List α) : allR p l = l.all p := by induction l with
  | nil => rfl
  | cons x r ih =>
    show Bool.rec (motive := fun _ => Bool) false (allR p r) (p x) = _
    rw [ih, List.all_cons]; cases p x <;> rfl
theorem appR_eq (l m : List α) : appR l m = l ++ m := by induction l with
  | nil => rfl
  | cons x r ih => exact congrArg (x :: ·) ih
theorem nthR_eq (l : List α) (n : Nat) : nthR l n = l[n]? := by
  induction n generalizing l with
  | zero => cases l <;> rfl
  | succ n ih => cases l with
    | nil => rfl
    | cons x r => exact (ih r).trans (by simp)
theorem setR_eq (l : List α) (n : Nat) (v : α) : setR l n v = l.set n v := by
  induction n generalizing l with
  | zero => cases l <;> rfl
  | succ n ih => cases l with
    | nil => rfl
    | cons x r => exact congrArg (x :: ·) (ih r)
theorem dropR_eq (n : Nat) (l : List α) : dropR n l = l.drop n := by
  induction n generalizing l with
  | zero => cases l <;> rfl
  | succ n ih => cases l with
    | nil => rfl
    | cons x r => exact ih r
theorem takeR_eq (n : Nat) (l : List α) : takeR n l = l.take n := by
  induction n generalizing l with
  | zero => cases l <;> rfl
  | succ n ih => cases l with
    | nil => rfl
    | cons x r => exact congrArg (x :: ·) (ih r)
theorem lenR_eq (l : List α) : lenR l = l.length := by induction l with
  | nil => rfl
  | cons x r ih => exact congrArg Nat.succ ih
theorem lenIs_eq (n : Nat) (l : List α) : lenIs n l = (l.length == n) := by
  induction n generalizing l with
  | zero => cases l <;> rfl
  | succ n ih => cases l with
    | nil => rfl
    | cons x r => exact (ih r).trans (by simp)
theorem takeN_eq (n : Nat) (l : List α) : takeN n l = if n ≤ l.length then some (l.take n) else none := by
  induction n generalizing l with
  | zero => simp; rfl
  | succ n ih => cases l with
    | nil => rfl
    | cons x r =>
      show Option.rec (motive := fun _ => Option (List α)) none (fun t => some (x :: t)) (takeN n r) = _
      rw [ih r]
      by_cases h : n ≤ r.length
      · rw [if_pos h, if_pos (by simpa using h)]; rfl
      · rw [if_neg h, if_neg (by simpa using h)]
theorem over_eq (cs vs : List α) : over cs vs = if vs.length ≤ cs.length then some (vs ++ cs.drop vs.length) else none := by
  induction vs generalizing cs with
  | nil => simp; rfl
  | cons v vs ih => cases cs with
    | nil => rfl
    | cons c cs =>
      show Option.rec (motive := fun _ => Option (List α)) none (fun t => some (v :: t)) (over cs vs) = _
      rw [ih cs]
      by_cases h : vs.length ≤ cs.length
      · rw [if_pos h, if_pos (by simpa using h)]; rfl
      · rw [if_neg h, if_neg (by simpa using h)]
theorem splice_eq (cs : List α) (n : Nat) (vs : List α) : splice cs n vs = if n + vs.length ≤ cs.length then some (cs.take n ++ vs ++ cs.drop (n + vs.length)) else none := by
  induction n generalizing cs with
  | zero => show over cs vs = _; rw [over_eq]; simp
  | succ n ih => cases cs with
    | nil => show none = _; rw [if_neg (by simp)]
    | cons c cs =>
      show Option.rec (motive := fun _ => Option (List α)) none (fun t => some (c :: t)) (splice cs n vs) = _
      rw [ih cs]
      by_cases h : n + vs.length ≤ cs.length
      · rw [if_pos h, if_pos (by simp; omega)]; simp [Nat.add_right_comm]
      · rw [if_neg h, if_neg (by simp; omega)]
theorem mapO_nil (f : α → Option β) : mapO f [] = some [] := rfl
theorem mapO_cons (f : α → Option β) (x : α) (l : List α) : mapO f (x :: l) = match f x with
    | some y => (match mapO f l with
      | some t => some (y :: t)
      | none => none)
    | none => none := by
  show Option.rec (motive := fun _ => Option (List β)) none (fun y => Option.rec (motive := fun _ => Option (List β)) none (fun t => some (y :: t)) (mapO f l)) (f x) = _
  cases f x <;> cases mapO f l <;> rfl
theorem repR_eq (n : Nat) (l : List α) : repR n l = (List.replicate n l).flatten := by
  induction n with
  | zero => rfl
  | succ n ih => show appR l (repR n l) = _; rw [appR_eq, ih, List.replicate_succ]; rfl
end Go.Em
namespace Go.Em

/-- What is known of a slice's capacity: nothing, that it is its length, that the slice is nil, that it is not. -/
inductive SK where
  | ro | full | nil | live
  deriving DecidableEq

/-- Values that lead to nothing that is ever written again. -/
inductive IV where
  | sc (v : Value)
  | agg (cs : List IV)
  | sl (es : List IV) (k : SK)
  | ip (cs : List IV)
  | fn (f : Fn) (first captured : List IV)
  | ifc (t : TypeId) (v : IV)
  | mp (ks : List Value) (vs : List IV)

inductive AV where
  | im (v : IV)
  | any
  | lp (b off : Nat)
  | ptr (o off : Nat)
  | mp (o : Nat)
  | row (o off len sz : Nat)
  | own (es : List IV) (k : Nat)
  | agg (cs : List AV)
  | tup (vs : List AV)
  | fn (f : Fn) (first captured : List AV)
  | ifc (t : TypeId) (v : AV)
  | yld (l : Nat)

inductive Opd where
  | t (n : Nat)
  | b (n : Nat)
  | k (v : AV)

/-- A map's kind of keys. -/
inductive KK where
  | int | str | bool

/-- What is compared with nil. -/
inductive NK where
  | ifc | fn | ptr | mp | sl

/-- What a length is taken of. -/
inductive LK where
  | str | sl | mp

inductive IOp where
  | mv (x : Opd)
  | pick (c a b : Opd)
  | lalloc (cs : List AV)
  | lbox (x : Opd)
  | halloc (cs : List AV)
  | hbox (x : Opd)
  | build (z : List AV) (parts : List (Nat × Nat × Opd))
  | mkS (sz n : Nat) (z : List AV) (parts : List (Nat × Opd))
  | ld (n : Nat) (ag : Bool) (x : Opd)
  | st (n : Nat) (a v : Opd)
  | nilc (x : Opd)
  | bin (op : BinOp) (t : TypeId) (cx cy : Bool) (x y : Opd)
  | un (op : UnOp) (x : Opd)
  | conv (s d : TypeId) (x : Opd)
  | mkifc (t : TypeId) (x : Opd)
  | mkfn (f : Fn) (first captured : List Opd) (fz : List Bool)
  | mkmap
  | mkslice (sz : Nat) (z : List AV) (l c : Opd)
  | slc (t : TypeId) (sz : Nat) (x : Opd) (lo hi mx : Option Opd)
  | off (k : Nat) (x : Opd)
  | fld (k n : Nat) (ag : Bool) (x : Opd)
  | idxA (sz : Nat) (len : Option Nat) (x i : Opd)
  | idxV (t : TypeId) (sz : Nat) (ag : Bool) (len : Option Nat) (x i : Opd)
  | lookup (kk : KK) (z : List AV) (ag : Bool) (x i : Opd) (ok : Bool)
  | mapset (kk : KK) (m k v : Opd)
  | extract (x : Opd) (i : Nat)
  | len (k : LK) (x : Opd)
  | append (sz : Nat) (mu : Bool) (a b : Opd)
  | sbuiltin (b : Builtin) (ts : List TypeId) (t : TypeId) (args : List Opd)
  | call (f : FuncId) (args : List Opd)
  | calld (f : Opd) (args : List Opd)
  | invoke (fs : List (TypeId × FuncId)) (x : Opd) (args : List Opd)
  | tass (t : TypeId) (z : List AV) (ag : Bool) (cok : Bool) (x : Opd)
  | isnil (k : NK) (neg : Bool) (x : Opd)
  | pan (x : Opd)
  | bad

structure IOper where
  dst : Option Nat
  op : IOp
  guard : Option (Nat × Bool)

inductive ICode where
  | skip
  | region (ops : List IOper)
  | draw (ops : List IOper) (un : List Nat)
  | seq (a b : ICode)
  | cond (c : Opd) (a b : ICode)
  | block (id : Nat) (b : ICode)
  | loop (keep kb : List Nat) (b : ICode)
  | rangeFunc (f : Opd) (ps keep : List Nat) (assign body : ICode)
  | rangeMap (ops : List IOper) (x : Opd) (ti tn tb te bo bi : Nat) (ops2 : List IOper) (body : ICode)
  | exit (id : Nat)
  | ret
  | bad

inductive IRes where
  | tmp (t : Nat)
  | cell (b : Nat) (n : Nat) (ag : Bool)

/-- A function. 'pre': of one that ends in a deferred call, what stands ahead of it and what is called; 'rcv': of one that begins by recovering, where the value goes and what the first region does then. -/
structure IFunc where
  np : Nat
  res : List IRes
  body : ICode
  pre : Option (List ICode × List IOper × Opd) := none
  rcv : Option (Nat × List IOper) := none

inductive Jump where
  | exit (id : Nat)
  | ret

inductive LS where
  | ready | busy | done | over
  deriving DecidableEq

inductive HObj where
  | cells (cs : List AV)
  | frz (cs : List IV)
  | tok
  | map (ks : List Value) (vs : List AV)
  | bld (bs : List UInt8)
  | loop (st : LS) (pend : Option Jump) (tm : List (Nat × AV)) (ps : List Nat) (assign body : ICode)
  | dead

abbrev Heap := List HObj
abbrev Tm := List (Nat × AV)
abbrev Bx := List (Nat × List AV)

structure St where
  tm : Tm
  bx : Bx
  h : Heap

inductive Out where
  | norm
  | exit (id : Nat)
  | ret
  | pan (v : AV)

/-- The values that the environment's functions of Go's library have been told to have. -/
inductive Prim where
  | itoa
  | quote
  | bWriteString
  | bString

structure Env where
  P : Program
  fn : Nat → Option IFunc
  shared : Nat → Bool
  prim : Nat → Option Prim

noncomputable def getT (l : Tm) (t : Nat) : AV := List.rec (motive := fun _ => AV) .any (fun p _ ih => Bool.rec (motive := fun _ => AV) ih p.2 (Nat.beq p.1 t)) l
noncomputable def getB (l : Bx) (t : Nat) : Option (List AV) := List.rec (motive := fun _ => Option (List AV)) none (fun p _ ih => Bool.rec (motive := fun _ => Option (List AV)) ih (some p.2) (Nat.beq p.1 t)) l
noncomputable def setB (l : Bx) (t : Nat) (v : List AV) : Bx := List.rec (motive := fun _ => Bx) [(t, v)] (fun p r ih => Bool.rec (motive := fun _ => Bx) (p :: ih) ((t, v) :: r) (Nat.beq p.1 t)) l

noncomputable def Opd.ev (tm : Tm) (bx : Bx) : Opd → AV
  | .t n => getT tm n
  | .b n => match getB bx n with
    | some _ => .lp n 0
    | none => .any
  | .k v => v

/-- A value's cells. -/
def IV.cells : IV → List IV
  | .agg cs => cs
  | v => [v]

noncomputable def AV.cells : AV → List AV
  | .im (.agg cs) => mapR .im cs
  | .agg cs => cs
  | v => [v]

def IV.flat : IV → IV
  | .sl [] .nil => .sl [] .nil
  | .sl [] .live => .sl [] .live
  | .sl es _ => .sl es .ro
  | v => v

/-- What is known of the capacities in the outermost cells is forgotten. -/
noncomputable def IV.strip : IV → IV
  | .agg cs => .agg (mapR IV.flat cs)
  | v => v.flat

def unim1 : AV → Option IV
  | .im v => some v
  | _ => none

/-- The cells as immutable ones, if each is. -/
noncomputable def unim (l : List AV) : Option (List IV) := mapO unim1 l

noncomputable def mkAgg (cs : List AV) : AV :=
  match unim cs with
  | some vs => .im (.agg vs)
  | none => .agg cs

/-- A value that leads to no memory of the heap, as an immutable one. -/
noncomputable def AV.finR : AV → Option IV
  | .im v => some v.strip
  | .own es _ => some (.sl es .ro)
  | .agg cs => (finAll cs).map .agg
  | .fn f a b => match finAll a, finAll b with
    | some x, some y => some (.fn f x y)
    | _, _ => none
  | .ifc t v => (AV.finR v).map (.ifc t)
  | _ => none
where finAll : List AV → Option (List IV)
  | [] => some []
  | v :: r => match AV.finR v, finAll r with
    | some x, some y => some (x :: y)
    | _, _ => none

noncomputable def AV.fin (v : AV) : Option IV :=
  match v with
  | .im v => some v.strip
  | .own es _ => some (.sl es .ro)
  | v => v.finR

/-- The first element of cells, so many to one. -/
noncomputable def elem1 (sz : Nat) (cs : List AV) : AV :=
  match Nat.beq sz 1 with
  | true => match cs with
    | c :: _ => c
    | [] => .any
  | false => mkAgg (takeR sz cs)

/-- Cells in their elements, so many to one. -/
noncomputable def elems (n sz : Nat) (cs : List AV) : List AV := Nat.rec (motive := fun _ => List AV → List AV) (fun _ => []) (fun _ ih cs => elem1 sz cs :: ih (dropR sz cs)) n cs

/-- A result as an immutable value; what it leads to in the heap is frozen. -/
noncomputable def AV.frz (h : Heap) : Nat → AV → Option IV
  | 0, _ => none
  | n + 1, v => match v with
    | .im v => some v.strip
    | .own es _ => some (.sl es .ro)
    | .agg cs => (mapO (AV.frz h n) cs).map .agg
    | .fn f a b => match mapO (AV.frz h n) a, mapO (AV.frz h n) b with
      | some x, some y => some (.fn f x y)
      | _, _ => none
    | .ifc t v => (AV.frz h n v).map (.ifc t)
    | .ptr o off => match nthR h o with
      | some (.cells cs) => (mapO (AV.frz h n) cs).map fun l => .ip (dropR off l)
      | some (.frz cs) => some (.ip (dropR off cs))
      | _ => none
    | .mp o => match nthR h o with
      | some (.map ks vs) => (mapO (AV.frz h n) vs).map (.mp ks)
      | _ => none
    | .row o off len sz => match nthR h o with
      | some (.cells cs) => match Nat.ble (off + len * sz) (lenR cs) with
        | true => (mapO (AV.frz h n) (elems len sz (dropR off cs))).map (.sl · .ro)
        | false => none
      | _ => none
    | _ => none

/-- A computation that asks nothing of memory. -/
def pureRun {α : Type} (P : Program) : Sem α → Option α
  | .pure a => some a
  | .program k => pureRun P (k P)
  | _ => none

/-- An immutable value that is no address, as the model has it. -/
def IV.val : IV → Option Value
  | .sc v => some v
  | .agg cs => (valAll cs).map fun l => .agg l.toArray
  | _ => none
where valAll : List IV → Option (List Value)
  | [] => some []
  | v :: r => match IV.val v, valAll r with
    | some x, some y => some (x :: y)
    | _, _ => none

/-! Integers: quick ways for what the model's operations give. -/
def eqI : Int → Int → Bool
  | .ofNat a, .ofNat b => Nat.beq a b
  | .negSucc a, .negSucc b => Nat.beq a b
  | _, _ => false

def ltI : Int → Int → Bool
  | .ofNat a, .ofNat b => Nat.blt a b
  | .negSucc a, .negSucc b => Nat.blt b a
  | .negSucc _, .ofNat _ => true
  | .ofNat _, .negSucc _ => false

def wrapF : IntKind → Int → Int
  | .i64, .ofNat n => match Nat.blt n 9223372036854775808 with
    | true => .ofNat n
    | false => IntKind.wrap .i64 (.ofNat n)
  | .i64, .negSucc n => match Nat.blt n 9223372036854775808 with
    | true => .negSucc n
    | false => IntKind.wrap .i64 (.negSucc n)
  | k, n => k.wrap n

def binInt (op : BinOp) (k : IntKind) (a b : Int) : Option Value :=
  match op with
  | .add => some (.int k (wrapF k (a + b)))
  | .sub => some (.int k (wrapF k (a - b)))
  | .mul => some (.int k (wrapF k (a * b)))
  | .eql => some (.bool (eqI a b))
  | .neq => some (.bool (!eqI a b))
  | .lss => some (.bool (ltI a b))
  | .leq => some (.bool (!ltI b a))
  | .gtr => some (.bool (ltI b a))
  | .geq => some (.bool (!ltI a b))
  | _ => none

def sameKind : IntKind → IntKind → Bool
  | .i8, .i8 | .i16, .i16 | .i32, .i32 | .i64, .i64 | .u8, .u8 | .u16, .u16 | .u32, .u32 | .u64, .u64 => true
  | _, _ => false

def bytesEq : List UInt8 → List UInt8 → Bool
  | [], [] => true
  | a :: x, b :: y => match Nat.beq a.toNat b.toNat with
    | true => bytesEq x y
    | false => false
  | _, _ => false

def binStr (op : BinOp) (a b : ByteArray) : Option Value :=
  match op with
  | .eql => some (.bool (bytesEq a.data.toList b.data.toList))
  | .neq => some (.bool (!bytesEq a.data.toList b.data.toList))
  | _ => none

def binSlow (P : Program) (op : BinOp) (t : TypeId) (cx cy : Bool) (a b : Value) : Option Value :=
  pureRun P (do eqGuard op t (if cx then .const a else .tmp 0) (if cy then .const b else .tmp 0) a b; binOp op t a b)

/-- A binary operation on values that are no addresses. -/
def binV (P : Program) (op : BinOp) (t : TypeId) (cx cy : Bool) (x y : Value) : Option Value :=
  match x, y with
  | .int k a, .int k' b => match sameKind k k' with
    | true => match binInt op k a b with
      | some v => some v
      | none => binSlow P op t cx cy x y
    | false => binSlow P op t cx cy x y
  | .string a, .string b => match binStr op a b with
    | some v => some v
    | none => binSlow P op t cx cy x y
  | x, y => binSlow P op t cx cy x y

inductive Rd where
  | none
  | box (b : Nat)
  | obj (o : Nat)
  | heap

inductive Up where
  | none
  | box (b : Nat) (cs : List AV)
  | mk (b : Nat) (cs : List AV)
  | alloc (x : HObj)
  | set (o : Nat) (x : HObj)
  | move (o : Nat) (x : HObj)
  | heap (h : Heap)

/-- A result; 'pan': of a panic. -/
structure Res where
  v : AV
  rd : Rd := .none
  up : Up := .none
  pan : Bool := false

noncomputable def getCells (bx : Bx) (h : Heap) (n : Nat) : AV → Option (List AV × Rd)
  | .lp b off => match getB bx b with
    | some cs => (takeN n (dropR off cs)).map fun l => (l, .box b)
    | none => none
  | .ptr o off => match nthR h o with
    | some (.cells cs) => (takeN n (dropR off cs)).map fun l => (l, .obj o)
    | some (.frz cs) => (takeN n (dropR off cs)).map fun l => (mapR .im l, .obj o)
    | _ => none
  | .im (.ip cs) => (takeN n cs).map fun l => (mapR .im l, .none)
  | _ => none

noncomputable def ofCells (ag : Bool) (cs : List AV) : Option AV :=
  if ag then some (mkAgg cs) else match cs with
    | [v] => some v
    | _ => none

/-- The values that may lie in one cell. -/
def AV.cellOk : AV → Bool
  | .im (.agg _) | .agg _ | .tup _ | .any | .lp _ _ => false
  | _ => true

noncomputable def putCells (bx : Bx) (h : Heap) (a : AV) (vs : List AV) : Option Up :=
  match allR AV.cellOk vs with
  | false => none
  | true => match a with
    | .lp b off => match getB bx b with
      | some cs => (splice cs off vs).map (.box b)
      | none => none
    | .ptr o off => match nthR h o with
      | some (.cells cs) => (splice cs off vs).map fun l => .set o (.cells l)
      | _ => none
    | _ => none

/-- A part laid into cells. -/
noncomputable def fillPart (z : List AV) (p : Nat × Nat × AV) : Option (List AV) :=
  match lenIs p.2.1 p.2.2.cells with
  | true => match allR AV.cellOk p.2.2.cells with
    | true => splice z p.1 p.2.2.cells
    | false => none
  | false => none

noncomputable def fillParts (z : List AV) (l : List (Nat × Nat × AV)) : Option (List AV) := List.rec (motive := fun _ => List AV → Option (List AV)) (fun z => some z) (fun p _ ih z => Option.rec (motive := fun _ => Option (List AV)) none (fun z' => ih z') (fillPart z p)) l z

/-- An element as it lies in an immutable slice. -/
noncomputable def mkElem (sz : Nat) (v : AV) : Option IV :=
  match v.fin with
  | some x => match lenIs sz x.cells with
    | true => some x
    | false => none
  | none => none

noncomputable def mkElems (sz : Nat) (l : List AV) : Option (List IV) := mapO (mkElem sz) l

def asInt : AV → Option Int
  | .im (.sc (.int _ n)) => some n
  | _ => none

def asBool : AV → Option Bool
  | .im (.sc (.bool b)) => some b
  | _ => none

def scal (v : Value) : AV := .im (.sc v)

def AV.val : AV → Option Value
  | .im (.sc v) => some v
  | .im v => v.val
  | _ => none

def scalar : Value → Bool
  | .bool _ | .int .. | .float .. | .complex .. | .string _ | .pointer none | .nilFunc | .nilIface | .map none | .chan none => true
  | _ => false

def ofVal (v : Value) : Option AV :=
  match scalar v with
  | true => some (.im (.sc v))
  | false => none

noncomputable def sliceElems : AV → Option (List IV)
  | .im (.sl es _) => some es
  | .own es _ => some es
  | .im (.sc (.string s)) => some (mapR (fun b => .sc (.int .u8 b.toNat)) s.data.toList)
  | _ => none

def ok (v : AV) : Option Res := some { v }

def keyIs : KK → Value → Bool
  | .int, .int .. => true
  | .str, .string _ => true
  | .bool, .bool _ => true
  | _, _ => false

/-- Whether two keys are one; nothing where they are not of one kind. -/
def keyEq : Value → Value → Option Bool
  | .int k a, .int k' b => match sameKind k k' with
    | true => some (eqI a b)
    | false => none
  | .string a, .string b => some (bytesEq a.data.toList b.data.toList)
  | .bool a, .bool b => some (a == b)
  | _, _ => none

def keyNext (r : Option (Option Nat)) : Option Bool → Option (Option Nat)
  | some true => some (some 0)
  | some false => match r with
    | some (some n) => some (some (n + 1))
    | r => r
  | none => none

/-- The place of a key. -/
noncomputable def keyAt (k : Value) (l : List Value) : Option (Option Nat) := List.rec (motive := fun _ => Option (Option Nat)) (some none) (fun x _ ih => keyNext ih (keyEq k x)) l

noncomputable def optInt (tm : Tm) (bx : Bx) : Option Opd → Option (Option Int)
  | none => some none
  | some x => match asInt (x.ev tm bx) with
    | some n => some (some n)
    | none => none

/-- A part of a list. -/
noncomputable def cut {α : Type} (l h : Nat) (es : List α) : List α := takeR (h - l) (dropR l es)

/-- The bounds of a slice expression within a length: numbers that lie in order. -/
def bounds3 (n : Nat) (lo hi mx : Option Int) : Option (Nat × Nat × Option Nat) :=
  match lo.getD 0, hi.getD (.ofNat n) with
  | .ofNat l, .ofNat h => match Nat.ble l h && Nat.ble h n with
    | true => match mx with
      | none => some (l, h, none)
      | some (.ofNat m) => match hi.isSome && Nat.ble h m && Nat.ble m n with
        | true => some (l, h, some m)
        | false => none
      | _ => none
    | false => none
  | _, _ => none

def cutK (n h : Nat) (mx : Option Nat) : SK → SK
  | .nil => .nil
  | .ro => match mx with
    | none => .ro
    | some m => if Nat.beq h m then .full else .ro
  | .live => match mx with
    | none => .ro
    | some m => if Nat.beq h m then .full else .ro
  | .full => match mx with
    | none => if Nat.beq h n then .full else .ro
    | some m => if Nat.beq h m then .full else .ro

def emptyK (m : Option Nat) : SK → SK
  | .nil => .nil
  | _ => match m with
    | some _ => .full
    | none => .ro

/-- s[lo:hi:mx] of a slice's elements; 'k': what is known of its capacity. -/
noncomputable def slcEs (sz : Nat) (es : List IV) (k : SK) (lo hi mx : Option Int) : Option Res :=
  match es with
  | [] => match bounds3 0 lo hi mx with
    | some (_, _, m) => ok (.im (.sl [] (emptyK m k)))
    | none => none
  | e :: _ => match lenIs sz e.cells with
    | true => match bounds3 (lenR es) lo hi mx with
      | some (l, h, m) => ok (.im (.sl (cut l h es) (cutK (lenR es) h m k)))
      | none => none
    | false => none

/-- s[lo:hi:mx] of a slice. -/
noncomputable def slcOf (sz : Nat) (x : AV) (lo hi mx : Option Int) : Option Res :=
  match x with
  | .im (.sl es k) => slcEs sz es k lo hi mx
  | .own es _ => slcEs sz es .ro lo hi mx
  | .row o off len s => match bounds3 len lo hi mx with
    | some (l, h, none) => match Nat.beq s sz && (Nat.beq l 0 || Nat.blt l len) with
      | true => ok (.row o (off + l * sz) (h - l) sz)
      | false => none
    | _ => none
  | _ => none

noncomputable def idxElem (sz : Nat) (e : IV) : Option Res :=
  match lenIs sz e.cells with
  | true => ok (.im (.ip e.cells))
  | false => none

noncomputable def idxArr (sz n i : Nat) (x : AV) : Option Res :=
  match Nat.blt i n with
  | true => match x with
    | .lp b off => ok (.lp b (off + i * sz))
    | .ptr o off => ok (.ptr o (off + i * sz))
    | .im (.ip cs) => match Nat.ble (i * sz) (lenR cs) with
      | true => ok (.im (.ip (dropR (i * sz) cs)))
      | false => none
    | _ => none
  | false => none

noncomputable def idxSl (sz i : Nat) (x : AV) : Option Res :=
  match x with
  | .im (.sl es _) => match nthR es i with
    | some e => idxElem sz e
    | none => none
  | .own es _ => match nthR es i with
    | some e => idxElem sz e
    | none => none
  | .row o off n s => match Nat.beq s sz && Nat.blt i n with
    | true => ok (.ptr o (off + i * sz))
    | false => none
  | _ => none

noncomputable def idxAOf (sz : Nat) (len : Option Nat) (x : AV) (i : Int) : Option Res :=
  match i with
  | .ofNat i => match len with
    | some n => idxArr sz n i x
    | none => idxSl sz i x
  | _ => none

/-- The longest list that an append makes. -/
def mostLen : Nat := 16777216

noncomputable def appIm (sz : Nat) (mu : Bool) (h : Heap) (es bs : List IV) : Option Res :=
  match allR (fun e => lenIs sz e.cells) es && Nat.ble (lenR es + lenR bs) mostLen with
  | true => match mu with
    | true => some { v := .row (lenR h) 0 (lenR es + lenR bs) sz, up := .alloc (.cells (mapR .im ((es ++ bs.map IV.strip).flatMap IV.cells))) }
    | false => some { v := .own (appR es (mapR IV.strip bs)) (lenR h), up := .alloc .tok }
  | false => none

/-- Whether the first of a list has so many cells. -/
noncomputable def headIs (sz : Nat) (es : List IV) : Bool :=
  match es with
  | e :: _ => lenIs sz e.cells
  | [] => false

noncomputable def appOwn (sz : Nat) (h : Heap) (es : List IV) (k : Nat) (bs : List IV) : Option Res :=
  match nthR h k with
  | some .tok => match headIs sz es && Nat.ble (lenR es + lenR bs) mostLen with
    | true => some { v := .own (appR es (mapR IV.strip bs)) (lenR h), rd := .obj k, up := .move k .tok }
    | false => none
  | _ => none

noncomputable def appRow (sz : Nat) (h : Heap) (o off len s : Nat) (bs : List IV) : Option Res :=
  match nthR h o with
  | some (.cells cs) => match Nat.beq s sz && Nat.beq off 0 && Nat.beq (lenR cs) (len * sz) && Nat.ble (len + lenR bs) mostLen with
    | true => some { v := .row (lenR h) 0 (len + lenR bs) sz, rd := .obj o, up := .move o (.cells (appR cs (mapR .im ((bs.map IV.strip).flatMap IV.cells)))) }
    | false => none
  | _ => none

noncomputable def app1 (sz : Nat) (mu : Bool) (h : Heap) (a : AV) (bs : List IV) : Option Res :=
  match allR (fun e => lenIs sz e.cells) bs with
  | true => match a with
    | .im (.sl es .full) => appIm sz mu h es bs
    | .im (.sl es .nil) => appIm sz mu h es bs
    | .own es k => appOwn sz h es k bs
    | .row o off len s => appRow sz h o off len s bs
    | _ => none
  | false => none

noncomputable def appendOf (sz : Nat) (mu : Bool) (h : Heap) (a b : AV) : Option Res :=
  match sliceElems b with
  | some [] => match a with
    | .im (.sl _ _) => ok a
    | .own _ _ => ok a
    | .row _ _ _ _ => ok a
    | _ => none
  | some bs => app1 sz mu h a bs
  | none => none

/-- A pointer to memory that is not written from here on. -/
noncomputable def freezeOf (h : Heap) (x : AV) : Option (AV × Heap) :=
  match x with
  | .ptr o off => match nthR h o with
    | some (.cells cs) => match AV.finR.finAll cs with
      | some l => some (.im (.ip (dropR off l)), setR h o (.frz l))
      | none => some (x, h)
    | some (.frz cs) => some (.im (.ip (dropR off cs)), h)
    | _ => none
  | v => some (v, h)

noncomputable def freezeAll (h : Heap) : List AV → List Bool → Option (List AV × Heap)
  | [], _ => some ([], h)
  | v :: vs, fz => match (if fz.headD false then freezeOf h v else some (v, h)) with
    | some (v', h') => match freezeAll h' vs fz.tail with
      | some (vs', h'') => some (v' :: vs', h'')
      | none => none
    | none => none

noncomputable def mkFn (f : Fn) (a b : List AV) : Option AV :=
  match unim a, unim b with
  | some x, some y => some (.im (.fn f x y))
  | _, _ => if a.all (fun v => match v with | .any | .lp _ _ | .tup _ => false | _ => true) && b.all (fun v => match v with | .any | .lp _ _ | .tup _ => false | _ => true) then some (.fn f a b) else none

end Go.Em
namespace Go.Em

/-- A call: its value, what it looks at and what it turns. -/
abbrev CallFn := AV → List AV → Heap → Option Res

noncomputable def opdsEv (tm : Tm) (bx : Bx) (l : List Opd) : List AV := mapR (Opd.ev tm bx) l

def AV.isLp (b : Nat) : AV → Bool
  | .lp c _ => Nat.beq c b
  | _ => false

noncomputable def Tm.noLp (b : Nat) (l : Tm) : Bool := allR (fun p => !p.2.isLp b) l

/-- Values that may be handed to a function, kept in a closure, an interface value or memory. -/
def AV.free : AV → Bool
  | .any | .lp _ _ | .tup _ => false
  | _ => true

noncomputable def sbuiltin (P : Program) (b : Builtin) (ts : List TypeId) (t : TypeId) (args : List AV) : Option Res :=
  match mapO AV.val args with
  | some vs => match b with
    | .max => match pureRun P (Builtin.max_ ts.toArray t vs.toArray) with
      | some v => (ofVal v).bind ok
      | none => none
    | .min => match pureRun P (Builtin.min_ ts.toArray t vs.toArray) with
      | some v => (ofVal v).bind ok
      | none => none
    | _ => none
  | none => none

/-! One definition an operation. -/
def oPick (c a b : AV) : Option Res :=
  match c with
  | .im (.sc (.bool true)) => ok a
  | .im (.sc (.bool false)) => ok b
  | _ => none

noncomputable def oHbox (x : AV) (h : Heap) : Option Res :=
  match allR AV.cellOk x.cells with
  | true => some { v := .ptr (lenR h) 0, up := .alloc (.cells x.cells) }
  | false => none

noncomputable def oBuild (z : List AV) (parts : List (Nat × Nat × AV)) : Option Res :=
  match fillParts z parts with
  | some cs => ok (mkAgg cs)
  | none => none

noncomputable def oMkS (sz n : Nat) (z : List AV) (parts : List (Nat × Nat × AV)) (h : Heap) : Option Res :=
  match fillParts (repR n z) parts with
  | some cs => match mkElems sz (elems n sz cs) with
    | some es => ok (.im (.sl es .full))
    | none => some { v := .row (lenR h) 0 n sz, up := .alloc (.cells cs) }
  | none => none

noncomputable def oLd (n : Nat) (ag : Bool) (x : AV) (bx : Bx) (h : Heap) : Option Res :=
  match getCells bx h n x with
  | some (cs, rd) => match ofCells ag cs with
    | some v => some { v, rd }
    | none => none
  | none => none

def rdOf : AV → Rd
  | .ptr o _ => .obj o
  | .lp b _ => .box b
  | _ => .none

noncomputable def oSt (n : Nat) (a v : AV) (bx : Bx) (h : Heap) : Option Res :=
  match lenIs n v.cells with
  | true => match putCells bx h a v.cells with
    | some up => some { v := .tup [], up, rd := rdOf a }
    | none => none
  | false => none

def oNilc (x : AV) : Option Res :=
  match x with
  | .lp b off => ok (.lp b off)
  | .ptr o off => ok (.ptr o off)
  | .im (.ip cs) => ok (.im (.ip cs))
  | .fn (.func f) a b => ok (.fn (.func f) a b)
  | .im (.fn (.func f) a b) => ok (.im (.fn (.func f) a b))
  | .yld l => ok (.yld l)
  | _ => none

def resV : Option Value → Option Res
  | some v => match ofVal v with
    | some a => ok a
    | none => none
  | none => none

def oBin (P : Program) (op : BinOp) (t : TypeId) (cx cy : Bool) (x y : AV) : Option Res :=
  match x.val with
  | some a => match y.val with
    | some b => resV (binV P op t cx cy a b)
    | none => none
  | none => none

def oUn (P : Program) (op : UnOp) (x : AV) : Option Res :=
  match x.val with
  | some a => resV (pureRun P (Op.unary op a))
  | none => none

def oConv (P : Program) (s d : TypeId) (x : AV) : Option Res :=
  match x.val with
  | some a => resV (pureRun P (convert s d a))
  | none => none

def oMkifc (t : TypeId) (x : AV) : Option Res :=
  match x with
  | .im v => ok (.im (.ifc t v))
  | v => match v.free with
    | true => ok (.ifc t v)
    | false => none

noncomputable def oMkfn (f : Fn) (a b : List AV) (fz : List Bool) (h : Heap) : Option Res :=
  match fz with
  | [] => (mkFn f a b).bind ok
  | _ => match freezeAll h (a ++ b) fz with
    | some (vs, h') => match mkFn f (takeR (lenR a) vs) (dropR (lenR a) vs) with
      | some v => some { v, rd := .heap, up := .heap h' }
      | none => none
    | none => none

noncomputable def oMkslice (sz : Nat) (z : List AV) (l c : AV) (h : Heap) : Option Res :=
  match asInt l, asInt c with
  | some (.ofNat n), some (.ofNat m) => match Nat.beq n m && Nat.ble n 1048576 with
    | true => some { v := .row (lenR h) 0 n sz, up := .alloc (.cells (repR n z)) }
    | false => none
  | _, _ => none

noncomputable def oSlc (sz : Nat) (x : AV) (lo hi mx : Option (Option Int)) : Option Res :=
  match lo, hi, mx with
  | some l, some h, some m => match sz with
    | 0 => match x, m with
      | .im (.sc (.string str)), none => match bounds3 str.size l h none with
        | some (a, b, _) => ok (scal (.string (str.extract a b)))
        | none => none
      | _, _ => none
    | _ => slcOf sz x l h m
  | _, _, _ => none

noncomputable def oOff (k : Nat) (x : AV) : Option Res :=
  match x with
  | .lp b off => ok (.lp b (off + k))
  | .ptr o off => ok (.ptr o (off + k))
  | .im (.ip cs) => match Nat.ble k (lenR cs) with
    | true => ok (.im (.ip (dropR k cs)))
    | false => none
  | _ => none

noncomputable def oFld (k n : Nat) (ag : Bool) (x : AV) : Option Res :=
  match x with
  | .im (.agg cs) => match takeN n (dropR k cs) with
    | some l => (ofCells ag (mapR .im l)).bind ok
    | none => none
  | .agg cs => match takeN n (dropR k cs) with
    | some l => (ofCells ag l).bind ok
    | none => none
  | _ => none

noncomputable def oIdxA (sz : Nat) (len : Option Nat) (x i : AV) : Option Res :=
  match asInt i with
  | some n => idxAOf sz len x n
  | none => none

noncomputable def oIdxV (sz : Nat) (ag : Bool) (len : Option Nat) (x i : AV) : Option Res :=
  match asInt i with
  | some (.ofNat n) => match len, x with
    | some m, .im (.agg cs) => match Nat.blt n m with
      | true => match takeN sz (dropR (n * sz) cs) with
        | some l => (ofCells ag (mapR .im l)).bind ok
        | none => none
      | false => none
    | some m, .agg cs => match Nat.blt n m with
      | true => match takeN sz (dropR (n * sz) cs) with
        | some l => (ofCells ag l).bind ok
        | none => none
      | false => none
    | none, .im (.sc (.string str)) => match nthR str.data.toList n with
      | some b => ok (scal (.int .u8 b.toNat))
      | none => none
    | _, _ => none
  | _ => none

noncomputable def lookRes (z : List AV) (ag cok : Bool) (rd : Rd) (vs : List AV) : Option (Option Nat) → Option Res
  | some (some i) => match nthR vs i with
    | some v => some { v := if cok then .tup [v, scal (.bool true)] else v, rd }
    | none => none
  | some none => match ofCells ag z with
    | some v => some { v := if cok then .tup [v, scal (.bool false)] else v, rd }
    | none => none
  | none => none

noncomputable def oLookup (kk : KK) (z : List AV) (ag : Bool) (x i : AV) (cok : Bool) (h : Heap) : Option Res :=
  match i.val with
  | some k => match keyIs kk k with
    | true => match x with
      | .mp o => match nthR h o with
        | some (.map ks vs) => lookRes z ag cok (.obj o) vs (keyAt k ks)
        | _ => none
      | .im (.mp ks vs) => lookRes z ag cok .none (mapR .im vs) (keyAt k ks)
      | .im (.sc (.map none)) => lookRes z ag cok .none [] (some none)
      | _ => none
    | false => none
  | none => none

noncomputable def oMapset (kk : KK) (m k v : AV) (h : Heap) : Option Res :=
  match k.val with
  | some kv => match keyIs kk kv && v.free with
    | true => match m with
      | .mp o => match nthR h o with
        | some (.map ks vs) => match keyAt kv ks with
          | some (some i) => some { v := .tup [], rd := .obj o, up := .set o (.map ks (setR vs i v)) }
          | some none => some { v := .tup [], rd := .obj o, up := .set o (.map (appR ks [kv]) (appR vs [v])) }
          | none => none
        | _ => none
      | _ => none
    | false => none
  | none => none

noncomputable def oExtract (x : AV) (i : Nat) : Option Res :=
  match x with
  | .tup vs => match nthR vs i with
    | some v => ok v
    | none => none
  | _ => none

noncomputable def oLen (k : LK) (x : AV) (h : Heap) : Option Res :=
  match k with
  | .sl => match x with
    | .im (.sl es _) => ok (scal (.int .i64 (.ofNat (lenR es))))
    | .own es _ => ok (scal (.int .i64 (.ofNat (lenR es))))
    | .row _ _ n _ => ok (scal (.int .i64 (.ofNat n)))
    | _ => none
  | .str => match x with
    | .im (.sc (.string str)) => ok (scal (.int .i64 (.ofNat str.size)))
    | _ => none
  | .mp => match x with
    | .mp o => match nthR h o with
      | some (.map ks _) => some { v := scal (.int .i64 (.ofNat (lenR ks))), rd := .obj o }
      | _ => none
    | _ => none

/-- A type assertion to a type that is no interface. -/
noncomputable def tassMiss (z : List AV) (ag cok : Bool) : Option Res :=
  match cok with
  | true => match ofCells ag z with
    | some v => ok (.tup [v, scal (.bool false)])
    | none => none
  | false => none

def tassHit (cok : Bool) (v : AV) : Option Res :=
  ok (match cok with
    | true => .tup [v, scal (.bool true)]
    | false => v)

noncomputable def oTass (t : TypeId) (z : List AV) (ag cok : Bool) (x : AV) : Option Res :=
  match x with
  | .im (.ifc u v) => match Nat.beq u t with
    | true => tassHit cok (.im v)
    | false => tassMiss z ag cok
  | .ifc u v => match Nat.beq u t with
    | true => tassHit cok v
    | false => tassMiss z ag cok
  | .im (.sc .nilIface) => tassMiss z ag cok
  | _ => none

/-- Whether a value is nil. -/
def AV.nil? : NK → AV → Option Bool
  | .ifc, .im (.sc .nilIface) => some true
  | .ifc, .im (.ifc _ _) => some false
  | .ifc, .ifc _ _ => some false
  | .fn, .im (.sc .nilFunc) => some true
  | .fn, .im (.fn _ _ _) => some false
  | .fn, .fn _ _ _ => some false
  | .ptr, .im (.sc (.pointer none)) => some true
  | .ptr, .ptr _ _ => some false
  | .ptr, .im (.ip _) => some false
  | .mp, .im (.sc (.map none)) => some true
  | .mp, .mp _ => some false
  | .mp, .im (.mp _ _) => some false
  | .sl, .im (.sl [] .nil) => some true
  | .sl, .im (.sl [] .live) => some false
  | .sl, .im (.sl (_ :: _) _) => some false
  | .sl, .row _ _ _ _ => some false
  | .sl, .own _ _ => some false
  | _, _ => none

def oIsnil (k : NK) (neg : Bool) (x : AV) : Option Res :=
  match x.nil? k with
  | some b => ok (scal (.bool (b != neg)))
  | none => none

def oPan (x : AV) : Option Res :=
  match x with
  | .im (.ifc t v) => some { v := .im (.ifc t v), pan := true }
  | .ifc t v => some { v := .ifc t v, pan := true }
  | _ => none

def findF (t : TypeId) : List (TypeId × FuncId) → Option FuncId
  | [] => none
  | (u, f) :: r => match Nat.beq u t with
    | true => some f
    | false => findF t r

noncomputable def oInvoke (call : CallFn) (fs : List (TypeId × FuncId)) (x : AV) (args : List AV) (h : Heap) : Option Res :=
  match x with
  | .im (.ifc t v) => match findF t fs with
    | some f => call (.im (.fn (.func f) [] [])) (.im v :: args) h
    | none => none
  | .ifc t v => match findF t fs with
    | some f => call (.im (.fn (.func f) [] [])) (v :: args) h
    | none => none
  | _ => none

noncomputable def evParts (tm : Tm) (bx : Bx) (l : List (Nat × Nat × Opd)) : List (Nat × Nat × AV) := mapR (fun p => (p.1, p.2.1, p.2.2.ev tm bx)) l
noncomputable def evPartsS (tm : Tm) (bx : Bx) (sz : Nat) (l : List (Nat × Opd)) : List (Nat × Nat × AV) := mapR (fun p => (p.1 * sz, sz, p.2.ev tm bx)) l

noncomputable def runOp (E : Env) (call : CallFn) (op : IOp) (s : St) : Option Res :=
  match op with
  | .mv x => ok (x.ev s.tm s.bx)
  | .pick c a b => oPick (c.ev s.tm s.bx) (a.ev s.tm s.bx) (b.ev s.tm s.bx)
  | .lalloc _ => none
  | .lbox _ => none
  | .halloc cs => some { v := .ptr (lenR s.h) 0, up := .alloc (.cells cs) }
  | .hbox x => oHbox (x.ev s.tm s.bx) s.h
  | .build z parts => oBuild z (evParts s.tm s.bx parts)
  | .mkS sz n z parts => oMkS sz n z (evPartsS s.tm s.bx sz parts) s.h
  | .ld n ag x => oLd n ag (x.ev s.tm s.bx) s.bx s.h
  | .st n a v => oSt n (a.ev s.tm s.bx) (v.ev s.tm s.bx) s.bx s.h
  | .nilc x => oNilc (x.ev s.tm s.bx)
  | .bin op t cx cy x y => oBin E.P op t cx cy (x.ev s.tm s.bx) (y.ev s.tm s.bx)
  | .un op x => oUn E.P op (x.ev s.tm s.bx)
  | .conv a b x => oConv E.P a b (x.ev s.tm s.bx)
  | .mkifc t x => oMkifc t (x.ev s.tm s.bx)
  | .mkfn f a b fz => oMkfn f (opdsEv s.tm s.bx a) (opdsEv s.tm s.bx b) fz s.h
  | .mkmap => some { v := .mp (lenR s.h), up := .alloc (.map [] []) }
  | .mkslice sz z l c => oMkslice sz z (l.ev s.tm s.bx) (c.ev s.tm s.bx) s.h
  | .slc _ sz x lo hi mx => oSlc sz (x.ev s.tm s.bx) (optInt s.tm s.bx lo) (optInt s.tm s.bx hi) (optInt s.tm s.bx mx)
  | .off k x => oOff k (x.ev s.tm s.bx)
  | .fld k n ag x => oFld k n ag (x.ev s.tm s.bx)
  | .idxA sz len x i => oIdxA sz len (x.ev s.tm s.bx) (i.ev s.tm s.bx)
  | .idxV _ sz ag len x i => oIdxV sz ag len (x.ev s.tm s.bx) (i.ev s.tm s.bx)
  | .lookup kk z ag x i cok => oLookup kk z ag (x.ev s.tm s.bx) (i.ev s.tm s.bx) cok s.h
  | .mapset kk m k v => oMapset kk (m.ev s.tm s.bx) (k.ev s.tm s.bx) (v.ev s.tm s.bx) s.h
  | .extract x i => oExtract (x.ev s.tm s.bx) i
  | .len k x => oLen k (x.ev s.tm s.bx) s.h
  | .append sz mu a b => appendOf sz mu s.h (a.ev s.tm s.bx) (b.ev s.tm s.bx)
  | .sbuiltin b ts t args => sbuiltin E.P b ts t (opdsEv s.tm s.bx args)
  | .call f args => call (.im (.fn (.func f) [] [])) (opdsEv s.tm s.bx args) s.h
  | .calld f args => call (f.ev s.tm s.bx) (opdsEv s.tm s.bx args) s.h
  | .invoke fs x args => oInvoke call fs (x.ev s.tm s.bx) (opdsEv s.tm s.bx args) s.h
  | .tass t z ag cok x => oTass t z ag cok (x.ev s.tm s.bx)
  | .isnil k neg x => oIsnil k neg (x.ev s.tm s.bx)
  | .pan x => oPan (x.ev s.tm s.bx)
  | .bad => none

noncomputable def setT (tm : Tm) : Option Nat → AV → Tm
  | some t, v => (t, v) :: tm
  | none, _ => tm

noncomputable def applyUp (s : St) : Up → St
  | .none => s
  | .box b cs => { s with bx := setB s.bx b cs }
  | .mk b cs => { s with bx := setB s.bx b cs }
  | .alloc x => { s with h := appR s.h [x] }
  | .set o x => { s with h := setR s.h o x }
  | .move o x => { s with h := appR (setR s.h o .dead) [x] }
  | .heap h => { s with h }

/-- Whether an operation is to be carried out: its guard's value. -/
noncomputable def wantedOp (tm : Tm) : Option (Nat × Bool) → Option Bool
  | none => some true
  | some (t, w) => match getT tm t with
    | .im (.sc (.bool b)) => some (b == w)
    | .tup [] => some false
    | _ => none

noncomputable def sLalloc (cs : List AV) (b : Nat) (s : St) : Option (St × Rd × Up) :=
  match s.tm.noLp b with
  | true => some ({ s with bx := setB s.bx b cs }, .none, .mk b cs)
  | false => none

noncomputable def sLbox (x : AV) (b : Nat) (s : St) : Option (St × Rd × Up) :=
  match s.tm.noLp b with
  | true => match allR AV.cellOk x.cells with
    | true => some ({ s with bx := setB s.bx b x.cells }, .none, .mk b x.cells)
    | false => none
  | false => none

noncomputable def sOp (dst : Option Nat) (s : St) : Option Res → Option (St × Rd × Up)
  | some r => match r.pan with
    | false => some ({ applyUp s r.up with tm := setT s.tm dst r.v }, r.rd, r.up)
    | true => none
  | none => none

noncomputable def stepOpW (E : Env) (call : CallFn) (op : IOp) (dst : Option Nat) (s : St) : Option (St × Rd × Up) :=
  match op with
  | .lalloc cs => match dst with
    | some b => sLalloc cs b s
    | none => none
  | .lbox x => match dst with
    | some b => sLbox (x.ev s.tm s.bx) b s
    | none => none
  | op => sOp dst s (runOp E call op s)

/-- One operation: the state behind it, and what it looked at and turned. -/
noncomputable def stepOp (E : Env) (call : CallFn) (o : IOper) (s : St) : Option (St × Rd × Up) :=
  match wantedOp s.tm o.guard with
  | some true => stepOpW E call o.op o.dst s
  | some false => some ({ s with tm := setT s.tm o.dst (.tup []) }, .none, .none)
  | none => none

def IOp.isCall : IOp → Bool
  | .call .. | .calld .. | .invoke .. | .pan .. => true
  | _ => false

/-- How one operation panics: the value, and the state behind it. -/
noncomputable def stepPan (E : Env) (call : CallFn) (o : IOper) (s : St) : Option (AV × St) :=
  match wantedOp s.tm o.guard with
  | some true => match runOp E call o.op s with
    | some r => match r.pan with
      | true => match o.op.isCall with
        | true => some (r.v, applyUp s r.up)
        | false => none
      | false => none
    | none => none
  | _ => none

/-- What an operation comes to. -/
inductive OpR where
  | go (s : St)
  | pan (v : AV) (s : St)

noncomputable def sOpR (c : Bool) (dst : Option Nat) (s : St) : Option Res → Option OpR
  | some r => match r.pan with
    | false => some (.go { applyUp s r.up with tm := setT s.tm dst r.v })
    | true => match c with
      | true => some (.pan r.v (applyUp s r.up))
      | false => none
  | none => none

noncomputable def toR : Option (St × Rd × Up) → Option OpR
  | some r => some (.go r.1)
  | none => none

/-- One operation: its end, or its panic. -/
noncomputable def stepR (E : Env) (call : CallFn) (o : IOper) (s : St) : Option OpR :=
  match wantedOp s.tm o.guard with
  | some true => match o.op with
    | .lalloc cs => match o.dst with
      | some b => toR (sLalloc cs b s)
      | none => none
    | .lbox x => match o.dst with
      | some b => toR (sLbox (x.ev s.tm s.bx) b s)
      | none => none
    | op => sOpR op.isCall o.dst s (runOp E call op s)
  | some false => some (.go { s with tm := setT s.tm o.dst (.tup []) })
  | none => none

/-- What a step has put in a temporary. -/
def headV : Tm → AV
  | [] => .any
  | p :: _ => p.2

/-- What a step looked at, what it turned, the heap ahead of it, and its value. -/
abbrev Ent := Rd × Up × Heap × AV

/-- The value that a step has put in a temporary. -/
def entV (o : IOper) (s' : St) : AV :=
  match o.dst with
  | none => .any
  | some _ => match o.op with
    | .lalloc _ => .any
    | .lbox _ => .any
    | _ => headV s'.tm

noncomputable def runOps (E : Env) (call : CallFn) (l : List IOper) (s : St) : Option (Out × St) := List.rec (motive := fun _ => St → Option (Out × St)) (fun s => some (.norm, s)) (fun o _ ih s => Option.rec (motive := fun _ => Option (Out × St)) none (fun r => OpR.rec (motive := fun _ => Option (Out × St)) (fun s1 => ih s1) (fun v s1 => some (.pan v, s1)) r) (stepR E call o s)) l s
noncomputable def runLog (E : Env) (call : CallFn) (l : List IOper) (s : St) : Option (St × List Ent) := List.rec (motive := fun _ => St → Option (St × List Ent)) (fun s => some (s, [])) (fun o _ ih s => Option.rec (motive := fun _ => Option (St × List Ent)) none (fun r => Option.rec (motive := fun _ => Option (St × List Ent)) none (fun q => some (q.1, (r.2.1, r.2.2, s.h, entV o r.1) :: q.2)) (ih r.1)) (stepOp E call o s)) l s

/-- Whether two scalars are the same. -/
def scB : Value → Value → Bool
  | .bool a, .bool b => a == b
  | .int k a, .int l b => sameKind k l && eqI a b
  | .string a, .string b => bytesEq a.data.toList b.data.toList
  | .pointer none, .pointer none => true
  | .map none, .map none => true
  | .chan none, .chan none => true
  | .nilFunc, .nilFunc => true
  | .nilIface, .nilIface => true
  | _, _ => false

noncomputable def all2R {α β : Type} (f : α → β → Bool) (l : List α) (m : List β) : Bool := List.rec (motive := fun _ => List β → Bool) (fun m => List.rec (motive := fun _ => Bool) true (fun _ _ _ => false) m) (fun a _ ih m => List.rec (motive := fun _ => Bool) false (fun b r _ => Bool.rec (motive := fun _ => Bool) false (ih r) (f a b)) m) l m

def SK.same : SK → SK → Bool
  | .ro, .ro | .full, .full | .nil, .nil | .live, .live => true
  | _, _ => false

/-- Whether two values are the same, as deep as is asked. -/
noncomputable def sameIV : Nat → IV → IV → Bool
  | 0, _, _ => false
  | n + 1, a, b => match a, b with
    | .sc a, .sc b => scB a b
    | .agg a, .agg b => all2R (sameIV n) a b
    | .sl a k, .sl b l => k.same l && all2R (sameIV n) a b
    | .ip a, .ip b => all2R (sameIV n) a b
    | .fn (.func f) a c, .fn (.func g) b d => Nat.beq f g && all2R (sameIV n) a b && all2R (sameIV n) c d
    | .ifc t a, .ifc u b => Nat.beq t u && sameIV n a b
    | _, _ => false

noncomputable def sameAV : Nat → AV → AV → Bool
  | 0, _, _ => false
  | n + 1, a, b => match a, b with
    | .im a, .im b => sameIV n a b
    | .ptr o f, .ptr p g => Nat.beq o p && Nat.beq f g
    | .mp o, .mp p => Nat.beq o p
    | .row o a b c, .row p d e f => Nat.beq o p && Nat.beq a d && Nat.beq b e && Nat.beq c f
    | .own a k, .own b l => Nat.beq k l && all2R (sameIV n) a b
    | .agg a, .agg b => all2R (sameAV n) a b
    | .fn (.func f) a c, .fn (.func g) b d => Nat.beq f g && all2R (sameAV n) a b && all2R (sameAV n) c d
    | .ifc t a, .ifc u b => Nat.beq t u && sameAV n a b
    | .yld l, .yld m => Nat.beq l m
    | _, _ => false

/-- Whether an object has stayed the same. -/
noncomputable def sameO : Option HObj → Option HObj → Bool
  | some (.cells a), some (.cells b) => all2R (sameAV 64) a b
  | some (.frz a), some (.frz b) => all2R (sameIV 64) a b
  | _, _ => false

/-- Whether what is written is what is looked at; 'h': the heap ahead of the writing. -/
noncomputable def Up.meets (h : Heap) : Up → Rd → Bool
  | .none, _ | _, .none => false
  | .box b _, .box c => b == c
  | .mk b _, .box c => b == c
  | .box _ _, _ => false
  | .mk _ _, _ => false
  | _, .box _ => false
  | .alloc _, .heap => true
  | .alloc _, .obj p => Nat.beq (lenR h) p
  | .set o _, .obj p => o == p
  | .move o _, .obj p => o == p || Nat.beq (lenR h) p
  | .heap k, .obj p => !sameO (nthR h p) (nthR k p)
  | _, _ => true

def Up.apart : Up → Up → Bool
  | .none, _ | _, .none => true
  | .box b _, .box c _ | .box b _, .mk c _ | .mk b _, .box c _ | .mk b _, .mk c _ => b != c
  | .box _ _, _ | _, .box _ _ | .mk _ _, _ | _, .mk _ _ => true
  | .set o _, .set p _ | .set o _, .move p _ | .move o _, .set p _ => o != p
  | .set _ _, .alloc _ | .alloc _, .set _ _ => true
  | _, _ => false

/-- Whether a step's value leads to what another makes. -/
def Up.leads : Up → AV → Bool
  | .mk b _, v => v.isLp b
  | _, _ => false

/-- Whether two operations that stand in either order do not meet. -/
noncomputable def compat (x y : Ent) : Bool := !x.2.1.meets x.2.2.1 y.1 && !y.2.1.meets y.2.2.1 x.1 && x.2.1.apart y.2.1 && !x.2.1.leads y.2.2.2 && !y.2.1.leads x.2.2.2

/-- An entry that nothing meets. -/
def quiet : Ent → Bool
  | (.none, .none, _, .lp _ _) => false
  | (.none, .none, _) => true
  | _ => false

/-- The entries that look at memory or turn it, with their places. -/
def loud : Nat → List Ent → List (Nat × Ent)
  | _, [] => []
  | i, x :: l => match quiet x with
    | true => loud (i + 1) l
    | false => (i, x) :: loud (i + 1) l

def bitAt (m i : Nat) : Bool := Nat.beq (Nat.land (Nat.shiftRight m i) 1) 1

/-- Whether an entry stands in either order to those that meet it: 'un' has, for each, a one for each of those ahead of it that it may overtake. -/
noncomputable def compatOne (m : Nat) (x : Ent) : List (Nat × Ent) → Bool
  | [] => true
  | (i, y) :: r => match bitAt m i with
    | true => match compat y x with
      | true => compatOne m x r
      | false => false
    | false => compatOne m x r

noncomputable def compatAll (un : List Nat) : List (Nat × Ent) → List (Nat × Ent) → Bool
  | _, [] => true
  | met, (j, x) :: r => match compatOne (un.getD j 0) x met with
    | true => compatAll un ((j, x) :: met) r
    | false => false

def AV.unLp : AV → AV
  | .lp _ _ => .any
  | v => v

noncomputable def prune (keep kb : List Nat) (s : St) : St :=
  { s with tm := mapR (fun t => (t, (getT s.tm t).unLp)) keep,
           bx := kb.filterMap fun b => (getB s.bx b).map fun c => (b, c) }

/-- That no operation calls. -/
noncomputable def noCall : CallFn := fun _ _ _ => none

def pendOut : Option Jump → Out
  | none => .norm
  | some (.exit id) => .exit id
  | some .ret => .ret

def pendOf : Out → Option Jump
  | .norm => none
  | .exit id => some (.exit id)
  | .ret => some .ret
  | .pan _ => none

def Out.isPan : Out → Bool
  | .pan _ => true
  | _ => false

abbrev ExFn := ICode → St → Option (Out × St)

noncomputable def resVal (s : St) : IRes → Option AV
  | .tmp t => some (getT s.tm t)
  | .cell b n ag => match getCells s.bx s.h n (.lp b 0) with
    | some (cs, _) => ofCells ag cs
    | none => match getCells s.bx s.h n (getT s.tm b) with
      | some (cs, _) => ofCells ag cs
      | none => none

noncomputable def resVals (s : St) : List IRes → Option (List AV)
  | [] => some []
  | r :: l => match resVal s r, resVals s l with
    | some v, some vs => if v.free then some (v :: vs) else none
    | _, _ => none

def paramTm : Nat → List AV → Tm
  | _, [] => []
  | i, v :: r => (i, v) :: paramTm (i + 1) r

/-- How a function ends. -/
inductive BRes where
  | ret (vs : List AV) (h : Heap)
  | pan (v : AV) (h : Heap)

noncomputable def retOf (F : IFunc) (s : St) : Option BRes :=
  match resVals s F.res with
  | some vs => some (.ret vs s.h)
  | none => none

noncomputable def bodyOut (F : IFunc) : Option (Out × St) → Option BRes
  | some (.norm, s) => retOf F s
  | some (.ret, s) => retOf F s
  | some (.pan v, s) => match v.free with
    | true => some (.pan v s.h)
    | false => none
  | _ => none

/-- The arguments of a function that is called with none. -/
noncomputable def thunkOf : AV → Option (FuncId × List AV)
  | .im (.fn (.func f) a c) => some (f, appR (mapR .im a) (mapR .im c))
  | .fn (.func f) a c => some (f, appR a c)
  | _ => none

/-- A deferred call, of a function that begins by recovering. -/
noncomputable def callD (E : Env) (ex : ExFn) (g : AV) (v : Option AV) (h : Heap) : Option Heap :=
  match thunkOf g with
  | some (f, args) => match E.fn f with
    | some F => match F.rcv with
      | some (t, ops) => match lenIs F.np args && allR AV.free args with
        | true => match runOps E noCall ops { tm := (t, v.getD (.im (.sc .nilIface))) :: paramTm 0 args, bx := [], h } with
          | some (.norm, s1) => match ex F.body s1 with
            | some (.norm, s2) => some s2.h
            | some (.ret, s2) => some s2.h
            | _ => none
          | _ => none
        | false => none
      | none => none
    | none => none
  | none => none

noncomputable def endD (F : IFunc) (s : St) : Option Heap → Option BRes
  | some h => retOf F { s with h }
  | none => none

noncomputable def bodyOutD (E : Env) (ex : ExFn) (F : IFunc) (g : AV) : Option (Out × St) → Option BRes
  | some (.norm, s) => endD F s (callD E ex g none s.h)
  | some (.ret, s) => endD F s (callD E ex g none s.h)
  | some (.pan v, s) => match v.free with
    | true => endD F s (callD E ex g (some v) s.h)
    | false => none
  | _ => none

/-- A body that ends in a deferred call: what stands ahead of it in turn. -/
noncomputable def runPre (E : Env) (ex : ExFn) (F : IFunc) (ops : List IOper) (g : Opd) : List ICode → St → Option BRes
  | [], s => match runOps E noCall ops s with
    | some (.norm, s1) => bodyOutD E ex F (g.ev s1.tm s1.bx) (ex F.body s1)
    | _ => none
  | a :: l, s => match ex a s with
    | some (.norm, s1) => runPre E ex F ops g l s1
    | some (.ret, s1) => retOf F s1
    | some (.pan v, s1) => match v.free with
      | true => some (.pan v s1.h)
      | false => none
    | _ => none

/-- The body of a function, from its arguments on. -/
noncomputable def runBody (E : Env) (ex : ExFn) (F : IFunc) (args : List AV) (h : Heap) : Option BRes :=
  match lenIs F.np args with
  | false => none
  | true => match F.rcv with
    | some _ => none
    | none => match F.pre with
      | none => bodyOut F (ex F.body { tm := paramTm 0 args, bx := [], h })
      | some (as, ops, g) => runPre E ex F ops g as { tm := paramTm 0 args, bx := [], h }

def tupOf : List AV → AV
  | [v] => v
  | vs => .tup vs

noncomputable def frzAll (h : Heap) : List AV → Option (List AV)
  | [] => some []
  | v :: r => match AV.frz h 64 v, frzAll h r with
    | some x, some y => some (.im x :: y)
    | _, _ => none

def decimal (n : Int) : List UInt8 := (toString n).toUTF8.toList

def plainChar (c : UInt8) : Bool := 32 ≤ c && c < 127 && c != 34 && c != 92

noncomputable def runPrim (p : Prim) (args : List AV) (h : Heap) : Option Res :=
  match p, args with
  | .itoa, [.im (.sc (.int .i64 n))] => ok (scal (.string ⟨(decimal n).toArray⟩))
  | .quote, [.im (.sc (.string s))] => if s.data.toList.all plainChar then ok (scal (.string ⟨([34] ++ s.data.toList ++ [34]).toArray⟩)) else none
  | .bWriteString, [.ptr o 0, .im (.sc (.string s))] => match nthR h o with
    | some (.cells [.im (.sc (.pointer none)), .im (.sl [] .nil)]) => some { v := .tup [scal (.int .i64 s.size), scal .nilIface], rd := .obj o, up := .set o (.bld s.data.toList) }
    | some (.bld bs) => some { v := .tup [scal (.int .i64 s.size), scal .nilIface], rd := .obj o, up := .set o (.bld (bs ++ s.data.toList)) }
    | _ => none
  | .bString, [.ptr o 0] => match nthR h o with
    | some (.cells [.im (.sc (.pointer none)), .im (.sl [] .nil)]) => some { v := scal (.string ⟨#[]⟩), rd := .obj o }
    | some (.bld bs) => some { v := scal (.string ⟨bs.toArray⟩), rd := .obj o }
    | _ => none
  | _, _ => none

noncomputable def finArgs : List AV → Option (List AV)
  | [] => some []
  | v :: r => match v.fin, finArgs r with
    | some x, some y => some (.im x :: y)
    | _, _ => none

/-- A call whose heap is forgotten. -/
noncomputable def callP : Option BRes → Option Res
  | some (.ret vs h) => match frzAll h vs with
    | some ws => ok (tupOf ws)
    | none => none
  | some (.pan v h) => match AV.frz h 64 v with
    | some x => some { v := .im x, pan := true }
    | none => none
  | none => none

noncomputable def callS : Option BRes → Option Res
  | some (.ret vs h) => some { v := tupOf vs, rd := .heap, up := .heap h }
  | some (.pan v h) => some { v, rd := .heap, up := .heap h, pan := true }
  | none => none

noncomputable def callFn (E : Env) (ex : ExFn) (f : FuncId) (args : List AV) (h : Heap) : Option Res :=
  match E.prim f with
  | some p => runPrim p args h
  | none => match E.fn f with
    | none => none
    | some F => match allR AV.free args with
      | false => none
      | true => match (match E.shared f with | true => none | false => finArgs args) with
        | some as => callP (runBody E ex F as [])
        | none => callS (runBody E ex F args h)

def bindPs : List Nat → List AV → Tm → Option Tm
  | [], [], tm => some tm
  | p :: ps, v :: vs, tm => (bindPs ps vs tm).map ((p, v) :: ·)
  | _, _, _ => none

/-- A round of a loop over a function. -/
noncomputable def callYld (ex : ExFn) (l : Nat) (args : List AV) (h : Heap) : Option Res :=
  match nthR h l with
  | some (.loop .ready none tm ps as body) => match allR AV.free args with
    | true => match bindPs ps args tm with
      | some tm' => match ex as { tm := tm', bx := [], h } with
        | some (.norm, s1) => match nthR s1.h l with
          | some (.loop .ready none tm1 ps1 as1 body1) => match ex body { s1 with h := setR s1.h l (.loop .busy none tm1 ps1 as1 body1) } with
            | some (o, s2) => match o.isPan with
              | true => none
              | false => match nthR s2.h l with
              | some (.loop .busy none tm2 ps2 as2 body2) =>
                some { v := scal (.bool (pendOf o).isNone), rd := .heap, up := .heap (setR s2.h l (.loop (if (pendOf o).isNone then .ready else .done) (pendOf o) tm2 ps2 as2 body2)) }
              | _ => none
            | none => none
          | _ => none
        | _ => none
      | none => none
    | false => none
  | _ => none

noncomputable def callV (E : Env) (ex : ExFn) : CallFn := fun f args h =>
  match f with
  | .im (.fn (.func f) a c) => callFn E ex f (appR (mapR .im a) (appR args (mapR .im c))) h
  | .fn (.func f) a c => callFn E ex f (appR a (appR args c)) h
  | .yld l => callYld ex l args h
  | _ => none

/-! One definition a form of code. -/
noncomputable def xDraw (un : List Nat) (r : Option (St × List Ent)) : Option (Out × St) :=
  match r with
  | some (s', l) => match compatAll un [] (loud 0 l) with
    | true => some (.norm, s')
    | false => none
  | none => none

def xSeq (k : St → Option (Out × St)) (r : Option (Out × St)) : Option (Out × St) :=
  match r with
  | some (.norm, s') => k s'
  | r => r

def xBlock (id : Nat) (r : Option (Out × St)) : Option (Out × St) :=
  match r with
  | some (.exit i, s') => match Nat.beq i id with
    | true => some (.norm, s')
    | false => some (.exit i, s')
  | r => r

noncomputable def xRange (s : St) (l : Nat) (r : Option Res) : Option (Out × St) :=
  match r with
  | some { up := .heap h, pan := false, .. } => match nthR h l with
    | some (.loop .ready none ..) => some (.norm, { s with h := setR h l .dead })
    | some (.loop .done (some j) ..) => some (pendOut (some j), { s with h := setR h l .dead })
    | _ => none
  | _ => none

/-- What a map holds: nothing, or one entry. -/
noncomputable def oneEntry (h : Heap) : AV → Option (Option (AV × AV))
  | .im (.sc (.map none)) => some none
  | .mp o => match nthR h o with
    | some (.map [] _) => some none
    | some (.map [k] [v]) => match ofVal k with
      | some kv => some (some (kv, v))
      | none => none
    | _ => none
  | _ => none

/-- The state behind a loop over a map. -/
noncomputable def mapOut (ti tn tb : Nat) (s : St) : St := { s with tm := (ti, .any) :: (tn, .any) :: (tb, .any) :: s.tm }

/-- Whether a value is this object's address. -/
def isPtr (i : Nat) : AV → Bool
  | .ptr o 0 => Nat.beq o i
  | _ => false

/-- A second look at a map whose one entry has been met; 'i': the iterator. -/
noncomputable def mapAgain (x : AV) (i ti tn tb : Nat) (s : St) : Option (Out × St) :=
  match isPtr i (getT s.tm ti) with
  | true => match oneEntry s.h x with
    | some (some _) => some (.norm, mapOut ti tn tb s)
    | _ => none
  | false => none

/-- The end of a loop over a map, behind its one round. -/
noncomputable def mapEnd (x : AV) (i bo bi ti tn tb : Nat) : Option (Out × St) → Option (Out × St)
  | some (.norm, s) => mapAgain x i ti tn tb s
  | some (.exit id, s) => match Nat.beq id bi with
    | true => mapAgain x i ti tn tb s
    | false => match Nat.beq id bo with
      | true => some (.norm, s)
      | false => some (.exit id, s)
  | r => r

/-- A loop over a map of at most one entry. -/
noncomputable def xMap (ex : ExFn) (E : Env) (c : CallFn) (ops : List IOper) (x : Opd) (ti tn tb te bo bi : Nat) (ops2 : List IOper) (body : ICode) (s : St) : Option (Out × St) :=
  match runOps E c ops s with
  | some (.norm, s0) => match oneEntry s0.h (x.ev s0.tm s0.bx) with
    | some none => some (.norm, mapOut ti tn tb { s0 with h := appR s0.h [.dead] })
    | some (some (k, v)) => match runOps E c ops2 { s0 with tm := (te, .tup [k, v]) :: (ti, .ptr (lenR s0.h) 0) :: (tn, .any) :: (tb, .any) :: s0.tm, h := appR s0.h [.dead] } with
      | some (.norm, s1) => mapEnd (x.ev s0.tm s0.bx) (lenR s0.h) bo bi ti tn tb (ex body s1)
      | _ => none
    | none => none
  | _ => none

noncomputable def xStep (E : Env) (ex : ExFn) (c : ICode) (s : St) : Option (Out × St) :=
  match c with
  | .skip => some (.norm, s)
  | .region ops => runOps E (callV E ex) ops s
  | .draw ops un => xDraw un (runLog E (callV E ex) ops s)
  | .seq a b => xSeq (ex b) (ex a s)
  | .cond c a b => match c.ev s.tm s.bx with
    | .im (.sc (.bool true)) => ex a s
    | .im (.sc (.bool false)) => ex b s
    | _ => none
  | .block id b => xBlock id (ex b s)
  | .loop keep kb b => xSeq (ex (.loop keep kb b)) (ex b (prune keep kb s))
  | .exit id => some (.exit id, s)
  | .ret => some (.ret, s)
  | .bad => none
  | .rangeMap ops x ti tn tb te bo bi ops2 body => xMap ex E (callV E ex) ops x ti tn tb te bo bi ops2 body s
  | .rangeFunc f ps keep as body => xRange s (lenR s.h)
      (callV E ex (f.ev s.tm s.bx) [.yld (lenR s.h)] (appR s.h [.loop .ready none (prune keep [] s).tm ps as body]))

noncomputable def exec (E : Env) (n : Nat) (c : ICode) (s : St) : Option (Out × St) := Nat.rec (motive := fun _ => ICode → St → Option (Out × St)) (fun _ _ => none) (fun _ ih => xStep E ih) n c s

end Go.Em
namespace Go.Em
open Go

/-- Whose a cell is: of no block yet, somebody else's, nobody's any more (never written again), an object's, a local variable's, a range's. -/
inductive Tag where
  | free | foreign | frozen
  | obj (o : Nat)
  | loc (t : Nat)
  | dfr
  deriving DecidableEq

/-- Where an object lies: so many cells of a block. -/
structure Reg where
  b : Nat
  lo : Nat
  n : Nat

structure Gh where
  tag : Nat → Nat → Tag
  reg : List Reg

abbrev cellAt (w : World) (b k : Nat) : Option Value := w.cell? ⟨b, k, none⟩

inductive VRI (w : World) (tag : Nat → Nat → Tag) : IV → Value → Prop where
  | sc {v : Value} (h : scalar v = true) : VRI w tag (.sc v) v
  | agg {cs : List IV} {vs : List Value} (hl : cs.length = vs.length) (h : ∀ (i : Nat) (c : IV) (v : Value), cs[i]? = some c → vs[i]? = some v → VRI w tag c v)
      (h1 : ∀ v ∈ vs, v.oneCell' = true) : VRI w tag (.agg cs) (.agg vs.toArray)
  | sl {es : List IV} {k : SK} {b off cap sz : Nat} (f : Nat → Value) (hc : es.length ≤ cap) (hk : k = .full → cap = es.length) (hn : k ≠ .nil)
      (hz : ∀ e ∈ es, e.cells.length = sz)
      (hf : ∀ (i : Nat) (e : IV) (j : Nat) (c : IV), es[i]? = some e → e.cells[j]? = some c → tag b (off + (i * sz + j)) = .frozen ∧ cellAt w b (off + (i * sz + j)) = some (f (i * sz + j)) ∧ (f (i * sz + j)).oneCell' = true)
      (hv : ∀ (i : Nat) (e : IV) (j : Nat) (c : IV), es[i]? = some e → e.cells[j]? = some c → VRI w tag c (f (i * sz + j))) : VRI w tag (.sl es k) (.slice (some ⟨b, off, none⟩) es.length cap)
  | sl0 {k : SK} {a : Addr} {cap : Nat} (hk : k = .full → cap = 0) (hn : k ≠ .nil) : VRI w tag (.sl [] k) (.slice (some a) 0 cap)
  | slN {k : SK} (hk : k ≠ .live) : VRI w tag (.sl [] k) (.slice none 0 0)
  | ip {cs : List IV} {b off : Nat} (f : Nat → Value)
      (hf : ∀ (j : Nat) (c : IV), cs[j]? = some c → tag b (off + j) = .frozen ∧ cellAt w b (off + j) = some (f j) ∧ (f j).oneCell' = true)
      (hv : ∀ (j : Nat) (c : IV), cs[j]? = some c → VRI w tag c (f j)) : VRI w tag (.ip cs) (.pointer (some ⟨b, off, none⟩))
  | fn {f : Fn} {a c : List IV} {x y : List Value} (ha : a.length = x.length) (hc : c.length = y.length)
      (hx : ∀ (i : Nat) (u : IV) (v : Value), a[i]? = some u → x[i]? = some v → VRI w tag u v) (hy : ∀ (i : Nat) (u : IV) (v : Value), c[i]? = some u → y[i]? = some v → VRI w tag u v) : VRI w tag (.fn f a c) (.func f x.toArray y.toArray)
  | ifc {t : TypeId} {v : IV} {u : Value} (h : VRI w tag v u) : VRI w tag (.ifc t v) (.iface t u)
  | mp {ks : List Value} {vs : List IV} {r : Nat} {es : List MapEntry} {clock : Nat} (ht : ∀ k, tag r k = .frozen) (hw : w.heap[r]? = some (.map es.toArray clock))
      (hk : es.map (·.key) = ks) (hl : es.length = vs.length) (h : ∀ (i : Nat) (e : MapEntry) (v : IV), es[i]? = some e → vs[i]? = some v → VRI w tag v e.val) : VRI w tag (.mp ks vs) (.map (some r))

inductive VR (w : World) (G : Gh) : AV → Value → Prop where
  | im {v : IV} {u : Value} (h : VRI w G.tag v u) : VR w G (.im v) u
  | any {u : Value} : VR w G .any u
  | ptr {o off : Nat} {r : Reg} (h : G.reg[o]? = some r) : VR w G (.ptr o off) (.pointer (some ⟨r.b, r.lo + off, none⟩))
  | mp {o : Nat} {r : Reg} (h : G.reg[o]? = some r) : VR w G (.mp o) (.map (some r.b))
  | row {o off len sz cap : Nat} {r : Reg} (h : G.reg[o]? = some r) (hc : len ≤ cap) (hn : off + cap * sz ≤ r.n) : VR w G (.row o off len sz) (.slice (some ⟨r.b, r.lo + off, none⟩) len cap)
  | own {es : List IV} {k off cap sz : Nat} {r : Reg} (f : Nat → Value) (h : G.reg[k]? = some r) (hlo : r.lo = off + es.length * sz) (hn : r.lo + r.n = off + cap * sz)
      (hc : es.length ≤ cap) (hz : ∀ e ∈ es, e.cells.length = sz)
      (hf : ∀ (i : Nat) (e : IV) (j : Nat) (c : IV), es[i]? = some e → e.cells[j]? = some c → G.tag r.b (off + (i * sz + j)) = .frozen ∧ cellAt w r.b (off + (i * sz + j)) = some (f (i * sz + j)) ∧ (f (i * sz + j)).oneCell' = true)
      (hv : ∀ (i : Nat) (e : IV) (j : Nat) (c : IV), es[i]? = some e → e.cells[j]? = some c → VRI w G.tag c (f (i * sz + j))) : VR w G (.own es k) (.slice (some ⟨r.b, off, none⟩) es.length cap)
  | agg {cs : List AV} {vs : List Value} (hl : cs.length = vs.length) (h : ∀ (i : Nat) (c : AV) (v : Value), cs[i]? = some c → vs[i]? = some v → VR w G c v)
      (h1 : ∀ v ∈ vs, v.oneCell' = true) : VR w G (.agg cs) (.agg vs.toArray)
  | tup {cs : List AV} {vs : List Value} (hl : cs.length = vs.length) (h : ∀ (i : Nat) (c : AV) (v : Value), cs[i]? = some c → vs[i]? = some v → VR w G c v) : VR w G (.tup cs) (.tuple vs.toArray)
  | fn {f : Fn} {a c : List AV} {x y : List Value} (ha : a.length = x.length) (hc : c.length = y.length)
      (hx : ∀ (i : Nat) (u : AV) (v : Value), a[i]? = some u → x[i]? = some v → VR w G u v) (hy : ∀ (i : Nat) (u : AV) (v : Value), c[i]? = some u → y[i]? = some v → VR w G u v) : VR w G (.fn f a c) (.func f x.toArray y.toArray)
  | ifc {t : TypeId} {v : AV} {u : Value} (h : VR w G v u) : VR w G (.ifc t v) (.iface t u)
  | yld {l : Nat} {r : Reg} (h : G.reg[l]? = some r) : VR w G (.yld l) (.func (.yield r.b) #[] #[])

/-- What a later world has kept of what is frozen. -/
structure Ext (w : World) (G : Gh) (w' : World) (G' : Gh) : Prop where
  froz : ∀ b k, G.tag b k = .frozen → G'.tag b k = .frozen
  cell : ∀ b k, G.tag b k = .frozen → cellAt w' b k = cellAt w b k
  blk : ∀ b, (∀ k, G.tag b k = .frozen) → w'.heap[b]? = w.heap[b]?
  reg : ∀ (o : Nat) (r : Reg), G.reg[o]? = some r → G'.reg[o]? = some r

theorem Ext.refl (w : World) (G : Gh) : Ext w G w G := ⟨fun _ _ h => h, fun _ _ _ => rfl, fun _ _ => rfl, fun _ _ h => h⟩

theorem Ext.trans {w w' w'' : World} {G G' G'' : Gh} (h : Ext w G w' G') (k : Ext w' G' w'' G'') : Ext w G w'' G'' :=
  ⟨fun b i hb => k.froz b i (h.froz b i hb), fun b i hb => (k.cell b i (h.froz b i hb)).trans (h.cell b i hb),
   fun b hb => (k.blk b (fun i => h.froz b i (hb i))).trans (h.blk b hb), fun o r ho => k.reg o r (h.reg o r ho)⟩

theorem VRI.mono {w w' : World} {t t' : Nat → Nat → Tag} (h1 : ∀ b k, t b k = .frozen → t' b k = .frozen) (h2 : ∀ b k, t b k = .frozen → cellAt w' b k = cellAt w b k)
    (h3 : ∀ b, (∀ k, t b k = .frozen) → w'.heap[b]? = w.heap[b]?) {v : IV} {u : Value} (h : VRI w t v u) : VRI w' t' v u := by
  induction h with
  | sc h => exact .sc h
  | agg hl _ h1' ih => exact .agg hl ih h1'
  | sl f hc hk hn hz hf _ ih =>
    refine .sl f hc hk hn hz (fun i e j c he hj => ?_) ih
    obtain ⟨a, b, d⟩ := hf i e j c he hj
    exact ⟨h1 _ _ a, (h2 _ _ a).trans b, d⟩
  | sl0 hk hn => exact .sl0 hk hn
  | slN hk => exact .slN hk
  | ip f hf _ ih =>
    refine .ip f (fun j c hj => ?_) ih
    obtain ⟨a, b, d⟩ := hf j c hj
    exact ⟨h1 _ _ a, (h2 _ _ a).trans b, d⟩
  | fn ha hc _ _ ih1 ih2 => exact .fn ha hc ih1 ih2
  | ifc _ ih => exact .ifc ih
  | mp ht hw hk hl _ ih => exact .mp (fun k => h1 _ _ (ht k)) ((h3 _ ht).trans hw) hk hl ih

theorem Ext.vri {w w' : World} {G G' : Gh} (x : Ext w G w' G') {v : IV} {u : Value} (h : VRI w G.tag v u) : VRI w' G'.tag v u := h.mono x.froz x.cell x.blk

theorem Ext.vr {w w' : World} {G G' : Gh} (x : Ext w G w' G') {v : AV} {u : Value} (h : VR w G v u) : VR w' G' v u := by
  induction h with
  | im h => exact .im (x.vri h)
  | any => exact .any
  | ptr h => exact .ptr (x.reg _ _ h)
  | mp h => exact .mp (x.reg _ _ h)
  | row h hc hn => exact .row (x.reg _ _ h) hc hn
  | own f h hlo hn hc hz hf hv =>
    refine .own f (x.reg _ _ h) hlo hn hc hz (fun i e j c he hj => ?_) (fun i e j c he hj => x.vri (hv i e j c he hj))
    obtain ⟨a, b, d⟩ := hf i e j c he hj
    exact ⟨x.froz _ _ a, (x.cell _ _ a).trans b, d⟩
  | agg hl _ h1 ih => exact .agg hl ih h1
  | tup hl _ ih => exact .tup hl ih
  | fn ha hc _ _ ih1 ih2 => exact .fn ha hc ih1 ih2
  | ifc _ ih => exact .ifc ih
  | yld h => exact .yld (x.reg _ _ h)

theorem scalar_one {v : Value} (h : scalar v = true) : v.oneCell' = true := by
  cases v <;> simp_all [scalar, Value.oneCell']

end Go.Em
namespace Go.Em
open Go

/-- What a function's translation rests on: the program, how many temporaries there are, which of them hold local variables' addresses. -/
structure Cx where
  P : Program
  N : Nat
  bts : List Nat

inductive ConstOk : Value → AV → Prop where
  | sc {v : Value} (h : scalar v = true) : ConstOk v (.im (.sc v))
  | nil {k : SK} (hk : k ≠ .live) : ConstOk (.slice none 0 0) (.im (.sl [] k))
  | agg {cs : List IV} {vs : List Value} (hl : cs.length = vs.length) (h : ∀ (i : Nat) (c : IV) (v : Value), cs[i]? = some c → vs[i]? = some v → (scalar v = true ∧ c = .sc v) ∨ (v = .slice none 0 0 ∧ ∃ k, k ≠ .live ∧ c = .sl [] k)) :
      ConstOk (.agg vs.toArray) (.im (.agg cs))

inductive TrOpd (X : Cx) : Operand → Opd → Prop where
  | t {n : Nat} (h : n ∉ X.bts) : TrOpd X (.tmp n) (.t n)
  | b {n : Nat} (h : n ∈ X.bts) : TrOpd X (.tmp n) (.b n)
  | k {v : Value} {a : AV} (h : ConstOk v a) : TrOpd X (.const v) (.k a)
  | f {f : FuncId} : TrOpd X (.func f) (.k (.im (.fn (.func f) [] [])))

/-- The type's zero value's cells. -/
def ZeroOk (P : Program) (t : TypeId) (z : List AV) : Prop :=
  ∃ (i : TypeInfo) (v : Value), P.info? t = some i ∧ i.zero = some v ∧ i.size = z.length ∧ v.cells.toList.length = z.length ∧
    ∀ (j : Nat) (c : AV) (u : Value), z[j]? = some c → v.cells.toList[j]? = some u → (scalar u = true ∧ c = .im (.sc u)) ∨ (u = .slice none 0 0 ∧ ∃ k, k ≠ .live ∧ c = .im (.sl [] k))

def SizeIs (P : Program) (t : TypeId) (n : Nat) : Prop := ∃ i : TypeInfo, P.info? t = some i ∧ i.size = n

def IsAgg (P : Program) (t : TypeId) (ag : Bool) : Prop := ∃ d : TypeDesc, P.underlying t = some d ∧ ag = (match d with | .struct _ | .array _ _ => true | _ => false)

/-- What a type's zero value is: of cells or one. -/
def ZeroAg (P : Program) (t : TypeId) (ag : Bool) : Prop := ∃ (i : TypeInfo) (v : Value), P.info? t = some i ∧ i.zero = some v ∧ ag = (match v with | .agg _ => true | _ => false)

def KeyTy (P : Program) (k : TypeId) : KK → Prop
  | .str => P.underlying k = some .string
  | .bool => P.underlying k = some .bool
  | .int => ∃ i, P.underlying k = some (.int i)

def NK.val : NK → Value
  | .ifc => .nilIface
  | .fn => .nilFunc
  | .ptr => .pointer none
  | .mp => .map none
  | .sl => .slice none 0 0

/-- That a type's values are compared with such a nil. -/
def NilTy (P : Program) (e : TypeId) : NK → Prop
  | .ifc => ∃ ms, P.underlying e = some (.interface ms)
  | .fn => ∃ a b c, P.underlying e = some (.func a b c)
  | .ptr => ∃ u, P.underlying e = some (.pointer u)
  | .mp => ∃ k u, P.underlying e = some (.map k u)
  | .sl => ∃ u, P.underlying e = some (.slice u)

/-- The function behind a method's name at a type: it takes the value as it is. -/
def MethodIs (P : Program) (t : TypeId) (name : String) (f : FuncId) : Prop :=
  ∃ (i : TypeInfo) (m : Method) (d : TypeDesc) (pr : Bool), P.info? t = some i ∧ i.methods.find? (·.name == name) = some m ∧ m.path = #[] ∧ m.func = some (f, pr) ∧ P.underlying t = some d ∧
    ((pr = true ∧ ∃ u, d = .pointer u) ∨ (pr = false ∧ ∀ u, d ≠ .pointer u))

inductive TrList {α β : Type} (R : α → β → Prop) : List α → List β → Prop where
  | nil : TrList R [] []
  | cons {a : α} {b : β} {l : List α} {m : List β} (h : R a b) (t : TrList R l m) : TrList R (a :: l) (b :: m)

inductive TrOpt {α β : Type} (R : α → β → Prop) : Option α → Option β → Prop where
  | none : TrOpt R none none
  | some {a : α} {b : β} (h : R a b) : TrOpt R (some a) (some b)

/-- An operation's translation (those that make or fill a local variable aside). -/
inductive TrOp (X : Cx) : (type : TypeId) → Op → IOp → Prop where
  | mv {t : TypeId} {x : Operand} {y : Opd} (h : TrOpd X x y) : TrOp X t (.move x) (.mv y)
  | as {t : TypeId} {x : Operand} {y : Opd} (h : TrOpd X x y) : TrOp X t (.assign x) (.mv y)
  | pick {t : TypeId} {a b c : Operand} {x y z : Opd} (h1 : TrOpd X a x) (h2 : TrOpd X b y) (h3 : TrOpd X c z) : TrOp X t (.pick a b c) (.pick x y z)
  | alloc {t e : TypeId} {z : List AV} (h : ZeroOk X.P e z) : TrOp X t (.alloc e) (.halloc z)
  | box {t e : TypeId} {x : Operand} {y : Opd} (h : TrOpd X x y) : TrOp X t (.box e x) (.hbox y)
  | buildS {t s : TypeId} {fs : Array Field} {ps : Array (Nat × Operand)} {z : List AV} {qs : List (Nat × Nat × Opd)} (hu : X.P.underlying s = some (.struct fs)) (hz : ZeroOk X.P s z)
      (hs : ∀ f ∈ fs.toList, ∃ n, SizeIs X.P f.type n)
      (h : TrList (fun p q => (∃ f, fs[p.1]? = some f ∧ q.1 = f.offset ∧ SizeIs X.P f.type q.2.1) ∧ TrOpd X p.2 q.2.2) ps.toList qs) : TrOp X t (.build s ps) (.build z qs)
  | buildA {t s e : TypeId} {n sz : Nat} {ps : Array (Nat × Operand)} {z : List AV} {qs : List (Nat × Nat × Opd)} (hu : X.P.underlying s = some (.array n e)) (hz : ZeroOk X.P s z) (he : SizeIs X.P e sz)
      (h : TrList (fun p q => q.1 = p.1 * sz ∧ q.2.1 = sz ∧ TrOpd X p.2 q.2.2) ps.toList qs) : TrOp X t (.build s ps) (.build z qs)
  | mkS {t s e : TypeId} {n sz : Nat} {ps : Array (Nat × Operand)} {z : List AV} {qs : List (Nat × Opd)} (hu : X.P.underlying s = some (.slice e)) (he : SizeIs X.P e sz) (hz : ZeroOk X.P e z) (h0 : 0 < sz) (hn : n * sz ≤ 2 ^ 24)
      (h : TrList (fun p q => q.1 = p.1 ∧ TrOpd X p.2 q.2) ps.toList qs) : TrOp X t (.buildSlice s n ps) (.mkS sz n z qs)
  | ld {t e : TypeId} {x : Operand} {n : Nat} {ag : Bool} {y : Opd} (ha : IsAgg X.P e ag) (hs : SizeIs X.P e n ∨ ag = false ∧ n = 1) (h : TrOpd X x y) : TrOp X t (.load e x) (.ld n ag y)
  | st {t e : TypeId} {x v : Operand} {n : Nat} {y u : Opd} (hs : SizeIs X.P e n) (h1 : TrOpd X x y) (h2 : TrOpd X v u) : TrOp X t (.store e x v) (.st n y u)
  | nilc {t : TypeId} {x : Operand} {y : Opd} (h : TrOpd X x y) : TrOp X t (.nilCheck x) (.nilc y)
  | bin {t e e' : TypeId} {op : BinOp} {a b : Operand} {cx cy : Bool} {x y : Opd} (hx : cx = (match a with | .const _ => true | _ => false)) (hy : cy = (match b with | .const _ => true | _ => false))
      (h1 : TrOpd X a x) (h2 : TrOpd X b y) : TrOp X t (.binOp op e a b e') (.bin op e cx cy x y)
  | un {t e : TypeId} {op : UnOp} {a : Operand} {x : Opd} (h : TrOpd X a x) : TrOp X t (.unOp op e a) (.un op x)
  | conv {t s d : TypeId} {a : Operand} {x : Opd} (h : TrOpd X a x) : TrOp X t (.convert s d a) (.conv s d x)
  | mkifc {t e : TypeId} {a : Operand} {x : Opd} (hu : ∃ d, X.P.underlying e = some d ∧ ∀ ms, d ≠ .interface ms) (h : TrOpd X a x) : TrOp X t (.makeInterface e a) (.mkifc e x)
  | mkfn {t : TypeId} {f : Fn} {a c : Array Operand} {x y : List Opd} {fz : List Bool} (h1 : TrList (TrOpd X) a.toList x) (h2 : TrList (TrOpd X) c.toList y) : TrOp X t (.makeFunc f a c) (.mkfn f x y fz)
  | mkmap {t m : TypeId} : TrOp X t (.makeMap m none) .mkmap
  | mkslice {t s e : TypeId} {sz bytes : Nat} {i : TypeInfo} {z : List AV} {a b : Operand} {x y : Opd} (hu : X.P.underlying s = some (.slice e)) (he : SizeIs X.P e sz) (hi : X.P.info? e = some i) (hb : i.bytes = bytes) (hby : bytes ≤ 65536)
      (hz : ZeroOk X.P e z) (h0 : 0 < sz) (h1 : TrOpd X a x) (h2 : TrOpd X b y) : TrOp X t (.makeSlice s a b) (.mkslice sz z x y)
  | slc {t s e : TypeId} {sz : Nat} {x : Operand} {lo hi mx : Option Operand} {y : Opd} {l h m : Option Opd} (hu : X.P.underlying s = some (.slice e)) (he : SizeIs X.P e sz) (h0 : 0 < sz) (hx : TrOpd X x y) (hl : TrOpt (TrOpd X) lo l)
      (hh : TrOpt (TrOpd X) hi h) (hm : TrOpt (TrOpd X) mx m) : TrOp X t (.slice s x lo hi mx) (.slc s sz y l h m)
  | slcStr {t s : TypeId} {x : Operand} {lo hi mx : Option Operand} {y : Opd} {l h m : Option Opd} (hu : X.P.underlying s = some .string) (hx : TrOpd X x y) (hl : TrOpt (TrOpd X) lo l)
      (hh : TrOpt (TrOpd X) hi h) (hm : TrOpt (TrOpd X) mx m) : TrOp X t (.slice s x lo hi mx) (.slc s 0 y l h m)
  | off {t s : TypeId} {fs : Array Field} {x : Operand} {i n : Nat} {f : Field} {y : Opd} (hu : X.P.underlying s = some (.struct fs)) (hf : fs[i]? = some f) (hs : SizeIs X.P f.type n) (h0 : n ≠ 0) (h : TrOpd X x y) :
      TrOp X t (.fieldAddr s x i) (.off f.offset y)
  | fld {t s : TypeId} {fs : Array Field} {x : Operand} {i n : Nat} {f : Field} {ag : Bool} {y : Opd} (hu : X.P.underlying s = some (.struct fs)) (hf : fs[i]? = some f) (ha : IsAgg X.P f.type ag) (hs : SizeIs X.P f.type n ∨ ag = false ∧ n = 1)
      (h : TrOpd X x y) : TrOp X t (.field s x i) (.fld f.offset n ag y)
  | idxS {t s e : TypeId} {sz : Nat} {a b : Operand} {x y : Opd} (hu : X.P.underlying s = some (.slice e)) (he : SizeIs X.P e sz) (h0 : 0 < sz) (h1 : TrOpd X a x) (h2 : TrOpd X b y) : TrOp X t (.indexAddr s a b) (.idxA sz none x y)
  | idxA {t s e : TypeId} {n sz : Nat} {a b : Operand} {x y : Opd} (hu : X.P.underlying s = some (.array n e)) (he : SizeIs X.P e sz) (h0 : 0 < sz) (h1 : TrOpd X a x) (h2 : TrOpd X b y) : TrOp X t (.indexAddr s a b) (.idxA sz (some n) x y)
  | idxV {t s e : TypeId} {n sz : Nat} {ag : Bool} {a b : Operand} {x y : Opd} (hu : X.P.underlying s = some (.array n e)) (he : SizeIs X.P e sz) (h0 : 0 < sz) (ha : IsAgg X.P e ag) (hs : ag = true ∨ sz = 1)
      (h1 : TrOpd X a x) (h2 : TrOpd X b y) : TrOp X t (.index s a b) (.idxV s sz ag (some n) x y)
  | idxStr {t s : TypeId} {a b : Operand} {x y : Opd} (hu : X.P.underlying s = some .string) (h1 : TrOpd X a x) (h2 : TrOpd X b y) : TrOp X t (.index s a b) (.idxV s 1 false none x y)
  | lookup {t s k e : TypeId} {kk : KK} {z : List AV} {ag ok : Bool} {a b : Operand} {x y : Opd} (hu : X.P.underlying s = some (.map k e)) (hk : KeyTy X.P k kk) (hz : ZeroOk X.P e z) (ha : ZeroAg X.P e ag)
      (h1 : TrOpd X a x) (h2 : TrOpd X b y) : TrOp X t (.lookup s a b ok) (.lookup kk z ag x y ok)
  | mapset {t s k e : TypeId} {kk : KK} {m a b : Operand} {w x y : Opd} (hu : X.P.underlying s = some (.map k e)) (hk : KeyTy X.P k kk)
      (h0 : TrOpd X m w) (h1 : TrOpd X a x) (h2 : TrOpd X b y) : TrOp X t (.mapUpdate s m a b) (.mapset kk w x y)
  | insert {t s k e : TypeId} {kk : KK} {m a b : Operand} {w x y : Opd} (hu : X.P.underlying s = some (.map k e)) (hk : KeyTy X.P k kk)
      (h0 : TrOpd X m w) (h1 : TrOpd X a x) (h2 : TrOpd X b y) : TrOp X t (.insert s m a b) (.mapset kk w x y)
  | extract {t : TypeId} {a : Operand} {x : Opd} {i : Nat} (h : TrOpd X a x) : TrOp X t (.extract a i) (.extract x i)
  | len {t e : TypeId} {k : LK} {a : Operand} {x : Opd} (hu : match k with | .str => X.P.underlying e = some .string | .sl => ∃ s, X.P.underlying e = some (.slice s) | .mp => ∃ k v, X.P.underlying e = some (.map k v)) (h : TrOpd X a x) : TrOp X t (.call { callee := .builtin .len, args := #[a], argTypes := #[e] }) (.len k x)
  | append {t s s' e : TypeId} {sz : Nat} {i : TypeInfo} {z : Value} {mu : Bool} {a b : Operand} {x y : Opd} (hu : X.P.underlying s = some (.slice e)) (hu' : (∃ e', X.P.underlying s' = some (.slice e')) ∨ X.P.underlying s' = some .string ∧ sz = 1)
      (hi : X.P.info? e = some i) (hs : i.size = sz) (h0 : 0 < sz) (hby : i.bytes ≤ 65536) (hz : i.zero = some z) (hz2 : z.cells.size = sz) (hz1 : ∀ u ∈ z.cells.toList, u.oneCell' = true)
      (h1 : TrOpd X a x) (h2 : TrOpd X b y) : TrOp X t (.call { callee := .builtin .append, args := #[a, b], argTypes := #[s, s'] }) (.append sz mu x y)
  | max {t : TypeId} {ts : Array TypeId} {as : Array Operand} {xs : List Opd} (h : TrList (TrOpd X) as.toList xs) : TrOp X t (.call { callee := .builtin .max, args := as, argTypes := ts }) (.sbuiltin .max ts.toList t xs)
  | min {t : TypeId} {ts : Array TypeId} {as : Array Operand} {xs : List Opd} (h : TrList (TrOpd X) as.toList xs) : TrOp X t (.call { callee := .builtin .min, args := as, argTypes := ts }) (.sbuiltin .min ts.toList t xs)
  | call {t : TypeId} {ts : Array TypeId} {f : FuncId} {as : Array Operand} {xs : List Opd} (h : TrList (TrOpd X) as.toList xs) : TrOp X t (.call { callee := .value (.func f), args := as, argTypes := ts }) (.call f xs)
  | bad {t : TypeId} {op : Op} (h : ∀ c, op ≠ .defer c) : TrOp X t op .bad
  | isnil {t e e' : TypeId} {op : BinOp} {k : NK} {neg : Bool} {a : Operand} {c : Value} {x : Opd} (ho : op = .neq ∧ neg = true ∨ op = .eql ∧ neg = false) (hc : c = k.val) (h : TrOpd X a x) (hu : NilTy X.P e k) : TrOp X t (.binOp op e a (.const c) e') (.isnil k neg x)
  | pan {t : TypeId} {a : Operand} {x : Opd} (h : TrOpd X a x) : TrOp X t (.panic a) (.pan x)
  | tass {t s d : TypeId} {z : List AV} {ag ok : Bool} {a : Operand} {x : Opd} (hu : ∃ e, X.P.underlying d = some e ∧ ∀ ms, e ≠ .interface ms) (hz : ZeroOk X.P d z) (ha : ZeroAg X.P d ag) (h : TrOpd X a x) : TrOp X t (.typeAssert a s d ok) (.tass d z ag ok x)
  | invoke {t : TypeId} {ts : Array TypeId} {name : String} {r : Operand} {fs : List (TypeId × FuncId)} {g : Opd} {as : Array Operand} {xs : List Opd} (hf : TrOpd X r g) (h : TrList (TrOpd X) as.toList xs)
      (ht : ∀ p ∈ fs, MethodIs X.P p.1 name p.2) : TrOp X t (.call { callee := .invoke r name, args := as, argTypes := ts }) (.invoke fs g xs)
  | calld {t : TypeId} {ts : Array TypeId} {f : Operand} {g : Opd} {as : Array Operand} {xs : List Opd} (hf : TrOpd X f g) (h : TrList (TrOpd X) as.toList xs) : TrOp X t (.call { callee := .value f, args := as, argTypes := ts }) (.calld g xs)

/-- An operation in its region. -/
inductive TrOper (X : Cx) (ops : Array Oper) : Oper → IOper → Prop where
  | lalloc {o : Oper} {e : TypeId} {b : Nat} {z : List AV} (ho : o.op = .alloc e) (hd : o.dst = some b) (hg : o.guard = none) (hb : b ∈ X.bts) (hN : b < X.N) (hz : ZeroOk X.P e z) : TrOper X ops o ⟨some b, .lalloc z, none⟩
  | lbox {o : Oper} {e : TypeId} {b : Nat} {x : Operand} {y : Opd} (ho : o.op = .box e x) (hd : o.dst = some b) (hg : o.guard = none) (hb : b ∈ X.bts) (hN : b < X.N) (hx : TrOpd X x y) : TrOper X ops o ⟨some b, .lbox y, none⟩
  | op {o : Oper} {i : IOper} (h : TrOp X o.type o.op i.op) (hd : o.dst = i.dst) (hb : ∀ d, i.dst = some d → d ∉ X.bts ∧ d < X.N)
      (hg : (o.guard = none ∧ i.guard = none) ∨ ∃ j w d oj, o.guard = some (j, w) ∧ ops[j]? = some oj ∧ oj.dst = some d ∧ d ∉ X.bts ∧ i.guard = some (d, w)) : TrOper X ops o i

def IOp.opds : IOp → List Opd
  | .mv x => [x]
  | .pick c a b => [c, a, b]
  | .lalloc _ => []
  | .lbox x => [x]
  | .halloc _ => []
  | .hbox x => [x]
  | .build _ parts => parts.map (·.2.2)
  | .mkS _ _ _ parts => parts.map (·.2)
  | .ld _ _ x => [x]
  | .st _ a v => [a, v]
  | .nilc x => [x]
  | .bin _ _ _ _ x y => [x, y]
  | .un _ x => [x]
  | .conv _ _ x => [x]
  | .mkifc _ x => [x]
  | .mkfn _ a c _ => a ++ c
  | .mkmap => []
  | .mkslice _ _ l c => [l, c]
  | .slc _ _ x lo hi mx => [x] ++ lo.toList ++ hi.toList ++ mx.toList
  | .off _ x => [x]
  | .fld _ _ _ x => [x]
  | .idxA _ _ x i => [x, i]
  | .idxV _ _ _ _ x i => [x, i]
  | .lookup _ _ _ x i _ => [x, i]
  | .mapset _ m k v => [m, k, v]
  | .extract x _ => [x]
  | .len _ x => [x]
  | .append _ _ a b => [a, b]
  | .sbuiltin _ _ _ args => args
  | .call _ args => args
  | .calld f args => f :: args
  | .invoke _ x args => x :: args
  | .tass _ _ _ _ x => [x]
  | .isnil _ _ x => [x]
  | .pan x => [x]
  | .bad => []

/-- What a step's name is, and what it looks at by name. -/
def IOper.uses (o : IOper) : List Nat := (o.op.opds.filterMap fun x => match x with | .t n => some n | .b n => some n | .k _ => none) ++ (match o.guard with | some (t, _) => [t] | none => [])

/-- That two steps name nothing in common that either of them makes. -/
def ApartOps (i j : IOper) : Prop := (∀ d, i.dst = some d → d ∉ j.uses ∧ j.dst ≠ some d) ∧ ∀ d, j.dst = some d → d ∉ i.uses

/-- That some order keeps all edges of a mode. -/
def RankOk (m : Region.Mode) (ops : Array Oper) : Prop := ∃ rank : Nat → Nat, ∀ (j : Nat) (o : Oper), ops[j]? = some o → ∀ e ∈ o.after, Region.binds m e = true → rank e.on < rank j ∧ e.on < ops.size

/-- That the operations of a drawn region that may stand in either order have no name in common; 'un': for each, a one for each of those ahead of it that it may overtake. -/
structure DrawOk (P : Program) (ops : Array Oper) (is : List IOper) (un : List Nat) : Prop where
  mode : P.follows .mixedOrders = true ∨ Region.departs ops = false ∨ RankOk .text ops ∧ RankOk .gc ops
  back : ∀ (j : Nat) (o : Oper), ops[j]? = some o → ∀ e ∈ o.after, Region.binds .any e = true → e.on < j
  ord : ∀ (i j : Nat) (o : Oper), i < j → ops[j]? = some o → bitAt (un.getD j 0) i = false → ∃ e ∈ o.after, Region.binds .any e = true ∧ (e.on = i ∨ i < e.on ∧ bitAt (un.getD e.on 0) i = false)
  apart : ∀ (i j : Nat) (a b : IOper), i < j → is[i]? = some a → is[j]? = some b → bitAt (un.getD j 0) i = true → ApartOps a b

/-- A loop over a map, as the translator lays it. -/
def mapLoop (tb : Nat) (id1 bi id2 bo : Nat) (no eo oe : Oper) (ops2 : List Oper) (rest : Code) : Code :=
  .seq (.region id1 #[no, eo] false) (.seq (.cond (.tmp tb) .skip (.exit bo)) (.block bi (.seq (.region id2 (oe :: ops2).toArray false) rest)))

structure MapTr (X : Cx) (ops : Array Oper) (ro no eo oe : Oper) (ops2 : List Oper) (xt : TypeId) (xo : Operand) (is : List IOper) (x : Opd) (ti tn tb te : Nat) (is2 : List IOper) : Prop where
  h1 : TrList (TrOper X (ops.push ro)) ops.toList is
  h2 : TrList (TrOper X (oe :: ops2).toArray) ops2 is2
  ro : ro.op = .range xt xo ∧ ro.dst = some ti ∧ ro.guard = none
  hx : TrOpd X xo x
  hu : ∃ k e, X.P.underlying xt = some (.map k e)
  no : no.op = .next (.tmp ti) false ∧ no.dst = some tn ∧ no.guard = none
  eo : eo.op = .extract (.tmp tn) 0 ∧ eo.dst = some tb ∧ eo.guard = none
  oe : oe.op = .entry (.tmp ti) ∧ oe.dst = some te ∧ oe.guard = none
  ht : ∀ t, t = ti ∨ t = tn ∨ t = tb ∨ t = te → t ∉ X.bts ∧ t < X.N
  hne : ti ≠ tn ∧ ti ≠ tb ∧ ti ≠ te ∧ tn ≠ tb

inductive Tr (X : Cx) : Code → ICode → Prop where
  | skip : Tr X .skip .skip
  | region {id : Nat} {ops : Array Oper} {is : List IOper} (h : TrList (TrOper X ops) ops.toList is) : Tr X (.region id ops false) (.region is)
  | draw {id : Nat} {ops : Array Oper} {is : List IOper} {un : List Nat} (h : TrList (TrOper X ops) ops.toList is) (hd : DrawOk X.P ops is un) : Tr X (.region id ops true) (.draw is un)
  | seq {a b : Code} {x y : ICode} (h1 : Tr X a x) (h2 : Tr X b y) : Tr X (.seq a b) (.seq x y)
  | cond {c : Operand} {d : Opd} {a b : Code} {x y : ICode} (h : TrOpd X c d) (h1 : Tr X a x) (h2 : Tr X b y) : Tr X (.cond c a b) (.cond d x y)
  | block {id : Nat} {a : Code} {x : ICode} (h : Tr X a x) : Tr X (.block id a) (.block id x)
  | loop {k kb : List Nat} {a : Code} {x : ICode} (h : Tr X a x) : Tr X (.loop a) (.loop k kb x)
  | exit {id : Nat} : Tr X (.exit id) (.exit id)
  | ret : Tr X .ret .ret
  | bad {c : Code} : Tr X c .bad
  | rangeMap {id0 id1 id2 bo bi : Nat} {ops : Array Oper} {ro no eo oe : Oper} {ops2 : List Oper} {xt : TypeId} {xo : Operand} {is : List IOper} {x : Opd} {ti tn tb te : Nat} {is2 : List IOper} {rest : Code} {body : ICode}
      (M : MapTr X ops ro no eo oe ops2 xt xo is x ti tn tb te is2) (h : Tr X rest body) :
      Tr X (.seq (.region id0 (ops.push ro) false) (.block bo (.loop (mapLoop tb id1 bi id2 bo no eo oe ops2 rest)))) (.rangeMap is x ti tn tb te bo bi is2 body)
  | scope {a : Code} {x : ICode} (h : Tr X a x) : Tr X (.scope a) x
  | label {l : Nat} : Tr X (.label l) .skip
  | rangeFunc {f : Operand} {g : Opd} {ps : Array Tmp} {k : List Nat} {a b : Code} {x y : ICode} (hf : TrOpd X f g) (hp : ps.toList.Nodup ∧ ∀ p ∈ ps.toList, p ∉ X.bts ∧ p < X.N) (h1 : Tr X a x) (h2 : Tr X b y) : Tr X (.rangeFunc f ps a b) (.rangeFunc g ps.toList k x y)

end Go.Em
namespace Go.Em
open Go

def LsOk : LS → LoopState → Prop
  | .ready, .ready | .busy, .busy | .done, .done | .over, .exhausted => True
  | _, _ => False

def PendOk : Option Jump → Option Code → Prop
  | none, none => True
  | some (.exit i), some (.exit j) => i = j
  | some .ret, some .ret => True
  | _, _ => False

def AV.isLp' : AV → Bool
  | .lp _ _ => true
  | _ => false

/-- An owned cell. -/
def Owned (w : World) (G : Gh) (T : Tag) (b k : Nat) : Prop :=
  G.tag b k = T ∧ w.frozen? ⟨b, k, none⟩ = false ∧ ∃ v, cellAt w b k = some v

def ObjR (P : Program) (w : World) (G : Gh) (o : Nat) (r : Reg) : HObj → Prop
  | .cells cs => cs.length ≤ r.n ∧ (∀ j, j < r.n → Owned w G (.obj o) r.b (r.lo + j)) ∧
      ∀ (j : Nat) (c : AV), cs[j]? = some c → ∃ v, cellAt w r.b (r.lo + j) = some v ∧ v.oneCell' = true ∧ VR w G c v
  | .frz cs => ∀ (j : Nat) (c : IV), cs[j]? = some c → G.tag r.b (r.lo + j) = .frozen ∧ ∃ v, cellAt w r.b (r.lo + j) = some v ∧ v.oneCell' = true ∧ VRI w G.tag c v
  | .tok => ∀ j, j < r.n → Owned w G (.obj o) r.b (r.lo + j)
  | .map ks vs => (∀ k, G.tag r.b k = .obj o) ∧ ∃ (es : List MapEntry) (clock : Nat), w.heap[r.b]? = some (.map es.toArray clock) ∧ es.map (·.key) = ks ∧ es.length = vs.length ∧ (∀ e ∈ es, e.born < clock) ∧
      ∀ (i : Nat) (e : MapEntry) (v : AV), es[i]? = some e → vs[i]? = some v → VR w G v e.val
  | .bld _ => False
  | .loop st pend tm ps as body => (∀ k, G.tag r.b k = .obj o) ∧ ∃ L : Loop, w.heap[r.b]? = some (.loop L) ∧ LsOk st L.state ∧ PendOk pend L.pending ∧ L.params.toList = ps ∧
      ∃ X : Cx, X.P = P ∧ Tr X L.assign as ∧ Tr X L.body body ∧ X.N ≤ L.tmps.size ∧ (ps.Nodup ∧ ∀ p ∈ ps, p ∉ X.bts ∧ p < X.N) ∧ (∀ b ∈ X.bts, getT tm b = .any) ∧
        (∀ t, (getT tm t).isLp' = false) ∧ ∀ t, VR w G (getT tm t) (L.tmps.getD t undef)
  | .dead => True

/-- A temporary. -/
def VT (X : Cx) (w : World) (G : Gh) (ct : Array Value) (t : Nat) : AV → Prop
  | .lp b off => b ∈ X.bts ∧ ∃ blk, ct[b]? = some (.pointer (some ⟨blk, 0, none⟩)) ∧ ct[t]? = some (.pointer (some ⟨blk, off, none⟩))
  | v => VR w G v (ct.getD t undef)

/-- A local variable. -/
def BxR (w : World) (G : Gh) (ct : Array Value) (b : Nat) (cs : List AV) : Prop :=
  ∃ blk, ct[b]? = some (.pointer (some ⟨blk, 0, none⟩)) ∧ ∀ (j : Nat) (c : AV), cs[j]? = some c → Owned w G (.loc b) blk j ∧ ∃ v, cellAt w blk j = some v ∧ v.oneCell' = true ∧ VR w G c v

structure Rel (X : Cx) (w : World) (G : Gh) (s : St) (ct : Array Value) : Prop where
  free : ∀ b k, w.heap.size ≤ b → G.tag b k = .free
  used : ∀ b k, b < w.heap.size → G.tag b k ≠ .free
  len : G.reg.length = s.h.length
  obj : ∀ (o : Nat) (x : HObj), s.h[o]? = some x → ∃ r, G.reg[o]? = some r ∧ ObjR X.P w G o r x
  tm : ∀ t, VT X w G ct t (getT s.tm t)
  tb : ∀ b ∈ X.bts, getT s.tm b = .any
  bx : ∀ (b : Nat) (cs : List AV), getB s.bx b = some cs → b ∈ X.bts ∧ BxR w G ct b cs
  size : X.N ≤ ct.size

/-- How a map goes on: entries are added, never taken. -/
def MapLe (es : Array MapEntry) (ck : Nat) (es' : Array MapEntry) (ck' : Nat) : Prop :=
  es.size ≤ es'.size ∧ (es'.size = es.size → ck' = ck ∧ ∀ (i : Nat) (e e' : MapEntry), es[i]? = some e → es'[i]? = some e' → e'.born = e.born)

theorem MapLe.refl (es : Array MapEntry) (ck : Nat) : MapLe es ck es ck := ⟨Nat.le_refl _, fun _ => ⟨rfl, fun i e e' h h' => by rw [h] at h'; cases h'; rfl⟩⟩

theorem MapLe.trans {a b c : Array MapEntry} {i j k : Nat} (x : MapLe a i b j) (y : MapLe b j c k) : MapLe a i c k := by
  refine ⟨Nat.le_trans x.1 y.1, fun h => ?_⟩
  have h1 : b.size = a.size := Nat.le_antisymm (by rw [← h]; exact y.1) x.1
  have h2 : c.size = b.size := by rw [h, h1]
  refine ⟨(y.2 h2).1.trans (x.2 h1).1, fun n e e' he he' => ?_⟩
  have hn : n < b.size := by rw [h1]; exact (Array.getElem?_eq_some_iff.1 he).1
  have hb := Array.getElem?_eq_getElem hn
  exact ((y.2 h2).2 n _ e' hb he').trans ((x.2 h1).2 n e _ he hb)

/-- What a step keeps. -/
structure Kp (w : World) (G : Gh) (w' : World) (G' : Gh) : Prop extends Ext w G w' G' where
  forT : ∀ b k, G.tag b k = .foreign → G'.tag b k = .foreign
  forC : ∀ b k, G.tag b k = .foreign → cellAt w' b k = cellAt w b k ∧ w'.frozen? ⟨b, k, none⟩ = w.frozen? ⟨b, k, none⟩
  forB : ∀ b, b < w.heap.size → (∀ k, G.tag b k = .foreign ∨ G.tag b k = .frozen) → w'.heap[b]? = w.heap[b]?
  size : w.heap.size ≤ w'.heap.size
  os : w'.os = w.os
  tape : w'.tape = w.tape
  output : w'.output = w.output
  loops : ∀ (b : Nat) (L : Loop), w.heap[b]? = some (Obj.loop L) → ∃ L' : Loop, w'.heap[b]? = some (Obj.loop L')
  maps : ∀ (b : Nat) (es : Array MapEntry) (ck : Nat), w.heap[b]? = some (.map es ck) → ∃ es' ck', w'.heap[b]? = some (.map es' ck') ∧ MapLe es ck es' ck'

theorem Kp.refl (w : World) (G : Gh) : Kp w G w G := { Ext.refl w G with forT := fun _ _ h => h, forC := fun _ _ _ => ⟨rfl, rfl⟩, forB := fun _ _ _ => rfl, size := Nat.le_refl _, os := rfl, tape := rfl, output := rfl, loops := fun _ L h => ⟨L, h⟩, maps := fun _ es ck h => ⟨es, ck, h, MapLe.refl es ck⟩ }

theorem Kp.trans {w w' w'' : World} {G G' G'' : Gh} (h : Kp w G w' G') (k : Kp w' G' w'' G'') : Kp w G w'' G'' :=
  { h.toExt.trans k.toExt with
    forT := fun b i hb => k.forT b i (h.forT b i hb)
    forC := fun b i hb => ⟨(k.forC b i (h.forT b i hb)).1.trans (h.forC b i hb).1, (k.forC b i (h.forT b i hb)).2.trans (h.forC b i hb).2⟩
    forB := fun b hb hk => (k.forB b (Nat.lt_of_lt_of_le hb h.size) (fun i => (hk i).imp (h.forT b i) (h.froz b i))).trans (h.forB b hb hk)
    size := Nat.le_trans h.size k.size
    os := k.os.trans h.os, tape := k.tape.trans h.tape, output := k.output.trans h.output
    loops := fun b L hb => by
      obtain ⟨L', h'⟩ := h.loops b L hb
      exact k.loops b L' h'
    maps := fun b es ck hb => by
      obtain ⟨es1, ck1, h1, l1⟩ := h.maps b es ck hb
      obtain ⟨es2, ck2, h2, l2⟩ := k.maps b es1 ck1 h1
      exact ⟨es2, ck2, h2, l1.trans l2⟩ }

/-- A step that makes new blocks alone. -/
structure Grow (w : World) (G : Gh) (w' : World) (G' : Gh) : Prop where
  size : w.heap.size ≤ w'.heap.size
  heap : ∀ b, b < w.heap.size → w'.heap[b]? = w.heap[b]?
  tag : ∀ b k, b < w.heap.size → G'.tag b k = G.tag b k
  reg : ∀ (o : Nat) (r : Reg), G.reg[o]? = some r → G'.reg[o]? = some r
  os : w'.os = w.os
  tape : w'.tape = w.tape
  output : w'.output = w.output

theorem cellAt_of {w w' : World} {b : Nat} (h : w'.heap[b]? = w.heap[b]?) (k : Nat) : cellAt w' b k = cellAt w b k := by
  unfold cellAt World.cell?; simp only [h]
theorem frozen_of {w w' : World} {b : Nat} (h : w'.heap[b]? = w.heap[b]?) (k : Nat) : w'.frozen? ⟨b, k, none⟩ = w.frozen? ⟨b, k, none⟩ := by
  unfold World.frozen?; simp only [h]

theorem lt_of_tag {w : World} {G : Gh} (hf : ∀ b k, w.heap.size ≤ b → G.tag b k = .free) {b k : Nat} (h : G.tag b k ≠ .free) : b < w.heap.size := by
  rcases Nat.lt_or_ge b w.heap.size with h' | h'
  · exact h'
  · exact absurd (hf b k h') h

theorem Grow.kp {w w' : World} {G G' : Gh} (g : Grow w G w' G') (hf : ∀ b k, w.heap.size ≤ b → G.tag b k = .free) : Kp w G w' G' where
  froz b k h := by
    have := lt_of_tag hf (b := b) (k := k) (by rw [h]; simp)
    rw [g.tag b k this]; exact h
  cell b k h := cellAt_of (g.heap b (lt_of_tag hf (b := b) (k := k) (by rw [h]; simp))) k
  blk b h := g.heap b (lt_of_tag hf (b := b) (k := 0) (by rw [h 0]; simp))
  reg := g.reg
  forT b k h := by
    have := lt_of_tag hf (b := b) (k := k) (by rw [h]; simp)
    rw [g.tag b k this]; exact h
  forC b k h := by
    have hl := lt_of_tag hf (b := b) (k := k) (by rw [h]; simp)
    exact ⟨cellAt_of (g.heap b hl) k, frozen_of (g.heap b hl) k⟩
  forB b hb _ := g.heap b hb
  size := g.size
  os := g.os
  tape := g.tape
  output := g.output
  loops b L h := ⟨L, (g.heap b (Array.getElem?_eq_some_iff.1 h).1).trans h⟩
  maps b es ck h := ⟨es, ck, (g.heap b (Array.getElem?_eq_some_iff.1 h).1).trans h, MapLe.refl es ck⟩

theorem Grow.owned {w w' : World} {G G' : Gh} (g : Grow w G w' G') (hf : ∀ b k, w.heap.size ≤ b → G.tag b k = .free) {T : Tag} (hT : T ≠ .free) {b k : Nat} (h : Owned w G T b k) : Owned w' G' T b k := by
  obtain ⟨h1, h2, v, h3⟩ := h
  have hl := lt_of_tag hf (b := b) (k := k) (by rw [h1]; exact hT)
  exact ⟨(g.tag b k hl).trans h1, (frozen_of (g.heap b hl) k).trans h2, v, (cellAt_of (g.heap b hl) k).trans h3⟩

theorem lt_of_cell {w : World} {b k : Nat} {v : Value} (h : cellAt w b k = some v) : b < w.heap.size := by
  unfold cellAt World.cell? at h
  rcases Nat.lt_or_ge b w.heap.size with h' | h'
  · exact h'
  · simp [Array.getElem?_eq_none h'] at h

theorem Grow.objR {P : Program} {w w' : World} {G G' : Gh} (g : Grow w G w' G') (hf : ∀ b k, w.heap.size ≤ b → G.tag b k = .free) {o : Nat} {r : Reg} {x : HObj} (h : ObjR P w G o r x) : ObjR P w' G' o r x := by
  have e := (g.kp hf).toExt
  cases x with
  | cells cs =>
    obtain ⟨h1, h2, h3⟩ := h
    refine ⟨h1, fun j hj => g.owned hf (by simp) (h2 j hj), fun j c hj => ?_⟩
    obtain ⟨v, a, b, d⟩ := h3 j c hj
    exact ⟨v, (cellAt_of (g.heap _ (lt_of_cell a)) _).trans a, b, e.vr d⟩
  | frz cs =>
    intro j c hj
    obtain ⟨t, v, a, b, d⟩ := h j c hj
    exact ⟨e.froz _ _ t, v, (cellAt_of (g.heap _ (lt_of_cell a)) _).trans a, b, e.vri d⟩
  | tok => exact fun j hj => g.owned hf (by simp) (h j hj)
  | map ks vs =>
    obtain ⟨t, es, c, a, b, d, bn, f⟩ := h
    have hl := lt_of_tag hf (b := r.b) (k := 0) (by rw [t 0]; simp)
    exact ⟨fun k => (g.tag _ _ hl).trans (t k), es, c, (g.heap _ hl).trans a, b, d, bn, fun i m v hi hv => e.vr (f i m v hi hv)⟩
  | bld bs => exact h
  | loop st pend tm ps as body =>
    obtain ⟨t, L, a, h1, h2, h3, X, hX, h4, h5, h6, h7, h8, h9, h10⟩ := h
    have hl := lt_of_tag hf (b := r.b) (k := 0) (by rw [t 0]; simp)
    exact ⟨fun k => (g.tag _ _ hl).trans (t k), L, (g.heap _ hl).trans a, h1, h2, h3, X, hX, h4, h5, h6, h7, h8, h9, fun t => e.vr (h10 t)⟩
  | dead => trivial

theorem Ext.vt {X : Cx} {w w' : World} {G G' : Gh} (e : Ext w G w' G') {ct : Array Value} {t : Nat} {v : AV} (h : VT X w G ct t v) : VT X w' G' ct t v := by
  cases v <;> first | exact h | exact e.vr h

theorem Grow.bxR {w w' : World} {G G' : Gh} (g : Grow w G w' G') (hf : ∀ b k, w.heap.size ≤ b → G.tag b k = .free) {ct : Array Value} {b : Nat} {cs : List AV} (h : BxR w G ct b cs) : BxR w' G' ct b cs := by
  obtain ⟨blk, h1, h2⟩ := h
  refine ⟨blk, h1, fun j c hj => ?_⟩
  obtain ⟨a, v, b', c', d⟩ := h2 j c hj
  exact ⟨g.owned hf (by simp) a, v, (cellAt_of (g.heap _ (lt_of_cell b')) _).trans b', c', (g.kp hf).toExt.vr d⟩

end Go.Em
namespace Go.Em
open Go

theorem getT_nil (t : Nat) : getT [] t = .any := rfl
theorem getT_cons (u : Nat) (v : AV) (r : Tm) (t : Nat) : getT ((u, v) :: r) t = if u = t then v else getT r t := by
  show Bool.rec (motive := fun _ => AV) (getT r t) v (Nat.beq u t) = _
  by_cases h : u = t
  · subst h; rw [if_pos rfl, Nat.beq_refl]
  · rw [if_neg h]
    have : Nat.beq u t = false := by
      cases hb : Nat.beq u t
      · rfl
      · exact absurd (Nat.eq_of_beq_eq_true hb) h
    rw [this]
theorem getB_nil (t : Nat) : getB [] t = none := rfl
theorem getB_cons (u : Nat) (v : List AV) (r : Bx) (t : Nat) : getB ((u, v) :: r) t = if u = t then some v else getB r t := by
  show Bool.rec (motive := fun _ => Option (List AV)) (getB r t) (some v) (Nat.beq u t) = _
  by_cases h : u = t
  · subst h; rw [if_pos rfl, Nat.beq_refl]
  · rw [if_neg h]
    have : Nat.beq u t = false := by
      cases hb : Nat.beq u t
      · rfl
      · exact absurd (Nat.eq_of_beq_eq_true hb) h
    rw [this]

/-- An operand's value. -/
def VO (X : Cx) (w : World) (G : Gh) (ct : Array Value) : AV → Value → Prop
  | .lp b off, u => b ∈ X.bts ∧ ∃ blk, ct[b]? = some (.pointer (some ⟨blk, 0, none⟩)) ∧ u = .pointer (some ⟨blk, off, none⟩)
  | v, u => VR w G v u

theorem VO.of_vr {X : Cx} {w : World} {G : Gh} {ct : Array Value} {v : AV} {u : Value} (h : VR w G v u) : VO X w G ct v u := by
  cases v <;> first | exact h | cases h

theorem VO.vr {X : Cx} {w : World} {G : Gh} {ct : Array Value} {v : AV} {u : Value} (h : VO X w G ct v u) (hv : v.isLp' = false) : VR w G v u := by
  cases v <;> first | exact h | cases hv

theorem Ext.vo {X : Cx} {w w' : World} {G G' : Gh} (e : Ext w G w' G') {ct : Array Value} {v : AV} {u : Value} (h : VO X w G ct v u) : VO X w' G' ct v u := by
  cases v <;> first | exact h | exact e.vr h

def opVal (ct : Array Value) : Operand → Value
  | .tmp t => ct.getD t undef
  | .const v => v
  | .global g => .pointer (some ⟨g, 0, none⟩)
  | .func f => .func (.func f) #[] #[]

theorem ConstOk.vr {v : Value} {a : AV} (h : ConstOk v a) (w : World) (G : Gh) : VR w G a v := by
  cases h with
  | sc h => exact .im (.sc h)
  | nil hk => exact .im (.slN hk)
  | agg hl h =>
    refine .im (.agg hl (fun i c v hc hv => ?_) (fun v hv => ?_))
    · rcases h i c v hc hv with ⟨h1, rfl⟩ | ⟨rfl, k, hk, rfl⟩
      · exact .sc h1
      · exact .slN hk
    · obtain ⟨i, hi⟩ := List.mem_iff_getElem?.1 hv
      have hlt : i < _ := (List.getElem?_eq_some_iff.1 hi).1
      rw [← hl] at hlt
      rcases h i _ v (List.getElem?_eq_getElem hlt) hi with ⟨h1, _⟩ | ⟨rfl, _⟩
      · exact scalar_one h1
      · rfl

theorem Rel.opd {X : Cx} {w : World} {G : Gh} {s : St} {ct : Array Value} (R : Rel X w G s ct) {x : Operand} {y : Opd} (h : TrOpd X x y) : VO X w G ct (y.ev s.tm s.bx) (opVal ct x) := by
  cases h with
  | t h =>
    rename_i n
    have := R.tm n
    show VO X w G ct (getT s.tm n) (ct.getD n undef)
    cases hv : getT s.tm n <;> rw [hv] at this <;> try exact this
    obtain ⟨hb, blk, h1, h2⟩ := this
    refine ⟨hb, blk, h1, ?_⟩
    simp [Array.getD_eq_getD_getElem?, h2]
  | b h =>
    rename_i n
    show VO X w G ct (match getB s.bx n with | some _ => .lp n 0 | none => .any) (ct.getD n undef)
    cases hb : getB s.bx n with
    | none => exact VR.any
    | some cs =>
      obtain ⟨h1, blk, h2, _⟩ := R.bx n cs hb
      exact ⟨h1, blk, h2, by simp [Array.getD_eq_getD_getElem?, h2]⟩
  | k h => exact .of_vr (h.vr w G)
  | f => exact VR.im (.fn (x := []) (y := []) rfl rfl (fun i u v h => by simp at h) (fun i u v h => by simp at h))

theorem Rel.opds {X : Cx} {w : World} {G : Gh} {s : St} {ct : Array Value} (R : Rel X w G s ct) {xs : List Operand} {ys : List Opd} (h : TrList (TrOpd X) xs ys) :
    (opdsEv s.tm s.bx ys).length = (xs.map (opVal ct)).length ∧ ∀ (i : Nat) (v : AV) (u : Value), (opdsEv s.tm s.bx ys)[i]? = some v → (xs.map (opVal ct))[i]? = some u → VO X w G ct v u := by
  unfold opdsEv
  rw [mapR_eq]
  induction h with
  | nil => exact ⟨rfl, fun i v u h => by simp at h⟩
  | cons h _ ih =>
    refine ⟨by simp [ih.1], fun i v u h1 h2 => ?_⟩
    cases i with
    | zero => simp at h1 h2; subst h1; subst h2; exact R.opd h
    | succ i => simp only [List.map_cons, List.getElem?_cons_succ] at h1 h2; exact ih.2 i v u h1 h2

/-- A result kept in a temporary. -/
def putT (ct : Array Value) : Option Nat → Value → Array Value
  | some d, u => ct.setIfInBounds d u
  | none, _ => ct

theorem Rel.put {X : Cx} {w : World} {G : Gh} {s : St} {ct : Array Value} (R : Rel X w G s ct) {dst : Option Nat} (hd : ∀ d, dst = some d → d ∉ X.bts ∧ d < X.N) {v : AV} {u : Value} (h : VO X w G ct v u) :
    Rel X w G { s with tm := setT s.tm dst v } (putT ct dst u) := by
  cases dst with
  | none => exact R
  | some d =>
    obtain ⟨hb, hN⟩ := hd d rfl
    have hsz : d < ct.size := Nat.lt_of_lt_of_le hN R.size
    have hbx : ∀ b ∈ X.bts, (ct.setIfInBounds d u)[b]? = ct[b]? := fun b hbb => by
      exact Array.getElem?_setIfInBounds_ne (fun (e : d = b) => hb (by rw [e]; exact hbb))
    have hself : (ct.setIfInBounds d u)[d]? = some u := by simp [hsz]
    refine { free := R.free, used := R.used, len := R.len, obj := R.obj, tm := fun t => ?_, tb := fun b hbb => ?_, bx := fun b cs hcs => ?_, size := by simpa [putT] using R.size }
    · show VT X w G (ct.setIfInBounds d u) t (getT ((d, v) :: s.tm) t)
      rw [getT_cons]
      by_cases e : d = t
      · subst e
        rw [if_pos rfl]
        cases v
        case lp b off =>
          obtain ⟨h1, blk, h2, h3⟩ := h
          exact ⟨h1, blk, by rw [hbx b h1]; exact h2, by rw [hself, h3]⟩
        all_goals
          show VR w G _ ((ct.setIfInBounds d u).getD d undef)
          rw [Array.getD_eq_getD_getElem?, hself]
          exact h
      · rw [if_neg e]
        have := R.tm t
        have ht : (ct.setIfInBounds d u)[t]? = ct[t]? := Array.getElem?_setIfInBounds_ne e
        cases hv : getT s.tm t <;> rw [hv] at this
        case lp b off =>
          obtain ⟨h1, blk, h2, h3⟩ := this
          exact ⟨h1, blk, by rw [hbx b h1]; exact h2, by rw [ht]; exact h3⟩
        all_goals
          show VR w G _ ((ct.setIfInBounds d u).getD t undef)
          rw [Array.getD_eq_getD_getElem?, ht, ← Array.getD_eq_getD_getElem?]
          exact this
    · show getT ((d, v) :: s.tm) b = .any
      rw [getT_cons, if_neg (fun (e : d = b) => hb (by rw [e]; exact hbb))]
      exact R.tb b hbb
    · obtain ⟨h1, blk, h2, h3⟩ := R.bx b cs hcs
      exact ⟨h1, blk, by rw [show (putT ct (some d) u)[b]? = ct[b]? from hbx b h1]; exact h2, h3⟩

/-- What an operation of the model's that an abstract one stands for comes to. -/
def OpOk (X : Cx) (w : World) (G : Gh) (s : St) (ct : Array Value) (run : Result Next) (r : Res) : Prop :=
  ∃ u w' G', (run = .ok (.value u) w' ∨ (run = .ok .skip w' ∧ u = undef)) ∧ Kp w G w' G' ∧ Rel X w' G' (applyUp s r.up) ct ∧ VO X w' G' ct r.v u

theorem OpOk.pure {X : Cx} {w : World} {G : Gh} {s : St} {ct : Array Value} (R : Rel X w G s ct) {run : Result Next} {r : Res} {u : Value} (hr : run = .ok (.value u) w) (hu : r.up = .none) (hv : VO X w G ct r.v u) :
    OpOk X w G s ct run r :=
  ⟨u, w, G, .inl hr, Kp.refl w G, by rw [hu]; exact R, hv⟩

theorem pureRun_run {α : Type} {P : Program} {x : Sem α} {a : α} (h : pureRun P x = some a) (w : World) : x.run P w = .ok a w := by
  induction x with
  | pure b => simp only [pureRun, Option.some.injEq] at h; subst h; rfl
  | program k ih => exact ih P h
  | _ => cases h

end Go.Em
namespace Go.Em
open Go

theorem ex_val {P : Program} {x : Sem Value} {u : Value} {w w' : World} (h : x.run P w = .ok u w') : (do pure (Next.value (← x)) : Sem Next).run P w = .ok (.value u) w' := by
  simp [h, Result.andThen]

theorem ex_unit {P : Program} {x : Sem Unit} {w w' : World} (h : x.run P w = .ok () w') : (do x; pure Next.skip : Sem Next).run P w = .ok .skip w' := by
  simp [h, Result.andThen]

theorem ok_eq {v : AV} {r : Res} (h : ok v = some r) : r = { v } := by simpa [ok] using h.symm

theorem VR.bool {w : World} {G : Gh} {b : Bool} {u : Value} (h : VR w G (.im (.sc (.bool b))) u) : u = .bool b := by
  cases h with | im h => cases h with | sc _ => rfl
theorem VR.sc {w : World} {G : Gh} {v u : Value} (h : VR w G (.im (.sc v)) u) : u = v ∧ scalar v = true := by
  cases h with | im h => cases h with | sc h => exact ⟨rfl, h⟩
theorem VO.sc {X : Cx} {w : World} {G : Gh} {ct : Array Value} {v u : Value} (h : VO X w G ct (.im (.sc v)) u) : u = v ∧ scalar v = true := VR.sc h

theorem valAll_eq : ∀ (cs : List IV) (vs : List Value) (l : List Value), cs.length = vs.length →
    (∀ (i : Nat) (c : IV) (v : Value), cs[i]? = some c → vs[i]? = some v → ∀ a, c.val = some a → v = a) → IV.val.valAll cs = some l → l = vs
  | [], [], l, _, _, h => by simpa [IV.val.valAll] using h.symm
  | [], _ :: _, _, h, _, _ => by simp at h
  | _ :: _, [], _, h, _, _ => by simp at h
  | c :: cs, v :: vs, l, hl, hi, h => by
    simp only [IV.val.valAll] at h
    split at h
    · rename_i x y hx hy
      simp only [Option.some.injEq] at h
      subst h
      rw [hi 0 c v rfl rfl x hx, valAll_eq cs vs y (by simpa using hl) (fun i c v h1 h2 => hi (i + 1) c v (by simpa using h1) (by simpa using h2)) hy]
    · cases h

theorem VRI.val {w : World} {t : Nat → Nat → Tag} {v : IV} {u : Value} (h : VRI w t v u) : ∀ a, v.val = some a → u = a := by
  induction h with
  | sc h => intro a ha; simpa [IV.val] using ha
  | agg hl _ _ ih =>
    intro a ha
    simp only [IV.val, Option.map_eq_some_iff] at ha
    obtain ⟨l, h1, rfl⟩ := ha
    rw [valAll_eq _ _ l hl ih h1]
  | _ => intro a ha; simp [IV.val] at ha

theorem AV.val_im {v : AV} {a : Value} (h : v.val = some a) : ∃ i : IV, v = .im i ∧ i.val = some a := by
  cases v with
  | im i =>
    refine ⟨i, rfl, ?_⟩
    cases i <;> first | exact h | (simpa [AV.val, IV.val] using h)
  | _ => simp [AV.val] at h

theorem VO.val {X : Cx} {w : World} {G : Gh} {ct : Array Value} {v : AV} {u a : Value} (h : VO X w G ct v u) (hv : v.val = some a) : u = a := by
  obtain ⟨i, rfl, hi⟩ := AV.val_im hv
  have h' : VR w G (.im i) u := h
  cases h' with | im h => exact h.val a hi

theorem ofVal_eq {v : Value} {a : AV} (h : ofVal v = some a) : a = .im (.sc v) ∧ scalar v = true := by
  unfold ofVal at h
  split at h
  · rename_i hs
    exact ⟨(Option.some.inj h).symm, hs⟩
  · cases h

theorem resV_eq {o : Option Value} {r : Res} (h : resV o = some r) : ∃ v, o = some v ∧ scalar v = true ∧ r = { v := .im (.sc v) } := by
  unfold resV at h
  split at h
  · rename_i v
    split at h
    · rename_i a ha
      obtain ⟨rfl, h2⟩ := ofVal_eq ha
      exact ⟨v, rfl, h2, ok_eq h⟩
    · cases h
  · cases h

theorem VO.ofSc {X : Cx} {w : World} {G : Gh} {ct : Array Value} {v : Value} (h : scalar v = true) : VO X w G ct (.im (.sc v)) v := VR.im (.sc h)

section
variable {X : Cx} {w : World} {G : Gh} {s : St} {ct : Array Value} (R : Rel X w G s ct)
include R

theorem ok_pick {a b c : AV} {x y z : Value} {r : Res} (h : oPick a b c = some r) (ha : VO X w G ct a x) (hb : VO X w G ct b y) (hc : VO X w G ct c z) :
    OpOk X w G s ct ((do pure (Next.value (if ← Go.asBool x then y else z)) : Sem Next).run X.P w) r := by
  unfold oPick at h
  split at h
  · rw [ok_eq h]
    obtain ⟨rfl, _⟩ := VO.sc ha
    exact .pure R (u := y) (by simp [Go.asBool]) rfl hb
  · rw [ok_eq h]
    obtain ⟨rfl, _⟩ := VO.sc ha
    exact .pure R (u := z) (by simp [Go.asBool]) rfl hc
  · cases h

theorem ok_scalar {x : Sem Value} {v : Value} (h : x.run X.P w = .ok v w) (hs : scalar v = true) : OpOk X w G s ct ((do pure (Next.value (← x)) : Sem Next).run X.P w) { v := .im (.sc v) } :=
  .pure R (ex_val h) rfl (VO.ofSc hs)

theorem ok_un {op : UnOp} {a : AV} {x : Value} {r : Res} (h : oUn X.P op a = some r) (ha : VO X w G ct a x) : OpOk X w G s ct ((do pure (Next.value (← Op.unary op x)) : Sem Next).run X.P w) r := by
  unfold oUn at h
  split at h
  · rename_i u hu
    obtain rfl := ha.val hu
    obtain ⟨v, h1, h2, rfl⟩ := resV_eq h
    exact ok_scalar R (pureRun_run h1 w) h2
  · cases h

theorem ok_conv {t d : TypeId} {a : AV} {x : Value} {r : Res} (h : oConv X.P t d a = some r) (ha : VO X w G ct a x) : OpOk X w G s ct ((do pure (Next.value (← convert t d x)) : Sem Next).run X.P w) r := by
  unfold oConv at h
  split at h
  · rename_i u hu
    obtain rfl := ha.val hu
    obtain ⟨v, h1, h2, rfl⟩ := resV_eq h
    exact ok_scalar R (pureRun_run h1 w) h2
  · cases h

theorem ok_mkifc {t : TypeId} {a : AV} {x : Value} {r : Res} (hu : ∃ d, X.P.underlying t = some d ∧ ∀ ms, d ≠ .interface ms) (h : oMkifc t a = some r) (ha : VO X w G ct a x) :
    OpOk X w G s ct ((do pure (Next.value (← Instr.makeInterface t x)) : Sem Next).run X.P w) r := by
  obtain ⟨d, hd, hn⟩ := hu
  have hrun : (Instr.makeInterface t x).run X.P w = .ok (.iface t x) w := by
    unfold Instr.makeInterface
    simp only [Sem.run_bind, run_underlying hd, Result.andThen]
    cases d <;> first | rfl | exact absurd rfl (hn _)
  unfold oMkifc at h
  split at h
  · rw [ok_eq h]
    have ha' : VR w G _ x := ha
    cases ha' with | im hv => exact .pure R (ex_val hrun) rfl (VR.im (.ifc hv))
  · split at h
    · rename_i hf
      rw [ok_eq h]
      refine .pure R (ex_val hrun) rfl (VR.ifc (ha.vr ?_))
      cases a <;> simp_all [AV.free, AV.isLp']
    · cases h

theorem ok_extract {i : Nat} {a : AV} {x : Value} {r : Res} (h : oExtract a i = some r) (ha : VO X w G ct a x) : OpOk X w G s ct ((do pure (Next.value (← Instr.extract x i)) : Sem Next).run X.P w) r := by
  unfold oExtract at h
  split at h
  · rename_i vs
    rw [nthR_eq] at h
    split at h
    · rename_i v hv
      rw [ok_eq h]
      have ha' : VR w G (.tup vs) x := ha
      cases ha' with
      | tup hl hi =>
        rename_i us
        have hlt : i < us.length := by rw [← hl]; exact (List.getElem?_eq_some_iff.1 hv).1
        refine .pure R (u := us[i]) (ex_val ?_) rfl (.of_vr (hi i v us[i] hv (List.getElem?_eq_getElem hlt)))
        simp [Instr.extract, hlt]
    · cases h
  · cases h
end

theorem unim_spec : ∀ (l : List AV) (vs : List IV), unim l = some vs → l = vs.map .im
  | [], vs, h => by
    unfold unim at h; rw [mapO_nil] at h; simp at h; subst h; rfl
  | v :: l, vs, h => by
    unfold unim at h; rw [mapO_cons] at h
    cases v with
    | im v =>
      simp only [unim1] at h
      split at h
      · rename_i t ht
        simp at h; subst h
        rw [List.map_cons, ← unim_spec l t ht]
      · cases h
    | _ => simp [unim1] at h

end Go.Em
namespace Go.Em
open Go

theorem eqI_eq (a b : Int) : eqI a b = (a == b) := by
  cases a <;> cases b <;> rename_i m n
  · show Nat.beq m n = _
    rw [Bool.eq_iff_iff, Nat.beq_eq]; simp; omega
  · show false = _
    rw [Bool.eq_iff_iff]; simp <;> omega
  · show false = _
    rw [Bool.eq_iff_iff]; simp <;> omega
  · show Nat.beq m n = _
    rw [Bool.eq_iff_iff, Nat.beq_eq]; simp <;> omega

theorem ltI_eq (a b : Int) : ltI a b = decide (a < b) := by
  cases a <;> cases b <;> rename_i m n
  · show Nat.blt m n = _
    rw [Bool.eq_iff_iff, Nat.blt_eq]; simp
  · show false = _
    rw [Bool.eq_iff_iff]; simp <;> omega
  · show true = _
    rw [Bool.eq_iff_iff]; simp <;> omega
  · show Nat.blt n m = _
    rw [Bool.eq_iff_iff, Nat.blt_eq]; simp <;> omega

theorem wrap_small (n : Int) (h1 : -9223372036854775808 ≤ n) (h2 : n < 9223372036854775808) : IntKind.wrap .i64 n = n := by
  simp [IntKind.wrap, IntKind.bits, IntKind.signed]; omega

theorem wrapF_eq (k : IntKind) (n : Int) : wrapF k n = k.wrap n := by
  cases k <;> try rfl
  cases n with
  | ofNat n =>
    simp only [wrapF]
    split
    · rename_i h
      rw [Nat.blt_eq] at h
      exact (wrap_small _ (by simp <;> omega) (by simp <;> omega)).symm
    · rfl
  | negSucc n =>
    simp only [wrapF]
    split
    · rename_i h
      rw [Nat.blt_eq] at h
      exact (wrap_small _ (by omega) (by omega)).symm
    · rfl

theorem sameKind_eq {k k' : IntKind} (h : sameKind k k' = true) : k = k' := by cases k <;> cases k' <;> first | rfl | cases h

theorem bytesEq_eq : ∀ a b : List UInt8, bytesEq a b = (a == b)
  | [], [] => rfl
  | [], _ :: _ => rfl
  | _ :: _, [] => rfl
  | a :: x, b :: y => by
    simp only [bytesEq]
    rw [List.cons_beq_cons]
    split
    · rename_i h
      have : a = b := UInt8.toNat_inj.1 (Nat.eq_of_beq_eq_true h)
      subst this
      rw [bytesEq_eq x y]; simp
    · rename_i h
      have : (a == b) = false := by
        rw [Bool.eq_false_iff]; intro e
        have := beq_iff_eq.1 e
        subst this
        rw [Nat.beq_refl] at h; cases h
      rw [this]; rfl

theorem binInt_run {P : Program} {op : BinOp} {t : TypeId} {k : IntKind} {a b : Int} {v : Value} (h : binInt op k a b = some v) (x y : Operand) (w : World) :
    (do eqGuard op t x y (.int k a) (.int k b); binOp op t (.int k a) (.int k b) : Sem Value).run P w = .ok v w := by
  have hg : ∀ w, (eqGuard op t x y (.int k a) (.int k b)).run P w = .ok () w := fun w => by
    unfold eqGuard
    cases op <;> simp
  simp only [Sem.run_bind, hg, Result.andThen]
  cases op <;> simp only [binInt, Option.some.injEq, reduceCtorEq] at h <;> subst h <;>
    simp [binOp, Op.intArith, Op.intCmp, wrapF_eq, eqI_eq, ltI_eq, ← decide_not, Int.not_lt, bne]

theorem binStr_run {P : Program} {op : BinOp} {t : TypeId} {a b : ByteArray} {v : Value} (h : binStr op a b = some v) (x y : Operand) (w : World) :
    (do eqGuard op t x y (.string a) (.string b); binOp op t (.string a) (.string b) : Sem Value).run P w = .ok v w := by
  have hg : ∀ w, (eqGuard op t x y (.string a) (.string b)).run P w = .ok () w := fun w => by
    unfold eqGuard
    cases op <;> simp
  simp only [Sem.run_bind, hg, Result.andThen]
  have hl : ∀ s : ByteArray, s.toList = s.data.toList := fun s => ByteArray.toList_eq s
  cases op <;> simp only [binStr, Option.some.injEq, reduceCtorEq] at h <;> subst h <;> simp [binOp, Op.stringOp, bytesEq_eq, hl]

theorem eqGuard_congr {op : BinOp} {t : TypeId} {x y x' y' : Operand} (a b : Value) (hx : (match x with | .const _ => true | _ => false) = (match x' with | .const _ => true | _ => false))
    (hy : (match y with | .const _ => true | _ => false) = (match y' with | .const _ => true | _ => false)) : eqGuard op t x y a b = eqGuard op t x' y' a b := by
  cases x <;> cases x' <;> first | (cases hx; done) | (cases y <;> cases y' <;> first | rfl | (cases hy; done))

theorem binV_run {P : Program} {op : BinOp} {t : TypeId} {cx cy : Bool} {a b v : Value} (h : binV P op t cx cy a b = some v) {x y : Operand}
    (hx : cx = (match x with | .const _ => true | _ => false)) (hy : cy = (match y with | .const _ => true | _ => false)) (w : World) :
    (do eqGuard op t x y a b; binOp op t a b : Sem Value).run P w = .ok v w := by
  have slow : ∀ a b, binSlow P op t cx cy a b = some v → (do eqGuard op t x y a b; binOp op t a b : Sem Value).run P w = .ok v w := by
    intro a b h
    have := pureRun_run h w
    rw [eqGuard_congr (x' := x) (y' := y)] at this
    · exact this
    · subst hx; cases x <;> rfl
    · subst hy; cases y <;> rfl
  unfold binV at h
  split at h
  · split at h
    · rename_i hk
      obtain rfl := sameKind_eq hk
      split at h
      · rename_i u hu
        obtain rfl := Option.some.inj h
        exact binInt_run hu x y w
      · exact slow _ _ h
    · exact slow _ _ h
  · split at h
    · rename_i u hu
      obtain rfl := Option.some.inj h
      exact binStr_run hu x y w
    · exact slow _ _ h
  · exact slow _ _ h

section
variable {X : Cx} {w : World} {G : Gh} {s : St} {ct : Array Value} (R : Rel X w G s ct)
include R

theorem ok_bin {op : BinOp} {t : TypeId} {cx cy : Bool} {a b : AV} {u v : Value} {r : Res} (h : oBin X.P op t cx cy a b = some r) {x y : Operand}
    (hx : cx = (match x with | .const _ => true | _ => false)) (hy : cy = (match y with | .const _ => true | _ => false)) (ha : VO X w G ct a u) (hb : VO X w G ct b v) :
    OpOk X w G s ct ((do pure (Next.value (← (do eqGuard op t x y u v; binOp op t u v))) : Sem Next).run X.P w) r := by
  unfold oBin at h
  split at h
  · rename_i u' hu
    obtain rfl := ha.val hu
    split at h
    · rename_i v' hv
      obtain rfl := hb.val hv
      obtain ⟨z, h1, h2, rfl⟩ := resV_eq h
      exact ok_scalar R (binV_run h1 hx hy w) h2
    · cases h
  · cases h

theorem ok_off {t : TypeId} {fs : Array Field} {i n : Nat} {f : Field} {a : AV} {u : Value} {r : Res} (hu : X.P.underlying t = some (.struct fs)) (hf : fs[i]? = some f) (hs : SizeIs X.P f.type n) (h0 : n ≠ 0)
    (h : oOff f.offset a = some r) (ha : VO X w G ct a u) : OpOk X w G s ct ((do pure (Next.value (← Instr.fieldAt t u i)) : Sem Next).run X.P w) r := by
  obtain ⟨inf, hi, hn⟩ := hs
  have key : ∀ b off, (Instr.fieldAt t (.pointer (some ⟨b, off, none⟩)) i).run X.P w = .ok (.pointer (some ⟨b, off + f.offset, none⟩)) w := by
    intro b off
    have hsz : inf.size ≠ 0 := by rw [hn]; exact h0
    have ha : ∀ w, (fieldPlace ⟨b, off, none⟩ f).run X.P w = .ok ⟨b, off + f.offset, none⟩ w := fun w => by
      simp [fieldPlace, sizeOf, typeInfo, hi, hsz, Addr.add_lit]
    simp only [Instr.fieldAt, Sem.run_bind, run_underlying hu, Result.andThen, hf, Instr.sureAddr, Sem.run_pure, ha]
  unfold oOff at h
  split at h
  · rw [ok_eq h]
    obtain ⟨h1, blk, h2, rfl⟩ := ha
    exact .pure R (ex_val (key _ _)) rfl ⟨h1, blk, h2, rfl⟩
  · rw [ok_eq h]
    have ha' : VR w G _ u := ha
    cases ha' with | ptr hr => exact .pure R (ex_val (key _ _)) rfl (VR.ptr (off := _ + f.offset) hr |> fun h => by rw [← Nat.add_assoc] at h; exact h)
  · split at h
    · rename_i cs hle
      rw [ok_eq h]
      have ha' : VR w G _ u := ha
      cases ha' with
      | im hv => cases hv with
        | ip g hf hv =>
          refine .pure R (ex_val (key _ _)) rfl (VR.im (.ip (fun j => g (f.offset + j)) (fun j c hj => ?_) (fun j c hj => ?_)))
          · rw [dropR_eq, List.getElem?_drop] at hj
            rw [Nat.add_assoc]
            exact hf _ _ hj
          · rw [dropR_eq, List.getElem?_drop] at hj
            exact hv _ _ hj
    · cases h
  · cases h
end

end Go.Em
namespace Go.Em
open Go

/-- Cells of memory that read as so many values. -/
def ReadsAs (w : World) (G : Gh) (b off : Nat) (cs : List AV) (us : List Value) : Prop :=
  cs.length = us.length ∧ ∀ (j : Nat) (c : AV) (u : Value), cs[j]? = some c → us[j]? = some u → cellAt w b (off + j) = some u ∧ u.oneCell' = true ∧ VR w G c u

theorem readsAs_of {w : World} {G : Gh} {b off : Nat} {cs : List AV} (h : ∀ (j : Nat) (c : AV), cs[j]? = some c → ∃ v, cellAt w b (off + j) = some v ∧ v.oneCell' = true ∧ VR w G c v) :
    ∃ us, ReadsAs w G b off cs us := by
  refine ⟨(List.range cs.length).map fun j => (cellAt w b (off + j)).getD undef, by simp, fun j c u hc hu => ?_⟩
  obtain ⟨v, h1, h2, h3⟩ := h j c hc
  have hj : j < cs.length := (List.getElem?_eq_some_iff.1 hc).1
  simp [hj] at hu
  rw [h1] at hu
  simp at hu; subst hu
  exact ⟨h1, h2, h3⟩

theorem ReadsAs.one {w : World} {G : Gh} {b off : Nat} {cs : List AV} {us : List Value} (h : ReadsAs w G b off cs us) : ∀ u ∈ us, u.oneCell' = true := by
  intro u hu
  obtain ⟨j, hj⟩ := List.mem_iff_getElem?.1 hu
  have hlt : j < cs.length := by rw [h.1]; exact (List.getElem?_eq_some_iff.1 hj).1
  exact (h.2 j _ u (List.getElem?_eq_getElem hlt) hj).2.1

theorem mkAgg_vr {w : World} {G : Gh} {cs : List AV} {us : List Value} (hl : cs.length = us.length) (h : ∀ (j : Nat) (c : AV) (u : Value), cs[j]? = some c → us[j]? = some u → VR w G c u) (h1 : ∀ u ∈ us, u.oneCell' = true) :
    VR w G (mkAgg cs) (.agg us.toArray) := by
  unfold mkAgg
  cases hc : unim cs with
  | some vs =>
    have := unim_spec cs vs hc
    subst this
    refine .im (.agg (by simpa using hl) (fun i c v h2 h3 => ?_) h1)
    have := h i (.im c) v (by simp [h2]) h3
    cases this with | im h => exact h
  | none => exact .agg hl h h1

theorem ofCells_vr {w : World} {G : Gh} {b off : Nat} {ag : Bool} {cs : List AV} {us : List Value} {v : AV} (h : ReadsAs w G b off cs us) (hv : ofCells ag cs = some v) :
    (ag = true ∧ VR w G v (.agg us.toArray)) ∨ (ag = false ∧ ∃ u, us = [u] ∧ VR w G v u) := by
  unfold ofCells at hv
  cases ag with
  | true =>
    simp only [if_true, Option.some.injEq] at hv
    subst hv
    exact .inl ⟨rfl, mkAgg_vr h.1 (fun j c u hc hu => (h.2 j c u hc hu).2.2) h.one⟩
  | false =>
    simp only [Bool.false_eq_true, if_false] at hv
    split at hv
    · rename_i c
      simp only [Option.some.injEq] at hv
      subst hv
      have hl := h.1
      match us, hl with
      | [u], _ => exact .inr ⟨rfl, u, rfl, (h.2 0 _ u rfl rfl).2.2⟩
    · cases hv

theorem takeN_some {α : Type} {n : Nat} {l m : List α} (h : takeN n l = some m) : n ≤ l.length ∧ m = l.take n := by
  rw [takeN_eq] at h
  split at h
  · rename_i hle; exact ⟨hle, (Option.some.inj h).symm⟩
  · cases h

theorem ReadsAs.sub {w : World} {G : Gh} {b off k n : Nat} {cs : List AV} (h : ∀ (j : Nat) (c : AV), cs[j]? = some c → ∃ v, cellAt w b (off + j) = some v ∧ v.oneCell' = true ∧ VR w G c v) {m : List AV}
    (hm : takeN n (dropR k cs) = some m) : m.length = n ∧ ∃ us, ReadsAs w G b (off + k) m us := by
  obtain ⟨hle, rfl⟩ := takeN_some hm
  rw [dropR_eq] at hle ⊢
  refine ⟨by simp at hle ⊢; omega, readsAs_of fun j c hj => ?_⟩
  rw [List.getElem?_take] at hj
  split at hj
  · rw [List.getElem?_drop] at hj
    rw [Nat.add_assoc]
    exact h _ _ hj
  · cases hj

section
variable {X : Cx} {w : World} {G : Gh} {s : St} {ct : Array Value} (R : Rel X w G s ct)
include R

/-- What lies behind a pointer. -/
theorem cells_spec {n : Nat} {p : AV} {u : Value} {cs : List AV} {rd : Rd} (h : getCells s.bx s.h n p = some (cs, rd)) (hp : VO X w G ct p u) :
    cs.length = n ∧ ∃ b off us, u = .pointer (some ⟨b, off, none⟩) ∧ ReadsAs w G b off cs us := by
  unfold getCells at h
  split at h
  · rename_i b off
    split at h
    · rename_i c hb
      simp only [Option.map_eq_some_iff] at h
      obtain ⟨m, hm, he⟩ := h
      simp only [Prod.mk.injEq] at he
      obtain ⟨rfl, rfl⟩ := he
      obtain ⟨_, blk, h2, h3⟩ := R.bx b c hb
      obtain ⟨_, blk', h2', rfl⟩ := hp
      rw [h2] at h2'
      simp only [Option.some.injEq, Value.pointer.injEq, Addr.mk.injEq, and_true] at h2'
      subst h2'
      have := ReadsAs.sub (w := w) (G := G) (b := blk) (off := 0) (k := off) (n := n) (cs := c) (fun j c hj => by rw [Nat.zero_add]; exact (h3 j c hj).2) hm
      rw [Nat.zero_add] at this
      exact ⟨this.1, _, _, this.2.choose, rfl, this.2.choose_spec⟩
    · cases h
  · rename_i o off
    rw [nthR_eq] at h
    split at h
    · rename_i c hb
      simp only [Option.map_eq_some_iff] at h
      obtain ⟨m, hm, he⟩ := h
      simp only [Prod.mk.injEq] at he
      obtain ⟨rfl, rfl⟩ := he
      obtain ⟨r, hr, h3⟩ := R.obj o _ hb
      have hp' : VR w G (.ptr o off) u := hp
      cases hp' with
      | ptr hr' =>
        rw [hr] at hr'
        obtain rfl := Option.some.inj hr'
        obtain ⟨_, _, h5⟩ := h3
        have := ReadsAs.sub (k := off) (n := n) h5 hm
        exact ⟨this.1, _, _, this.2.choose, rfl, this.2.choose_spec⟩
    · rename_i c hb
      simp only [Option.map_eq_some_iff] at h
      obtain ⟨m, hm, he⟩ := h
      simp only [Prod.mk.injEq] at he
      obtain ⟨rfl, rfl⟩ := he
      obtain ⟨r, hr, h3⟩ := R.obj o _ hb
      have hp' : VR w G (.ptr o off) u := hp
      cases hp' with
      | ptr hr' =>
        rw [hr] at hr'
        obtain rfl := Option.some.inj hr'
        obtain ⟨hle, rfl⟩ := takeN_some hm
        rw [dropR_eq] at hle
        refine ⟨by rw [mapR_eq, dropR_eq]; simp at hle ⊢; omega, _, _, _, rfl, (readsAs_of fun j c hj => ?_).choose_spec⟩
        rw [mapR_eq, dropR_eq, List.getElem?_map, List.getElem?_take] at hj
        split at hj
        · rw [List.getElem?_drop] at hj
          simp only [Option.map_eq_some_iff] at hj
          obtain ⟨c', hc', rfl⟩ := hj
          obtain ⟨_, v, a, b, d⟩ := h3 _ _ hc'
          exact ⟨v, by rw [Nat.add_assoc]; exact a, b, .im d⟩
        · simp at hj
    · cases h
  · rename_i c
    simp only [Option.map_eq_some_iff] at h
    obtain ⟨m, hm, he⟩ := h
    simp only [Prod.mk.injEq] at he
    obtain ⟨rfl, rfl⟩ := he
    have hp' : VR w G (.im (.ip c)) u := hp
    cases hp' with
    | im h => cases h with
      | ip f hf hv =>
        obtain ⟨hle, rfl⟩ := takeN_some hm
        refine ⟨by rw [mapR_eq]; simp at hle ⊢; omega, _, _, _, rfl, (readsAs_of fun j c hj => ?_).choose_spec⟩
        rw [mapR_eq, List.getElem?_map, List.getElem?_take] at hj
        split at hj
        · simp only [Option.map_eq_some_iff] at hj
          obtain ⟨c', hc', rfl⟩ := hj
          obtain ⟨_, a, b⟩ := hf _ _ hc'
          exact ⟨_, a, b, .im (hv _ _ hc')⟩
        · simp at hj
  · cases h

theorem ok_ld {t : TypeId} {n : Nat} {ag : Bool} {p : AV} {u : Value} {r : Res} (ha : IsAgg X.P t ag) (hs : SizeIs X.P t n ∨ ag = false ∧ n = 1) (h : oLd n ag p s.bx s.h = some r) (hp : VO X w G ct p u) :
    OpOk X w G s ct ((do pure (Next.value (← Instr.loadAt t u)) : Sem Next).run X.P w) r := by
  unfold oLd at h
  split at h
  · rename_i cs rd hc
    obtain ⟨hn, b, off, us, rfl, hr⟩ := cells_spec R hc hp
    split at h
    · rename_i v hv
      simp only [Option.some.injEq] at h
      subst h
      obtain ⟨d, hd, hag⟩ := ha
      have hrun : ∀ w, (isAgg t).run X.P w = .ok ag w := fun w => by
        unfold isAgg
        simp only [Sem.run_bind, run_underlying hd, Result.andThen]
        subst hag
        cases d <;> rfl
      rcases ofCells_vr hr hv with ⟨rfl, hvr⟩ | ⟨rfl, u, rfl, hvr⟩
      · refine .pure R (u := .agg us.toArray) (ex_val ?_) rfl (.of_vr hvr)
        rcases hs with ⟨i, hi, hsz⟩ | ⟨h, _⟩
        · have hl : ∀ j v, us[j]? = some v → w.cell? ((⟨b, off, none⟩ : Addr).add j) = some v := fun j v hj => by
            rw [Addr.add_lit]
            have hlt : j < cs.length := by rw [hr.1]; exact (List.getElem?_eq_some_iff.1 hj).1
            exact (hr.2 j _ v (List.getElem?_eq_getElem hlt) hj).1
          have hlen : us.length = i.size := by rw [hsz, ← hr.1, hn]
          have hload := run_loadCells_list (P := X.P) (w := w) ⟨b, off, none⟩ us hl
          simp only [Instr.loadAt, Instr.sureAddr, loadVar, Sem.run_bind, Sem.run_pure, Result.andThen, hrun, if_true, sizeOf, typeInfo, program, Sem.run, hi, ← hlen, hload]
        · cases h
      · refine .pure R (u := u) (ex_val ?_) rfl (.of_vr hvr)
        have hcell := (hr.2 0 _ u (List.getElem?_eq_getElem (by rw [hr.1]; simp)) rfl).1
        simp only [Nat.add_zero] at hcell
        simp only [Instr.loadAt, Instr.sureAddr, loadVar, Sem.run_bind, Sem.run_pure, Result.andThen, hrun, Bool.false_eq_true, if_false, run_load]
        rw [show w.cell? ⟨b, off, none⟩ = some u from hcell]
    · cases h
  · cases h
end

end Go.Em
namespace Go.Em
open Go

theorem asInt_eq {v : AV} {i : Int} (h : asInt v = some i) : ∃ k, v = .im (.sc (.int k i)) := by
  unfold asInt at h
  split at h
  · simp only [Option.some.injEq] at h; subst h; exact ⟨_, rfl⟩
  · cases h

theorem VO.int {X : Cx} {w : World} {G : Gh} {ct : Array Value} {v : AV} {u : Value} {i : Int} (h : VO X w G ct v u) (hv : asInt v = some i) : ∃ k, u = .int k i := by
  obtain ⟨k, rfl⟩ := asInt_eq hv
  exact ⟨k, (VO.sc h).1⟩

theorem lenIs_len {α : Type} {n : Nat} {l : List α} (h : lenIs n l = true) : l.length = n := by
  rw [lenIs_eq] at h; simpa using h

section
variable {X : Cx} {w : World} {G : Gh} {s : St} {ct : Array Value} (R : Rel X w G s ct)
include R

theorem ok_nilc {a : AV} {u : Value} {r : Res} {o : Oper} {x : Operand} (ho : o.op = .nilCheck x) (hx : opVal ct x = u) (h : oNilc a = some r) (ha : VO X w G ct a u) :
    OpOk X w G s ct ((execOp (opVal ct) o).run X.P w) r := by
  unfold oNilc at h
  split at h
  · rw [ok_eq h]
    obtain ⟨h1, blk, h2, rfl⟩ := ha
    refine .pure R (u := .pointer (some ⟨blk, _, none⟩)) ?_ rfl ⟨h1, blk, h2, rfl⟩
    simp [execOp, ho, hx]
  · rw [ok_eq h]
    have ha' : VR w G _ u := ha
    cases ha' with
    | ptr hr => exact .pure R (by simp [execOp, ho, hx]) rfl (VR.ptr hr)
  · rw [ok_eq h]
    have ha' : VR w G _ u := ha
    cases ha' with
    | im hv => cases hv with
      | ip f hf hv => exact .pure R (by simp [execOp, ho, hx]) rfl (VR.im (.ip f hf hv))
  · rw [ok_eq h]
    have ha' : VR w G _ u := ha
    cases ha' with
    | fn h1 h2 h3 h4 => exact .pure R (by simp [execOp, ho, hx]) rfl (VR.fn h1 h2 h3 h4)
  · rw [ok_eq h]
    have ha' : VR w G _ u := ha
    cases ha' with
    | im hv => cases hv with
      | fn h1 h2 h3 h4 => exact .pure R (by simp [execOp, ho, hx]) rfl (VR.im (.fn h1 h2 h3 h4))
  · rw [ok_eq h]
    have ha' : VR w G _ u := ha
    cases ha' with
    | yld hr => exact .pure R (by simp [execOp, ho, hx]) rfl (VR.yld hr)
  · cases h

omit R in
theorem elem_ip {b off sz i : Nat} {f : Nat → Value} {es : List IV} {e : IV} (he : es[i]? = some e)
    (hf : ∀ (i : Nat) (e : IV) (j : Nat) (c : IV), es[i]? = some e → e.cells[j]? = some c → G.tag b (off + (i * sz + j)) = .frozen ∧ cellAt w b (off + (i * sz + j)) = some (f (i * sz + j)) ∧ (f (i * sz + j)).oneCell' = true)
    (hv : ∀ (i : Nat) (e : IV) (j : Nat) (c : IV), es[i]? = some e → e.cells[j]? = some c → VRI w G.tag c (f (i * sz + j))) :
    VRI w G.tag (.ip e.cells) (.pointer (some ⟨b, off + i * sz, none⟩)) :=
  .ip (fun j => f (i * sz + j)) (fun j c hj => by rw [Nat.add_assoc]; exact hf i e j c he hj) (fun j c hj => hv i e j c he hj)

theorem ok_idxS {t e : TypeId} {sz : Nat} {a i : AV} {u v : Value} {r : Res} (hu : X.P.underlying t = some (.slice e)) (he : SizeIs X.P e sz) (h : oIdxA sz none a i = some r) (ha : VO X w G ct a u) (hi : VO X w G ct i v) :
    OpOk X w G s ct ((do pure (Next.value (← Instr.indexAt t u v)) : Sem Next).run X.P w) r := by
  obtain ⟨inf, hinf, hsz⟩ := he
  unfold oIdxA at h
  split at h
  · rename_i n hn
    obtain ⟨k, rfl⟩ := hi.int hn
    unfold idxAOf at h
    split at h
    · rename_i n m
      have key : ∀ b off len cap, m < len → (Instr.indexAt t (.slice (some ⟨b, off, none⟩) len cap) (.int k (.ofNat m))).run X.P w = .ok (.pointer (some ⟨b, off + m * sz, none⟩)) w := by
        intro b off len cap hlt
        have h1 : (0 : Int) ≤ Int.ofNat m ∧ Int.ofNat m < (len : Int) := ⟨by simp, by simpa using hlt⟩
        simp [Instr.indexAt, Go.asIntOf, run_underlying hu, sizeOf, typeInfo, hinf, hsz, hlt, Addr.add_lit]
      simp only [] at h
      unfold idxSl at h
      split at h
      · rename_i es _
        rw [nthR_eq] at h
        split at h
        · rename_i el hel
          unfold idxElem at h
          split at h
          · rename_i hl
            rw [ok_eq h]
            have ha' : VR w G _ u := ha
            have hlt : m < es.length := (List.getElem?_eq_some_iff.1 hel).1
            cases ha' with
            | im hv => cases hv with
              | sl f hc hk hn hz hf hv =>
                rename_i b off cap sz'
                have : sz' = sz := by rw [← hz el (List.mem_of_getElem? hel)]; exact lenIs_len hl
                subst this
                exact .pure R (ex_val (key _ _ _ _ hlt)) rfl (VR.im (elem_ip hel hf hv))
              | sl0 => simp at hel
              | slN => simp at hel
          · cases h
        · cases h
      · rename_i es _
        rw [nthR_eq] at h
        split at h
        · rename_i el hel
          unfold idxElem at h
          split at h
          · rename_i hl
            rw [ok_eq h]
            have ha' : VR w G _ u := ha
            have hlt : m < es.length := (List.getElem?_eq_some_iff.1 hel).1
            cases ha' with
            | own f hr hlo hn hc hz hf hv =>
              rename_i off cap sz' r'
              have : sz' = sz := by rw [← hz el (List.mem_of_getElem? hel)]; exact lenIs_len hl
              subst this
              exact .pure R (ex_val (key _ _ _ _ hlt)) rfl (VR.im (elem_ip hel hf hv))
          · cases h
        · cases h
      · rename_i o off len s'
        split at h
        · rename_i hb
          rw [Bool.and_eq_true, Nat.blt_eq] at hb
          have := Nat.eq_of_beq_eq_true hb.1
          subst this
          rw [ok_eq h]
          have ha' : VR w G _ u := ha
          cases ha' with
          | row hr hc hn =>
            refine .pure R (ex_val (key _ _ _ _ hb.2)) rfl ?_
            have := VR.ptr (w := w) (G := G) (o := o) (off := off + m * s') hr
            rw [← Nat.add_assoc] at this
            exact this
        · cases h
      · cases h
    · cases h
  · cases h

theorem ok_idxA {t e : TypeId} {n sz : Nat} {a i : AV} {u v : Value} {r : Res} (hu : X.P.underlying t = some (.array n e)) (he : SizeIs X.P e sz) (h : oIdxA sz (some n) a i = some r) (ha : VO X w G ct a u) (hi : VO X w G ct i v) :
    OpOk X w G s ct ((do pure (Next.value (← Instr.indexAt t u v)) : Sem Next).run X.P w) r := by
  obtain ⟨inf, hinf, hsz⟩ := he
  unfold oIdxA at h
  split at h
  · rename_i m hm
    obtain ⟨k, rfl⟩ := hi.int hm
    unfold idxAOf at h
    split at h
    · rename_i _ m
      simp only [] at h
      unfold idxArr at h
      split at h
      · rename_i hlt
        rw [Nat.blt_eq] at hlt
        have key : ∀ b off, (Instr.indexAt t (.pointer (some ⟨b, off, none⟩)) (.int k (.ofNat m))).run X.P w = .ok (.pointer (some ⟨b, off + m * sz, none⟩)) w := by
          intro b off
          simp [Instr.indexAt, Go.asIntOf, run_underlying hu, sizeOf, typeInfo, hinf, hsz, hlt, Addr.add_lit, Instr.sureAddr]
        split at h
        · rw [ok_eq h]
          obtain ⟨h1, blk, h2, rfl⟩ := ha
          exact .pure R (ex_val (key _ _)) rfl ⟨h1, blk, h2, rfl⟩
        · rename_i o off
          rw [ok_eq h]
          have ha' : VR w G _ u := ha
          cases ha' with
          | ptr hr =>
            refine .pure R (ex_val (key _ _)) rfl ?_
            have := VR.ptr (w := w) (G := G) (o := o) (off := off + m * sz) hr
            rw [← Nat.add_assoc] at this
            exact this
        · split at h
          · rename_i cs hle
            rw [ok_eq h]
            have ha' : VR w G _ u := ha
            cases ha' with
            | im hv => cases hv with
              | ip g hf hv =>
                refine .pure R (ex_val (key _ _)) rfl (VR.im (.ip (fun j => g (m * sz + j)) (fun j c hj => ?_) (fun j c hj => ?_)))
                · rw [dropR_eq, List.getElem?_drop] at hj
                  rw [Nat.add_assoc]
                  exact hf _ _ hj
                · rw [dropR_eq, List.getElem?_drop] at hj
                  exact hv _ _ hj
          · cases h
        · cases h
      · cases h
    · cases h
  · cases h

theorem ok_len {t e : TypeId} {k : LK} {a : AV} {u : Value} {r : Res} (hu : match k with | .str => X.P.underlying e = some .string | .sl => ∃ s, X.P.underlying e = some (.slice s) | .mp => ∃ k v, X.P.underlying e = some (.map k v))
    (h : oLen k a s.h = some r) (ha : VO X w G ct a u) : OpOk X w G s ct ((do pure (Next.value (← Builtin.len_ #[e] t #[u])) : Sem Next).run X.P w) r := by
  have key : ∀ n : Int, (Builtin.len_ #[e] t #[u]).run X.P w = .ok (.int .i64 n) w → OpOk X w G s ct ((do pure (Next.value (← Builtin.len_ #[e] t #[u])) : Sem Next).run X.P w) { v := .im (.sc (.int .i64 n)) } :=
    fun n hn => ok_scalar R hn rfl
  unfold oLen at h
  split at h
  · obtain ⟨es', hd⟩ := hu
    split at h
    · rw [ok_eq h]
      have ha' : VR w G _ u := ha
      cases ha' with
      | im hv =>
        refine key _ ?_
        rw [lenR_eq]
        cases hv <;> simp [Builtin.len_, run_underlying hd, goInt]
    · rw [ok_eq h]
      have ha' : VR w G _ u := ha
      cases ha' with
      | own =>
        refine key _ ?_
        rw [lenR_eq]
        simp [Builtin.len_, run_underlying hd, goInt]
    · rw [ok_eq h]
      have ha' : VR w G _ u := ha
      cases ha' with
      | row => exact key _ (by simp [Builtin.len_, run_underlying hd, goInt])
    · cases h
  · have hd : X.P.underlying e = some .string := hu
    split at h
    · rw [ok_eq h]
      obtain ⟨rfl, _⟩ := VO.sc ha
      exact key _ (by simp [Builtin.len_, run_underlying hd, goInt])
    · cases h
  · obtain ⟨kt, vt, hd⟩ := hu
    split at h
    · rename_i o
      rw [nthR_eq] at h
      split at h
      · rename_i ks vs ho
        simp only [Option.some.injEq] at h
        subst h
        have ha' : VR w G _ u := ha
        cases ha' with
        | mp hr =>
          obtain ⟨r', hr', hobj⟩ := R.obj o _ ho
          rw [hr] at hr'
          obtain rfl := Option.some.inj hr'
          obtain ⟨_, es, clock, hw, hks, hl, _⟩ := hobj
          refine .pure R (u := .int .i64 es.length) (ex_val ?_) rfl ?_
          · simp [Builtin.len_, run_underlying hd, goInt, Go.getObj, Sem.run, hw]
          · rw [lenR_eq, ← hks, List.length_map]
            exact VO.ofSc rfl
      · cases h
    · cases h
end

end Go.Em
namespace Go.Em
open Go

theorem VRI.notAgg {w : World} {t : Nat → Nat → Tag} {v : IV} {u : Value} (h : VRI w t v u) (hv : ∀ cs, v ≠ .agg cs) : u.cells = #[u] ∧ u.oneCell' = true := by
  cases h with
  | sc h => exact ⟨(by cases u <;> first | rfl | (cases h; done)), scalar_one h⟩
  | agg => exact absurd rfl (hv _)
  | _ => exact ⟨rfl, rfl⟩

theorem VR.cells {w : World} {G : Gh} {v : AV} {u : Value} (h : VR w G v u) (hv : v ≠ .any) (ht : ∀ l, v ≠ .tup l) : v.cells.length = u.cells.toList.length ∧ ∀ (j : Nat) (c : AV) (x : Value), v.cells[j]? = some c → u.cells.toList[j]? = some x → VR w G c x := by
  have one : ∀ v u, VR w G v u → v.cells = [v] → u.cells = #[u] → v.cells.length = u.cells.toList.length ∧ ∀ (j : Nat) (c : AV) (x : Value), v.cells[j]? = some c → u.cells.toList[j]? = some x → VR w G c x := by
    intro v u h h1 h2
    rw [h1, h2]
    refine ⟨rfl, fun j c x hc hx => ?_⟩
    cases j with
    | zero => simp at hc hx; subst hc; subst hx; exact h
    | succ j => simp at hc
  cases h with
  | im h =>
    rename_i v
    by_cases ha : ∃ cs, v = .agg cs
    · obtain ⟨cs, rfl⟩ := ha
      cases h with
      | agg hl hi h1 =>
        refine ⟨by simp [AV.cells, mapR_eq, Value.cells, hl], fun j c x hc hx => ?_⟩
        simp only [AV.cells, mapR_eq, List.getElem?_map, Option.map_eq_some_iff] at hc
        obtain ⟨c', hc', rfl⟩ := hc
        exact .im (hi j c' x hc' (by simpa [Value.cells] using hx))
    · have hn : ∀ cs, v ≠ .agg cs := fun cs e => ha ⟨cs, e⟩
      refine one _ _ (.im h) ?_ (h.notAgg hn).1
      cases v <;> first | rfl | exact absurd rfl (hn _)
  | any => exact absurd rfl hv
  | tup => exact absurd rfl (ht _)
  | agg hl hi h1 => exact ⟨by simp [AV.cells, Value.cells, hl], fun j c x hc hx => hi j c x hc (by simpa [Value.cells] using hx)⟩
  | ptr h => exact one _ _ (.ptr h) rfl rfl
  | mp h => exact one _ _ (.mp h) rfl rfl
  | row h h1 h2 => exact one _ _ (.row h h1 h2) rfl rfl
  | own f h h1 h2 h3 h4 h5 h6 => exact one _ _ (.own f h h1 h2 h3 h4 h5 h6) rfl rfl
  | fn h1 h2 h3 h4 => exact one _ _ (.fn h1 h2 h3 h4) rfl rfl
  | ifc h => exact one _ _ (.ifc h) rfl rfl
  | yld h => exact one _ _ (.yld h) rfl rfl

theorem VR.one {w : World} {G : Gh} {v : AV} {u : Value} (h : VR w G v u) (hv : v.cellOk = true) : u.oneCell' = true := by
  cases h with
  | im h =>
    rename_i v
    exact (h.notAgg (fun cs e => by subst e; cases hv)).2
  | any => cases hv
  | agg => cases hv
  | tup => cases hv
  | _ => rfl

theorem cellOk_all {l : List AV} (h : allR AV.cellOk l = true) : ∀ (j : Nat) (c : AV), l[j]? = some c → c.cellOk = true := by
  rw [allR_eq, List.all_eq_true] at h
  exact fun j c hj => h c (List.mem_of_getElem? hj)

/-- The cells of a value that may lie in memory. -/
theorem VO.cells {X : Cx} {w : World} {G : Gh} {ct : Array Value} {v : AV} {u : Value} (h : VO X w G ct v u) (hc : allR AV.cellOk v.cells = true) :
    v.cells.length = u.cells.toList.length ∧ ∀ (j : Nat) (c : AV) (x : Value), v.cells[j]? = some c → u.cells.toList[j]? = some x → x.oneCell' = true ∧ VR w G c x := by
  have h1 : v.isLp' = false := by
    cases v <;> first | rfl | (exfalso; simp [AV.cells, allR_eq, AV.cellOk] at hc)
  have h2 : v ≠ .any := by rintro rfl; simp [AV.cells, allR_eq, AV.cellOk] at hc
  have h3 : ∀ l, v ≠ .tup l := by rintro l rfl; simp [AV.cells, allR_eq, AV.cellOk] at hc
  obtain ⟨a, b⟩ := (h.vr h1).cells h2 h3
  exact ⟨a, fun j c x hj hx => ⟨(b j c x hj hx).one (cellOk_all hc j c hj), b j c x hj hx⟩⟩

/-! ### A new block -/
def tagNew (w : World) (G : Gh) (T : Tag) (reg : List Reg) : Gh := ⟨fun b k => if b = w.heap.size then T else G.tag b k, reg⟩

theorem heap_alloc_lt (w : World) (o : Obj) {b : Nat} (h : b < w.heap.size) : (w.alloc o).heap[b]? = w.heap[b]? := by
  simp only [World.alloc]
  rw [Array.getElem?_push]
  rw [if_neg (by omega)]

theorem heap_alloc_at (w : World) (o : Obj) : (w.alloc o).heap[w.heap.size]? = some o := by
  simp only [World.alloc]
  simp

theorem size_alloc (w : World) (o : Obj) : (w.alloc o).heap.size = w.heap.size + 1 := by
  simp only [World.alloc]
  simp

theorem grow_alloc (w : World) (G : Gh) (o : Obj) (T : Tag) (reg : List Reg) (hreg : ∀ (o : Nat) (r : Reg), G.reg[o]? = some r → reg[o]? = some r) : Grow w G (w.alloc o) (tagNew w G T reg) where
  size := by rw [size_alloc]; omega
  heap b h := heap_alloc_lt w o h
  tag b k h := by simp only [tagNew]; rw [if_neg (by omega)]
  reg := hreg
  os := rfl
  tape := rfl
  output := rfl

theorem cellAt_new (w : World) (c : Array Value) (e : TypeId) (k : Nat) : cellAt (w.alloc (.cells c e)) w.heap.size k = c[k]? := by
  unfold cellAt World.cell?
  simp only [heap_alloc_at]
  simp

theorem frozen_new (w : World) (c : Array Value) (e : TypeId) (k : Nat) : (w.alloc (.cells c e)).frozen? ⟨w.heap.size, k, none⟩ = false := by
  unfold World.frozen?
  simp only [heap_alloc_at]
  simp

theorem Rel.grow {X : Cx} {w w' : World} {G G' : Gh} {s : St} {ct : Array Value} (R : Rel X w G s ct) (g : Grow w G w' G') (hf : ∀ b k, w'.heap.size ≤ b → G'.tag b k = .free) (hu : ∀ b k, b < w'.heap.size → G'.tag b k ≠ .free)
    (hl : G'.reg.length = G.reg.length) : Rel X w' G' s ct where
  free := hf
  used := hu
  len := hl.trans R.len
  obj o x hx := by
    obtain ⟨r, h1, h2⟩ := R.obj o x hx
    exact ⟨r, g.reg o r h1, g.objR R.free h2⟩
  tm t := (g.kp R.free).toExt.vt (R.tm t)
  tb := R.tb
  bx b cs h := ⟨(R.bx b cs h).1, g.bxR R.free (R.bx b cs h).2⟩
  size := R.size

theorem tagNew_free {w : World} {G : Gh} (hf : ∀ b k, w.heap.size ≤ b → G.tag b k = .free) (T : Tag) (reg : List Reg) (o : Obj) : ∀ b k, (w.alloc o).heap.size ≤ b → (tagNew w G T reg).tag b k = .free := by
  intro b k h
  rw [size_alloc] at h
  simp only [tagNew]
  rw [if_neg (by omega)]
  exact hf b k (by omega)

theorem tagNew_used {w : World} {G : Gh} (hu : ∀ b k, b < w.heap.size → G.tag b k ≠ .free) {T : Tag} (hT : T ≠ .free) (reg : List Reg) (o : Obj) : ∀ b k, b < (w.alloc o).heap.size → (tagNew w G T reg).tag b k ≠ .free := by
  intro b k h
  rw [size_alloc] at h
  simp only [tagNew]
  split
  · exact hT
  · exact hu b k (by omega)

section
variable {X : Cx} {w : World} {G : Gh} {s : St} {ct : Array Value} (R : Rel X w G s ct)
include R

/-- A new block of nobody's. -/
theorem Rel.allocFrozen (o : Obj) : Kp w G (w.alloc o) (tagNew w G .frozen G.reg) ∧ Rel X (w.alloc o) (tagNew w G .frozen G.reg) s ct :=
  ⟨(grow_alloc w G o .frozen G.reg (fun _ _ h => h)).kp R.free, R.grow (grow_alloc w G o .frozen G.reg (fun _ _ h => h)) (tagNew_free R.free _ _ o) (tagNew_used R.used (by simp) _ o) rfl⟩

/-- A new object of the heap. -/
theorem Rel.allocObj (o : Obj) (x : HObj) (n : Nat)
    (hx : ObjR X.P (w.alloc o) (tagNew w G (.obj s.h.length) (G.reg ++ [⟨w.heap.size, 0, n⟩])) s.h.length ⟨w.heap.size, 0, n⟩ x) :
    Kp w G (w.alloc o) (tagNew w G (.obj s.h.length) (G.reg ++ [⟨w.heap.size, 0, n⟩])) ∧
      Rel X (w.alloc o) (tagNew w G (.obj s.h.length) (G.reg ++ [⟨w.heap.size, 0, n⟩])) { s with h := s.h ++ [x] } ct := by
  have hreg : ∀ (o : Nat) (r : Reg), G.reg[o]? = some r → (G.reg ++ [⟨w.heap.size, 0, n⟩])[o]? = some r := fun o r h => by
    rw [List.getElem?_append_left (List.getElem?_eq_some_iff.1 h).1]; exact h
  have g := grow_alloc w G o (.obj s.h.length) _ hreg
  refine ⟨g.kp R.free, ?_⟩
  refine { free := tagNew_free R.free _ _ o, used := tagNew_used R.used (by simp) _ o, len := ?_, obj := fun p y hy => ?_, tm := fun t => (g.kp R.free).toExt.vt (R.tm t), tb := R.tb, bx := fun b cs h => ⟨(R.bx b cs h).1, g.bxR R.free (R.bx b cs h).2⟩, size := R.size }
  · simp [tagNew, R.len]
  · rcases Nat.lt_trichotomy p s.h.length with hlt | heq | hgt
    · simp only at hy
      rw [List.getElem?_append_left hlt] at hy
      obtain ⟨r, h1, h2⟩ := R.obj p y hy
      exact ⟨r, hreg p r h1, g.objR R.free h2⟩
    · subst heq
      simp at hy
      subst hy
      exact ⟨⟨w.heap.size, 0, n⟩, by simp [tagNew, ← R.len], hx⟩
    · simp only at hy
      rw [List.getElem?_eq_none (by simp; omega)] at hy
      cases hy
end

/-- Cells laid in a new block as an object's. -/
theorem objCells {X : Cx} {w : World} {G : Gh} {c : Array Value} {e : TypeId} {cs : List AV} {o : Nat} {reg : List Reg} {T : Tag} (hT : T = .obj o) (hl : cs.length = c.size) (hreg : ∀ (o : Nat) (r : Reg), G.reg[o]? = some r → reg[o]? = some r)
    (hf : ∀ b k, w.heap.size ≤ b → G.tag b k = .free)
    (h : ∀ (j : Nat) (a : AV) (u : Value), cs[j]? = some a → c.toList[j]? = some u → u.oneCell' = true ∧ VR w G a u) :
    ObjR X.P (w.alloc (.cells c e)) (tagNew w G T reg) o ⟨w.heap.size, 0, c.size⟩ (.cells cs) := by
  subst hT
  have g := grow_alloc w G (.cells c e) (.obj o) reg hreg
  refine ⟨Nat.le_of_eq hl, fun j hj => ⟨by simp [tagNew], ?_, c[j], ?_⟩, fun j a ha => ?_⟩
  · exact frozen_new w c e _
  · show cellAt _ w.heap.size (0 + j) = _
    rw [cellAt_new, Nat.zero_add]; exact Array.getElem?_eq_getElem hj
  · have hj : j < c.size := by rw [← hl]; exact (List.getElem?_eq_some_iff.1 ha).1
    obtain ⟨h1, h2⟩ := h j a c[j] ha (by simp [hj])
    refine ⟨c[j], ?_, h1, (g.kp hf).toExt.vr h2⟩
    show cellAt _ w.heap.size (0 + j) = _
    rw [cellAt_new, Nat.zero_add]; exact Array.getElem?_eq_getElem hj

theorem zero_cells {P : Program} {t : TypeId} {z : List AV} (h : ZeroOk P t z) : ∃ (i : TypeInfo) (v : Value), P.info? t = some i ∧ i.zero = some v ∧ i.size = z.length ∧ v.cells.toList.length = z.length ∧
    ∀ (w : World) (G : Gh) (j : Nat) (c : AV) (u : Value), z[j]? = some c → v.cells.toList[j]? = some u → u.oneCell' = true ∧ VR w G c u ∧ c.cellOk = true := by
  obtain ⟨i, v, h1, h2, h3, h4, h5⟩ := h
  refine ⟨i, v, h1, h2, h3, h4, fun w G j c u hc hu => ?_⟩
  rcases h5 j c u hc hu with ⟨hs, rfl⟩ | ⟨rfl, k, hk, rfl⟩
  · exact ⟨scalar_one hs, .im (.sc hs), rfl⟩
  · exact ⟨rfl, .im (.slN hk), rfl⟩

section
variable {X : Cx} {w : World} {G : Gh} {s : St} {ct : Array Value} (R : Rel X w G s ct)
include R

theorem ok_newObj {c : Array Value} {e : TypeId} {cs : List AV} {run : Result Next} (hl : cs.length = c.size) (h : ∀ (j : Nat) (a : AV) (u : Value), cs[j]? = some a → c.toList[j]? = some u → u.oneCell' = true ∧ VR w G a u)
    (hr : run = .ok (.value (.pointer (some ⟨w.heap.size, 0, none⟩))) (w.alloc (.cells c e))) : OpOk X w G s ct run { v := .ptr (lenR s.h) 0, up := .alloc (.cells cs) } := by
  have hreg : ∀ (o : Nat) (r : Reg), G.reg[o]? = some r → (G.reg ++ [(⟨w.heap.size, 0, c.size⟩ : Reg)])[o]? = some r := fun o r h => by
    rw [List.getElem?_append_left (List.getElem?_eq_some_iff.1 h).1]; exact h
  obtain ⟨k, r⟩ := R.allocObj (.cells c e) (.cells cs) c.size (objCells rfl hl hreg R.free h)
  refine ⟨_, _, _, .inl hr, k, ?_, ?_⟩
  · simp only [applyUp, appR_eq]; exact r
  · rw [lenR_eq]
    exact VR.ptr (r := ⟨w.heap.size, 0, c.size⟩) (by simp [tagNew, ← R.len])

theorem ok_alloc {e : TypeId} {z : List AV} {o : Oper} (ho : o.op = .alloc e) (hz : ZeroOk X.P e z) : OpOk X w G s ct ((execOp (opVal ct) o).run X.P w) { v := .ptr (lenR s.h) 0, up := .alloc (.cells z) } := by
  obtain ⟨i, v, h1, h2, h3, h4, h5⟩ := zero_cells hz
  refine ok_newObj R (c := v.cells) (e := e) (by simpa using h4.symm) (fun j a u ha hu => ⟨(h5 w G j a u ha hu).1, (h5 w G j a u ha hu).2.1⟩) ?_
  simp [execOp, ho, Instr.alloc, zeroValue, typeInfo, h1, h2, newVar, newRow]

theorem ok_hbox {e : TypeId} {x : Operand} {a : AV} {r : Res} {o : Oper} (ho : o.op = .box e x) (h : oHbox a s.h = some r) (ha : VO X w G ct a (opVal ct x)) : OpOk X w G s ct ((execOp (opVal ct) o).run X.P w) r := by
  unfold oHbox at h
  split at h
  · rename_i hc
    simp only [Option.some.injEq] at h
    subst h
    obtain ⟨h1, h2⟩ := ha.cells hc
    refine ok_newObj R (c := (opVal ct x).cells) (e := e) (by simpa using h1) h2 ?_
    simp [execOp, ho, Instr.box, newVar, newRow]
  · cases h

theorem ok_mkmap {m : TypeId} {o : Oper} (ho : o.op = .makeMap m none) : OpOk X w G s ct ((execOp (opVal ct) o).run X.P w) { v := .mp (lenR s.h), up := .alloc (.map [] []) } := by
  have hx : ObjR X.P (w.alloc (.map #[] 0)) (tagNew w G (.obj s.h.length) (G.reg ++ [⟨w.heap.size, 0, 0⟩])) s.h.length ⟨w.heap.size, 0, 0⟩ (.map [] []) :=
    ⟨fun k => by simp [tagNew], [], 0, heap_alloc_at w _, rfl, rfl, fun e h => by simp at h, fun i e v h => by simp at h⟩
  obtain ⟨k, r⟩ := R.allocObj (.map #[] 0) (.map [] []) 0 hx
  refine ⟨.map (some w.heap.size), _, _, .inl ?_, k, ?_, ?_⟩
  · simp [execOp, ho, Instr.makeMap, newObj, Sem.run]
  · simp only [applyUp, appR_eq]; exact r
  · rw [lenR_eq]
    exact VR.mp (r := ⟨w.heap.size, 0, 0⟩) (by simp [tagNew, ← R.len])
end

end Go.Em
namespace Go.Em
open Go

/-- Cells that read as so many values. -/
def Lay (w : World) (G : Gh) (z : List AV) (C : List Value) : Prop :=
  z.length = C.length ∧ ∀ (j : Nat) (c : AV) (u : Value), z[j]? = some c → C[j]? = some u → u.oneCell' = true ∧ VR w G c u

theorem Lay.one {w : World} {G : Gh} {z : List AV} {C : List Value} (h : Lay w G z C) : ∀ u ∈ C, u.oneCell' = true := by
  intro u hu
  obtain ⟨j, hj⟩ := List.mem_iff_getElem?.1 hu
  have hlt : j < z.length := by rw [h.1]; exact (List.getElem?_eq_some_iff.1 hj).1
  exact (h.2 j _ u (List.getElem?_eq_getElem hlt) hj).1

theorem Lay.agg {w : World} {G : Gh} {z : List AV} {D : Array Value} (h : Lay w G z D.toList) : VR w G (mkAgg z) (.agg D) := by
  have := mkAgg_vr h.1 (fun j c u a b => (h.2 j c u a b).2) h.one
  simpa using this

def setAll (off : Nat) : Nat → List Value → List Value → List Value
  | _, [], C => C
  | k, v :: vs, C => setAll off (k + 1) vs (C.set (off + k) v)

theorem setAll_eq (off : Nat) : ∀ (vs : List Value) (k : Nat) (C : List Value), off + k + vs.length ≤ C.length → setAll off k vs C = C.take (off + k) ++ vs ++ C.drop (off + k + vs.length)
  | [], k, C, _ => by simp [setAll]
  | v :: vs, k, C, h => by
    simp only [List.length_cons] at h
    rw [setAll, setAll_eq off vs (k + 1) (C.set (off + k) v) (by simp; omega)]
    have h1 : (C.set (off + k) v).take (off + (k + 1)) = C.take (off + k) ++ [v] := by
      rw [← Nat.add_assoc, List.take_set, List.take_add_one, List.set_append_right (h := by rw [List.length_take]; exact Nat.min_le_left _ _)]
      simp
      have : (C.take (off + k)).length = off + k := by simp; omega
      cases hc : C[off + k]? with
      | none => rw [List.getElem?_eq_none_iff] at hc; omega
      | some x => rw [Nat.min_eq_left (by omega)]; simp
    have h2 : (C.set (off + k) v).drop (off + (k + 1) + vs.length) = C.drop (off + k + (v :: vs).length) := by
      rw [List.drop_set_of_lt (by omega)]
      simp only [List.length_cons]
      congr 1
      omega
    rw [h1, h2]
    simp

theorem foldl_setAll (off : Nat) : ∀ (vs : List Value) (k : Nat) (C : Array Value),
    ((vs.zipIdx k).foldl (fun cs (p : Value × Nat) => cs.setIfInBounds (off + p.2) p.1) C).toList = setAll off k vs C.toList
  | [], _, C => rfl
  | v :: vs, k, C => by
    rw [List.zipIdx_cons, List.foldl_cons, foldl_setAll off vs (k + 1)]
    simp [setAll]

theorem fold_fill (off : Nat) (vs C : Array Value) : (vs.zipIdx.foldl (fun cs (c, j) => cs.setIfInBounds (off + j) c) C).toList = setAll off 0 vs.toList C.toList := by
  rw [← foldl_setAll]
  rw [← Array.foldl_toList]
  simp

theorem splice_some {α : Type} {z vs z' : List α} {off : Nat} (h : splice z off vs = some z') : off + vs.length ≤ z.length ∧ z' = z.take off ++ vs ++ z.drop (off + vs.length) := by
  rw [splice_eq] at h
  split at h
  · rename_i hle; exact ⟨hle, (Option.some.inj h).symm⟩
  · cases h

theorem Lay.splice {w : World} {G : Gh} {z vs z' : List AV} {C us : List Value} {off : Nat} (h : Lay w G z C) (hv : Lay w G vs us) (hs : splice z off vs = some z') : off + us.length ≤ C.length ∧ Lay w G z' (C.take off ++ us ++ C.drop (off + us.length)) := by
  obtain ⟨hle, rfl⟩ := splice_some hs
  have hl1 := h.1
  have hl2 := hv.1
  refine ⟨by omega, by simp; omega, fun j c u hc hu => ?_⟩
  rw [List.append_assoc] at hc hu
  have e1 : (z.take off).length = off := by simp; omega
  have e2 : (C.take off).length = off := by simp; omega
  rcases Nat.lt_or_ge j off with hj | hj
  · rw [List.getElem?_append_left (by omega), List.getElem?_take_of_lt hj] at hc
    rw [List.getElem?_append_left (by omega), List.getElem?_take_of_lt hj] at hu
    exact h.2 j c u hc hu
  · rw [List.getElem?_append_right (by omega), e1] at hc
    rw [List.getElem?_append_right (by omega), e2] at hu
    rcases Nat.lt_or_ge (j - off) vs.length with hk | hk
    · rw [List.getElem?_append_left hk] at hc
      rw [List.getElem?_append_left (by omega)] at hu
      exact hv.2 _ c u hc hu
    · rw [List.getElem?_append_right hk, List.getElem?_drop] at hc
      rw [List.getElem?_append_right (by omega), List.getElem?_drop] at hu
      refine h.2 _ c u hc ?_
      rw [← hu]
      congr 1
      omega

theorem fillParts_cons (z : List AV) (p : Nat × Nat × AV) (l : List (Nat × Nat × AV)) : fillParts z (p :: l) = match fillPart z p with
    | some z' => fillParts z' l
    | none => none := by
  show Option.rec (motive := fun _ => Option (List AV)) none (fun z' => fillParts z' l) (fillPart z p) = _
  cases fillPart z p <;> rfl

theorem fillPart_some {z z' : List AV} {p : Nat × Nat × AV} (h : fillPart z p = some z') : p.2.2.cells.length = p.2.1 ∧ allR AV.cellOk p.2.2.cells = true ∧ Em.splice z p.1 p.2.2.cells = some z' := by
  unfold fillPart at h
  split at h
  · rename_i h1
    split at h
    · rename_i h2
      exact ⟨lenIs_len h1, h2, h⟩
    · cases h
  · cases h

theorem fillParts_len : ∀ {qs : List (Nat × Nat × AV)} {z cs : List AV}, fillParts z qs = some cs → cs.length = z.length
  | [], z, cs, h => by obtain rfl := Option.some.inj (show some z = some cs from h); rfl
  | q :: qs, z, cs, h => by
    rw [fillParts_cons] at h
    split at h
    · rename_i z' hz'
      obtain ⟨_, _, h3⟩ := fillPart_some hz'
      obtain ⟨hle, rfl⟩ := splice_some h3
      rw [fillParts_len h]
      simp
      omega
    · cases h

theorem fill_spec {X : Cx} {w : World} {G : Gh} {ct : Array Value} {place : Nat → Option (Nat × Nat)} : ∀ {qs : List (Nat × Nat × AV)} {ps : List (Nat × Value)} {z cs : List AV} {C : Array Value},
    TrList (fun p q => place p.1 = some (q.1, q.2.1) ∧ VO X w G ct q.2.2 p.2) ps qs → Lay w G z C.toList → fillParts z qs = some cs → ∃ D : Array Value, Instr.fill place C ps = some D ∧ Lay w G cs D.toList := by
  intro qs ps z cs C h
  induction h generalizing z C with
  | nil =>
    intro hz hf
    obtain rfl := Option.some.inj (show some z = some cs from hf)
    exact ⟨C, rfl, hz⟩
  | cons h t ih =>
    rename_i p q ps qs
    intro hz hf
    rw [fillParts_cons] at hf
    split at hf
    · rename_i z' hz'
      obtain ⟨h1, h2, h3⟩ := fillPart_some hz'
      obtain ⟨hc1, hc2⟩ := h.2.cells h2
      have hlay : Lay w G q.2.2.cells p.2.cells.toList := ⟨hc1, hc2⟩
      obtain ⟨g1, g2⟩ := hz.splice hlay h3
      have hsz : p.2.cells.size = q.2.1 := by rw [← h1, hc1]; simp
      have heq : (p.2.cells.zipIdx.foldl (fun cs (c, j) => cs.setIfInBounds (q.1 + j) c) C).toList = C.toList.take q.1 ++ p.2.cells.toList ++ C.toList.drop (q.1 + p.2.cells.toList.length) := by
        rw [fold_fill, setAll_eq q.1 p.2.cells.toList 0 C.toList (by simpa using g1)]
        simp
      obtain ⟨D, hD, hL⟩ := ih (z := z') (C := p.2.cells.zipIdx.foldl (fun cs (c, j) => cs.setIfInBounds (q.1 + j) c) C) (by rw [heq]; exact g2) hf
      refine ⟨D, ?_, hL⟩
      simp only [Instr.fill, h.1]
      rw [if_neg]
      · exact hD
      · simp only [ne_eq, Bool.or_eq_true, decide_eq_true_eq]
        have : q.1 + p.2.cells.size ≤ C.size := by simpa using g1
        omega
    · cases hf

theorem mapM_places {P : Program} : ∀ (fs : List Field), (∀ f ∈ fs, ∃ n, SizeIs P f.type n) → ∃ places, fs.mapM (fun f => (P.info? f.type).map fun i => (f.offset, i.size)) = some places ∧
    ∀ (i : Nat) (f : Field) (n : Nat), fs[i]? = some f → SizeIs P f.type n → places[i]? = some (f.offset, n)
  | [], _ => ⟨[], rfl, fun i f n h => by simp at h⟩
  | f :: fs, h => by
    obtain ⟨pl, h1, h2⟩ := mapM_places fs (fun f hf => h f (List.mem_cons_of_mem _ hf))
    obtain ⟨n, i, hi, hn⟩ := h f List.mem_cons_self
    refine ⟨(f.offset, i.size) :: pl, by simp [List.mapM_cons, hi, h1], fun k g m hg hs => ?_⟩
    cases k with
    | zero =>
      simp at hg; subst hg
      obtain ⟨i', hi', hm⟩ := hs
      rw [hi] at hi'
      obtain rfl := Option.some.inj hi'
      simp [hm]
    | succ k => exact h2 k g m (by simpa using hg) hs

theorem evParts_tr {X : Cx} {w : World} {G : Gh} {s : St} {ct : Array Value} (R : Rel X w G s ct) {place : Nat → Option (Nat × Nat)} {ps : List (Nat × Operand)} {qs : List (Nat × Nat × Opd)}
    (h : TrList (fun p q => place p.1 = some (q.1, q.2.1) ∧ TrOpd X p.2 q.2.2) ps qs) :
    TrList (fun p q => place p.1 = some (q.1, q.2.1) ∧ VO X w G ct q.2.2 p.2) (ps.map fun p => (p.1, opVal ct p.2)) (evParts s.tm s.bx qs) := by
  unfold evParts
  rw [mapR_eq]
  induction h with
  | nil => exact .nil
  | cons h _ ih => exact .cons ⟨h.1, R.opd h.2⟩ ih

theorem TrList.imp {α β : Type} {R S : α → β → Prop} (f : ∀ a b, R a b → S a b) {l : List α} {m : List β} (h : TrList R l m) : TrList S l m := by
  induction h with
  | nil => exact .nil
  | cons h _ ih => exact .cons (f _ _ h) ih

section
variable {X : Cx} {w : World} {G : Gh} {s : St} {ct : Array Value} (R : Rel X w G s ct)
include R

theorem ok_buildS {t : TypeId} {fs : Array Field} {ps : Array (Nat × Operand)} {z : List AV} {qs : List (Nat × Nat × Opd)} {r : Res} (hu : X.P.underlying t = some (.struct fs)) (hz : ZeroOk X.P t z)
    (hs : ∀ f ∈ fs.toList, ∃ n, SizeIs X.P f.type n) (h : TrList (fun p q => (∃ f, fs[p.1]? = some f ∧ q.1 = f.offset ∧ SizeIs X.P f.type q.2.1) ∧ TrOpd X p.2 q.2.2) ps.toList qs)
    (hr : oBuild z (evParts s.tm s.bx qs) = some r) : OpOk X w G s ct ((do pure (Next.value (← Instr.build t (ps.map fun (i, x) => (i, opVal ct x)))) : Sem Next).run X.P w) r := by
  unfold oBuild at hr
  split at hr
  · rename_i cs hcs
    rw [ok_eq hr]
    obtain ⟨i, v, h1, h2, h3, h4, h5⟩ := zero_cells hz
    obtain ⟨places, hp1, hp2⟩ := mapM_places (P := X.P) fs.toList hs
    have htr := evParts_tr R (place := fun k => places.toArray[k]?) (TrList.imp (fun p q ⟨⟨f, ha, hb, hc⟩, hd⟩ => ⟨by rw [hb]; simpa using hp2 p.1 f q.2.1 (by simpa using ha) hc, hd⟩) h)
    obtain ⟨D, hD, hL⟩ := fill_spec htr (C := v.cells) ⟨h4.symm, fun j c u hc hu => ⟨(h5 w G j c u hc hu).1, (h5 w G j c u hc hu).2.1⟩⟩ hcs
    refine .pure R (u := .agg D) (ex_val (run_build w t _ D ?_)) rfl (.of_vr hL.agg)
    · unfold Program.built
      simp only [h1, hu, h2, hp1]
      rw [← hD, Array.toList_map]
  · cases hr

theorem ok_buildA {t e : TypeId} {n sz : Nat} {ps : Array (Nat × Operand)} {z : List AV} {qs : List (Nat × Nat × Opd)} {r : Res} (hu : X.P.underlying t = some (.array n e)) (hz : ZeroOk X.P t z) (he : SizeIs X.P e sz)
    (h : TrList (fun p q => q.1 = p.1 * sz ∧ q.2.1 = sz ∧ TrOpd X p.2 q.2.2) ps.toList qs)
    (hr : oBuild z (evParts s.tm s.bx qs) = some r) : OpOk X w G s ct ((do pure (Next.value (← Instr.build t (ps.map fun (i, x) => (i, opVal ct x)))) : Sem Next).run X.P w) r := by
  unfold oBuild at hr
  split at hr
  · rename_i cs hcs
    rw [ok_eq hr]
    obtain ⟨i, v, h1, h2, h3, h4, h5⟩ := zero_cells hz
    obtain ⟨ie, hie, hsz⟩ := he
    have htr := evParts_tr R (place := fun k => some (k * ie.size, ie.size)) (TrList.imp (fun p q ⟨ha, hb, hd⟩ => ⟨by rw [ha, hb, hsz], hd⟩) h)
    obtain ⟨D, hD, hL⟩ := fill_spec (place := fun k => some (k * ie.size, ie.size)) htr (C := v.cells) ⟨h4.symm, fun j c u hc hu => ⟨(h5 w G j c u hc hu).1, (h5 w G j c u hc hu).2.1⟩⟩ hcs
    refine .pure R (u := .agg D) (ex_val (run_build w t _ D ?_)) rfl (.of_vr hL.agg)
    · unfold Program.built
      simp only [h1, hu, h2, hie]
      rw [← hD, Array.toList_map]
  · cases hr
end

end Go.Em
