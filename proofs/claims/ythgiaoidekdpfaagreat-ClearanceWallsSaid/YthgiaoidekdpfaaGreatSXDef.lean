/-
  DEFINITIONS of a small evaluator over the model's code. It runs a function's text on values whose integers and truth values may be open terms, and hands back the value that the call returns, what it stores, and the conditions under which that holds. Conditions: none; that the evaluator is right is proved in the next text.
-/
import Derived.WalkKit
import Derived.Orders
set_option linter.all false
namespace Go.SX

inductive SI where
  | c (n : Int) | v (x : Int)
inductive SB where
  | c (b : Bool) | v (x : Bool)
inductive SN where
  | c (n : Nat) | v (x : Nat)
noncomputable def SI.val : SI → Int | .c n => n | .v x => x
noncomputable def SB.val : SB → Bool | .c n => n | .v x => x
noncomputable def SN.val : SN → Nat | .c n => n | .v x => x

/-- The value of one cell. -/
inductive SC where
  | int (k : IntKind) (n : SI)
  | bool (b : SB)
  | ptr (id off : Nat)
  | eptr (id esz : Nat) (i : SN) (off : Nat)
  | wh (id : Nat)                                  -- a whole row, as a slice
  | sl (id esz : Nat) (off len : SN)              -- a part of a row
  | bs (id len : Nat)                              -- a whole block, as a slice
  | nilp
  | nilsl
  | fn (f : FuncId)
  | clo (f : FuncId) (id : Nat)
  | nilf
  | yld (g id : Nat)                              -- the yield of a loop, whose record is an object

inductive SV where
  | one (c : SC)
  | agg (cs : List SC)
  | tup (vs : List (Bool × List SC))

/-- The kind of a cell of an element: an integer, or a truth value. -/
inductive CK where
  | int (k : IntKind) | bool
/-- What a row of elements holds: known element by element, or as a list of lists of integers (a truth value is 1 or 0). -/
inductive RowC where
  | lit (tag : Nat) (rows : List (List SC))
  | lst (tag : Nat) (ks : List CK) (xs : List (List Int))

inductive Obj where
  | blk (ty : TypeId) (cells : List (Nat × SC))
  | row (ro : Bool) (ty : TypeId) (esz : Nat) (r : RowC)
  | clo (caps : List SV)
  | crow (ty : TypeId) (esz len : Nat) (cells : List (Nat × SC))   -- a row of the call's own, cell by cell (its cells may be slices)
  | raw (b : Nat) (rs : List Nat) (tag : Nat) (L : Bool → Go.Obj) (k : SB)   -- a block of the heap, in one of two states

structure Ent where
  g : List (Nat × Bool)
  gx : List (Bool × Bool)
  tag : Nat
  val : SV

abbrev Env := List (Nat × Ent)
abbrev Mem := List (Nat × Obj)

noncomputable def look {α : Type} (l : List (Nat × α)) (t : Nat) : Option α :=
  List.rec (motive := fun _ => Option α) none (fun p _ ih => Bool.rec ih (some p.2) (Nat.beq p.1 t)) l
theorem look_nil {α : Type} (t : Nat) : look ([] : List (Nat × α)) t = none := rfl
theorem look_cons {α : Type} (k : Nat) (x : α) (r : List (Nat × α)) (t : Nat) : look ((k, x) :: r) t = bif Nat.beq k t then some x else look r t := by
  show (Bool.rec (look r t) (some x) (Nat.beq k t) : Option α) = _
  cases Nat.beq k t <;> rfl
noncomputable def del {α : Type} (l : List (Nat × α)) (t : Nat) : List (Nat × α) :=
  List.rec (motive := fun _ => List (Nat × α)) [] (fun p _ ih => Bool.rec (p :: ih) ih (Nat.beq p.1 t)) l
theorem del_nil {α : Type} (t : Nat) : del ([] : List (Nat × α)) t = [] := rfl
theorem del_cons {α : Type} (k : Nat) (x : α) (r : List (Nat × α)) (t : Nat) : del ((k, x) :: r) t = bif Nat.beq k t then del r t else (k, x) :: del r t := by
  show (Bool.rec ((k, x) :: del r t) (del r t) (Nat.beq k t) : List (Nat × α)) = _
  cases Nat.beq k t <;> rfl
noncomputable def rem {α : Type} (l : List (Nat × α)) (t : Nat) : List (Nat × α) := match look l t with
  | none => l
  | some _ => del l t
noncomputable def put {α : Type} (l : List (Nat × α)) (t : Nat) (x : α) : List (Nat × α) := (t, x) :: rem l t

/-! ### Constants -/
noncomputable def cellOf : Value → Option SC
  | .int k n => some (.int k (.c n))
  | .bool b => some (.bool (.c b))
  | .pointer none => some .nilp
  | .slice none 0 0 => some .nilsl
  | .nilFunc => some .nilf
  | .func (.func f) ⟨[]⟩ ⟨[]⟩ => some (.fn f)
  | _ => none
noncomputable def cellsOf : List Value → Option (List SC)
  | [] => some []
  | v :: r => match cellOf v, cellsOf r with
    | some c, some cs => some (c :: cs)
    | _, _ => none
noncomputable def ofConst : Value → Option SV
  | .agg cs => (cellsOf cs.toList).map .agg
  | v => (cellOf v).map .one

/-! ### Guards -/
noncomputable def gmem (a : Nat × Bool) (l : List (Nat × Bool)) : Bool :=
  List.rec (motive := fun _ => Bool) false (fun b _ ih => (Nat.beq a.1 b.1 && (a.2 == b.2)) || ih) l
theorem gmem_nil (a : Nat × Bool) : gmem a [] = false := rfl
theorem gmem_cons (a b : Nat × Bool) (r : List (Nat × Bool)) : gmem a (b :: r) = ((Nat.beq a.1 b.1 && (a.2 == b.2)) || gmem a r) := rfl
noncomputable def gsub (g h : List (Nat × Bool)) : Bool :=
  List.rec (motive := fun _ => Bool) true (fun a _ ih => gmem a h && ih) g
theorem gsub_nil (h : List (Nat × Bool)) : gsub [] h = true := rfl
theorem gsub_cons (a : Nat × Bool) (r h : List (Nat × Bool)) : gsub (a :: r) h = (gmem a h && gsub r h) := rfl
noncomputable def arg (env : Env) (g : List (Nat × Bool)) : Operand → Option SV
  | .tmp t => match look env t with
    | some e => bif gsub e.g g then some e.val else none
    | none => none
  | .const v => ofConst v
  | .func f => some (.one (.fn f))
  | .global _ => none
noncomputable def args (env : Env) (g : List (Nat × Bool)) : List Operand → Option (List SV)
  | [] => some []
  | o :: r => match arg env g o, args env g r with
    | some v, some vs => some (v :: vs)
    | _, _ => none
/-- The conditions of a guard in front of another one. -/
noncomputable def under : List (Bool × Bool) → Prop → Prop
  | [], p => p
  | (x, w) :: r, p => x = w → under r p

/-! ### Merging -/
noncomputable def mergeI (c : Bool) : SI → SI → SI
  | .c a, .c b => bif decide (a = b) then .c a else .v (cond c a b)
  | .c a, .v b => .v (cond c a b)
  | .v a, .c b => .v (cond c a b)
  | .v a, .v b => .v (cond c a b)
noncomputable def mergeB (c : Bool) : SB → SB → SB
  | .c true, .c true => .c true
  | .c false, .c false => .c false
  | .c true, .c false => .v c
  | .c false, .c true => .v (!c)
  | .v a, .c false => .v (c && a)
  | .c true, .v b => .v (c || b)
  | .c a, .v b => .v (cond c a b)
  | .v a, .c b => .v (cond c a b)
  | .v a, .v b => .v (cond c a b)
noncomputable def kindEq : IntKind → IntKind → Bool
  | .i8, .i8 | .i16, .i16 | .i32, .i32 | .i64, .i64 | .u8, .u8 | .u16, .u16 | .u32, .u32 | .u64, .u64 => true
  | _, _ => false
noncomputable def mergeC (c : Bool) : SC → SC → Option SC
  | .int k x, .int j y => bif kindEq k j then some (.int k (mergeI c x y)) else none
  | .bool x, .bool y => some (.bool (mergeB c x y))
  | .ptr a o, .ptr b p => bif Nat.beq a b && Nat.beq o p then some (.ptr a o) else none
  | .wh a, .wh b => bif Nat.beq a b then some (.wh a) else none
  | .nilp, .nilp => some .nilp
  | .nilsl, .nilsl => some .nilsl
  | .fn f, .fn g => bif Nat.beq f g then some (.fn f) else none
  | _, _ => none
noncomputable def mergeCs (c : Bool) : List SC → List SC → Option (List SC)
  | [], [] => some []
  | x :: r, y :: s => match mergeC c x y, mergeCs c r s with
    | some z, some t => some (z :: t)
    | _, _ => none
  | _, _ => none
noncomputable def mergeTup (c : Bool) : List (Bool × List SC) → List (Bool × List SC) → Option (List (Bool × List SC))
  | [], [] => some []
  | (a, x) :: r, (b, y) :: s => bif (a == b) then (match mergeCs c x y, mergeTup c r s with
    | some z, some t => some ((a, z) :: t)
    | _, _ => none) else none
  | _, _ => none
noncomputable def mergeV (c : Bool) : SV → SV → Option SV
  | .one x, .one y => (mergeC c x y).map .one
  | .agg x, .agg y => (mergeCs c x y).map .agg
  | .tup x, .tup y => (mergeTup c x y).map .tup
  | _, _ => none
noncomputable def tagged (n : Nat) (l : List SC) : List (Nat × SC) :=
  List.rec (motive := fun _ => Nat → List (Nat × SC)) (fun _ => []) (fun c _ ih n => (n, c) :: ih (n + 1)) l n
theorem tagged_nil (n : Nat) : tagged n [] = [] := rfl
theorem tagged_cons (n : Nat) (c : SC) (r : List SC) : tagged n (c :: r) = (n, c) :: tagged (n + 1) r := rfl
noncomputable def untag (l : List (Nat × SC)) : List SC :=
  List.rec (motive := fun _ => List SC) [] (fun p _ ih => p.2 :: ih) l
theorem untag_nil : untag [] = [] := rfl
theorem untag_cons (p : Nat × SC) (r : List (Nat × SC)) : untag (p :: r) = p.2 :: untag r := rfl
/-! ### Elements of rows -/
noncomputable def CK.cell : CK → Int → SC
  | .int k, n => .int k (.v n)
  | .bool, n => .bool (.v (n != 0))
noncomputable def decodeF : List CK → List Int → Nat → List SC
  | [], _, _ => []
  | k :: r, xs, j => k.cell (xs.getD j 0) :: decodeF r xs (j + 1)
noncomputable def decode (ks : List CK) (xs : List Int) : List SC := decodeF ks xs 0
noncomputable def encC : SC → Option (CK × Int)
  | .int k n => some (.int k, n.val)
  | .bool (.c b) => some (.bool, bif b then 1 else 0)
  | .bool (.v b) => some (.bool, bif b then 1 else 0)
  | _ => none
noncomputable def encCs : List SC → Option (List (CK × Int))
  | [] => some []
  | c :: r => match encC c, encCs r with
    | some x, some xs => some (x :: xs)
    | _, _ => none
noncomputable def ckEq : CK → CK → Bool
  | .int k, .int j => kindEq k j
  | .bool, .bool => true
  | _, _ => false
/-- The integers of cells of these kinds. -/
noncomputable def fitK : List CK → List (CK × Int) → Option (List Int)
  | [], [] => some []
  | k :: ks, (j, x) :: r => bif ckEq k j then (fitK ks r).map (x :: ·) else none
  | _, _ => none
noncomputable def rowLen : RowC → SN
  | .lit _ rows => .c rows.length
  | .lst _ _ xs => .v xs.length
/-- One of several rows, by an index that is not known. -/
noncomputable def chain (i : Nat) : List (List SC) → Nat → Option (List SC)
  | [], _ => none
  | [r], _ => some r
  | r :: rest, k => match chain i rest (k + 1) with
    | some t => mergeCs (Nat.beq i k) r t
    | none => none
noncomputable def rowAt : RowC → SN → Option (List SC × List Prop)
  | .lit _ rows, .c i => match rows[i]? with
    | some r => some (r, [])
    | none => none
  | .lit _ rows, .v i => match chain i rows 0 with
    | some r => some (r, [i < rows.length])
    | none => none
  | .lst _ ks xs, i => some (decode ks (xs.getD i.val []), [i.val < xs.length])
/-- The rows of lists, as lists of integers. -/
noncomputable def encRows (ks : List CK) : List (List SC) → Option (List (List Int))
  | [] => some []
  | r :: rs => match (encCs r).bind (fitK ks), encRows ks rs with
    | some x, some xs => some (x :: xs)
    | _, _ => none
noncomputable def kindsOf : List SC → Option (List CK)
  | [] => some []
  | c :: r => match encC c, kindsOf r with
    | some (k, _), some ks => some (k :: ks)
    | _, _ => none
noncomputable def cksEq : List CK → List CK → Bool
  | [], [] => true
  | a :: r, b :: s => ckEq a b && cksEq r s
  | _, _ => false
/-- Row behind row. -/
noncomputable def joinRows (n : Nat) : RowC → RowC → Option RowC
  | .lit _ a, .lit _ b => some (.lit n (a ++ b))
  | .lst _ ks xs, .lst _ js ys => bif cksEq ks js then some (.lst n ks (xs ++ ys)) else none
  | .lst _ ks xs, .lit _ b => (encRows ks b).map fun ys => .lst n ks (xs ++ ys)
  | .lit _ a, .lst _ ks ys => (encRows ks a).map fun xs => .lst n ks (xs ++ ys)
/-- n elements of a row. -/
noncomputable def partRow (t : Nat) : RowC → SN → SN → Option RowC
  | .lit _ rows, .c o, .c n => some (.lit t ((rows.drop o).take n))
  | .lit .., _, _ => none
  | .lst _ ks xs, o, n => some (.lst t ks ((xs.drop o.val).take n.val))
/-- The first row's kinds. -/
noncomputable def kindsR : RowC → Option (List CK)
  | .lst _ ks _ => some ks
  | .lit _ (r :: _) => kindsOf r
  | .lit _ [] => none
noncomputable def listR (ks : List CK) : RowC → Option (List (List Int))
  | .lst _ js xs => bif cksEq ks js then some xs else none
  | .lit _ rows => encRows ks rows
/-- Cells of one element laid over. -/
noncomputable def overF : Nat → Nat → Nat → List Int → List Int → List Int
  | 0, _, _, _, _ => []
  | n + 1, j, off, ys, row => (bif Nat.ble off j && Nat.blt j (off + ys.length) then ys.getD (j - off) 0 else row.getD j 0) :: overF n (j + 1) off ys row
noncomputable def plainRow (esz : Nat) : List (List SC) → Bool
  | [] => true
  | r :: rs => Nat.beq r.length esz && (encCs r).isSome && plainRow esz rs
noncomputable def chunks (esz : Nat) : Nat → List SC → List (List SC)
  | 0, _ => []
  | n + 1, cs => cs.take esz :: chunks esz n (cs.drop esz)
/-- Less than: known, or needed. -/
noncomputable def ltN : SN → SN → Option (List Prop)
  | .c a, .c b => bif Nat.blt a b then some [] else none
  | a, b => some [a.val < b.val]
noncomputable def leN : SN → SN → Option (List Prop)
  | .c a, .c b => bif Nat.ble a b then some [] else none
  | a, b => some [a.val ≤ b.val]
noncomputable def addN : SN → SN → SN
  | .c a, .c b => .c (a + b)
  | .c 0, b => b
  | a, b => .v (a.val + b.val)
noncomputable def subN : SN → SN → SN
  | .c a, .c b => .c (a - b)
  | a, b => .v (a.val - b.val)
/-- An integer that is an index. -/
noncomputable def natOf : SI → Option (SN × List Prop)
  | .c n => bif decide (0 ≤ n) then some (.c n.toNat, []) else none
  | .v n => some (.v n.toNat, [0 ≤ n])
noncomputable def intOfN : SN → SI
  | .c n => .c (Int.ofNat n)
  | .v n => .v (Int.ofNat n)

inductive EV where
  | v (x : SV) | l (x : List (List Int)) | o (b : Nat) (L : Bool → Go.Obj)
abbrev Eqs := List (EV × EV)
/-- Two cells that are to be the same: names are compared, all else is an equation in front of the others. -/
noncomputable def eqCell (x y : SC) (q : Eqs) : Eqs := match x, y with
  | .wh a, .wh b => bif Nat.beq a b then q else (.v (.one (.wh a)), .v (.one (.wh b))) :: q
  | .ptr a o, .ptr b p => bif Nat.beq a b && Nat.beq o p then q else (.v (.one (.ptr a o)), .v (.one (.ptr b p))) :: q
  | x, y => (.v (.one x), .v (.one y)) :: q
noncomputable def eqVal (x y : SV) (q : Eqs) : Eqs := match x, y with
  | .one a, .one b => eqCell a b q
  | x, y => (.v x, .v y) :: q
noncomputable def mergeTC (c : Bool) (n : Nat) : List (Nat × SC) → List (Nat × SC) → Option (List (Nat × SC) × Eqs × Nat)
  | [], [] => some ([], [], n)
  | (a, x) :: r, (b, y) :: s => bif Nat.beq a b then
      (match mergeTC c n r s with
      | some (t, e, n') => some ((a, x) :: t, eqCell x y e, n')
      | none => none)
    else (match mergeC c x y, mergeTC c (n + 1) r s with
      | some z, some (t, e, n') => some ((n, z) :: t, e, n')
      | _, _ => none)
  | _, _ => none
/-- Entries that both sides have; what cannot be merged is forgotten. -/
noncomputable def mergeEnv (c : Bool) (n : Nat) : Env → Env → Env × Eqs × Nat
  | [], _ => ([], [], n)
  | (t, e) :: r, s => match mergeEnv c n r s with
    | (r', q, m) => match look s t with
      | none => (del r' t, q, m)
      | some f => match e.g, f.g with
        | [], [] => bif Nat.beq e.tag f.tag then ((t, ⟨[], [], e.tag, e.val⟩) :: r', eqVal e.val f.val q, m)
            else (match mergeV c e.val f.val with
              | some v => ((t, ⟨[], [], m, v⟩) :: r', q, m + 1)
              | none => (del r' t, q, m))
        | _, _ => (del r' t, q, m)
noncomputable def mergeRows (c : Bool) : List (List SC) → List (List SC) → Option (List (List SC))
  | [], [] => some []
  | x :: r, y :: s => match mergeCs c x y, mergeRows c r s with
    | some z, some t => some (z :: t)
    | _, _ => none
  | _, _ => none
/-- Rows as one value. -/
noncomputable def tupR (rows : List (List SC)) : SV := .tup (rows.map fun r => (true, r))
noncomputable def mergeR (c : Bool) (n : Nat) (x y : RowC) : Option (RowC × Eqs × Nat) :=
  match (match x, y with
    | .lit t a, .lit u b => bif Nat.beq t u then some (.lit t a, [(.v (tupR a), .v (tupR b))], n) else (mergeRows c a b).map fun z => (RowC.lit n z, [], n + 1)
    | .lst t ks xs, .lst u js ys => bif Nat.beq t u && cksEq ks js then some (.lst t ks xs, [(.l xs, .l ys)], n) else none
    | _, _ => none) with
  | some r => some r
  | none => match (match kindsR x with | some ks => some ks | none => kindsR y) with
    | none => none
    | some ks => match listR ks x, listR ks y with
      | some xs, some ys => some (.lst n ks (bif c then xs else ys), [], n + 1)
      | _, _ => none
noncomputable def natsEq : List Nat → List Nat → Bool
  | [], [] => true
  | a :: r, b :: s => Nat.beq a b && natsEq r s
  | _, _ => false
noncomputable def capEq : SV → SV → Bool
  | .one (.ptr a o), .one (.ptr b p) => Nat.beq a b && Nat.beq o p
  | .one (.clo f a), .one (.clo g b) => Nat.beq f g && Nat.beq a b
  | .one (.fn f), .one (.fn g) => Nat.beq f g
  | _, _ => false
noncomputable def capsEq : List SV → List SV → Bool
  | [], [] => true
  | a :: r, b :: s => capEq a b && capsEq r s
  | _, _ => false
noncomputable def mergeObj (c : Bool) (n : Nat) : Obj → Obj → Option (Obj × Eqs × Nat)
  | .blk t x, .blk u y => bif Nat.beq t u then (match mergeTC c n x y with
    | some (z, e, m) => some (.blk t z, e, m)
    | none => none) else none
  | .row p t m x, .row q u k y => bif (p == q) && (Nat.beq t u && Nat.beq m k) then (match mergeR c n x y with
    | some (z, e, m') => some (.row p t m z, e, m')
    | none => none) else none
  | .crow t e l x, .crow u f k y => bif Nat.beq t u && (Nat.beq e f && Nat.beq l k) then (match mergeTC c n x y with
    | some (z, q, m) => some (.crow t e l z, q, m)
    | none => none) else none
  | .raw b rs t L k, .raw b' rs' t' L' k' => bif natsEq rs rs' then some (.raw b rs t L (mergeB c k k'), [(.o b L, .o b' L')], n) else none
  | .clo x, .clo y => bif capsEq x y then some (.clo x, [], n) else none
  | _, _ => none
/-- Do these two states part in a slice? Then they are better kept apart. -/
noncomputable def sliceC : SC → Bool
  | .wh _ => true
  | .sl .. => true
  | .nilsl => true
  | _ => false
noncomputable def partsC : SC → SC → Bool
  | .wh a, .wh b => !(Nat.beq a b)
  | .nilsl, .nilsl => false
  | a, b => sliceC a || sliceC b
noncomputable def partsCs : List (Nat × SC) → List (Nat × SC) → Bool
  | (_, a) :: r, (_, b) :: s => partsC a b || partsCs r s
  | _, _ => false
noncomputable def partsEnv : Env → Env → Bool
  | [], _ => false
  | (t, e) :: r, s => (match look s t with
    | some f => (match e.val, f.val with | .one a, .one b => partsC a b | _, _ => false)
    | none => false) || partsEnv r s
noncomputable def partsMem : Mem → Mem → Bool
  | [], _ => false
  | (t, o) :: r, s => (match o, look s t with
    | .blk _ x, some (.blk _ y) => partsCs x y
    | _, _ => false) || partsMem r s
noncomputable def mergeMem (c : Bool) (n : Nat) : Mem → Mem → Mem × Eqs × Nat
  | [], _ => ([], [], n)
  | (t, e) :: r, s => match mergeMem c n r s with
    | (r', q, m) => match look s t with
      | none => (del r' t, q, m)
      | some f => match mergeObj c m e f with
        | some (o, e', m') => ((t, o) :: r', e' ++ q, m')
        | none => (del r' t, q, m)

/-! ### Numbers -/
noncomputable def isC : SI → SI → Bool
  | .c _, .c _ => true
  | _, _ => false
noncomputable def mkI (st : Bool) (x : Int) : SI := bif st then .c x else .v x
noncomputable def mkB (st : Bool) (x : Bool) : SB := bif st then .c x else .v x
noncomputable def ibits (op : BinOp) (k : IntKind) (x y : Int) : Int :=
  match op with
  | .and => k.wrap (BitVec.ofInt k.bits x &&& BitVec.ofInt k.bits y).toNat
  | .or => k.wrap (BitVec.ofInt k.bits x ||| BitVec.ofInt k.bits y).toNat
  | .xor => k.wrap (BitVec.ofInt k.bits x ^^^ BitVec.ofInt k.bits y).toNat
  | _ => k.wrap (BitVec.ofInt k.bits x &&& ~~~BitVec.ofInt k.bits y).toNat
noncomputable def ishift (op : BinOp) (k : IntKind) (x y : Int) : Int :=
  match op with
  | .shl => k.wrap (x * 2 ^ min y.toNat k.bits)
  | _ => x.fdiv (2 ^ min y.toNat k.bits)
noncomputable def nz : SI → Option (List Prop)
  | .c n => bif decide (n = 0) then none else some []
  | .v x => some [x ≠ 0]
noncomputable def nonneg : SI → Option (List Prop)
  | .c n => bif decide (0 ≤ n) then some [] else none
  | .v x => some [0 ≤ x]
noncomputable def binI (op : BinOp) (k : IntKind) (a b : SI) : Option (SC × List Prop) :=
  let s := isC a b
  let x := a.val
  let y := b.val
  match op with
  | .add => some (.int k (mkI s (k.wrap (x + y))), [])
  | .sub => some (.int k (mkI s (k.wrap (x - y))), [])
  | .mul => some (.int k (mkI s (k.wrap (x * y))), [])
  | .quo => (nz b).map fun q => (.int k (mkI s (k.wrap (x.tdiv y))), q)
  | .rem => (nz b).map fun q => (.int k (mkI s (x.tmod y)), q)
  | .and => some (.int k (mkI s (ibits .and k x y)), [])
  | .or => some (.int k (mkI s (ibits .or k x y)), [])
  | .xor => some (.int k (mkI s (ibits .xor k x y)), [])
  | .andNot => some (.int k (mkI s (ibits .andNot k x y)), [])
  | .eql => some (.bool (mkB s (x == y)), [])
  | .neq => some (.bool (mkB s (x != y)), [])
  | .lss => some (.bool (mkB s (decide (x < y))), [])
  | .leq => some (.bool (mkB s (decide (x ≤ y))), [])
  | .gtr => some (.bool (mkB s (decide (x > y))), [])
  | .geq => some (.bool (mkB s (decide (x ≥ y))), [])
  | _ => none
noncomputable def isCB : SB → SB → Bool
  | .c _, .c _ => true
  | _, _ => false
noncomputable def eqC : SC → SC → Option SB
  | .int k x, .int j y => bif kindEq k j then some (mkB (isC x y) (x.val == y.val)) else none
  | .bool x, .bool y => some (mkB (isCB x y) (x.val == y.val))
  | _, _ => none
noncomputable def andB : SB → SB → SB
  | .c false, _ => .c false
  | .c true, b => b
  | .v _, .c false => .c false
  | .v x, .c true => .v x
  | .v x, .v y => .v (x && y)
noncomputable def eqCs : List SC → List SC → Option SB
  | [], [] => some (.c true)
  | x :: r, y :: s => match eqC x y, eqCs r s with
    | some a, some b => some (andB a b)
    | _, _ => none
  | _, _ => none
noncomputable def notB : SB → SB
  | .c b => .c (!b)
  | .v b => .v (!b)
/-- Are these cells a value of a type of integers and truth values, compared one by one? -/
noncomputable def flatT (P : Program) : Nat → TypeId → List SC → Bool
  | 0, _, _ => false
  | d + 1, t, cs => match P.underlying t, P.info? t with
    | some (.struct fs), some i => !(P.stoodInHeld t) && flatFs P (flatT P d) fs.toList 0 i.size cs
    | some .bool, some i => Nat.beq i.size 1 && (match cs with | [.bool _] => true | _ => false)
    | some (.int _), some i => Nat.beq i.size 1 && (match cs with | [.int _ _] => true | _ => false)
    | _, _ => false
where flatFs (P : Program) (ft : TypeId → List SC → Bool) : List Field → Nat → Nat → List SC → Bool
  | [], o, tot, _ => Nat.beq o tot
  | f :: r, o, tot, cs => (f.name != "_") && (Nat.beq f.offset o && (match P.info? f.type with
      | some i => ft f.type ((cs.drop o).take i.size) && flatFs P ft r (o + i.size) tot cs
      | none => false))

noncomputable def binop (P : Program) (op : BinOp) (t : TypeId) : SV → SV → Option (SC × List Prop)
  | .one (.int k a), .one (.int j b) => match op with
    | .shl => (nonneg b).map fun q => (.int k (mkI (isC a b) (ishift .shl k a.val b.val)), q)
    | .shr => (nonneg b).map fun q => (.int k (mkI (isC a b) (ishift .shr k a.val b.val)), q)
    | op => bif kindEq k j then binI op k a b else none
  | .one (.bool a), .one (.bool b) => match P.underlying t with
    | some .bool => (match op with
      | .eql => some (.bool (mkB (isCB a b) (a.val == b.val)), [])
      | .neq => some (.bool (mkB (isCB a b) (!(a.val == b.val))), [])
      | _ => none)
    | _ => none
  | .agg x, .agg y => match P.underlying t, P.info? t with
    | some (.struct _), some i => bif flatT P 20 t x && (Nat.beq x.length i.size && Nat.beq y.length i.size) then (match op, eqCs x y with
      | .eql, some b => some (.bool b, [])
      | .neq, some b => some (.bool (notB b), [])
      | _, _ => none) else none
    | _, _ => none
  | _, _ => none
noncomputable def unop (op : UnOp) : SV → Option SC
  | .one (.int k a) => match op, a with
    | .neg, .c n => some (.int k (.c (k.wrap (0 - n))))
    | .neg, .v n => some (.int k (.v (k.wrap (0 - n))))
    | _, _ => none
  | .one (.bool b) => match op with
    | .not => some (.bool (notB b))
    | _ => none
  | _ => none

/-! ### Operations -/
structure Eff where
  val : Option SV
  rd : List Nat          -- what it looks at in memory
  touched : List Nat     -- what of it may have turned
  ups : Mem              -- what stands there afterwards, and what is new
  needs : List Prop
  eqs : Eqs
  nx : Nat
noncomputable def Eff.pure (n : Nat) (v : SV) : Eff := ⟨some v, [], [], [], [], [], n⟩

noncomputable def SV.cells : SV → Option (List SC)
  | .one c => some [c]
  | .agg cs => some cs
  | .tup _ => none
noncomputable def cut {α : Type} : List α → Nat → Nat → List α
  | l, 0, n => l.take n
  | [], _, _ => []
  | _ :: r, o + 1, n => cut r o n
noncomputable def paste {α : Type} : List α → Nat → List α → List α
  | l, 0, [] => l
  | _ :: r, 0, x :: xs => x :: paste r 0 xs
  | [], _, _ => []
  | y :: r, o + 1, xs => y :: paste r o xs
noncomputable def fillS (place : Nat → Option (Nat × Nat)) (cells : List SC) : List (Nat × List SC) → Option (List SC)
  | [] => some cells
  | (i, v) :: rest => match place i with
    | none => none
    | some (off, size) => bif Nat.beq v.length size && Nat.ble (off + size) cells.length then fillS place (paste cells off v) rest else none
noncomputable def parts (env : Env) (g : List (Nat × Bool)) : List (Nat × Operand) → Option (List (Nat × List SC))
  | [] => some []
  | (i, o) :: r => match (arg env g o).bind SV.cells, parts env g r with
    | some v, some vs => some ((i, v) :: vs)
    | _, _ => none
noncomputable def fieldPlaces (P : Program) : List Field → Option (List (Nat × Nat))
  | [] => some []
  | f :: r => match P.info? f.type, fieldPlaces P r with
    | some i, some ps => some ((f.offset, i.size) :: ps)
    | _, _ => none
noncomputable def zeroOf (P : Program) (t : TypeId) : Option SV := ((P.info? t).bind (·.zero)).bind ofConst
noncomputable def isAggT (P : Program) (t : TypeId) : Option Bool := match P.underlying t with
  | some (.struct _) | some (.array _ _) => some true
  | some _ => some false
  | none => none

structure CRes where
  val : SV
  mem : Mem
  needs : List Prop
  eqs : Eqs
  nx : Nat
abbrev CE := FuncId → List SV → Mem → Nat → Option CRes

noncomputable def idsC : SC → List Nat
  | .ptr id _ => [id]
  | .eptr id _ _ _ => [id]
  | .sl id _ _ _ => [id]
  | .wh id => [id]
  | .bs id _ => [id]
  | .clo _ id => [id]
  | .yld _ id => [id]
  | _ => []
noncomputable def idsCs (l : List SC) : List Nat :=
  List.rec (motive := fun _ => List Nat) [] (fun c _ ih => idsC c ++ ih) l
theorem idsCs_nil : idsCs [] = [] := rfl
theorem idsCs_cons (c : SC) (r : List SC) : idsCs (c :: r) = idsC c ++ idsCs r := rfl
noncomputable def idsTup : List (Bool × List SC) → List Nat
  | [] => []
  | (_, cs) :: r => idsCs cs ++ idsTup r
noncomputable def idsV : SV → List Nat
  | .one c => idsC c
  | .agg cs => idsCs cs
  | .tup vs => idsTup vs
noncomputable def idsVs : List SV → List Nat
  | [] => []
  | v :: r => idsV v ++ idsVs r
noncomputable def idsO : Obj → List Nat
  | .blk _ cs => idsCs (untag cs)
  | .row .. => []
  | .crow _ _ _ cs => idsCs (untag cs)
  | .clo cs => idsVs cs
  | .raw _ rs _ _ _ => rs
noncomputable def has (l : List Nat) (n : Nat) : Bool :=
  List.rec (motive := fun _ => Bool) false (fun a _ ih => Nat.beq a n || ih) l
theorem has_nil (n : Nat) : has [] n = false := rfl
theorem has_cons (a : Nat) (r : List Nat) (n : Nat) : has (a :: r) n = (Nat.beq a n || has r n) := rfl
noncomputable def addAll (acc l : List Nat) : List Nat :=
  List.rec (motive := fun _ => List Nat → List Nat) (fun acc => acc) (fun a _ ih acc => ih (Bool.rec (acc ++ [a]) acc (has acc a))) l acc
theorem addAll_nil (acc : List Nat) : addAll acc [] = acc := rfl
theorem addAll_cons (acc : List Nat) (a : Nat) (r : List Nat) : addAll acc (a :: r) = addAll (bif has acc a then acc else acc ++ [a]) r := by
  show addAll (Bool.rec (acc ++ [a]) acc (has acc a)) r = _
  cases has acc a <;> rfl
noncomputable def meets : List Nat → List Nat → Bool
  | [], _ => false
  | a :: r, l => has l a || meets r l
noncomputable def reach (mem : Mem) : Nat → List Nat → List Nat
  | 0, l => l
  | k + 1, l => reach mem k (l.foldl (fun acc id => match look mem id with | some o => addAll acc (idsO o) | none => acc) l)
noncomputable def restrict : Mem → List Nat → Mem
  | [], _ => []
  | (id, o) :: r, l => bif has l id then (id, o) :: restrict r l else restrict r l
noncomputable def domain : Mem → List Nat
  | [] => []
  | (id, _) :: r => id :: domain r

/-! #### Rows -/
noncomputable def eptrOf : Option SV → Option (Nat × Nat × SN × Nat)
  | some (.one (.eptr id esz i off)) => some (id, esz, i, off)
  | _ => none
noncomputable def cloOf : Option SV → Option (FuncId × Nat)
  | some (.one (.clo f id)) => some (f, id)
  | _ => none
noncomputable def orO (a b : Option Eff) : Option Eff := match a with
  | some e => some e
  | none => b
/-! Rows whose cells are known one by one. -/
noncomputable def loadK (P : Program) (t : TypeId) (mem : Mem) (n id esz : Nat) (i : SN) (off : Nat) : Option Eff :=
  match isAggT P t, P.info? t, look mem id, i with
  | some b, some inf, some (.crow _ m len cs), .c k => bif Nat.beq m esz && Nat.blt k len then
      (bif b then (bif Nat.beq (cut (untag cs) (k * m + off) inf.size).length inf.size then some ⟨some (.agg (cut (untag cs) (k * m + off) inf.size)), [id], [], [], [], [], n⟩ else none)
        else (match cut (untag cs) (k * m + off) 1 with
          | [c] => some ⟨some (.one c), [id], [], [], [], [], n⟩
          | _ => none)) else none
  | _, _, _, _ => none
noncomputable def storeK (P : Program) (t : TypeId) (mem : Mem) (n id esz : Nat) (i : SN) (off : Nat) (vs : List SC) : Option Eff :=
  match P.info? t, look mem id, i with
  | some inf, some (.crow ty m len cs), .c k => bif Nat.beq m esz && (Nat.beq vs.length inf.size && (Nat.blt k len && Nat.ble (off + vs.length) m)) then
      some ⟨none, [id], [id], [(id, .crow ty m len (paste cs (k * m + off) (tagged n vs)))], [], [], n + vs.length⟩ else none
  | _, _, _ => none
noncomputable def indexK (P : Program) (t : TypeId) (x i : Option SV) (mem : Mem) (n : Nat) : Option Eff :=
  match P.underlying t, x, i with
  | some (.slice e), some (.one (.wh id)), some (.one (.int _ (.c j))) => match P.info? e, look mem id with
    | some inf, some (.crow _ m len _) => bif Nat.beq inf.size m && (decide (0 ≤ j) && decide (j < len)) then some ⟨some (.one (.eptr id m (.c j.toNat) 0)), [id], [], [], [], [], n⟩ else none
    | _, _ => none
  | _, _, _ => none
noncomputable def lenK (P : Program) (t : TypeId) (x : Option SV) (mem : Mem) (n : Nat) : Option Eff :=
  match P.underlying t, x with
  | some (.slice _), some (.one (.wh id)) => match look mem id with
    | some (.crow _ _ len _) => some ⟨some (.one (.int .i64 (.c (Int.ofNat len)))), [id], [], [], [], [], n⟩
    | _ => none
  | _, _ => none
noncomputable def loadE (P : Program) (t : TypeId) (mem : Mem) (n id esz : Nat) (i : SN) (off : Nat) : Option Eff :=
  match isAggT P t, P.info? t, look mem id with
  | some b, some inf, some (.row _ _ m r) => bif Nat.beq m esz then (match rowAt r i with
    | some (cs, q) => bif b then (bif Nat.beq (cut cs off inf.size).length inf.size then some ⟨some (.agg (cut cs off inf.size)), [id], [], [], q, [], n⟩ else none)
        else (match cut cs off 1 with
          | [c] => some ⟨some (.one c), [id], [], [], q, [], n⟩
          | _ => none)
    | none => none) else none
  | _, _, _ => none
noncomputable def storeR (n esz : Nat) (i : SN) (off : Nat) (vs : List SC) : RowC → Option (RowC × List Prop)
  | .lit _ rows => match i with
    | .c k => match rows[k]? with
      | some row => bif Nat.ble (off + vs.length) row.length && (encCs vs).isSome then some (.lit n (rows.set k (paste row off vs)), []) else none
      | none => none
    | .v _ => none
  | .lst _ ks xs => match (encCs vs).bind (fitK (cut ks off vs.length)) with
    | some ys => bif Nat.beq ks.length esz && Nat.ble (off + vs.length) esz then some (.lst n ks (xs.set i.val (overF esz 0 off ys (xs.getD i.val []))), [i.val < xs.length]) else none
    | none => none
noncomputable def storeE (P : Program) (t : TypeId) (mem : Mem) (n id esz : Nat) (i : SN) (off : Nat) (vs : List SC) : Option Eff :=
  match P.info? t, look mem id with
  | some inf, some (.row false ty m r) => bif Nat.beq m esz && Nat.beq vs.length inf.size then (match storeR n esz i off vs r with
    | some (r', q) => some ⟨none, [id], [id], [(id, .row false ty m r')], q, [], n + vs.length + 1⟩
    | none => none) else none
  | _, _ => none
/-- An element's address is one. -/
noncomputable def liveE (mem : Mem) (id : Nat) (i : SN) : Option (List Prop) :=
  match look mem id with
  | some (.row _ _ _ r) => ltN i (rowLen r)
  | some (.crow _ _ len _) => ltN i (.c len)
  | _ => none
noncomputable def fieldE (P : Program) (t : TypeId) (f : Nat) (mem : Mem) (n id esz : Nat) (i : SN) (off : Nat) : Option Eff :=
  match P.underlying t, liveE mem id i with
  | some (.struct fs), some q => match fs.toList[f]? with
    | some fd => (match P.info? fd.type with
      | some inf => bif Nat.beq inf.size 0 then none else some ⟨some (.one (.eptr id esz i (off + fd.offset))), [id], [], [], q, [], n⟩
      | none => none)
    | none => none
  | _, _ => none
noncomputable def noNew (n : Nat) (l : List Nat) : Bool :=
  List.rec (motive := fun _ => Bool) true (fun a _ ih => Nat.blt a n && ih) l
theorem noNew_nil (n : Nat) : noNew n [] = true := rfl
theorem noNew_cons (n a : Nat) (r : List Nat) : noNew n (a :: r) = (Nat.blt a n && noNew n r) := rfl
noncomputable def buildS (P : Program) (t : TypeId) (len : Nat) (ps : Option (List (Nat × List SC))) (n : Nat) : Option Eff :=
  match P.underlying t, ps with
  | some (.slice e), some vs => match P.info? e, (zeroOf P e).bind SV.cells with
    | some inf, some z => bif Nat.blt 0 inf.size && (Nat.beq z.length inf.size && Nat.ble (len * inf.size) 16777216) then
        (match fillS (fun i => some (i * inf.size, inf.size)) ((List.range (len * inf.size)).map fun j => (z[j % z.length]?).getD .nilp) vs with
        | some cs => bif plainRow inf.size (chunks inf.size len cs) then some ⟨some (.one (.wh n)), [], [], [(n, .row false e inf.size (.lit (n + 1) (chunks inf.size len cs)))], [], [], n + 2⟩
            else bif noNew n (idsCs cs) then some ⟨some (.one (.bs n len)), [], [], [(n, .blk e (tagged (n + 1) cs))], [], [], n + 1 + cs.length⟩ else none
        | none => none) else none
    | _, _ => none
  | _, _ => none
noncomputable def indexA (P : Program) (t : TypeId) (x i : Option SV) (mem : Mem) (n : Nat) : Option Eff :=
  match P.underlying t, x, i with
  | some (.slice e), some (.one (.wh id)), some (.one (.int _ iv)) => match P.info? e, look mem id, natOf iv with
    | some inf, some (.row _ _ m r), some (k, q1) => bif Nat.beq inf.size m then (match ltN k (rowLen r) with
        | some q2 => some ⟨some (.one (.eptr id m k 0)), [id], [], [], q1 ++ q2, [], n⟩
        | none => none) else none
    | _, _, _ => none
  | some (.slice e), some (.one (.sl id esz off len)), some (.one (.int _ iv)) => match P.info? e, look mem id, natOf iv with
    | some inf, some (.row _ _ m r), some (k, q1) => bif Nat.beq inf.size m && Nat.beq esz m then (match ltN k len, ltN (addN off k) (rowLen r) with
        | some q2, some q3 => some ⟨some (.one (.eptr id m (addN off k) 0)), [id], [], [], q1 ++ q2 ++ q3, [], n⟩
        | _, _ => none) else none
    | _, _, _ => none
  | some (.array len e), some (.one (.ptr id off)), some (.one (.int _ (.c j))) => match P.info? e, look mem id with
    | some inf, some (.blk _ _) => bif decide (0 ≤ j) && decide (j < len) then some ⟨some (.one (.ptr id (off + j.toNat * inf.size))), [id], [], [], [], [], n⟩ else none
    | _, _ => none
  | some (.slice e), some (.one (.bs id len)), some (.one (.int _ (.c j))) => match P.info? e, look mem id with
    | some inf, some (.blk _ _) => bif decide (0 ≤ j) && decide (j < len) then some ⟨some (.one (.ptr id (j.toNat * inf.size))), [id], [], [], [], [], n⟩ else none
    | _, _ => none
  | _, _, _ => none
noncomputable def indexV (P : Program) (t : TypeId) (x i : Option SV) (n : Nat) : Option Eff :=
  match P.underlying t, x, i with
  | some (.array len e), some (.agg cs), some (.one (.int _ (.c j))) => match isAggT P e, P.info? e with
    | some b, some inf => bif decide (0 ≤ j) && decide (j < len) then
        (bif b then (bif Nat.beq (cut cs (j.toNat * inf.size) inf.size).length inf.size then some (Eff.pure n (.agg (cut cs (j.toNat * inf.size) inf.size))) else none)
        else (match cut cs (j.toNat * inf.size) 1 with
          | [c] => some (Eff.pure n (.one c))
          | _ => none)) else none
    | _, _ => none
  | _, _, _ => none
/-- A bound of a part: none is the given one. -/
noncomputable def boundOf (env : Env) (g : List (Nat × Bool)) (d : SN) : Option Operand → Option (SN × List Prop)
  | none => some (d, [])
  | some o => match arg env g o with
    | some (.one (.int _ iv)) => natOf iv
    | _ => none
noncomputable def sliceS (P : Program) (t : TypeId) (x : Option SV) (lo hi : SN → Option (SN × List Prop)) (mem : Mem) (n : Nat) : Option Eff :=
  match P.underlying t, x with
  | some (.slice e), some (.one (.wh id)) => match P.info? e, look mem id with
    | some inf, some (.row _ _ m r) => bif Nat.beq inf.size m then (match lo (.c 0), hi (rowLen r) with
        | some (l, q1), some (h, q2) => (match leN l h, leN h (rowLen r) with
          | some q3, some q4 => some ⟨some (.one (.sl id m l (subN h l))), [id], [], [], q1 ++ q2 ++ q3 ++ q4, [], n⟩
          | _, _ => none)
        | _, _ => none) else none
    | _, _ => none
  | _, _ => none
/-- A part of a row's beginning. -/
noncomputable def sliceK (P : Program) (t : TypeId) (x : Option SV) (lo hi : SN → Option (SN × List Prop)) (mem : Mem) (n : Nat) : Option Eff :=
  match P.underlying t, x with
  | some (.slice e), some (.one (.sl id esz (.c 0) len)) => match P.info? e, look mem id with
    | some inf, some (.row _ _ m r) => bif Nat.beq inf.size m && Nat.beq esz m then (match lo (.c 0), hi len with
        | some (l, q1), some (h, q2) => (match leN l h, leN h len, leN len (rowLen r) with
          | some q3, some q4, some q5 => some ⟨some (.one (.sl id m l (subN h l))), [id], [], [], q1 ++ q2 ++ q3 ++ q4 ++ q5, [], n⟩
          | _, _, _ => none)
        | _, _ => none) else none
    | _, _ => none
  | _, _ => none
/-- A row of the call's own, cut at its end: the row itself is the part. -/
noncomputable def cutS (P : Program) (t : TypeId) (x : Option SV) (lo : Option Operand) (hi : Option (SN × List Prop)) (mem : Mem) (n : Nat) : Option Eff :=
  match lo, hi with
  | none, some (h, q1) => match P.underlying t, x with
    | some (.slice e), some (.one (.wh id)) => match P.underlying e, P.info? e, look mem id with
      | some (.int .u64), some inf, some (.row false ty m r) => bif Nat.beq inf.size m && Nat.beq ty e then (match partRow (n + 1) r (.c 0) h, leN h (rowLen r) with
          | some r', some q2 => some ⟨some (.one (.wh n)), [id], [id], [(n, .row false ty m r')], q1 ++ q2, [], n + 2⟩
          | _, _ => none) else none
      | _, _, _ => none
    | _, _ => none
  | _, _ => none
noncomputable def cutHi (env : Env) (g : List (Nat × Bool)) : Option Operand → Option (SN × List Prop)
  | none => none
  | some y => boundOf env g (.c 0) (some y)
noncomputable def sliceOrCut (P : Program) (t : TypeId) (x : Option SV) (env : Env) (g : List (Nat × Bool)) (lo hi : Option Operand) (mem : Mem) (n : Nat) : Option Eff :=
  match cutS P t x lo (cutHi env g hi) mem n with
  | some e => some e
  | none => orO (sliceS P t x (fun d => boundOf env g d lo) (fun d => boundOf env g d hi) mem n) (sliceK P t x (fun d => boundOf env g d lo) (fun d => boundOf env g d hi) mem n)
/-- What a slice value holds. -/
noncomputable def sourceR (mem : Mem) (n : Nat) (m : Nat) : SC → Option (RowC × SN × List Nat × List Prop)
  | .nilsl => some (.lit 0 [], .c 0, [], [])
  | .wh id => match look mem id with
    | some (.row _ _ k r) => bif Nat.beq k m then some (r, rowLen r, [id], []) else none
    | _ => none
  | .sl id esz off len => match look mem id with
    | some (.row _ _ k r) => bif Nat.beq k m && Nat.beq esz m then (match partRow n r off len, leN (addN off len) (rowLen r) with
        | some r', some q => some (r', len, [id], q)
        | _, _ => none) else none
    | _ => none
  | _ => none
/-- Room for so many elements. -/
noncomputable def roomOk (bytes : Nat) : SN → SN → Option (List Prop)
  | .c x, .c y => bif Nat.ble ((x + y) * bytes) 140737488355328 && Nat.ble (x + y) 9223372036854775807 then some [] else none
  | a, b => some [(a.val + b.val) * bytes ≤ 140737488355328, a.val + b.val ≤ 9223372036854775807]
noncomputable def sameOp : Operand → Operand → Bool
  | .tmp a, .tmp b => Nat.beq a b
  | _, _ => false
/-- A new row of zeros. -/
noncomputable def makeS (P : Program) (t : TypeId) (s : Bool) (x : Option SV) (n : Nat) : Option Eff :=
  match P.underlying t, x with
  | some (.slice e), some (.one (.int _ l)) => match P.info? e, (zeroOf P e).bind SV.cells, natOf l with
    | some inf, some z, some (k, q1) => match kindsOf z, roomOk inf.bytes k (.c 0) with
      | some ks, some q2 => match (encCs z).bind (fitK ks) with
        | some zs => bif s && (Nat.blt 0 inf.size && Nat.beq z.length inf.size) then
          some ⟨some (.one (.wh n)), [], [], [(n, .row false e inf.size (.lst (n + 1) ks (List.replicate k.val zs)))], q1 ++ q2, [], n + 2⟩ else none
        | none => none
      | _, _ => none
    | _, _, _ => none
  | _, _ => none
/-- The row that is appended to: a new one, or one of the call's own. -/
noncomputable def baseR (mem : Mem) (e m : Nat) : SC → Option (RowC × List Nat)
  | .nilsl => some (.lit 0 [], [])
  | .wh id => match look mem id with
    | some (.row false ty k r) => bif Nat.beq k m && Nat.beq ty e then some (r, [id]) else none
    | _ => none
  | _ => none
noncomputable def appendS (P : Program) (t : TypeId) (s x : Option SV) (mem : Mem) (n : Nat) : Option Eff :=
  match P.underlying t, s, x with
  | some (.slice e), some (.one sc), some (.one xc) => match P.info? e, (zeroOf P e).bind SV.cells with
    | some inf, some z => bif Nat.blt 0 inf.size && Nat.beq z.length inf.size then
        (match baseR mem e inf.size sc, sourceR mem (n + 1) inf.size xc with
        | some (r1, t1), some (r2, l2, t2, q) => bif meets t1 t2 then none else (match joinRows (n + 2) r1 r2, roomOk inf.bytes (rowLen r1) l2 with
          | some r, some q2 => some ⟨some (.one (.wh n)), t1 ++ t2, t1, [(n, .row false e inf.size r)], q ++ q2, [], n + 3⟩
          | _, _ => none)
        | _, _ => none) else none
    | _, _ => none
  | _, _, _ => none
/-- Behind a row that is known cell by cell, or a new one: the elements of a block. -/
noncomputable def baseK (mem : Mem) (e m : Nat) : SC → Option (List SC × Nat × List Nat)
  | .nilsl => some ([], 0, [])
  | .wh id => match look mem id with
    | some (.crow ty k len cs) => bif Nat.beq k m && Nat.beq ty e then some (untag cs, len, [id]) else none
    | _ => none
  | _ => none
noncomputable def appendK (P : Program) (t : TypeId) (s x : Option SV) (mem : Mem) (n : Nat) : Option Eff :=
  match P.underlying t, s, x with
  | some (.slice e), some (.one sc), some (.one (.bs id m)) => match P.info? e, (zeroOf P e).bind SV.cells, look mem id with
    | some inf, some z, some (.blk _ cs) => bif Nat.blt 0 inf.size && (Nat.beq z.length inf.size && Nat.beq (untag cs).length (m * inf.size)) then
        (match baseK mem e inf.size sc, roomOk inf.bytes (.c ((baseK mem e inf.size sc).elim 0 fun p => p.2.1)) (.c m) with
        | some (cs1, len, t1), some q => bif noNew n (idsCs (cs1 ++ untag cs)) then
            some ⟨some (.one (.wh n)), t1 ++ [id], t1, [(n, .crow e inf.size (len + m) (tagged (n + 1) (cs1 ++ untag cs)))], q, [], n + 1 + (cs1.length + cs.length)⟩ else none
        | _, _ => none) else none
    | _, _, _ => none
  | _, _, _ => none
noncomputable def lenS (P : Program) (t : TypeId) (x : Option SV) (mem : Mem) (n : Nat) : Option Eff :=
  match P.underlying t, x with
  | some (.slice _), some (.one .nilsl) => some (Eff.pure n (.one (.int .i64 (.c 0))))
  | some (.slice _), some (.one (.wh id)) => match look mem id with
    | some (.row _ _ _ r) => some ⟨some (.one (.int .i64 (intOfN (rowLen r)))), [id], [], [], [], [], n⟩
    | _ => none
  | some (.slice _), some (.one (.sl _ _ _ len)) => some (Eff.pure n (.one (.int .i64 (intOfN len))))
  | some (.slice _), some (.one (.bs _ len)) => some (Eff.pure n (.one (.int .i64 (.c (Int.ofNat len)))))
  | some (.array m _), some _ => some (Eff.pure n (.one (.int .i64 (.c (Int.ofNat m)))))
  | _, _ => none
noncomputable def minI : SI → SI → SI
  | .c x, .c y => .c (if y < x then y else x)
  | a, b => .v (if b.val < a.val then b.val else a.val)
noncomputable def maxI : SI → SI → SI
  | .c x, .c y => .c (if y > x then y else x)
  | a, b => .v (if b.val > a.val then b.val else a.val)
noncomputable def foldI (f : SI → SI → SI) (k : IntKind) : SI → List SV → Option SI
  | a, [] => some a
  | a, .one (.int j b) :: r => bif kindEq k j then foldI f k (f a b) r else none
  | _, _ => none
noncomputable def minmaxS (f : SI → SI → SI) (n : Nat) : Option (List SV) → Option Eff
  | some (.one (.int k a) :: r) => (foldI f k a r).map fun x => Eff.pure n (.one (.int k x))
  | _ => none
noncomputable def builtinS (P : Program) (b : Builtin) (ts : List TypeId) (vs : Option (List SV)) (mem : Mem) (n : Nat) : Option Eff :=
  match b, ts, vs with
  | .len, [t], some [x] => orO (lenS P t (some x) mem n) (lenK P t (some x) mem n)
  | .append, [t, u], some [s, x] => bif Nat.beq t u then orO (appendS P t (some s) (some x) mem n) (appendK P t (some s) (some x) mem n) else none
  | .min, _, vs => minmaxS minI n vs
  | .max, _, vs => minmaxS maxI n vs
  | _, _, _ => none
noncomputable def makeF (n : Nat) (f : FuncId) : List SV → Eff
  | [] => Eff.pure n (.one (.fn f))
  | vs => ⟨some (.one (.clo f n)), [], [], [(n, .clo vs)], [], [], n + 1⟩
/-- What a function has captured stands, whatever it does. -/
noncomputable def keepC (mem : Mem) : List Nat → Mem → Mem
  | [], m => m
  | id :: r, m => match look mem id, look m id with
    | some (.clo caps), none => (id, .clo caps) :: keepC mem r m
    | _, _ => keepC mem r m
noncomputable def callC (ce : CE) (mem : Mem) (n : Nat) (f : FuncId) (id : Nat) (vs : List SV) : Option Eff :=
  match look mem id with
  | some (.clo caps) => bif Nat.blt f 1000000 then (match ce f (vs ++ caps) (restrict mem (reach mem 3 (id :: idsVs vs))) n with
    | some r => some ⟨some r.val, reach mem 3 (id :: idsVs vs), reach mem 3 (id :: idsVs vs), keepC mem (reach mem 3 (id :: idsVs vs)) r.mem, r.needs, r.eqs, r.nx⟩
    | none => none) else none
  | _ => none

noncomputable def yldC (ce : CE) (mem : Mem) (n y id : Nat) (vs : List SV) : Option Eff :=
  bif Nat.ble 1000000 y then (match ce y (.one (.yld y id) :: vs) (restrict mem (reach mem 3 (id :: idsVs vs))) n with
    | some r => some ⟨some r.val, reach mem 3 (id :: idsVs vs), reach mem 3 (id :: idsVs vs), r.mem, r.needs, r.eqs, r.nx⟩
    | none => none) else none
/-- Rows that are only read. -/
noncomputable def roMem : Mem → Bool
  | [] => true
  | (_, .row true _ _ _) :: r => roMem r
  | _ => false
noncomputable def subDom (l : List Nat) : Mem → Bool
  | [] => true
  | (id, _) :: r => has l id && subDom l r
/-- Are these the same cells, the same rows? Then under these equations. -/
noncomputable def plainC : SC → SC
  | .int k x => .int k (.v x.val)
  | .bool b => .bool (.v b.val)
  | c => c
noncomputable def sameTC : List (Nat × SC) → List (Nat × SC) → Option Eqs
  | [], [] => some []
  | (_, x) :: r, (_, y) :: s => (sameTC r s).map (eqCell (plainC x) (plainC y))
  | _, _ => none
/-- An object that stands as it stood. -/
noncomputable def stillO : Obj → Option Obj → Option Eqs
  | .row true _ _ _, _ => some []
  | .blk t x, some (.blk u y) => bif Nat.beq t u then sameTC x y else none
  | _, _ => none
noncomputable def stillMem (res : Mem) : Mem → Option Eqs
  | [] => some []
  | (id, o) :: r => match stillO o (look res id), stillMem res r with
    | some a, some b => some (a ++ b)
    | _, _ => none
/-- A function that is marked as one that writes nothing, and has written nothing. -/
noncomputable def stillC (ce : CE) (h : FuncId) (n : Nat) (rd : List Nat) (sub res : Mem) : Option Eqs :=
  match ce (2000000 + h) [] [] n with
  | some _ => bif subDom rd res then stillMem res sub else none
  | none => none
noncomputable def delAll : Mem → List Nat → Mem
  | [], _ => []
  | (id, o) :: r, l => bif has l id then delAll r l else (id, o) :: delAll r l
/-- Objects of the call's own. -/
noncomputable def ownO : Obj → Bool
  | .row true _ _ _ => false
  | _ => true
noncomputable def ownMem : Mem → Bool
  | [] => true
  | (_, o) :: r => ownO o && ownMem r
/-- A function that is marked as one that looks at rows and makes new objects. -/
noncomputable def freshC (ce : CE) (h : FuncId) (n : Nat) (rd : List Nat) (sub res : Mem) : Bool :=
  match ce (3000000 + h) [] [] n with
  | some _ => roMem sub && ownMem (delAll res rd)
  | none => false
noncomputable def callN (ce : CE) (mem : Mem) (n : Nat) (h : FuncId) (vs : List SV) : Option Eff :=
  bif Nat.blt h 1000000 then (match ce h vs (restrict mem (reach mem 3 (idsVs vs))) n with
    | some r => bif roMem (restrict mem (reach mem 3 (idsVs vs))) && subDom (reach mem 3 (idsVs vs)) r.mem then some ⟨some r.val, reach mem 3 (idsVs vs), [], [], r.needs, r.eqs, r.nx⟩
      else match stillC ce h n (reach mem 3 (idsVs vs)) (restrict mem (reach mem 3 (idsVs vs))) r.mem with
        | some q => some ⟨some r.val, reach mem 3 (idsVs vs), [], [], r.needs, r.eqs ++ q, r.nx⟩
        | none => bif freshC ce h n (reach mem 3 (idsVs vs)) (restrict mem (reach mem 3 (idsVs vs))) r.mem then some ⟨some r.val, reach mem 3 (idsVs vs), [], delAll r.mem (reach mem 3 (idsVs vs)), r.needs, r.eqs, r.nx⟩
          else some ⟨some r.val, reach mem 3 (idsVs vs), reach mem 3 (idsVs vs), r.mem, r.needs, r.eqs, r.nx⟩
    | none => none) else none
noncomputable def yldOf : Option SV → Option (Nat × Nat)
  | some (.one (.yld g id)) => some (g, id)
  | _ => none
/-- A byte of a constant string. -/
noncomputable def strAt (s : ByteArray) (k : Nat) : Int := match s[k]? with
  | some b => (b.toNat : Int)
  | none => 0
noncomputable def strOf : Operand → Option ByteArray
  | .const (.string s) => some s
  | _ => none
noncomputable def indexStr (P : Program) (t : TypeId) (s : ByteArray) (i : Option SV) (n : Nat) : Option Eff :=
  match P.underlying t, i with
  | some .string, some (.one (.int _ iv)) => match natOf iv with
    | some (k, q) => some ⟨some (.one (.int .u8 (.v (strAt s k.val)))), [], [], [], q ++ [k.val < s.size], [], n⟩
    | none => none
  | _, _ => none
/-- math/bits.Sub64, for which the model stands in. -/
noncomputable def sub64v (x y b : Int) : Int := (((x.toNat + 18446744073709551616 - y.toNat - b.toNat) % 18446744073709551616 : Nat) : Int)
noncomputable def sub64b (x y b : Int) : Int := ((if x.toNat < y.toNat + b.toNat then 1 else 0 : Nat) : Int)
noncomputable def isSub64 (P : Program) (h : FuncId) : Bool := match P.funcs[h]? with
  | some fn => (match fn.body with
    | some _ => false
    | none => (fn.name == "math/bits.Sub64") && (fn.origin == ""))
  | none => false
noncomputable def subS (vs : List SV) (n : Nat) : Option Eff := match vs with
  | [.one (.int .u64 x), .one (.int .u64 y), .one (.int .u64 b)] =>
    some ⟨some (.tup [(false, [.int .u64 (mkI (isC x y && isC x b) (sub64v x.val y.val b.val))]), (false, [.int .u64 (mkI (isC x y && isC x b) (sub64b x.val y.val b.val))])]), [], [], [], [0 ≤ x.val, 0 ≤ y.val, 0 ≤ b.val ∧ b.val ≤ 1], [], n⟩
  | _ => none
noncomputable def callE (P : Program) (ce : CE) (mem : Mem) (n : Nat) (h : FuncId) (vs : List SV) : Option Eff := bif isSub64 P h then subS vs n else callN ce mem n h vs
/-- A pointer, or a slice that has elements, against nil. -/
noncomputable def nilEq (P : Program) (mem : Mem) (n : Nat) (op : BinOp) (t : TypeId) : Option SV → Option SV → Option Eff
  | some (.one (.ptr id _)), some (.one .nilp) => match op, P.underlying t, look mem id with
    | .eql, some (.pointer _), some (.blk _ _) => some ⟨some (.one (.bool (.c false))), [id], [], [], [], [], n⟩
    | .neq, some (.pointer _), some (.blk _ _) => some ⟨some (.one (.bool (.c true))), [id], [], [], [], [], n⟩
    | _, _, _ => none
  | some (.one (.wh id)), some (.one .nilsl) => match op, P.underlying t, look mem id with
    | .eql, some (.slice _), some _ => (liveE mem id (.c 0)).map fun q => ⟨some (.one (.bool (.c false))), [id], [], [], q, [], n⟩
    | _, _, _ => none
  | some (.one .nilsl), some (.one .nilsl) => match op, P.underlying t with
    | .eql, some (.slice _) => some (Eff.pure n (.one (.bool (.c true))))
    | _, _ => none
  | _, _ => none
noncomputable def opExec (P : Program) (ce : CE) (o : Oper) (env : Env) (g : List (Nat × Bool)) (mem : Mem) (n : Nat) : Option Eff :=
  match o.op with
  | .move x => (arg env g x).map (Eff.pure n)
  | .assign x => (arg env g x).map (Eff.pure n)
  | .alloc t => match zeroOf P t with
    | some v => match v.cells with
      | some cs => some ⟨some (.one (.ptr n 0)), [], [], [(n, .blk t (tagged (n + 1) cs))], [], [], n + 1 + cs.length⟩
      | none => none
    | none => none
  | .box t x => match (arg env g x).bind SV.cells with
    | some cs => some ⟨some (.one (.ptr n 0)), [], [], [(n, .blk t (tagged (n + 1) cs))], [], [], n + 1 + cs.length⟩
    | none => none
  | .build t ps => match P.underlying t, (zeroOf P t).bind SV.cells, parts env g ps.toList with
    | some (.struct fs), some z, some vs => match fieldPlaces P fs.toList with
      | some pl => (fillS (fun i => pl[i]?) z vs).map fun cs => Eff.pure n (.agg cs)
      | none => none
    | some (.array _ e), some z, some vs => match P.info? e with
      | some i => (fillS (fun j => some (j * i.size, i.size)) z vs).map fun cs => Eff.pure n (.agg cs)
      | none => none
    | _, _, _ => none
  | .load t x => match eptrOf (arg env g x) with
    | some (id, esz, i, off) => orO (loadE P t mem n id esz i off) (loadK P t mem n id esz i off)
    | none => match arg env g x, isAggT P t, P.info? t with
    | some (.one (.ptr id off)), some a, some i => match look mem id with
      | some (.blk _ cs) => bif a then
          (let r := untag (cut cs off i.size); bif Nat.beq r.length i.size then some ⟨some (.agg r), [id], [], [], [], [], n⟩ else none)
        else (match cut cs off 1 with
          | [(_, c)] => some ⟨some (.one c), [id], [], [], [], [], n⟩
          | _ => none)
      | _ => none
    | _, _, _ => none
  | .store t x y => match eptrOf (arg env g x) with
    | some (id, esz, i, off) => (match (arg env g y).bind SV.cells with
      | some vs => orO (storeE P t mem n id esz i off vs) (storeK P t mem n id esz i off vs)
      | none => none)
    | none => match arg env g x, (arg env g y).bind SV.cells, P.info? t with
    | some (.one (.ptr id off)), some vs, some i => match look mem id with
      | some (.blk ty cs) => bif Nat.beq vs.length i.size && Nat.ble (off + vs.length) cs.length then
          some ⟨none, [id], [id], [(id, .blk ty (paste cs off (tagged n vs)))], [], [], n + vs.length⟩ else none
      | _ => none
    | _, _, _ => none
  | .nilCheck x => match eptrOf (arg env g x) with
    | some (id, esz, i, off) => (liveE mem id i).map fun q => ⟨some (.one (.eptr id esz i off)), [id], [], [], q, [], n⟩
    | none => match arg env g x with
    | some (.one (.ptr id off)) => match look mem id with
      | some (.blk _ _) => some ⟨some (.one (.ptr id off)), [id], [], [], [], [], n⟩
      | _ => none
    | _ => none
  | .binOp op t x y _ => match nilEq P mem n op t (arg env g x) (arg env g y) with
    | some e => some e
    | none => match arg env g x, arg env g y with
    | some a, some b => (binop P op t a b).map fun (c, q) => ⟨some (.one c), [], [], [], q, [], n⟩
    | _, _ => none
  | .unOp op _ x => ((arg env g x).bind (unop op)).map fun c => Eff.pure n (.one c)
  | .convert s d x => match P.underlying s, P.underlying d, arg env g x with
    | some _, some (.int k), some (.one (.int _ (.c m))) => some (Eff.pure n (.one (.int k (.c (k.wrap m)))))
    | some _, some (.int k), some (.one (.int _ (.v m))) => some (Eff.pure n (.one (.int k (.v (k.wrap m)))))
    | _, _, _ => none
  | .fieldAddr t x f => match eptrOf (arg env g x) with
    | some (id, esz, i, off) => fieldE P t f mem n id esz i off
    | none => match P.underlying t, arg env g x with
    | some (.struct fs), some (.one (.ptr id off)) => match fs.toList[f]? with
      | some fd => (match P.info? fd.type with
        | some i => (match look mem id with
          | some (.blk _ _) => bif Nat.beq i.size 0 then none else some ⟨some (.one (.ptr id (off + fd.offset))), [id], [], [], [], [], n⟩
          | _ => none)
        | none => none)
      | none => none
    | _, _ => none
  | .field t x f => match P.underlying t, arg env g x with
    | some (.struct fs), some (.agg cs) => match fs.toList[f]? with
      | some fd => (match isAggT P fd.type, P.info? fd.type with
        | some true, some i => (let r := cut cs fd.offset i.size; bif Nat.beq r.length i.size then some (Eff.pure n (.agg r)) else none)
        | some false, some _ => (match cut cs fd.offset 1 with
          | [c] => some (Eff.pure n (.one c))
          | _ => none)
        | _, _ => none)
      | none => none
    | _, _ => none
  | .extract x k => match arg env g x with
    | some (.tup vs) => match vs[k]? with
      | some (true, cs) => some (Eff.pure n (.agg cs))
      | some (false, [c]) => some (Eff.pure n (.one c))
      | _ => none
    | _ => none
  | .buildSlice t len ps => buildS P t len (parts env g ps.toList) n
  | .indexAddr t x i => orO (indexA P t (arg env g x) (arg env g i) mem n) (indexK P t (arg env g x) (arg env g i) mem n)
  | .index t x i => match strOf x with
    | some s => indexStr P t s (arg env g i) n
    | none => indexV P t (arg env g x) (arg env g i) n
  | .slice t x lo hi none => sliceOrCut P t (arg env g x) env g lo hi mem n
  | .makeSlice t x y => makeS P t (sameOp x y) (arg env g x) n
  | .makeFunc (.func f) ⟨[]⟩ caps => (args env g caps.toList).map (makeF n f)
  | .call c => match c.callee with
    | .builtin b => builtinS P b c.argTypes.toList (args env g c.args.toList) mem n
    | .value f => match cloOf (arg env g f) with
      | some (h, id) => (match args env g c.args.toList with
        | some vs => callC ce mem n h id vs
        | none => none)
      | none => match yldOf (arg env g f) with
      | some (y, id) => (match args env g c.args.toList with
        | some vs => yldC ce mem n y id vs
        | none => none)
      | none => match arg env g f, args env g c.args.toList with
      | some (.one (.fn h)), some vs => callE P ce mem n h vs
      | _, _ => none
    | _ => none
  | _ => none

/-! ### Regions -/
/-- Whether an operation runs: skipped for sure, or under these guards. -/
inductive Wt where
  | no | yes (g : List (Nat × Bool)) (gx : List (Bool × Bool)) | bad
noncomputable def wants (ops : List Oper) (env : Env) (o : Oper) : Wt :=
  match o.guard with
  | none => .yes [] []
  | some (j, w) => match (ops[j]?).bind (·.dst) with
    | none => .bad
    | some d => match look env d with
      | none => .bad
      | some e => match e.val with
        | .one (.bool (.c b)) => bif (b == w) then .yes e.g e.gx else .no
        | .one (.bool (.v x)) => .yes ((d, w) :: e.g) ((x, w) :: e.gx)
        | _ => .bad
/-- Choosing between two values. -/
noncomputable def pickV (env : Env) (g : List (Nat × Bool)) (c a b : Operand) : Option SV :=
  match c with
  | .tmp d => match look env d with
    | some e => bif gsub e.g g then (match e.val with
        | .one (.bool (.c x)) => bif x then arg env g a else arg env g b
        | .one (.bool (.v x)) => (match arg env ((d, true) :: g) a, arg env ((d, false) :: g) b with
          | some va, some vb => mergeV x va vb
          | _, _ => none)
        | _ => none) else none
    | none => none
  | _ => none
noncomputable def step1 (P : Program) (ce : CE) (o : Oper) (env : Env) (g : List (Nat × Bool)) (mem : Mem) (n : Nat) : Option Eff :=
  match o.op with
  | .pick c a b => (pickV env g c a b).map (Eff.pure n)
  | _ => opExec P ce o env g mem n
noncomputable def underAll (gx : List (Bool × Bool)) : List Prop → List Prop
  | [] => []
  | p :: r => under gx p :: underAll gx r
noncomputable def freeOf (d : Nat) (l : List (Nat × Bool)) : Bool :=
  List.rec (motive := fun _ => Bool) true (fun p _ ih => !(Nat.beq p.1 d) && ih) l
theorem freeOf_nil (d : Nat) : freeOf d [] = true := rfl
theorem freeOf_cons (d : Nat) (p : Nat × Bool) (r : List (Nat × Bool)) : freeOf d (p :: r) = (!(Nat.beq p.1 d) && freeOf d r) := rfl
noncomputable def noGuardOn (d : Nat) (l : Env) : Bool :=
  List.rec (motive := fun _ => Bool) true (fun p _ ih => List.rec (motive := fun _ => Bool) ih (fun q r _ => Bool.rec false ih (freeOf d (q :: r))) p.2.g) l
theorem noGuardOn_nil (d : Nat) : noGuardOn d [] = true := rfl
theorem noGuardOn_cons (d k : Nat) (e : Ent) (r : Env) : noGuardOn d ((k, e) :: r) = (freeOf d e.g && noGuardOn d r) := by
  obtain ⟨g, gx, tag, val⟩ := e
  cases g with
  | nil => rfl
  | cons q g =>
    show (Bool.rec false (noGuardOn d r) (freeOf d (q :: g)) : Bool) = (freeOf d (q :: g) && noGuardOn d r)
    cases freeOf d (q :: g) <;> rfl
noncomputable def idsMem : Mem → List Nat
  | [] => []
  | (id, o) :: r => id :: (idsO o ++ idsMem r)
noncomputable def gslots : List (Nat × Bool) → List Nat
  | [] => []
  | p :: r => p.1 :: gslots r
noncomputable def slotsOf : List Operand → List Nat
  | [] => []
  | .tmp t :: r => t :: slotsOf r
  | _ :: r => slotsOf r
/-- The places of a footprint: slots, objects, the names of new objects. -/
noncomputable def q0 : List Nat → List Nat
  | [] => []
  | a :: r => 4 * a :: q0 r
noncomputable def q1 : List Nat → List Nat
  | [] => []
  | a :: r => (4 * a + 1) :: q1 r
noncomputable def q2 : List Nat → List Nat
  | [] => []
  | a :: r => (4 * a + 2) :: q2 r
noncomputable def allIn (n : Nat) (dom : List Nat) (l : List Nat) : Bool :=
  List.rec (motive := fun _ => Bool) true (fun a _ ih => (Nat.blt a n || has dom a) && ih) l
theorem allIn_nil (n : Nat) (dom : List Nat) : allIn n dom [] = true := rfl
theorem allIn_cons (n : Nat) (dom : List Nat) (a : Nat) (r : List Nat) : allIn n dom (a :: r) = ((Nat.blt a n || has dom a) && allIn n dom r) := rfl
noncomputable def idsE : Option SV → List Nat
  | some v => idsV v
  | none => []
structure FP where
  rs : List Nat
  ws : List Nat
  gs : List Nat
  ds : List Nat
structure RS where
  env : Env
  mem : Mem
  needs : List Prop
  eqs : Eqs
  n : Nat
  fps : List FP
noncomputable def guardSlot (ops : List Oper) (o : Oper) : List Nat :=
  match o.guard with
  | none => []
  | some (j, _) => match (ops[j]?).bind (·.dst) with
    | some d => [d]
    | none => []
noncomputable def reads (ops : List Oper) (o : Oper) (g : List (Nat × Bool)) (e : Eff) : List Nat :=
  q0 (slotsOf o.op.operands.toList ++ (guardSlot ops o ++ gslots g)) ++ (q1 e.rd ++ q2 (idsE e.val ++ idsMem e.ups))
noncomputable def dstL (o : Oper) : List Nat := match o.dst with | some d => [d] | none => []
/-- The names that are new. -/
noncomputable def newOf (n : Nat) (l : List Nat) : List Nat :=
  List.rec (motive := fun _ => List Nat) [] (fun a _ ih => Bool.rec (a :: ih) ih (Nat.blt a n)) l
theorem mem_newOf {n id : Nat} : ∀ {l : List Nat}, id ∈ l → n ≤ id → id ∈ newOf n l
  | a :: r, h, hn => by
    show id ∈ (Bool.rec (a :: newOf n r) (newOf n r) (Nat.blt a n) : List Nat)
    rcases List.mem_cons.1 h with rfl | h
    · have : Nat.blt id n = false := by
        cases hb : Nat.blt id n
        · rfl
        · rw [Nat.blt_eq] at hb; omega
      rw [this]; simp
    · have := mem_newOf h hn
      cases Nat.blt a n
      · exact List.mem_cons_of_mem _ this
      · exact this
noncomputable def writes (n : Nat) (o : Oper) (e : Eff) : List Nat := q0 (dstL o) ++ (q1 (e.touched ++ domain e.ups) ++ q2 (newOf n (domain e.ups)))
noncomputable def sameR : RowC → RowC → Option Eqs
  | .lit _ a, .lit _ b => some [(.v (tupR a), .v (tupR b))]
  | .lst _ ks xs, .lst _ js ys => bif cksEq ks js then some [(.l xs, .l ys)] else none
  | .lit _ [], .lst _ _ ys => some [(.l [], .l ys)]
  | .lst _ _ xs, .lit _ [] => some [(.l xs, .l [])]
  | _, _ => none
noncomputable def sameObj : Obj → Obj → Option Eqs
  | .blk t x, .blk u y => bif Nat.beq t u then sameTC x y else none
  | .row p t m x, .row q u k y => bif (p == q) && (Nat.beq t u && Nat.beq m k) then sameR x y else none
  | _, _ => none
noncomputable def sameMem (mem ups : Mem) : List Nat → Option Eqs
  | [] => some []
  | id :: r => match look mem id, look ups id with
    | some o, some o' => (match sameObj o o', sameMem mem ups r with
      | some a, some b => some (a ++ b)
      | _, _ => none)
    | _, _ => none
/-- May the effect stand behind a guard? It must leave everything as it was. -/
noncomputable def quietly (g : List (Nat × Bool)) (n : Nat) (e : Eff) (mem : Mem) : Option Eqs :=
  match g with
  | [] => some []
  | _ => bif (match e.val with | some v => noNew n (idsV v) | none => false) then sameMem mem e.ups e.touched else none
/-- What an operation does to the state. -/
structure Fx where
  dst : Option Nat
  ent : Option Ent
  touched : List Nat
  ups : Mem
noncomputable def Fx.env (x : Fx) (env : Env) : Env :=
  match x.dst with
  | some d => (match x.ent with | some e => put env d e | none => rem env d)
  | none => env
noncomputable def Fx.mem (x : Fx) (mem : Mem) : Mem := x.ups ++ delAll mem (x.touched ++ domain x.ups)
noncomputable def dstOk (nt : Nat) (o : Oper) (env : Env) : Bool := match o.dst with | some d => Nat.blt d nt && noGuardOn d env | none => true
noncomputable def dstFree (o : Oper) (g : List (Nat × Bool)) : Bool := match o.dst with | some d => freeOf d g | none => true
noncomputable def fxOf (o : Oper) (g : List (Nat × Bool)) (gx : List (Bool × Bool)) (e : Eff) (mem : Mem) : Fx :=
  match g with
  | [] => ⟨o.dst, e.val.map fun v => ⟨[], [], e.nx, v⟩, e.touched, e.ups⟩
  | _ => ⟨o.dst, e.val.map fun v => ⟨g, gx, e.nx, v⟩, e.touched, restrict mem e.touched⟩
noncomputable def opStep (P : Program) (ce : CE) (nt : Nat) (ops : List Oper) (o : Oper) (s : RS) : Option RS :=
  bif dstOk nt o s.env then
  (match wants ops s.env o with
  | .bad => none
  | .no => some { s with env := (Fx.mk o.dst none [] []).env s.env, fps := s.fps ++ [⟨q0 (guardSlot ops o), q0 (dstL o), [], dstL o⟩] }
  | .yes g gx => match step1 P ce o s.env g s.mem s.n with
    | none => none
    | some e => match quietly g s.n e s.mem with
      | none => none
      | some q => bif Nat.ble s.n e.nx && (dstFree o g && allIn 0 e.rd e.touched && (allIn s.n (domain e.ups) (idsE e.val ++ idsMem e.ups) && noNew e.nx (domain e.ups))) then
        some { env := (fxOf o g gx e s.mem).env s.env, mem := (fxOf o g gx e s.mem).mem s.mem, needs := s.needs ++ underAll gx e.needs, eqs := s.eqs ++ (e.eqs ++ q), n := e.nx + 1,
               fps := s.fps ++ [⟨reads ops o g e, writes s.n o e, gslots g, dstL o⟩] }
      else none)
  else none
noncomputable def opSteps (P : Program) (ce : CE) (nt : Nat) (ops : List Oper) : List Oper → RS → Option RS
  | [], s => some s
  | o :: r, s => match opStep P ce nt ops o s with
    | some s' => opSteps P ce nt ops r s'
    | none => none

/-! ### Code -/
inductive SX where
  | normal | exit (id : Nat) | ret
noncomputable def SX.eq : SX → SX → Bool
  | .normal, .normal => true
  | .ret, .ret => true
  | .exit a, .exit b => Nat.beq a b
  | _, _ => false
inductive Tree where
  | leaf (e : SX) (env : Env) (mem : Mem)
  | ite (c : Bool) (a b : Tree)
structure TR where
  t : Tree
  needs : List Prop
  eqs : Eqs
  n : Nat
noncomputable def andAll : List Prop → Prop
  | [] => True
  | [p] => p
  | p :: r => p ∧ andAll r
noncomputable def impAll (p : Prop) : List Prop → List Prop
  | [] => []
  | q :: r => [p → andAll (q :: r)]
noncomputable def bindT (k : Env → Mem → Nat → Option TR) : Tree → Nat → Option TR
  | .leaf .normal env mem, n => k env mem n
  | .leaf e env mem, n => some ⟨.leaf e env mem, [], [], n⟩
  | .ite c a b, n => match bindT k a n with
    | none => none
    | some x => match bindT k b x.n with
      | none => none
      | some y => some ⟨.ite c x.t y.t, impAll (c = true) x.needs ++ impAll (c = false) y.needs, x.eqs ++ y.eqs, y.n⟩
noncomputable def outB (id : Nat) : Tree → Tree
  | .leaf (.exit i) env mem => bif Nat.beq i id then .leaf .normal env mem else .leaf (.exit i) env mem
  | .leaf e env mem => .leaf e env mem
  | .ite c a b => .ite c (outB id a) (outB id b)
noncomputable def collapse : Tree → Nat → Tree × Eqs × Nat
  | .leaf e env mem, n => (.leaf e env mem, [], n)
  | .ite c a b, n => match collapse a n with
    | (a', qa, n1) => match collapse b n1 with
      | (b', qb, n2) => match a', b' with
        | .leaf e env mem, .leaf f env' mem' => bif SX.eq e f && !(partsEnv env env' || partsMem mem mem') then
            (match mergeEnv c n2 env env' with
            | (v, q1, n3) => match mergeMem c n3 mem mem' with
              | (m, q2, n4) => (.leaf e v m, qa ++ qb ++ q1 ++ q2, n4))
          else (.ite c a' b', qa ++ qb, n2)
        | _, _ => (.ite c a' b', qa ++ qb, n2)
/-- A list of numbers as one number. -/
noncomputable def mask (l : List Nat) : Nat :=
  List.rec (motive := fun _ => Nat) 0 (fun a _ ih => Nat.lor (2 ^ a) ih) l
theorem mask_nil : mask [] = 0 := rfl
theorem mask_cons (a : Nat) (r : List Nat) : mask (a :: r) = Nat.lor (2 ^ a) (mask r) := rfl
noncomputable def keepEnv (keep : Nat) : Env → Env
  | [] => []
  | (t, e) :: r => bif keep.testBit t then (match e.g with | [] => (t, e) :: keepEnv keep r | _ => del (keepEnv keep r) t) else del (keepEnv keep r) t

/-! ### An order that is open -/
/-- For each operation the bits of those that come before it in every order. -/
noncomputable def orAll (acc : List Nat) : List Edge → Nat
  | [] => 0
  | e :: r => bif Region.binds .any e then (2 ^ e.on ||| acc.getD e.on 0) ||| orAll acc r else orAll acc r
noncomputable def befores : List Oper → List Nat → List Nat
  | [], acc => acc
  | o :: r, acc => befores r (acc ++ [orAll acc o.after.toList])
noncomputable def backE (n : Nat) : List Edge → Bool
  | [] => true
  | e :: r => (!(Region.binds .any e) || Nat.blt e.on n) && backE n r
noncomputable def backs : Nat → List Oper → Bool
  | _, [] => true
  | n, o :: r => backE n o.after.toList && backs (n + 1) r
noncomputable def clash (a b : FP) : Bool := meets a.ws b.rs || (meets a.ws b.ws || meets a.rs b.ws)
structure FM where
  rs : Nat
  ws : Nat
  gs : Nat
  ds : Nat
noncomputable def fm (a : FP) : FM := ⟨mask a.rs, mask a.ws, mask a.gs, mask a.ds⟩
noncomputable def apart (a b : Nat) : Bool := Nat.beq (Nat.land a b) 0
noncomputable def clashM (a b : FM) : Bool := !(apart a.ws (Nat.lor b.rs b.ws) && apart a.rs b.ws)
/-- Operation j (footprint b, bits m) against those before it, from number i on. -/
noncomputable def chk1 (b : FM) (m : Nat) : List FM → Nat → Bool
  | [], _ => true
  | a :: r, i => (m.testBit i || !clashM a b) && (apart a.gs b.ds && chk1 b m r (i + 1))
noncomputable def chkAll : List FM → List FM → List Nat → Bool
  | _, [], _ => true
  | done, b :: r, m :: ms => chk1 b m done 0 && chkAll (done ++ [b]) r ms
  | _, _ :: _, [] => false

/-- What is known of a loop, at each state in front of it. -/
abbrev LoopS := Env → Mem → Nat → Option TR
/-- A loop is named by the first region in it. -/
noncomputable def firstR : Code → Option Nat
  | .region id _ _ => some id
  | .seq a b => match firstR a with | some i => some i | none => firstR b
  | .cond _ a b => match firstR a with | some i => some i | none => firstR b
  | .block _ b => firstR b
  | .loop b => firstR b
  | _ => none
noncomputable def loopsOf : Code → List Code
  | .seq a b => loopsOf a ++ loopsOf b
  | .cond _ a b => loopsOf a ++ loopsOf b
  | .block _ b => loopsOf b
  | .loop b => b :: loopsOf b
  | _ => []
structure Cfg where
  keep : Nat
  nt : Nat
  fuel : Nat
  loops : Nat → Option LoopS
noncomputable def loopAt (cfg : Cfg) (b : Code) (u : LoopS) (env : Env) (mem : Mem) (n : Nat) : Option TR :=
  match (firstR b).bind cfg.loops with
  | some s => (match s env mem n with
    | some r => some r
    | none => u env mem n)
  | none => u env mem n
/-- A branch that is not looked at: it is known, by the counter, which way a condition goes (that it does so is asked for). -/
noncomputable def bans (cfg : Cfg) (n : Nat) (w : Bool) : Bool := match cfg.loops (1000000 + n) with
  | some s => (match s [] [] 0 with
    | some _ => w
    | none => !w)
  | none => false
noncomputable def lest (c : Bool) (r : Option TR) : Option TR := bif c then none else r
theorem lest_spec {c : Bool} {r : Option TR} {x : TR} (h : lest c r = some x) : r = some x := by
  cases c
  · exact h
  · cases h
noncomputable def regionC (P : Program) (ce : CE) (cfg : Cfg) (ops : List Oper) (draw : Bool) (env : Env) (mem : Mem) (n : Nat) : Option TR :=
  match opSteps P ce cfg.nt ops ops ⟨env, mem, [], [], n, []⟩ with
  | some s => bif !draw || (backs 0 ops && (P.follows .mixedOrders && chkAll [] (s.fps.map fm) (befores ops []))) then some ⟨.leaf .normal (keepEnv cfg.keep s.env) s.mem, s.needs, s.eqs, s.n⟩ else none
  | none => none
noncomputable def loopN (body : Env → Mem → Nat → Option TR) : Nat → Env → Mem → Nat → Option TR
  | 0, _, _, _ => none
  | k + 1, env, mem, n => match body env mem n with
    | none => none
    | some x => match collapse x.t x.n with
      | (t, q, n1) => match bindT (loopN body k) t n1 with
        | none => none
        | some y => some ⟨y.t, x.needs ++ y.needs, x.eqs ++ q ++ y.eqs, y.n⟩
noncomputable def execC (P : Program) (ce : CE) (cfg : Cfg) : Code → Env → Mem → Nat → Option TR
  | .skip, env, mem, n => some ⟨.leaf .normal env mem, [], [], n⟩
  | .region _ ops draw, env, mem, n => regionC P ce cfg ops.toList draw env mem n
  | .seq a b, env, mem, n => match execC P ce cfg a env mem n with
    | none => none
    | some x => match collapse x.t x.n with
      | (t, q, n1) => match bindT (execC P ce cfg b) t n1 with
        | none => none
        | some y => some ⟨y.t, x.needs ++ y.needs, x.eqs ++ q ++ y.eqs, y.n⟩
  | .cond c a b, env, mem, n => match arg env [] c with
    | some (.one (.bool (.c x))) => bif x then execC P ce cfg a env mem n else execC P ce cfg b env mem n
    | some (.one (.bool (.v x))) => match lest (bans cfg n false) (execC P ce cfg a env mem n) with
      | none => (match execC P ce cfg b env mem n with
        | none => none
        | some z => some { z with needs := (x = false) :: z.needs })
      | some y => match lest (bans cfg n true) (execC P ce cfg b env mem y.n) with
        | none => some { y with needs := (x = true) :: y.needs }
        | some z => some ⟨.ite x y.t z.t, impAll (x = true) y.needs ++ impAll (x = false) z.needs, y.eqs ++ z.eqs, z.n⟩
    | _ => none
  | .block id b, env, mem, n => match execC P ce cfg b env mem n with
    | none => none
    | some x => some { x with t := outB id x.t }
  | .exit id, env, mem, n => some ⟨.leaf (.exit id) env mem, [], [], n⟩
  | .ret, env, mem, n => some ⟨.leaf .ret env mem, [], [], n⟩
  | .loop b, env, mem, n => loopAt cfg b (loopN (execC P ce cfg b) cfg.fuel) env mem n
  | .rangeFunc .., _, _, _ => none
  | .scope _, _, _, _ => none
  | .label _, _, _, _ => none
  | .goto _, _, _, _ => none
  | .refuse _, _, _, _ => none

/-! ### Functions -/
/-- The slots that are read outside the region that writes them. -/
noncomputable def regionReads : List Oper → List Nat → List Nat
  | [], _ => []
  | o :: r, d => (slotsOf o.op.operands.toList).filter (fun t => !has d t) ++ regionReads r (match o.dst with | some t => t :: d | none => d)
noncomputable def codeReads : Code → List Nat
  | .region _ ops _ => regionReads ops.toList []
  | .seq a b => codeReads a ++ codeReads b
  | .cond c a b => slotsOf [c] ++ (codeReads a ++ codeReads b)
  | .block _ b => codeReads b
  | .loop b => codeReads b
  | _ => []
noncomputable def resReads : List ResultVar → List Nat
  | [] => []
  | .tmp t :: r => t :: resReads r
  | .cell t _ :: r => t :: resReads r
noncomputable def result1 (P : Program) (env : Env) (mem : Mem) : ResultVar → Option (Bool × List SC)
  | .tmp t => match look env t with
    | some e => match e.g, e.val with
      | [], .one c => some (false, [c])
      | [], .agg cs => some (true, cs)
      | _, _ => none
    | none => none
  | .cell t ty => match look env t, isAggT P ty, P.info? ty with
    | some e, some a, some i => match e.g, e.val with
      | [], .one (.ptr id off) => match look mem id with
        | some (.blk _ cs) => bif a then (let r := untag (cut cs off i.size); bif Nat.beq r.length i.size then some (true, r) else none)
            else (match cut cs off 1 with | [(_, c)] => some (false, [c]) | _ => none)
        | _ => none
      | _, _ => none
    | _, _, _ => none
noncomputable def resultsS (P : Program) (env : Env) (mem : Mem) : List ResultVar → Option (List (Bool × List SC))
  | [] => some []
  | r :: rs => match result1 P env mem r, resultsS P env mem rs with
    | some x, some xs => some (x :: xs)
    | _, _ => none
noncomputable def packS : List (Bool × List SC) → Option SV
  | [(true, cs)] => some (.agg cs)
  | [(false, [c])] => some (.one c)
  | [_] => none
  | l => some (.tup l)
/-- Two slices, of which a condition picks one: a new row. -/
noncomputable def pickRow (mem : Mem) (n0 : Nat) : SC → Option (Option (Nat × Nat × Nat × RowC))
  | .nilsl => some none
  | .wh id => match look mem id with
    | some (.row false ty m r) => bif Nat.ble n0 id then some (some (id, ty, m, r)) else none
    | _ => none
  | _ => none
structure Picked where
  ty : Nat
  esz : Nat
  r : RowC
  gone : List Nat
  eqs : Eqs
  n : Nat
noncomputable def mergeSl (c : Bool) (n0 n : Nat) (m m' : Mem) (x y : SC) : Option Picked :=
  match pickRow m n0 x, pickRow m' n0 y with
  | some (some (i, ty, k, r)), some (some (j, ty', k', r')) => bif Nat.beq ty ty' && Nat.beq k k' then (mergeR c n r r').map (fun (z, q, n') => ⟨ty, k, z, [i, j], q, n'⟩) else none
  | some (some (i, ty, k, r)), some none => bif Nat.blt 0 k then (mergeR c n r (.lit n [])).map (fun (z, q, n') => ⟨ty, k, z, [i], q, n'⟩) else none
  | some none, some (some (j, ty, k, r)) => bif Nat.blt 0 k then (mergeR c n (.lit n []) r).map (fun (z, q, n') => ⟨ty, k, z, [j], q, n'⟩) else none
  | _, _ => none
noncomputable def finalV (c : Bool) (n0 n : Nat) (m m' : Mem) : SV → SV → Option (SV × Picked)
  | .one x, .one y => (mergeSl c n0 n m m' x y).map fun p => (.one (.wh p.n), p)
  | .tup ((false, [x]) :: r), .tup ((false, [y]) :: s) => match mergeSl c n0 n m m' x y, mergeTup c r s with
    | some p, some t => bif (idsTup t).isEmpty then some (.tup ((false, [.wh p.n]) :: t), p) else none
    | _, _ => none
  | _, _ => none
/-! Slices that stand in blocks, where branches meet: a new row, in both. -/
noncomputable def findPart : List (Nat × SC) → List (Nat × SC) → Nat → Option Nat
  | (_, x) :: r, (_, y) :: s, j => bif partsC x y then some j else findPart r s (j + 1)
  | _, _, _ => none
noncomputable def findSlot : Mem → Mem → Option (Nat × Nat)
  | [], _ => none
  | (b, o) :: r, s => match (match o, look s b with
      | .blk _ x, some (.blk _ y) => findPart x y 0
      | _, _ => none) with
    | some j => some (b, j)
    | none => findSlot r s
noncomputable def slotTy (m : Mem) (b j : Nat) : Option (Nat × Nat) :=
  match look m b with
  | some (.blk _ cs) => match cs.drop j with
    | (_, .wh a) :: _ => match look m a with
      | some (.row false ty k _) => some (ty, k)
      | _ => none
    | _ => none
  | _ => none
noncomputable def moveSlot (m : Mem) (b j p e k : Nat) : Option Mem :=
  match look m b with
  | some (.blk ty cs) => match cs.drop j with
    | (_, x) :: r => match pickRow m 0 x with
      | some none => some (put ((p, .row false e k (.lit (p + 1) [])) :: delAll m [p]) b (.blk ty (cs.take j ++ (p + 2, .wh p) :: r)))
      | some (some (i, e', k', z)) => bif Nat.beq e' e && Nat.beq k' k then some (put ((p, .row false e k z) :: delAll m [p, i]) b (.blk ty (cs.take j ++ (p + 2, .wh p) :: r))) else none
      | none => none
    | [] => none
  | _ => none
/-! Rows that are only read, where branches meet. -/
noncomputable def pickSee (mem : Mem) : SC → Option (Option (Nat × Nat × Nat × Bool × RowC))
  | .nilsl => some none
  | .wh id => match look mem id with
    | some (.row ro ty m r) => some (some (id, ty, m, ro, r))
    | _ => none
  | _ => none
noncomputable def seeSlot (m : Mem) (b j p e k : Nat) : Option Mem :=
  match look m b with
  | some (.blk ty cs) => match cs.drop j with
    | (_, x) :: r => match pickSee m x with
      | some none => some (put ((p, .row true e k (.lit (p + 1) [])) :: delAll m [p]) b (.blk ty (cs.take j ++ (p + 2, .wh p) :: r)))
      | some (some (i, e', k', ro, z)) => bif Nat.beq e' e && Nat.beq k' k then some (put ((p, .row true e k z) :: delAll m (p :: bif ro then [] else [i])) b (.blk ty (cs.take j ++ (p + 2, .wh p) :: r))) else none
      | none => none
    | [] => none
  | _ => none
noncomputable def seeTy (m : Mem) (b j : Nat) : Option (Nat × Nat) :=
  match look m b with
  | some (.blk _ cs) => match cs.drop j with
    | (_, .wh a) :: _ => match look m a with
      | some (.row true ty k _) => some (ty, k)
      | _ => none
    | _ => none
  | _ => none
noncomputable def shiftSlot (ro : Bool) (m : Mem) (b j p e k : Nat) : Option Mem := bif ro then seeSlot m b j p e k else moveSlot m b j p e k
noncomputable def slotKind (m m' : Mem) (b j : Nat) : Option (Bool × Nat × Nat) :=
  match seeTy m b j, seeTy m' b j with
  | some (e, k), _ => some (true, e, k)
  | none, some (e, k) => some (true, e, k)
  | none, none => match slotTy m b j with
    | some (e, k) => some (false, e, k)
    | none => match slotTy m' b j with
      | some (e, k) => some (false, e, k)
      | none => none
noncomputable def levelSlots : Nat → Mem → Mem → Nat → Mem × Mem × Nat
  | 0, m, m', n => (m, m', n)
  | f + 1, m, m', n => match findSlot m m' with
    | none => (m, m', n)
    | some (b, j) => match slotKind m m' b j with
      | none => (m, m', n)
      | some (ro, e, k) => bif Nat.blt 0 k then (match shiftSlot ro m b j n e k, shiftSlot ro m' b j n e k with
        | some m1, some m2 => levelSlots f m1 m2 (n + 3)
        | _, _ => (m, m', n)) else (m, m', n)
noncomputable def levelled (v v' : SV) (m m' : Mem) (n : Nat) : Mem × Mem × Nat :=
  bif noNew n (idsV v) && noNew n (idsV v') then levelSlots 8 m m' n else (m, m', n)
/-- Rows that were given may be picked only where the values do not stand as one already. -/
noncomputable def floorN (c : Bool) (n0 : Nat) (v v' : SV) : Nat := match mergeV c v v' with
  | some _ => n0
  | none => 0
noncomputable def finalT (P : Program) (n0 : Nat) (rs : List ResultVar) : Tree → Nat → Option (SV × Mem × Eqs × Nat)
  | .leaf (.exit _) _ _, _ => none
  | .leaf _ env mem, n => match (resultsS P env mem rs).bind packS with
    | some v => some (v, mem, [], n)
    | none => none
  | .ite c a b, n => match finalT P n0 rs a n with
    | none => none
    | some (v, m0, q, n1) => match finalT P n0 rs b n1 with
      | none => none
      | some (v', m0', q', n2') => match levelled v v' m0 m0' n2' with
      | (m, m', n2) => match finalV c (floorN c n0 v v') n2 m m' v v' with
        | some (z, p) => (match mergeMem c (p.n + 1) m m' with
          | (mm, q'', n3) => some (z, (p.n, .row false p.ty p.esz p.r) :: delAll mm (p.n :: p.gone), q ++ q' ++ p.eqs ++ q'', n3))
        | none => match mergeV c v v' with
          | none => none
          | some z => match mergeMem c n2 m m' with
            | (mm, q'', n3) => some (z, mm, q ++ q' ++ q'', n3)
noncomputable def initEnv : List SV → Nat → Env
  | [], _ => []
  | v :: r, t => (t, ⟨[], [], 2 * t, v⟩) :: initEnv r (t + 1)
noncomputable def execF (P : Program) (ce : CE) (fuel : Nat) (L : Nat → Option LoopS) (f : FuncId) (vs : List SV) (mem : Mem) (n : Nat) : Option CRes :=
  bif Nat.ble 1000000 f then none else match P.funcs[f]? with
  | none => none
  | some fn => match fn.body with
    | none => none
    | some body => bif Nat.ble vs.length fn.ntmps then
      (match execC P ce ⟨mask (codeReads body ++ resReads fn.results.toList), fn.ntmps, fuel, L⟩ body (initEnv vs 0) mem n with
      | none => none
      | some x => match finalT P n fn.results.toList x.t x.n with
        | none => none
        | some (v, m, q, n') => bif Nat.ble n n' then
            some ⟨v, restrict m (reach m 3 (addAll (domain mem) (idsV v))), x.needs, x.eqs ++ q, n'⟩ else none) else none
/-! ### Names -/
/-- The names, numbered from 0 on. -/
noncomputable def nameAt : List Nat → Nat → Nat → Nat
  | [], n, i => n + i
  | a :: _, _, 0 => a
  | _ :: r, n, i + 1 => nameAt r (n + 1) i
noncomputable def numOf (l : List Nat) (id k : Nat) : Nat :=
  List.rec (motive := fun _ => Nat → Nat) (fun _ => 0) (fun a _ ih k => Bool.rec (ih (k + 1)) k (Nat.beq a id)) l k
theorem numOf_nil (id k : Nat) : numOf [] id k = 0 := rfl
theorem numOf_cons (a : Nat) (r : List Nat) (id k : Nat) : numOf (a :: r) id k = bif Nat.beq a id then k else numOf r id (k + 1) := by
  show (Bool.rec (numOf r id (k + 1)) k (Nat.beq a id) : Nat) = _
  cases Nat.beq a id <;> rfl
noncomputable def SC.ren (f : Nat → Nat) : SC → SC
  | .ptr id off => .ptr (f id) off
  | .eptr id esz i off => .eptr (f id) esz i off
  | .wh id => .wh (f id)
  | .sl id esz off len => .sl (f id) esz off len
  | .bs id len => .bs (f id) len
  | .clo g id => .clo g (f id)
  | .int k n => .int k n
  | .bool b => .bool b
  | .nilp => .nilp
  | .nilsl => .nilsl
  | .fn g => .fn g
  | .yld g id => .yld g (f id)
  | .nilf => .nilf
/-- A renamed cell in front of a list: the cell is looked at first. -/
noncomputable def consC (f : Nat → Nat) (c : SC) (l : List SC) : List SC := match c with
  | .ptr id off => .ptr (f id) off :: l
  | .eptr id esz i off => .eptr (f id) esz i off :: l
  | .wh id => .wh (f id) :: l
  | .sl id esz off len => .sl (f id) esz off len :: l
  | .bs id len => .bs (f id) len :: l
  | .clo g id => .clo g (f id) :: l
  | .int k n => .int k n :: l
  | .bool b => .bool b :: l
  | .nilp => .nilp :: l
  | .nilsl => .nilsl :: l
  | .fn g => .fn g :: l
  | .yld g id => .yld g (f id) :: l
  | .nilf => .nilf :: l
noncomputable def renCs (f : Nat → Nat) (l : List SC) : List SC :=
  List.rec (motive := fun _ => List SC) [] (fun c _ ih => consC f c ih) l
theorem renCs_nil (f : Nat → Nat) : renCs f [] = [] := rfl
theorem renCs_cons (f : Nat → Nat) (c : SC) (r : List SC) : renCs f (c :: r) = c.ren f :: renCs f r := by cases c <;> rfl
noncomputable def renTup (f : Nat → Nat) : List (Bool × List SC) → List (Bool × List SC)
  | [] => []
  | (b, cs) :: r => (b, renCs f cs) :: renTup f r
noncomputable def SV.ren (f : Nat → Nat) : SV → SV
  | .one c => .one (c.ren f)
  | .agg cs => .agg (renCs f cs)
  | .tup vs => .tup (renTup f vs)
noncomputable def renVs (f : Nat → Nat) : List SV → List SV
  | [] => []
  | v :: r => v.ren f :: renVs f r
noncomputable def consT (f : Nat → Nat) (t : Nat) (c : SC) (l : List (Nat × SC)) : List (Nat × SC) := match c with
  | .ptr id off => (t, .ptr (f id) off) :: l
  | .eptr id esz i off => (t, .eptr (f id) esz i off) :: l
  | .wh id => (t, .wh (f id)) :: l
  | .sl id esz off len => (t, .sl (f id) esz off len) :: l
  | .bs id len => (t, .bs (f id) len) :: l
  | .clo g id => (t, .clo g (f id)) :: l
  | .int k n => (t, .int k n) :: l
  | .bool b => (t, .bool b) :: l
  | .nilp => (t, .nilp) :: l
  | .nilsl => (t, .nilsl) :: l
  | .fn g => (t, .fn g) :: l
  | .yld g id => (t, .yld g (f id)) :: l
  | .nilf => (t, .nilf) :: l
/-- Cells under other names and with other tags. -/
noncomputable def renT (f g : Nat → Nat) (l : List (Nat × SC)) : List (Nat × SC) :=
  List.rec (motive := fun _ => List (Nat × SC)) [] (fun p _ ih => consT f (g p.1) p.2 ih) l
theorem renT_nil (f g : Nat → Nat) : renT f g [] = [] := rfl
theorem renT_cons (f g : Nat → Nat) (t : Nat) (c : SC) (r : List (Nat × SC)) : renT f g ((t, c) :: r) = (g t, c.ren f) :: renT f g r := by cases c <;> rfl
noncomputable def retT (g : Nat → Nat) (l : List (Nat × SC)) : List (Nat × SC) :=
  List.rec (motive := fun _ => List (Nat × SC)) [] (fun p _ ih => (g p.1, p.2) :: ih) l
theorem retT_nil (g : Nat → Nat) : retT g [] = [] := rfl
theorem retT_cons (g : Nat → Nat) (t : Nat) (c : SC) (r : List (Nat × SC)) : retT g ((t, c) :: r) = (g t, c) :: retT g r := rfl
noncomputable def retR (g : Nat → Nat) : RowC → RowC
  | .lit t rows => .lit (g t) rows
  | .lst t ks xs => .lst (g t) ks xs
noncomputable def Obj.ren (f g : Nat → Nat) : Obj → Obj
  | .blk ty cs => .blk ty (renT f g cs)
  | .row ro ty esz r => .row ro ty esz (retR g r)
  | .crow ty esz len cs => .crow ty esz len (renT f g cs)
  | .clo cs => .clo (renVs f cs)
  | .raw b rs t L k => .raw b (rs.map f) (g t) L k
noncomputable def renMem (f g : Nat → Nat) : Mem → Mem
  | [] => []
  | (id, o) :: r => (f id, o.ren f g) :: renMem f g r
noncomputable def tagsT : List (Nat × SC) → List Nat
  | [] => []
  | (t, _) :: r => t :: tagsT r
noncomputable def tagsR : RowC → List Nat
  | .lit t _ => [t]
  | .lst t _ _ => [t]
noncomputable def tagsO : Obj → List Nat
  | .blk _ cs => tagsT cs
  | .row _ _ _ r => tagsR r
  | .crow _ _ _ cs => tagsT cs
  | .clo _ => []
  | .raw _ _ t _ _ => [t]
noncomputable def tagsM : Mem → List Nat
  | [] => []
  | (_, o) :: r => tagsO o ++ tagsM r
noncomputable def nodupB : List Nat → Bool
  | [] => true
  | a :: r => !has r a && nodupB r
/-- The objects in the order of the names. -/
noncomputable def pickMem (mem : Mem) : List Nat → Mem
  | [] => []
  | id :: r => match look mem id with
    | some o => (id, o) :: pickMem mem r
    | none => pickMem mem r
/-- A call whose names are numbered from 0 on, in the order in which they are met. -/
noncomputable def canon (g : List SV → Mem → Nat → Option CRes) (vs : List SV) (mem : Mem) (n : Nat) : Option CRes :=
  let I := addAll (addAll [] (idsVs vs)) (idsMem mem)
  let M := pickMem mem I
  let T := addAll [] (tagsM M)
  let k := I.length
  let nc := k + T.length
  bif nodupB I && noNew n I then
    (match g (renVs (fun id => numOf I id 0) vs) (renMem (fun id => numOf I id 0) (fun t => numOf T t k) M) nc with
    | some r => some ⟨r.val.ren (nameAt I n), renMem (nameAt I n) (fun t => bif Nat.blt t nc then (bif Nat.blt t k then n + t else nameAt T n (t - k)) else n + t) r.mem, r.needs, r.eqs, n + r.nx⟩
    | none => none)
  else none
/-- The functions that are taken by what was proved of them; all others are run. -/
abbrev Summ := List SV → Mem → Nat → Option CRes
noncomputable def orElse (s : Option Summ) (g : Summ) (vs : List SV) (mem : Mem) (n : Nat) : Option CRes :=
  match s with
  | some s => (match s vs mem n with
    | some r => some r
    | none => g vs mem n)
  | none => g vs mem n
noncomputable def evalC (P : Program) (S : FuncId → Option Summ) (L : FuncId → Nat → Option LoopS) (fuel : Nat) : Nat → CE
  | 0 => fun _ _ _ _ => none
  | k + 1 => fun f => canon (orElse (S f) (execF P (evalC P S L fuel k) fuel (L f) f))

/-! ### Loops -/
/-- The names of a family of states, and what stands under them. -/
abbrev Sub := List (Nat × Option Nat)
structure MR where
  sub : Sub
  needs : List Prop
  eqs : Eqs
noncomputable def bindN (n0 : Nat) (a : Nat) (b : Option Nat) (m : MR) : Option MR :=
  bif Nat.blt a n0 then (match b with
    | some b => bif Nat.beq a b then some m else none
    | none => none)
  else match look m.sub a with
    | none => some { m with sub := (a, b) :: m.sub }
    | some b' => (match b, b' with
      | some x, some y => bif Nat.beq x y then some m else none
      | none, none => some m
      | _, _ => none)
noncomputable def needI (same : Bool) (k : IntKind) (x y : SI) (m : MR) : MR :=
  match x, y with
  | .c a, .c b => bif decide (a = b) then m else { m with needs := m.needs ++ [a = b] }
  | x, y => bif same then { m with eqs := m.eqs ++ [(.v (.one (.int k x)), .v (.one (.int k y)))] } else { m with needs := m.needs ++ [x.val = y.val] }
noncomputable def needB (same : Bool) (x y : SB) (m : MR) : MR :=
  match x, y with
  | .c a, .c b => bif (a == b) then m else { m with needs := m.needs ++ [a = b] }
  | x, y => bif same then { m with eqs := m.eqs ++ [(.v (.one (.bool x)), .v (.one (.bool y)))] } else { m with needs := m.needs ++ [x.val = y.val] }
noncomputable def needN (x y : SN) (m : MR) : MR :=
  match x, y with
  | .c a, .c b => bif Nat.beq a b then m else { m with needs := m.needs ++ [a = b] }
  | x, y => { m with needs := m.needs ++ [x.val = y.val] }
/-- One tag: but a great one says nothing. -/
noncomputable def sameTag (a b : Nat) : Bool := Nat.beq a b && Nat.blt a 1000000000
/-- The family's cell and the one that stands there. -/
noncomputable def matchC (n0 : Nat) (same : Bool) (x y : SC) (m : MR) : Option MR :=
  match x, y with
  | .int k x, .int j y => bif kindEq k j then some (needI same k x y m) else none
  | .bool x, .bool y => some (needB same x y m)
  | .ptr a o, .ptr b p => bif Nat.beq o p then bindN n0 a (some b) m else none
  | .wh a, .wh b => bindN n0 a (some b) m
  | .wh a, .nilsl => bindN n0 a none m
  | .sl a e o l, .sl b f p k => bif Nat.beq e f then bindN n0 a (some b) (needN l k (needN o p m)) else none
  | .eptr a e i o, .eptr b f j p => bif Nat.beq e f && Nat.beq o p then bindN n0 a (some b) (needN i j m) else none
  | .clo f a, .clo h b => bif Nat.beq f h then bindN n0 a (some b) m else none
  | .nilp, .nilp => some m
  | .nilsl, .nilsl => some m
  | .fn f, .fn h => bif Nat.beq f h then some m else none
  | _, _ => none
noncomputable def matchCs (n0 : Nat) (same : Bool) : List SC → List SC → MR → Option MR
  | [], [], m => some m
  | x :: r, y :: s, m => match matchC n0 same x y m with
    | some m' => matchCs n0 same r s m'
    | none => none
  | _, _, _ => none
noncomputable def matchV (n0 : Nat) (same : Bool) (x y : SV) (m : MR) : Option MR :=
  match x, y with
  | .one x, .one y => matchC n0 same x y m
  | .agg x, .agg y => matchCs n0 same x y m
  | _, _ => none
noncomputable def matchVs (n0 : Nat) : List SV → List SV → MR → Option MR
  | [], [], m => some m
  | x :: r, y :: s, m => match matchV n0 false x y m with
    | some m' => matchVs n0 r s m'
    | none => none
  | _, _, _ => none
noncomputable def matchT (n0 : Nat) : List (Nat × SC) → List (Nat × SC) → MR → Option MR
  | [], [], m => some m
  | (a, x) :: r, (b, y) :: s, m => match matchC n0 (sameTag a b) x y m with
    | some m' => matchT n0 r s m'
    | none => none
  | _, _, _ => none
noncomputable def matchE (n0 : Nat) : Env → Env → MR → Option MR
  | [], _, m => some m
  | (t, e) :: r, env, m => match look env t with
    | none => none
    | some f => match e.g, f.g with
      | [], [] => (match matchV n0 (sameTag e.tag f.tag) e.val f.val m with
        | some m' => matchE n0 r env m'
        | none => none)
      | _, _ => none
noncomputable def matchRows (n0 : Nat) (same : Bool) : List (List SC) → List (List SC) → MR → Option MR
  | [], [], m => some m
  | x :: r, y :: s, m => match encCs x, matchCs n0 same x y m with
    | some _, some m' => matchRows n0 same r s m'
    | _, _ => none
  | _, _, _ => none
noncomputable def matchR (n0 : Nat) (x y : RowC) (m : MR) : Option MR :=
  match x, y with
  | .lst t ks xs, .lst u js ys => bif cksEq ks js then (bif sameTag t u then some { m with eqs := m.eqs ++ [(.l xs, .l ys)] } else some { m with needs := m.needs ++ [xs = ys] }) else none
  | .lst _ ks xs, .lit _ rows => match encRows ks rows with
    | some ys => some { m with needs := m.needs ++ [xs = ys] }
    | none => none
  | .lit t a, .lit u b => matchRows n0 (sameTag t u) a b m
  | _, _ => none
noncomputable def matchO (n0 : Nat) (x y : Obj) (m : MR) : Option MR :=
  match x, y with
  | .blk t x, .blk u y => bif Nat.beq t u then matchT n0 x y m else none
  | .row p t e x, .row q u f y => bif (p == q) && (Nat.beq t u && Nat.beq e f) then matchR n0 x y m else none
  | .crow t e l x, .crow u f k y => bif Nat.beq t u && (Nat.beq e f && Nat.beq l k) then matchT n0 x y m else none
  | .clo x, .clo y => matchVs n0 x y m
  | _, _ => none
noncomputable def matchM (n0 : Nat) : Mem → Mem → MR → Option MR
  | [], _, m => some m
  | (id, o) :: r, mem, m => match (bif Nat.blt id n0 then some (some id) else look m.sub id) with
    | none => none
    | some none => (match o with
      | .row false _ esz (.lst _ _ xs) => bif Nat.blt 0 esz then matchM n0 r mem { m with needs := m.needs ++ [xs = []] } else none
      | _ => none)
    | some (some b) => match look mem b with
      | none => none
      | some p => match matchO n0 o p m with
        | some m' => matchM n0 r mem m'
        | none => none
noncomputable def images : Sub → List Nat
  | [] => []
  | (_, some b) :: r => b :: images r
  | (_, none) :: r => images r
noncomputable def plainE : Env → Bool
  | [] => true
  | (_, e) :: r => (e.g.isEmpty && e.gx.isEmpty) && plainE r
noncomputable def idsEnv : Env → List Nat
  | [] => []
  | (_, e) :: r => idsV e.val ++ idsEnv r
noncomputable def lowDom (n0 : Nat) : Mem → List Nat
  | [] => []
  | (id, _) :: r => bif Nat.blt id n0 then id :: lowDom n0 r else lowDom n0 r
/-- A state (env, mem) is one of the family's: (E, M). -/
noncomputable def matchS (n0 N : Nat) (E : Env) (M : Mem) (env : Env) (mem : Mem) : Option (List Prop × Eqs) :=
  bif plainE E && (noNew N (idsEnv E) && noNew N (idsMem M)) then
    (match matchE n0 E env ⟨[], [], []⟩ with
    | none => none
    | some m => match matchM n0 M mem m with
      | none => none
      | some m' => bif nodupB (images m'.sub) && !(meets (images m'.sub) (lowDom n0 M)) then some (m'.needs, m'.eqs) else none)
  else none
/-- A leaf is one of a tree's leaves. -/
noncomputable def matchL (n0 N : Nat) (e : SX) (env : Env) (mem : Mem) : Tree → Option (List Prop × Eqs)
  | .leaf f E M => bif SX.eq e f then matchS n0 N E M env mem else some ([False], [])
  | .ite c a b => match matchL n0 N e env mem a, matchL n0 N e env mem b with
    | some (p, q), some (p', q') => some (impAll (c = true) p ++ impAll (c = false) p', q ++ q')
    | _, _ => none
/-- A family of the states in front of a loop: s the state, t what is behind the loop. -/
structure Fam (σ τ : Type) where
  k : Nat
  E : σ → Env
  M : σ → Mem
  out : τ → Tree
  fin : σ → τ
  next : σ → Nat → σ
  J : σ → Prop
  μ : σ → Nat
noncomputable def leavesC {σ τ : Type} (F : Fam σ τ) (n : Nat) (s : σ) : Tree → Nat → Option (List Prop × Eqs × Nat)
  | .leaf .normal env mem, i => match matchS n (n + F.k) (F.E (F.next s i)) (F.M (F.next s i)) env mem with
    | some (p, q) => some (F.J (F.next s i) :: (F.μ (F.next s i) < F.μ s) :: (F.fin (F.next s i) = F.fin s) :: p, q, i + 1)
    | none => some ([False], [], i + 1)   -- a state that is none of the family's: it must not be reached
  | .leaf e env mem, i => match matchL n (n + F.k) e env mem (F.out (F.fin s)) with
    | some (p, q) => some (p, q, i + 1)
    | none => some ([False], [], i + 1)
  | .ite c a b, i => match leavesC F n s a i with
    | none => none
    | some (p, q, j) => match leavesC F n s b j with
      | none => none
      | some (p', q', l) => some (impAll (c = true) p ++ impAll (c = false) p', q ++ q', l)
/-- One round. -/
noncomputable def roundC {σ τ : Type} (F : Fam σ τ) (body : LoopS) (n : Nat) (s : σ) : Option (List Prop × Eqs) :=
  match body (F.E s) (F.M s) (n + F.k) with
  | none => none
  | some x => match collapse x.t x.n with
    | (t, q, _) => match leavesC F n s t 0 with
      | some (p, q', _) => some (x.needs ++ p, x.eqs ++ q ++ q')
      | none => none
/-- The loop, from a state that is found in the family. -/
noncomputable def famS {σ τ : Type} (F : Fam σ τ) (n0 : Nat) (init : Env → Mem → Option σ) : LoopS := fun env mem n =>
  bif Nat.beq n n0 then (match init env mem with
    | none => none
    | some s => match matchS n (n + F.k) (F.E s) (F.M s) env mem with
      | some (p, q) => some ⟨F.out (F.fin s), F.J s :: p, q, n + F.k⟩
      | none => none) else none
end Go.SX
