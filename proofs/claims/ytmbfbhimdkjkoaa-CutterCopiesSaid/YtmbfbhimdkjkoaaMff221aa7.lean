/-
  Texts of one claim, laid together. Conditions: none.
-/
import Derived.WalkKit
import Derived.Orders
import Derived.Below
import Derived.OrdersIn
import Derived.RangeFuncIn
import Derived.Laws.AppendOwn
import Derived.Maps.AppendAt
import Derived.Laws.CopyRow
import Derived.Deep.MidRow
import Derived.Laws.Externs
import Derived.DataElems
set_option linter.all false
namespace Go.SX

inductive SI where
  | c (n : Int) | v (x : Int)
inductive SB where
  | c (b : Bool) | v (x : Bool)
inductive SN where
  | c (n : Nat) | v (x : Nat)
noncomputable def SI.val : SI → Int | .c n => n | .v x => x
noncomputable def SB.val : SB → Bool | .c n => n | .v x => x
noncomputable def SN.val : SN → Nat | .c n => n | .v x => x

/-- The value of one cell. -/
inductive SC where
  | int (k : IntKind) (n : SI)
  | bool (b : SB)
  | ptr (id off : Nat)
  | eptr (id esz : Nat) (i : SN) (off : Nat)
  | wh (id : Nat)                                  -- a whole row, as a slice
  | sl (id esz : Nat) (off len : SN)              -- a part of a row
  | nilp
  | nilsl
  | fn (f : FuncId)
  | clo (f : FuncId) (id : Nat)
  | nilf
  | yld (g id : Nat)                              -- the yield of a loop, whose record is an object

inductive SV where
  | one (c : SC)
  | agg (cs : List SC)
  | tup (vs : List (Bool × List SC))

/-- The kind of a cell of an element: an integer, or a truth value. -/
inductive CK where
  | int (k : IntKind) | bool
/-- What a row of elements holds: known element by element, or as a list of lists of integers (a truth value is 1 or 0). -/
inductive RowC where
  | lit (tag : Nat) (rows : List (List SC))
  | lst (tag : Nat) (ks : List CK) (xs : List (List Int))

inductive Obj where
  | blk (ty : TypeId) (cells : List (Nat × SC))
  | row (ro : Bool) (ty : TypeId) (esz : Nat) (r : RowC)
  | clo (caps : List SV)
  | raw (b : Nat) (rs : List Nat) (tag : Nat) (L : Bool → Go.Obj) (k : SB)   -- a block of the heap, in one of two states

structure Ent where
  g : List (Nat × Bool)
  gx : List (Bool × Bool)
  tag : Nat
  val : SV

abbrev Env := List (Nat × Ent)
abbrev Mem := List (Nat × Obj)

noncomputable def look {α : Type} (l : List (Nat × α)) (t : Nat) : Option α :=
  List.rec (motive := fun _ => Option α) none (fun p _ ih => Bool.rec ih (some p.2) (Nat.beq p.1 t)) l
theorem look_nil {α : Type} (t : Nat) : look ([] : List (Nat × α)) t = none := rfl
theorem look_cons {α : Type} (k : Nat) (x : α) (r : List (Nat × α)) (t : Nat) : look ((k, x) :: r) t = bif Nat.beq k t then some x else look r t := by
  show (Bool.rec (look r t) (some x) (Nat.beq k t) : Option α) = _
  cases Nat.beq k t <;> rfl
noncomputable def del {α : Type} (l : List (Nat × α)) (t : Nat) : List (Nat × α) :=
  List.rec (motive := fun _ => List (Nat × α)) [] (fun p _ ih => Bool.rec (p :: ih) ih (Nat.beq p.1 t)) l
theorem del_nil {α : Type} (t : Nat) : del ([] : List (Nat × α)) t = [] := rfl
theorem del_cons {α : Type} (k : Nat) (x : α) (r : List (Nat × α)) (t : Nat) : del ((k, x) :: r) t = bif Nat.beq k t then del r t else (k, x) :: del r t := by
  show (Bool.rec ((k, x) :: del r t) (del r t) (Nat.beq k t) : List (Nat × α)) = _
  cases Nat.beq k t <;> rfl
noncomputable def rem {α : Type} (l : List (Nat × α)) (t : Nat) : List (Nat × α) := match look l t with
  | none => l
  | some _ => del l t
noncomputable def put {α : Type} (l : List (Nat × α)) (t : Nat) (x : α) : List (Nat × α) := (t, x) :: rem l t

/-! ### Constants -/
noncomputable def cellOf : Value → Option SC
  | .int k n => some (.int k (.c n))
  | .bool b => some (.bool (.c b))
  | .pointer none => some .nilp
  | .slice none 0 0 => some .nilsl
  | .nilFunc => some .nilf
  | .func (.func f) ⟨[]⟩ ⟨[]⟩ => some (.fn f)
  | _ => none
noncomputable def cellsOf : List Value → Option (List SC)
  | [] => some []
  | v :: r => match cellOf v, cellsOf r with
    | some c, some cs => some (c :: cs)
    | _, _ => none
noncomputable def ofConst : Value → Option SV
  | .agg cs => (cellsOf cs.toList).map .agg
  | v => (cellOf v).map .one

/-! ### Guards -/
noncomputable def gmem (a : Nat × Bool) (l : List (Nat × Bool)) : Bool :=
  List.rec (motive := fun _ => Bool) false (fun b _ ih => (Nat.beq a.1 b.1 && (a.2 == b.2)) || ih) l
theorem gmem_nil (a : Nat × Bool) : gmem a [] = false := rfl
theorem gmem_cons (a b : Nat × Bool) (r : List (Nat × Bool)) : gmem a (b :: r) = ((Nat.beq a.1 b.1 && (a.2 == b.2)) || gmem a r) := rfl
noncomputable def gsub (g h : List (Nat × Bool)) : Bool :=
  List.rec (motive := fun _ => Bool) true (fun a _ ih => gmem a h && ih) g
theorem gsub_nil (h : List (Nat × Bool)) : gsub [] h = true := rfl
theorem gsub_cons (a : Nat × Bool) (r h : List (Nat × Bool)) : gsub (a :: r) h = (gmem a h && gsub r h) := rfl
noncomputable def arg (env : Env) (g : List (Nat × Bool)) : Operand → Option SV
  | .tmp t => match look env t with
    | some e => bif gsub e.g g then some e.val else none
    | none => none
  | .const v => ofConst v
  | .func f => some (.one (.fn f))
  | .global _ => none
noncomputable def args (env : Env) (g : List (Nat × Bool)) : List Operand → Option (List SV)
  | [] => some []
  | o :: r => match arg env g o, args env g r with
    | some v, some vs => some (v :: vs)
    | _, _ => none
/-- The conditions of a guard in front of another one. -/
noncomputable def under : List (Bool × Bool) → Prop → Prop
  | [], p => p
  | (x, w) :: r, p => x = w → under r p

/-! ### Merging -/
noncomputable def mergeI (c : Bool) : SI → SI → SI
  | .c a, .c b => bif decide (a = b) then .c a else .v (cond c a b)
  | .c a, .v b => .v (cond c a b)
  | .v a, .c b => .v (cond c a b)
  | .v a, .v b => .v (cond c a b)
noncomputable def mergeB (c : Bool) : SB → SB → SB
  | .c true, .c true => .c true
  | .c false, .c false => .c false
  | .c true, .c false => .v c
  | .c false, .c true => .v (!c)
  | .v a, .c false => .v (c && a)
  | .c true, .v b => .v (c || b)
  | .c a, .v b => .v (cond c a b)
  | .v a, .c b => .v (cond c a b)
  | .v a, .v b => .v (cond c a b)
noncomputable def kindEq : IntKind → IntKind → Bool
  | .i8, .i8 | .i16, .i16 | .i32, .i32 | .i64, .i64 | .u8, .u8 | .u16, .u16 | .u32, .u32 | .u64, .u64 => true
  | _, _ => false
noncomputable def mergeC (c : Bool) : SC → SC → Option SC
  | .int k x, .int j y => bif kindEq k j then some (.int k (mergeI c x y)) else none
  | .bool x, .bool y => some (.bool (mergeB c x y))
  | .ptr a o, .ptr b p => bif Nat.beq a b && Nat.beq o p then some (.ptr a o) else none
  | .wh a, .wh b => bif Nat.beq a b then some (.wh a) else none
  | .nilp, .nilp => some .nilp
  | .nilsl, .nilsl => some .nilsl
  | .fn f, .fn g => bif Nat.beq f g then some (.fn f) else none
  | _, _ => none
noncomputable def mergeCs (c : Bool) : List SC → List SC → Option (List SC)
  | [], [] => some []
  | x :: r, y :: s => match mergeC c x y, mergeCs c r s with
    | some z, some t => some (z :: t)
    | _, _ => none
  | _, _ => none
noncomputable def mergeTup (c : Bool) : List (Bool × List SC) → List (Bool × List SC) → Option (List (Bool × List SC))
  | [], [] => some []
  | (a, x) :: r, (b, y) :: s => bif (a == b) then (match mergeCs c x y, mergeTup c r s with
    | some z, some t => some ((a, z) :: t)
    | _, _ => none) else none
  | _, _ => none
noncomputable def mergeV (c : Bool) : SV → SV → Option SV
  | .one x, .one y => (mergeC c x y).map .one
  | .agg x, .agg y => (mergeCs c x y).map .agg
  | .tup x, .tup y => (mergeTup c x y).map .tup
  | _, _ => none
noncomputable def tagged (n : Nat) (l : List SC) : List (Nat × SC) :=
  List.rec (motive := fun _ => Nat → List (Nat × SC)) (fun _ => []) (fun c _ ih n => (n, c) :: ih (n + 1)) l n
theorem tagged_nil (n : Nat) : tagged n [] = [] := rfl
theorem tagged_cons (n : Nat) (c : SC) (r : List SC) : tagged n (c :: r) = (n, c) :: tagged (n + 1) r := rfl
noncomputable def untag (l : List (Nat × SC)) : List SC :=
  List.rec (motive := fun _ => List SC) [] (fun p _ ih => p.2 :: ih) l
theorem untag_nil : untag [] = [] := rfl
theorem untag_cons (p : Nat × SC) (r : List (Nat × SC)) : untag (p :: r) = p.2 :: untag r := rfl
/-! ### Elements of rows -/
noncomputable def CK.cell : CK → Int → SC
  | .int k, n => .int k (.v n)
  | .bool, n => .bool (.v (n != 0))
noncomputable def decodeF : List CK → List Int → Nat → List SC
  | [], _, _ => []
  | k :: r, xs, j => k.cell (xs.getD j 0) :: decodeF r xs (j + 1)
noncomputable def decode (ks : List CK) (xs : List Int) : List SC := decodeF ks xs 0
noncomputable def encC : SC → Option (CK × Int)
  | .int k n => some (.int k, n.val)
  | .bool (.c b) => some (.bool, bif b then 1 else 0)
  | .bool (.v b) => some (.bool, bif b then 1 else 0)
  | _ => none
noncomputable def encCs : List SC → Option (List (CK × Int))
  | [] => some []
  | c :: r => match encC c, encCs r with
    | some x, some xs => some (x :: xs)
    | _, _ => none
noncomputable def ckEq : CK → CK → Bool
  | .int k, .int j => kindEq k j
  | .bool, .bool => true
  | _, _ => false
/-- The integers of cells of these kinds. -/
noncomputable def fitK : List CK → List (CK × Int) → Option (List Int)
  | [], [] => some []
  | k :: ks, (j, x) :: r => bif ckEq k j then (fitK ks r).map (x :: ·) else none
  | _, _ => none
noncomputable def rowLen : RowC → SN
  | .lit _ rows => .c rows.length
  | .lst _ _ xs => .v xs.length
/-- One of several rows, by an index that is not known. -/
noncomputable def chain (i : Nat) : List (List SC) → Nat → Option (List SC)
  | [], _ => none
  | [r], _ => some r
  | r :: rest, k => match chain i rest (k + 1) with
    | some t => mergeCs (Nat.beq i k) r t
    | none => none
noncomputable def rowAt : RowC → SN → Option (List SC × List Prop)
  | .lit _ rows, .c i => match rows[i]? with
    | some r => some (r, [])
    | none => none
  | .lit _ rows, .v i => match chain i rows 0 with
    | some r => some (r, [i < rows.length])
    | none => none
  | .lst _ ks xs, i => some (decode ks (xs.getD i.val []), [i.val < xs.length])
/-- The rows of lists, as lists of integers. -/
noncomputable def encRows (ks : List CK) : List (List SC) → Option (List (List Int))
  | [] => some []
  | r :: rs => match (encCs r).bind (fitK ks), encRows ks rs with
    | some x, some xs => some (x :: xs)
    | _, _ => none
noncomputable def kindsOf : List SC → Option (List CK)
  | [] => some []
  | c :: r => match encC c, kindsOf r with
    | some (k, _), some ks => some (k :: ks)
    | _, _ => none
noncomputable def cksEq : List CK → List CK → Bool
  | [], [] => true
  | a :: r, b :: s => ckEq a b && cksEq r s
  | _, _ => false
/-- Row behind row. -/
noncomputable def joinRows (n : Nat) : RowC → RowC → Option RowC
  | .lit _ a, .lit _ b => some (.lit n (a ++ b))
  | .lst _ ks xs, .lst _ js ys => bif cksEq ks js then some (.lst n ks (xs ++ ys)) else none
  | .lst _ ks xs, .lit _ b => (encRows ks b).map fun ys => .lst n ks (xs ++ ys)
  | .lit _ a, .lst _ ks ys => (encRows ks a).map fun xs => .lst n ks (xs ++ ys)
/-- n elements of a row. -/
noncomputable def partRow (t : Nat) : RowC → SN → SN → Option RowC
  | .lit _ rows, .c o, .c n => some (.lit t ((rows.drop o).take n))
  | .lit .., _, _ => none
  | .lst _ ks xs, o, n => some (.lst t ks ((xs.drop o.val).take n.val))
/-- The first row's kinds. -/
noncomputable def kindsR : RowC → Option (List CK)
  | .lst _ ks _ => some ks
  | .lit _ (r :: _) => kindsOf r
  | .lit _ [] => none
noncomputable def listR (ks : List CK) : RowC → Option (List (List Int))
  | .lst _ js xs => bif cksEq ks js then some xs else none
  | .lit _ rows => encRows ks rows
/-- Cells of one element laid over. -/
noncomputable def overF : Nat → Nat → Nat → List Int → List Int → List Int
  | 0, _, _, _, _ => []
  | n + 1, j, off, ys, row => (bif Nat.ble off j && Nat.blt j (off + ys.length) then ys.getD (j - off) 0 else row.getD j 0) :: overF n (j + 1) off ys row
noncomputable def plainRow (esz : Nat) : List (List SC) → Bool
  | [] => true
  | r :: rs => Nat.beq r.length esz && (encCs r).isSome && plainRow esz rs
noncomputable def chunks (esz : Nat) : Nat → List SC → List (List SC)
  | 0, _ => []
  | n + 1, cs => cs.take esz :: chunks esz n (cs.drop esz)
/-- Less than: known, or needed. -/
noncomputable def ltN : SN → SN → Option (List Prop)
  | .c a, .c b => bif Nat.blt a b then some [] else none
  | a, b => some [a.val < b.val]
noncomputable def leN : SN → SN → Option (List Prop)
  | .c a, .c b => bif Nat.ble a b then some [] else none
  | a, b => some [a.val ≤ b.val]
noncomputable def addN : SN → SN → SN
  | .c a, .c b => .c (a + b)
  | .c 0, b => b
  | a, b => .v (a.val + b.val)
noncomputable def subN : SN → SN → SN
  | .c a, .c b => .c (a - b)
  | a, b => .v (a.val - b.val)
/-- An integer that is an index. -/
noncomputable def natOf : SI → Option (SN × List Prop)
  | .c n => bif decide (0 ≤ n) then some (.c n.toNat, []) else none
  | .v n => some (.v n.toNat, [0 ≤ n])
noncomputable def intOfN : SN → SI
  | .c n => .c (Int.ofNat n)
  | .v n => .v (Int.ofNat n)

inductive EV where
  | v (x : SV) | l (x : List (List Int)) | o (b : Nat) (L : Bool → Go.Obj)
abbrev Eqs := List (EV × EV)
/-- Two cells that are to be the same: names are compared, all else is an equation in front of the others. -/
noncomputable def eqCell (x y : SC) (q : Eqs) : Eqs := match x, y with
  | .wh a, .wh b => bif Nat.beq a b then q else (.v (.one (.wh a)), .v (.one (.wh b))) :: q
  | .ptr a o, .ptr b p => bif Nat.beq a b && Nat.beq o p then q else (.v (.one (.ptr a o)), .v (.one (.ptr b p))) :: q
  | x, y => (.v (.one x), .v (.one y)) :: q
noncomputable def eqVal (x y : SV) (q : Eqs) : Eqs := match x, y with
  | .one a, .one b => eqCell a b q
  | x, y => (.v x, .v y) :: q
noncomputable def mergeTC (c : Bool) (n : Nat) : List (Nat × SC) → List (Nat × SC) → Option (List (Nat × SC) × Eqs × Nat)
  | [], [] => some ([], [], n)
  | (a, x) :: r, (b, y) :: s => bif Nat.beq a b then
      (match mergeTC c n r s with
      | some (t, e, n') => some ((a, x) :: t, eqCell x y e, n')
      | none => none)
    else (match mergeC c x y, mergeTC c (n + 1) r s with
      | some z, some (t, e, n') => some ((n, z) :: t, e, n')
      | _, _ => none)
  | _, _ => none
/-- Entries that both sides have; what cannot be merged is forgotten. -/
noncomputable def mergeEnv (c : Bool) (n : Nat) : Env → Env → Env × Eqs × Nat
  | [], _ => ([], [], n)
  | (t, e) :: r, s => match mergeEnv c n r s with
    | (r', q, m) => match look s t with
      | none => (del r' t, q, m)
      | some f => match e.g, f.g with
        | [], [] => bif Nat.beq e.tag f.tag then ((t, ⟨[], [], e.tag, e.val⟩) :: r', eqVal e.val f.val q, m)
            else (match mergeV c e.val f.val with
              | some v => ((t, ⟨[], [], m, v⟩) :: r', q, m + 1)
              | none => (del r' t, q, m))
        | _, _ => (del r' t, q, m)
noncomputable def mergeRows (c : Bool) : List (List SC) → List (List SC) → Option (List (List SC))
  | [], [] => some []
  | x :: r, y :: s => match mergeCs c x y, mergeRows c r s with
    | some z, some t => some (z :: t)
    | _, _ => none
  | _, _ => none
/-- Rows as one value. -/
noncomputable def tupR (rows : List (List SC)) : SV := .tup (rows.map fun r => (true, r))
noncomputable def mergeR (c : Bool) (n : Nat) (x y : RowC) : Option (RowC × Eqs × Nat) :=
  match (match x, y with
    | .lit t a, .lit u b => bif Nat.beq t u then some (.lit t a, [(.v (tupR a), .v (tupR b))], n) else (mergeRows c a b).map fun z => (RowC.lit n z, [], n + 1)
    | .lst t ks xs, .lst u js ys => bif Nat.beq t u && cksEq ks js then some (.lst t ks xs, [(.l xs, .l ys)], n) else none
    | _, _ => none) with
  | some r => some r
  | none => match (match kindsR x with | some ks => some ks | none => kindsR y) with
    | none => none
    | some ks => match listR ks x, listR ks y with
      | some xs, some ys => some (.lst n ks (bif c then xs else ys), [], n + 1)
      | _, _ => none
noncomputable def natsEq : List Nat → List Nat → Bool
  | [], [] => true
  | a :: r, b :: s => Nat.beq a b && natsEq r s
  | _, _ => false
noncomputable def capEq : SV → SV → Bool
  | .one (.ptr a o), .one (.ptr b p) => Nat.beq a b && Nat.beq o p
  | .one (.clo f a), .one (.clo g b) => Nat.beq f g && Nat.beq a b
  | .one (.fn f), .one (.fn g) => Nat.beq f g
  | _, _ => false
noncomputable def capsEq : List SV → List SV → Bool
  | [], [] => true
  | a :: r, b :: s => capEq a b && capsEq r s
  | _, _ => false
noncomputable def mergeObj (c : Bool) (n : Nat) : Obj → Obj → Option (Obj × Eqs × Nat)
  | .blk t x, .blk u y => bif Nat.beq t u then (match mergeTC c n x y with
    | some (z, e, m) => some (.blk t z, e, m)
    | none => none) else none
  | .row p t m x, .row q u k y => bif (p == q) && (Nat.beq t u && Nat.beq m k) then (match mergeR c n x y with
    | some (z, e, m') => some (.row p t m z, e, m')
    | none => none) else none
  | .raw b rs t L k, .raw b' rs' t' L' k' => bif natsEq rs rs' then some (.raw b rs t L (mergeB c k k'), [(.o b L, .o b' L')], n) else none
  | .clo x, .clo y => bif capsEq x y then some (.clo x, [], n) else none
  | _, _ => none
/-- Do these two states part in a slice? Then they are better kept apart. -/
noncomputable def sliceC : SC → Bool
  | .wh _ => true
  | .sl .. => true
  | .nilsl => true
  | _ => false
noncomputable def partsC : SC → SC → Bool
  | .wh a, .wh b => !(Nat.beq a b)
  | .nilsl, .nilsl => false
  | a, b => sliceC a || sliceC b
noncomputable def partsCs : List (Nat × SC) → List (Nat × SC) → Bool
  | (_, a) :: r, (_, b) :: s => partsC a b || partsCs r s
  | _, _ => false
noncomputable def partsEnv : Env → Env → Bool
  | [], _ => false
  | (t, e) :: r, s => (match look s t with
    | some f => (match e.val, f.val with | .one a, .one b => partsC a b | _, _ => false)
    | none => false) || partsEnv r s
noncomputable def partsMem : Mem → Mem → Bool
  | [], _ => false
  | (t, o) :: r, s => (match o, look s t with
    | .blk _ x, some (.blk _ y) => partsCs x y
    | _, _ => false) || partsMem r s
noncomputable def mergeMem (c : Bool) (n : Nat) : Mem → Mem → Mem × Eqs × Nat
  | [], _ => ([], [], n)
  | (t, e) :: r, s => match mergeMem c n r s with
    | (r', q, m) => match look s t with
      | none => (del r' t, q, m)
      | some f => match mergeObj c m e f with
        | some (o, e', m') => ((t, o) :: r', e' ++ q, m')
        | none => (del r' t, q, m)

/-! ### Numbers -/
noncomputable def isC : SI → SI → Bool
  | .c _, .c _ => true
  | _, _ => false
noncomputable def mkI (st : Bool) (x : Int) : SI := bif st then .c x else .v x
noncomputable def mkB (st : Bool) (x : Bool) : SB := bif st then .c x else .v x
noncomputable def ibits (op : BinOp) (k : IntKind) (x y : Int) : Int :=
  match op with
  | .and => k.wrap (BitVec.ofInt k.bits x &&& BitVec.ofInt k.bits y).toNat
  | .or => k.wrap (BitVec.ofInt k.bits x ||| BitVec.ofInt k.bits y).toNat
  | .xor => k.wrap (BitVec.ofInt k.bits x ^^^ BitVec.ofInt k.bits y).toNat
  | _ => k.wrap (BitVec.ofInt k.bits x &&& ~~~BitVec.ofInt k.bits y).toNat
noncomputable def ishift (op : BinOp) (k : IntKind) (x y : Int) : Int :=
  match op with
  | .shl => k.wrap (x * 2 ^ min y.toNat k.bits)
  | _ => x.fdiv (2 ^ min y.toNat k.bits)
noncomputable def nz : SI → Option (List Prop)
  | .c n => bif decide (n = 0) then none else some []
  | .v x => some [x ≠ 0]
noncomputable def nonneg : SI → Option (List Prop)
  | .c n => bif decide (0 ≤ n) then some [] else none
  | .v x => some [0 ≤ x]
noncomputable def binI (op : BinOp) (k : IntKind) (a b : SI) : Option (SC × List Prop) :=
  let s := isC a b
  let x := a.val
  let y := b.val
  match op with
  | .add => some (.int k (mkI s (k.wrap (x + y))), [])
  | .sub => some (.int k (mkI s (k.wrap (x - y))), [])
  | .mul => some (.int k (mkI s (k.wrap (x * y))), [])
  | .quo => (nz b).map fun q => (.int k (mkI s (k.wrap (x.tdiv y))), q)
  | .rem => (nz b).map fun q => (.int k (mkI s (x.tmod y)), q)
  | .and => some (.int k (mkI s (ibits .and k x y)), [])
  | .or => some (.int k (mkI s (ibits .or k x y)), [])
  | .xor => some (.int k (mkI s (ibits .xor k x y)), [])
  | .andNot => some (.int k (mkI s (ibits .andNot k x y)), [])
  | .eql => some (.bool (mkB s (x == y)), [])
  | .neq => some (.bool (mkB s (x != y)), [])
  | .lss => some (.bool (mkB s (decide (x < y))), [])
  | .leq => some (.bool (mkB s (decide (x ≤ y))), [])
  | .gtr => some (.bool (mkB s (decide (x > y))), [])
  | .geq => some (.bool (mkB s (decide (x ≥ y))), [])
  | _ => none
noncomputable def isCB : SB → SB → Bool
  | .c _, .c _ => true
  | _, _ => false
noncomputable def eqC : SC → SC → Option SB
  | .int k x, .int j y => bif kindEq k j then some (mkB (isC x y) (x.val == y.val)) else none
  | .bool x, .bool y => some (mkB (isCB x y) (x.val == y.val))
  | _, _ => none
noncomputable def andB : SB → SB → SB
  | .c false, _ => .c false
  | .c true, b => b
  | .v _, .c false => .c false
  | .v x, .c true => .v x
  | .v x, .v y => .v (x && y)
noncomputable def eqCs : List SC → List SC → Option SB
  | [], [] => some (.c true)
  | x :: r, y :: s => match eqC x y, eqCs r s with
    | some a, some b => some (andB a b)
    | _, _ => none
  | _, _ => none
noncomputable def notB : SB → SB
  | .c b => .c (!b)
  | .v b => .v (!b)
/-- Are these cells a value of a type of integers and truth values, compared one by one? -/
noncomputable def flatT (P : Program) : Nat → TypeId → List SC → Bool
  | 0, _, _ => false
  | d + 1, t, cs => match P.underlying t, P.info? t with
    | some (.struct fs), some i => !(P.stoodInHeld t) && flatFs P (flatT P d) fs.toList 0 i.size cs
    | some .bool, some i => Nat.beq i.size 1 && (match cs with | [.bool _] => true | _ => false)
    | some (.int _), some i => Nat.beq i.size 1 && (match cs with | [.int _ _] => true | _ => false)
    | _, _ => false
where flatFs (P : Program) (ft : TypeId → List SC → Bool) : List Field → Nat → Nat → List SC → Bool
  | [], o, tot, _ => Nat.beq o tot
  | f :: r, o, tot, cs => (f.name != "_") && (Nat.beq f.offset o && (match P.info? f.type with
      | some i => ft f.type ((cs.drop o).take i.size) && flatFs P ft r (o + i.size) tot cs
      | none => false))

noncomputable def binop (P : Program) (op : BinOp) (t : TypeId) : SV → SV → Option (SC × List Prop)
  | .one (.int k a), .one (.int j b) => match op with
    | .shl => (nonneg b).map fun q => (.int k (mkI (isC a b) (ishift .shl k a.val b.val)), q)
    | .shr => (nonneg b).map fun q => (.int k (mkI (isC a b) (ishift .shr k a.val b.val)), q)
    | op => bif kindEq k j then binI op k a b else none
  | .one (.bool a), .one (.bool b) => match P.underlying t with
    | some .bool => (match op with
      | .eql => some (.bool (mkB (isCB a b) (a.val == b.val)), [])
      | .neq => some (.bool (mkB (isCB a b) (!(a.val == b.val))), [])
      | _ => none)
    | _ => none
  | .agg x, .agg y => match P.underlying t, P.info? t with
    | some (.struct _), some i => bif flatT P 20 t x && (Nat.beq x.length i.size && Nat.beq y.length i.size) then (match op, eqCs x y with
      | .eql, some b => some (.bool b, [])
      | .neq, some b => some (.bool (notB b), [])
      | _, _ => none) else none
    | _, _ => none
  | _, _ => none
noncomputable def unop (op : UnOp) : SV → Option SC
  | .one (.int k a) => match op, a with
    | .neg, .c n => some (.int k (.c (k.wrap (0 - n))))
    | .neg, .v n => some (.int k (.v (k.wrap (0 - n))))
    | _, _ => none
  | .one (.bool b) => match op with
    | .not => some (.bool (notB b))
    | _ => none
  | _ => none

/-! ### Operations -/
structure Eff where
  val : Option SV
  rd : List Nat          -- what it looks at in memory
  touched : List Nat     -- what of it may have turned
  ups : Mem              -- what stands there afterwards, and what is new
  needs : List Prop
  eqs : Eqs
  nx : Nat
noncomputable def Eff.pure (n : Nat) (v : SV) : Eff := ⟨some v, [], [], [], [], [], n⟩

noncomputable def SV.cells : SV → Option (List SC)
  | .one c => some [c]
  | .agg cs => some cs
  | .tup _ => none
noncomputable def cut {α : Type} : List α → Nat → Nat → List α
  | l, 0, n => l.take n
  | [], _, _ => []
  | _ :: r, o + 1, n => cut r o n
noncomputable def paste {α : Type} : List α → Nat → List α → List α
  | l, 0, [] => l
  | _ :: r, 0, x :: xs => x :: paste r 0 xs
  | [], _, _ => []
  | y :: r, o + 1, xs => y :: paste r o xs
noncomputable def fillS (place : Nat → Option (Nat × Nat)) (cells : List SC) : List (Nat × List SC) → Option (List SC)
  | [] => some cells
  | (i, v) :: rest => match place i with
    | none => none
    | some (off, size) => bif Nat.beq v.length size && Nat.ble (off + size) cells.length then fillS place (paste cells off v) rest else none
noncomputable def parts (env : Env) (g : List (Nat × Bool)) : List (Nat × Operand) → Option (List (Nat × List SC))
  | [] => some []
  | (i, o) :: r => match (arg env g o).bind SV.cells, parts env g r with
    | some v, some vs => some ((i, v) :: vs)
    | _, _ => none
noncomputable def fieldPlaces (P : Program) : List Field → Option (List (Nat × Nat))
  | [] => some []
  | f :: r => match P.info? f.type, fieldPlaces P r with
    | some i, some ps => some ((f.offset, i.size) :: ps)
    | _, _ => none
noncomputable def zeroOf (P : Program) (t : TypeId) : Option SV := ((P.info? t).bind (·.zero)).bind ofConst
noncomputable def isAggT (P : Program) (t : TypeId) : Option Bool := match P.underlying t with
  | some (.struct _) | some (.array _ _) => some true
  | some _ => some false
  | none => none

structure CRes where
  val : SV
  mem : Mem
  needs : List Prop
  eqs : Eqs
  nx : Nat
abbrev CE := FuncId → List SV → Mem → Nat → Option CRes

noncomputable def idsC : SC → List Nat
  | .ptr id _ => [id]
  | .eptr id _ _ _ => [id]
  | .sl id _ _ _ => [id]
  | .wh id => [id]
  | .clo _ id => [id]
  | .yld _ id => [id]
  | _ => []
noncomputable def idsCs (l : List SC) : List Nat :=
  List.rec (motive := fun _ => List Nat) [] (fun c _ ih => idsC c ++ ih) l
theorem idsCs_nil : idsCs [] = [] := rfl
theorem idsCs_cons (c : SC) (r : List SC) : idsCs (c :: r) = idsC c ++ idsCs r := rfl
noncomputable def idsTup : List (Bool × List SC) → List Nat
  | [] => []
  | (_, cs) :: r => idsCs cs ++ idsTup r
noncomputable def idsV : SV → List Nat
  | .one c => idsC c
  | .agg cs => idsCs cs
  | .tup vs => idsTup vs
noncomputable def idsVs : List SV → List Nat
  | [] => []
  | v :: r => idsV v ++ idsVs r
noncomputable def idsO : Obj → List Nat
  | .blk _ cs => idsCs (untag cs)
  | .row .. => []
  | .clo cs => idsVs cs
  | .raw _ rs _ _ _ => rs
noncomputable def has (l : List Nat) (n : Nat) : Bool :=
  List.rec (motive := fun _ => Bool) false (fun a _ ih => Nat.beq a n || ih) l
theorem has_nil (n : Nat) : has [] n = false := rfl
theorem has_cons (a : Nat) (r : List Nat) (n : Nat) : has (a :: r) n = (Nat.beq a n || has r n) := rfl
noncomputable def addAll (acc l : List Nat) : List Nat :=
  List.rec (motive := fun _ => List Nat → List Nat) (fun acc => acc) (fun a _ ih acc => ih (Bool.rec (acc ++ [a]) acc (has acc a))) l acc
theorem addAll_nil (acc : List Nat) : addAll acc [] = acc := rfl
theorem addAll_cons (acc : List Nat) (a : Nat) (r : List Nat) : addAll acc (a :: r) = addAll (bif has acc a then acc else acc ++ [a]) r := by
  show addAll (Bool.rec (acc ++ [a]) acc (has acc a)) r = _
  cases has acc a <;> rfl
noncomputable def meets : List Nat → List Nat → Bool
  | [], _ => false
  | a :: r, l => has l a || meets r l
noncomputable def reach (mem : Mem) : Nat → List Nat → List Nat
  | 0, l => l
  | k + 1, l => reach mem k (l.foldl (fun acc id => match look mem id with | some o => addAll acc (idsO o) | none => acc) l)
noncomputable def restrict : Mem → List Nat → Mem
  | [], _ => []
  | (id, o) :: r, l => bif has l id then (id, o) :: restrict r l else restrict r l
noncomputable def domain : Mem → List Nat
  | [] => []
  | (id, _) :: r => id :: domain r

/-! #### Rows -/
noncomputable def eptrOf : Option SV → Option (Nat × Nat × SN × Nat)
  | some (.one (.eptr id esz i off)) => some (id, esz, i, off)
  | _ => none
noncomputable def cloOf : Option SV → Option (FuncId × Nat)
  | some (.one (.clo f id)) => some (f, id)
  | _ => none
noncomputable def loadE (P : Program) (t : TypeId) (mem : Mem) (n id esz : Nat) (i : SN) (off : Nat) : Option Eff :=
  match isAggT P t, P.info? t, look mem id with
  | some b, some inf, some (.row _ _ m r) => bif Nat.beq m esz then (match rowAt r i with
    | some (cs, q) => bif b then (bif Nat.beq (cut cs off inf.size).length inf.size then some ⟨some (.agg (cut cs off inf.size)), [id], [], [], q, [], n⟩ else none)
        else (match cut cs off 1 with
          | [c] => some ⟨some (.one c), [id], [], [], q, [], n⟩
          | _ => none)
    | none => none) else none
  | _, _, _ => none
noncomputable def storeR (n esz : Nat) (i : SN) (off : Nat) (vs : List SC) : RowC → Option (RowC × List Prop)
  | .lit _ rows => match i with
    | .c k => match rows[k]? with
      | some row => bif Nat.ble (off + vs.length) row.length && (encCs vs).isSome then some (.lit n (rows.set k (paste row off vs)), []) else none
      | none => none
    | .v _ => none
  | .lst _ ks xs => match (encCs vs).bind (fitK (cut ks off vs.length)) with
    | some ys => bif Nat.beq ks.length esz && Nat.ble (off + vs.length) esz then some (.lst n ks (xs.set i.val (overF esz 0 off ys (xs.getD i.val []))), [i.val < xs.length]) else none
    | none => none
noncomputable def storeE (P : Program) (t : TypeId) (mem : Mem) (n id esz : Nat) (i : SN) (off : Nat) (vs : List SC) : Option Eff :=
  match P.info? t, look mem id with
  | some inf, some (.row false ty m r) => bif Nat.beq m esz && Nat.beq vs.length inf.size then (match storeR n esz i off vs r with
    | some (r', q) => some ⟨none, [id], [id], [(id, .row false ty m r')], q, [], n + vs.length + 1⟩
    | none => none) else none
  | _, _ => none
/-- An element's address is one. -/
noncomputable def liveE (mem : Mem) (id : Nat) (i : SN) : Option (List Prop) :=
  match look mem id with
  | some (.row _ _ _ r) => ltN i (rowLen r)
  | _ => none
noncomputable def fieldE (P : Program) (t : TypeId) (f : Nat) (mem : Mem) (n id esz : Nat) (i : SN) (off : Nat) : Option Eff :=
  match P.underlying t, liveE mem id i with
  | some (.struct fs), some q => match fs.toList[f]? with
    | some fd => (match P.info? fd.type with
      | some inf => bif Nat.beq inf.size 0 then none else some ⟨some (.one (.eptr id esz i (off + fd.offset))), [id], [], [], q, [], n⟩
      | none => none)
    | none => none
  | _, _ => none
noncomputable def buildS (P : Program) (t : TypeId) (len : Nat) (ps : Option (List (Nat × List SC))) (n : Nat) : Option Eff :=
  match P.underlying t, ps with
  | some (.slice e), some vs => match P.info? e, (zeroOf P e).bind SV.cells with
    | some inf, some z => bif Nat.blt 0 inf.size && (Nat.beq z.length inf.size && Nat.ble (len * inf.size) 16777216) then
        (match fillS (fun i => some (i * inf.size, inf.size)) ((List.range (len * inf.size)).map fun j => (z[j % z.length]?).getD .nilp) vs with
        | some cs => bif plainRow inf.size (chunks inf.size len cs) then some ⟨some (.one (.wh n)), [], [], [(n, .row false e inf.size (.lit (n + 1) (chunks inf.size len cs)))], [], [], n + 2⟩ else none
        | none => none) else none
    | _, _ => none
  | _, _ => none
noncomputable def indexA (P : Program) (t : TypeId) (x i : Option SV) (mem : Mem) (n : Nat) : Option Eff :=
  match P.underlying t, x, i with
  | some (.slice e), some (.one (.wh id)), some (.one (.int _ iv)) => match P.info? e, look mem id, natOf iv with
    | some inf, some (.row _ _ m r), some (k, q1) => bif Nat.beq inf.size m then (match ltN k (rowLen r) with
        | some q2 => some ⟨some (.one (.eptr id m k 0)), [id], [], [], q1 ++ q2, [], n⟩
        | none => none) else none
    | _, _, _ => none
  | some (.slice e), some (.one (.sl id esz off len)), some (.one (.int _ iv)) => match P.info? e, look mem id, natOf iv with
    | some inf, some (.row _ _ m r), some (k, q1) => bif Nat.beq inf.size m && Nat.beq esz m then (match ltN k len, ltN (addN off k) (rowLen r) with
        | some q2, some q3 => some ⟨some (.one (.eptr id m (addN off k) 0)), [id], [], [], q1 ++ q2 ++ q3, [], n⟩
        | _, _ => none) else none
    | _, _, _ => none
  | some (.array len e), some (.one (.ptr id off)), some (.one (.int _ (.c j))) => match P.info? e, look mem id with
    | some inf, some (.blk _ _) => bif decide (0 ≤ j) && decide (j < len) then some ⟨some (.one (.ptr id (off + j.toNat * inf.size))), [id], [], [], [], [], n⟩ else none
    | _, _ => none
  | _, _, _ => none
noncomputable def indexV (P : Program) (t : TypeId) (x i : Option SV) (n : Nat) : Option Eff :=
  match P.underlying t, x, i with
  | some (.array len e), some (.agg cs), some (.one (.int _ (.c j))) => match isAggT P e, P.info? e with
    | some b, some inf => bif decide (0 ≤ j) && decide (j < len) then
        (bif b then (bif Nat.beq (cut cs (j.toNat * inf.size) inf.size).length inf.size then some (Eff.pure n (.agg (cut cs (j.toNat * inf.size) inf.size))) else none)
        else (match cut cs (j.toNat * inf.size) 1 with
          | [c] => some (Eff.pure n (.one c))
          | _ => none)) else none
    | _, _ => none
  | _, _, _ => none
/-- A bound of a part: none is the given one. -/
noncomputable def boundOf (env : Env) (g : List (Nat × Bool)) (d : SN) : Option Operand → Option (SN × List Prop)
  | none => some (d, [])
  | some o => match arg env g o with
    | some (.one (.int _ iv)) => natOf iv
    | _ => none
noncomputable def sliceS (P : Program) (t : TypeId) (x : Option SV) (lo hi : SN → Option (SN × List Prop)) (mem : Mem) (n : Nat) : Option Eff :=
  match P.underlying t, x with
  | some (.slice e), some (.one (.wh id)) => match P.info? e, look mem id with
    | some inf, some (.row _ _ m r) => bif Nat.beq inf.size m then (match lo (.c 0), hi (rowLen r) with
        | some (l, q1), some (h, q2) => (match leN l h, leN h (rowLen r) with
          | some q3, some q4 => some ⟨some (.one (.sl id m l (subN h l))), [id], [], [], q1 ++ q2 ++ q3 ++ q4, [], n⟩
          | _, _ => none)
        | _, _ => none) else none
    | _, _ => none
  | _, _ => none
/-- A row of the call's own, cut at its end: the row itself is the part. -/
noncomputable def cutS (P : Program) (t : TypeId) (x : Option SV) (lo : Option Operand) (hi : Option (SN × List Prop)) (mem : Mem) (n : Nat) : Option Eff :=
  match lo, hi with
  | none, some (h, q1) => match P.underlying t, x with
    | some (.slice e), some (.one (.wh id)) => match P.underlying e, P.info? e, look mem id with
      | some (.int .u64), some inf, some (.row false ty m r) => bif Nat.beq inf.size m && Nat.beq ty e then (match partRow (n + 1) r (.c 0) h, leN h (rowLen r) with
          | some r', some q2 => some ⟨some (.one (.wh n)), [id], [id], [(n, .row false ty m r')], q1 ++ q2, [], n + 2⟩
          | _, _ => none) else none
      | _, _, _ => none
    | _, _ => none
  | _, _ => none
noncomputable def cutHi (env : Env) (g : List (Nat × Bool)) : Option Operand → Option (SN × List Prop)
  | none => none
  | some y => boundOf env g (.c 0) (some y)
noncomputable def sliceOrCut (P : Program) (t : TypeId) (x : Option SV) (env : Env) (g : List (Nat × Bool)) (lo hi : Option Operand) (mem : Mem) (n : Nat) : Option Eff :=
  match cutS P t x lo (cutHi env g hi) mem n with
  | some e => some e
  | none => sliceS P t x (fun d => boundOf env g d lo) (fun d => boundOf env g d hi) mem n
/-- What a slice value holds. -/
noncomputable def sourceR (mem : Mem) (n : Nat) (m : Nat) : SC → Option (RowC × SN × List Nat × List Prop)
  | .nilsl => some (.lit 0 [], .c 0, [], [])
  | .wh id => match look mem id with
    | some (.row _ _ k r) => bif Nat.beq k m then some (r, rowLen r, [id], []) else none
    | _ => none
  | .sl id esz off len => match look mem id with
    | some (.row _ _ k r) => bif Nat.beq k m && Nat.beq esz m then (match partRow n r off len, leN (addN off len) (rowLen r) with
        | some r', some q => some (r', len, [id], q)
        | _, _ => none) else none
    | _ => none
  | _ => none
/-- Room for so many elements. -/
noncomputable def roomOk (bytes : Nat) : SN → SN → Option (List Prop)
  | .c x, .c y => bif Nat.ble ((x + y) * bytes) 140737488355328 && Nat.ble (x + y) 9223372036854775807 then some [] else none
  | a, b => some [(a.val + b.val) * bytes ≤ 140737488355328, a.val + b.val ≤ 9223372036854775807]
noncomputable def sameOp : Operand → Operand → Bool
  | .tmp a, .tmp b => Nat.beq a b
  | _, _ => false
/-- A new row of zeros. -/
noncomputable def makeS (P : Program) (t : TypeId) (s : Bool) (x : Option SV) (n : Nat) : Option Eff :=
  match P.underlying t, x with
  | some (.slice e), some (.one (.int _ l)) => match P.info? e, (zeroOf P e).bind SV.cells, natOf l with
    | some inf, some z, some (k, q1) => match kindsOf z, roomOk inf.bytes k (.c 0) with
      | some ks, some q2 => match (encCs z).bind (fitK ks) with
        | some zs => bif s && (Nat.blt 0 inf.size && Nat.beq z.length inf.size) then
          some ⟨some (.one (.wh n)), [], [], [(n, .row false e inf.size (.lst (n + 1) ks (List.replicate k.val zs)))], q1 ++ q2, [], n + 2⟩ else none
        | none => none
      | _, _ => none
    | _, _, _ => none
  | _, _ => none
/-- The row that is appended to: a new one, or one of the call's own. -/
noncomputable def baseR (mem : Mem) (e m : Nat) : SC → Option (RowC × List Nat)
  | .nilsl => some (.lit 0 [], [])
  | .wh id => match look mem id with
    | some (.row false ty k r) => bif Nat.beq k m && Nat.beq ty e then some (r, [id]) else none
    | _ => none
  | _ => none
noncomputable def appendS (P : Program) (t : TypeId) (s x : Option SV) (mem : Mem) (n : Nat) : Option Eff :=
  match P.underlying t, s, x with
  | some (.slice e), some (.one sc), some (.one xc) => match P.info? e, (zeroOf P e).bind SV.cells with
    | some inf, some z => bif Nat.blt 0 inf.size && Nat.beq z.length inf.size then
        (match baseR mem e inf.size sc, sourceR mem (n + 1) inf.size xc with
        | some (r1, t1), some (r2, l2, t2, q) => bif meets t1 t2 then none else (match joinRows (n + 2) r1 r2, roomOk inf.bytes (rowLen r1) l2 with
          | some r, some q2 => some ⟨some (.one (.wh n)), t1 ++ t2, t1, [(n, .row false e inf.size r)], q ++ q2, [], n + 3⟩
          | _, _ => none)
        | _, _ => none) else none
    | _, _ => none
  | _, _, _ => none
noncomputable def lenS (P : Program) (t : TypeId) (x : Option SV) (mem : Mem) (n : Nat) : Option Eff :=
  match P.underlying t, x with
  | some (.slice _), some (.one .nilsl) => some (Eff.pure n (.one (.int .i64 (.c 0))))
  | some (.slice _), some (.one (.wh id)) => match look mem id with
    | some (.row _ _ _ r) => some ⟨some (.one (.int .i64 (intOfN (rowLen r)))), [id], [], [], [], [], n⟩
    | _ => none
  | some (.slice _), some (.one (.sl _ _ _ len)) => some (Eff.pure n (.one (.int .i64 (intOfN len))))
  | some (.array m _), some _ => some (Eff.pure n (.one (.int .i64 (.c (Int.ofNat m)))))
  | _, _ => none
noncomputable def minI : SI → SI → SI
  | .c x, .c y => .c (if y < x then y else x)
  | a, b => .v (if b.val < a.val then b.val else a.val)
noncomputable def maxI : SI → SI → SI
  | .c x, .c y => .c (if y > x then y else x)
  | a, b => .v (if b.val > a.val then b.val else a.val)
noncomputable def foldI (f : SI → SI → SI) (k : IntKind) : SI → List SV → Option SI
  | a, [] => some a
  | a, .one (.int j b) :: r => bif kindEq k j then foldI f k (f a b) r else none
  | _, _ => none
noncomputable def minmaxS (f : SI → SI → SI) (n : Nat) : Option (List SV) → Option Eff
  | some (.one (.int k a) :: r) => (foldI f k a r).map fun x => Eff.pure n (.one (.int k x))
  | _ => none
noncomputable def builtinS (P : Program) (b : Builtin) (ts : List TypeId) (vs : Option (List SV)) (mem : Mem) (n : Nat) : Option Eff :=
  match b, ts, vs with
  | .len, [t], some [x] => lenS P t (some x) mem n
  | .append, [t, u], some [s, x] => bif Nat.beq t u then appendS P t (some s) (some x) mem n else none
  | .min, _, vs => minmaxS minI n vs
  | .max, _, vs => minmaxS maxI n vs
  | _, _, _ => none
noncomputable def makeF (n : Nat) (f : FuncId) : List SV → Eff
  | [] => Eff.pure n (.one (.fn f))
  | vs => ⟨some (.one (.clo f n)), [], [], [(n, .clo vs)], [], [], n + 1⟩
/-- What a function has captured stands, whatever it does. -/
noncomputable def keepC (mem : Mem) : List Nat → Mem → Mem
  | [], m => m
  | id :: r, m => match look mem id, look m id with
    | some (.clo caps), none => (id, .clo caps) :: keepC mem r m
    | _, _ => keepC mem r m
noncomputable def callC (ce : CE) (mem : Mem) (n : Nat) (f : FuncId) (id : Nat) (vs : List SV) : Option Eff :=
  match look mem id with
  | some (.clo caps) => bif Nat.blt f 1000000 then (match ce f (vs ++ caps) (restrict mem (reach mem 3 (id :: idsVs vs))) n with
    | some r => some ⟨some r.val, reach mem 3 (id :: idsVs vs), reach mem 3 (id :: idsVs vs), keepC mem (reach mem 3 (id :: idsVs vs)) r.mem, r.needs, r.eqs, r.nx⟩
    | none => none) else none
  | _ => none

noncomputable def yldC (ce : CE) (mem : Mem) (n y id : Nat) (vs : List SV) : Option Eff :=
  bif Nat.ble 1000000 y then (match ce y (.one (.yld y id) :: vs) (restrict mem (reach mem 3 (id :: idsVs vs))) n with
    | some r => some ⟨some r.val, reach mem 3 (id :: idsVs vs), reach mem 3 (id :: idsVs vs), r.mem, r.needs, r.eqs, r.nx⟩
    | none => none) else none
/-- Rows that are only read. -/
noncomputable def roMem : Mem → Bool
  | [] => true
  | (_, .row true _ _ _) :: r => roMem r
  | _ => false
noncomputable def subDom (l : List Nat) : Mem → Bool
  | [] => true
  | (id, _) :: r => has l id && subDom l r
noncomputable def callN (ce : CE) (mem : Mem) (n : Nat) (h : FuncId) (vs : List SV) : Option Eff :=
  bif Nat.blt h 1000000 then (match ce h vs (restrict mem (reach mem 3 (idsVs vs))) n with
    | some r => bif roMem (restrict mem (reach mem 3 (idsVs vs))) && subDom (reach mem 3 (idsVs vs)) r.mem then some ⟨some r.val, reach mem 3 (idsVs vs), [], [], r.needs, r.eqs, r.nx⟩
      else some ⟨some r.val, reach mem 3 (idsVs vs), reach mem 3 (idsVs vs), r.mem, r.needs, r.eqs, r.nx⟩
    | none => none) else none
noncomputable def yldOf : Option SV → Option (Nat × Nat)
  | some (.one (.yld g id)) => some (g, id)
  | _ => none
/-- A byte of a constant string. -/
noncomputable def strAt (s : ByteArray) (k : Nat) : Int := match s[k]? with
  | some b => (b.toNat : Int)
  | none => 0
noncomputable def strOf : Operand → Option ByteArray
  | .const (.string s) => some s
  | _ => none
noncomputable def indexStr (P : Program) (t : TypeId) (s : ByteArray) (i : Option SV) (n : Nat) : Option Eff :=
  match P.underlying t, i with
  | some .string, some (.one (.int _ iv)) => match natOf iv with
    | some (k, q) => some ⟨some (.one (.int .u8 (.v (strAt s k.val)))), [], [], [], q ++ [k.val < s.size], [], n⟩
    | none => none
  | _, _ => none
/-- math/bits.Sub64, for which the model stands in. -/
noncomputable def sub64v (x y b : Int) : Int := (((x.toNat + 18446744073709551616 - y.toNat - b.toNat) % 18446744073709551616 : Nat) : Int)
noncomputable def sub64b (x y b : Int) : Int := ((if x.toNat < y.toNat + b.toNat then 1 else 0 : Nat) : Int)
noncomputable def isSub64 (P : Program) (h : FuncId) : Bool := match P.funcs[h]? with
  | some fn => (match fn.body with
    | some _ => false
    | none => (fn.name == "math/bits.Sub64") && (fn.origin == ""))
  | none => false
noncomputable def subS (vs : List SV) (n : Nat) : Option Eff := match vs with
  | [.one (.int .u64 x), .one (.int .u64 y), .one (.int .u64 b)] =>
    some ⟨some (.tup [(false, [.int .u64 (mkI (isC x y && isC x b) (sub64v x.val y.val b.val))]), (false, [.int .u64 (mkI (isC x y && isC x b) (sub64b x.val y.val b.val))])]), [], [], [], [0 ≤ x.val, 0 ≤ y.val, 0 ≤ b.val ∧ b.val ≤ 1], [], n⟩
  | _ => none
noncomputable def callE (P : Program) (ce : CE) (mem : Mem) (n : Nat) (h : FuncId) (vs : List SV) : Option Eff := bif isSub64 P h then subS vs n else callN ce mem n h vs
/-- A pointer, or a slice that has elements, against nil. -/
noncomputable def nilEq (P : Program) (mem : Mem) (n : Nat) (op : BinOp) (t : TypeId) : Option SV → Option SV → Option Eff
  | some (.one (.ptr id _)), some (.one .nilp) => match op, P.underlying t, look mem id with
    | .eql, some (.pointer _), some (.blk _ _) => some ⟨some (.one (.bool (.c false))), [id], [], [], [], [], n⟩
    | .neq, some (.pointer _), some (.blk _ _) => some ⟨some (.one (.bool (.c true))), [id], [], [], [], [], n⟩
    | _, _, _ => none
  | some (.one (.wh id)), some (.one .nilsl) => match op, P.underlying t, look mem id with
    | .eql, some (.slice _), some _ => (liveE mem id (.c 0)).map fun q => ⟨some (.one (.bool (.c false))), [id], [], [], q, [], n⟩
    | _, _, _ => none
  | some (.one .nilsl), some (.one .nilsl) => match op, P.underlying t with
    | .eql, some (.slice _) => some (Eff.pure n (.one (.bool (.c true))))
    | _, _ => none
  | _, _ => none
noncomputable def opExec (P : Program) (ce : CE) (o : Oper) (env : Env) (g : List (Nat × Bool)) (mem : Mem) (n : Nat) : Option Eff :=
  match o.op with
  | .move x => (arg env g x).map (Eff.pure n)
  | .assign x => (arg env g x).map (Eff.pure n)
  | .alloc t => match zeroOf P t with
    | some v => match v.cells with
      | some cs => some ⟨some (.one (.ptr n 0)), [], [], [(n, .blk t (tagged (n + 1) cs))], [], [], n + 1 + cs.length⟩
      | none => none
    | none => none
  | .box t x => match (arg env g x).bind SV.cells with
    | some cs => some ⟨some (.one (.ptr n 0)), [], [], [(n, .blk t (tagged (n + 1) cs))], [], [], n + 1 + cs.length⟩
    | none => none
  | .build t ps => match P.underlying t, (zeroOf P t).bind SV.cells, parts env g ps.toList with
    | some (.struct fs), some z, some vs => match fieldPlaces P fs.toList with
      | some pl => (fillS (fun i => pl[i]?) z vs).map fun cs => Eff.pure n (.agg cs)
      | none => none
    | some (.array _ e), some z, some vs => match P.info? e with
      | some i => (fillS (fun j => some (j * i.size, i.size)) z vs).map fun cs => Eff.pure n (.agg cs)
      | none => none
    | _, _, _ => none
  | .load t x => match eptrOf (arg env g x) with
    | some (id, esz, i, off) => loadE P t mem n id esz i off
    | none => match arg env g x, isAggT P t, P.info? t with
    | some (.one (.ptr id off)), some a, some i => match look mem id with
      | some (.blk _ cs) => bif a then
          (let r := untag (cut cs off i.size); bif Nat.beq r.length i.size then some ⟨some (.agg r), [id], [], [], [], [], n⟩ else none)
        else (match cut cs off 1 with
          | [(_, c)] => some ⟨some (.one c), [id], [], [], [], [], n⟩
          | _ => none)
      | _ => none
    | _, _, _ => none
  | .store t x y => match eptrOf (arg env g x) with
    | some (id, esz, i, off) => (match (arg env g y).bind SV.cells with
      | some vs => storeE P t mem n id esz i off vs
      | none => none)
    | none => match arg env g x, (arg env g y).bind SV.cells, P.info? t with
    | some (.one (.ptr id off)), some vs, some i => match look mem id with
      | some (.blk ty cs) => bif Nat.beq vs.length i.size && Nat.ble (off + vs.length) cs.length then
          some ⟨none, [id], [id], [(id, .blk ty (paste cs off (tagged n vs)))], [], [], n + vs.length⟩ else none
      | _ => none
    | _, _, _ => none
  | .nilCheck x => match eptrOf (arg env g x) with
    | some (id, esz, i, off) => (liveE mem id i).map fun q => ⟨some (.one (.eptr id esz i off)), [id], [], [], q, [], n⟩
    | none => match arg env g x with
    | some (.one (.ptr id off)) => match look mem id with
      | some (.blk _ _) => some ⟨some (.one (.ptr id off)), [id], [], [], [], [], n⟩
      | _ => none
    | _ => none
  | .binOp op t x y _ => match nilEq P mem n op t (arg env g x) (arg env g y) with
    | some e => some e
    | none => match arg env g x, arg env g y with
    | some a, some b => (binop P op t a b).map fun (c, q) => ⟨some (.one c), [], [], [], q, [], n⟩
    | _, _ => none
  | .unOp op _ x => ((arg env g x).bind (unop op)).map fun c => Eff.pure n (.one c)
  | .convert s d x => match P.underlying s, P.underlying d, arg env g x with
    | some _, some (.int k), some (.one (.int _ (.c m))) => some (Eff.pure n (.one (.int k (.c (k.wrap m)))))
    | some _, some (.int k), some (.one (.int _ (.v m))) => some (Eff.pure n (.one (.int k (.v (k.wrap m)))))
    | _, _, _ => none
  | .fieldAddr t x f => match eptrOf (arg env g x) with
    | some (id, esz, i, off) => fieldE P t f mem n id esz i off
    | none => match P.underlying t, arg env g x with
    | some (.struct fs), some (.one (.ptr id off)) => match fs.toList[f]? with
      | some fd => (match P.info? fd.type with
        | some i => (match look mem id with
          | some (.blk _ _) => bif Nat.beq i.size 0 then none else some ⟨some (.one (.ptr id (off + fd.offset))), [id], [], [], [], [], n⟩
          | _ => none)
        | none => none)
      | none => none
    | _, _ => none
  | .field t x f => match P.underlying t, arg env g x with
    | some (.struct fs), some (.agg cs) => match fs.toList[f]? with
      | some fd => (match isAggT P fd.type, P.info? fd.type with
        | some true, some i => (let r := cut cs fd.offset i.size; bif Nat.beq r.length i.size then some (Eff.pure n (.agg r)) else none)
        | some false, some _ => (match cut cs fd.offset 1 with
          | [c] => some (Eff.pure n (.one c))
          | _ => none)
        | _, _ => none)
      | none => none
    | _, _ => none
  | .extract x k => match arg env g x with
    | some (.tup vs) => match vs[k]? with
      | some (true, cs) => some (Eff.pure n (.agg cs))
      | some (false, [c]) => some (Eff.pure n (.one c))
      | _ => none
    | _ => none
  | .buildSlice t len ps => buildS P t len (parts env g ps.toList) n
  | .indexAddr t x i => indexA P t (arg env g x) (arg env g i) mem n
  | .index t x i => match strOf x with
    | some s => indexStr P t s (arg env g i) n
    | none => indexV P t (arg env g x) (arg env g i) n
  | .slice t x lo hi none => sliceOrCut P t (arg env g x) env g lo hi mem n
  | .makeSlice t x y => makeS P t (sameOp x y) (arg env g x) n
  | .makeFunc (.func f) ⟨[]⟩ caps => (args env g caps.toList).map (makeF n f)
  | .call c => match c.callee with
    | .builtin b => builtinS P b c.argTypes.toList (args env g c.args.toList) mem n
    | .value f => match cloOf (arg env g f) with
      | some (h, id) => (match args env g c.args.toList with
        | some vs => callC ce mem n h id vs
        | none => none)
      | none => match yldOf (arg env g f) with
      | some (y, id) => (match args env g c.args.toList with
        | some vs => yldC ce mem n y id vs
        | none => none)
      | none => match arg env g f, args env g c.args.toList with
      | some (.one (.fn h)), some vs => callE P ce mem n h vs
      | _, _ => none
    | _ => none
  | _ => none

/-! ### Regions -/
/-- Whether an operation runs: skipped for sure, or under these guards. -/
inductive Wt where
  | no | yes (g : List (Nat × Bool)) (gx : List (Bool × Bool)) | bad
noncomputable def wants (ops : List Oper) (env : Env) (o : Oper) : Wt :=
  match o.guard with
  | none => .yes [] []
  | some (j, w) => match (ops[j]?).bind (·.dst) with
    | none => .bad
    | some d => match look env d with
      | none => .bad
      | some e => match e.val with
        | .one (.bool (.c b)) => bif (b == w) then .yes e.g e.gx else .no
        | .one (.bool (.v x)) => .yes ((d, w) :: e.g) ((x, w) :: e.gx)
        | _ => .bad
/-- Choosing between two values. -/
noncomputable def pickV (env : Env) (g : List (Nat × Bool)) (c a b : Operand) : Option SV :=
  match c with
  | .tmp d => match look env d with
    | some e => bif gsub e.g g then (match e.val with
        | .one (.bool (.c x)) => bif x then arg env g a else arg env g b
        | .one (.bool (.v x)) => (match arg env ((d, true) :: g) a, arg env ((d, false) :: g) b with
          | some va, some vb => mergeV x va vb
          | _, _ => none)
        | _ => none) else none
    | none => none
  | _ => none
noncomputable def step1 (P : Program) (ce : CE) (o : Oper) (env : Env) (g : List (Nat × Bool)) (mem : Mem) (n : Nat) : Option Eff :=
  match o.op with
  | .pick c a b => (pickV env g c a b).map (Eff.pure n)
  | _ => opExec P ce o env g mem n
noncomputable def delAll : Mem → List Nat → Mem
  | [], _ => []
  | (id, o) :: r, l => bif has l id then delAll r l else (id, o) :: delAll r l
noncomputable def underAll (gx : List (Bool × Bool)) : List Prop → List Prop
  | [] => []
  | p :: r => under gx p :: underAll gx r
noncomputable def noNew (n : Nat) (l : List Nat) : Bool :=
  List.rec (motive := fun _ => Bool) true (fun a _ ih => Nat.blt a n && ih) l
theorem noNew_nil (n : Nat) : noNew n [] = true := rfl
theorem noNew_cons (n a : Nat) (r : List Nat) : noNew n (a :: r) = (Nat.blt a n && noNew n r) := rfl
noncomputable def freeOf (d : Nat) (l : List (Nat × Bool)) : Bool :=
  List.rec (motive := fun _ => Bool) true (fun p _ ih => !(Nat.beq p.1 d) && ih) l
theorem freeOf_nil (d : Nat) : freeOf d [] = true := rfl
theorem freeOf_cons (d : Nat) (p : Nat × Bool) (r : List (Nat × Bool)) : freeOf d (p :: r) = (!(Nat.beq p.1 d) && freeOf d r) := rfl
noncomputable def noGuardOn (d : Nat) (l : Env) : Bool :=
  List.rec (motive := fun _ => Bool) true (fun p _ ih => List.rec (motive := fun _ => Bool) ih (fun q r _ => Bool.rec false ih (freeOf d (q :: r))) p.2.g) l
theorem noGuardOn_nil (d : Nat) : noGuardOn d [] = true := rfl
theorem noGuardOn_cons (d k : Nat) (e : Ent) (r : Env) : noGuardOn d ((k, e) :: r) = (freeOf d e.g && noGuardOn d r) := by
  obtain ⟨g, gx, tag, val⟩ := e
  cases g with
  | nil => rfl
  | cons q g =>
    show (Bool.rec false (noGuardOn d r) (freeOf d (q :: g)) : Bool) = (freeOf d (q :: g) && noGuardOn d r)
    cases freeOf d (q :: g) <;> rfl
noncomputable def idsMem : Mem → List Nat
  | [] => []
  | (id, o) :: r => id :: (idsO o ++ idsMem r)
noncomputable def gslots : List (Nat × Bool) → List Nat
  | [] => []
  | p :: r => p.1 :: gslots r
noncomputable def slotsOf : List Operand → List Nat
  | [] => []
  | .tmp t :: r => t :: slotsOf r
  | _ :: r => slotsOf r
/-- The places of a footprint: slots, objects, the names of new objects. -/
noncomputable def q0 : List Nat → List Nat
  | [] => []
  | a :: r => 4 * a :: q0 r
noncomputable def q1 : List Nat → List Nat
  | [] => []
  | a :: r => (4 * a + 1) :: q1 r
noncomputable def q2 : List Nat → List Nat
  | [] => []
  | a :: r => (4 * a + 2) :: q2 r
noncomputable def allIn (n : Nat) (dom : List Nat) (l : List Nat) : Bool :=
  List.rec (motive := fun _ => Bool) true (fun a _ ih => (Nat.blt a n || has dom a) && ih) l
theorem allIn_nil (n : Nat) (dom : List Nat) : allIn n dom [] = true := rfl
theorem allIn_cons (n : Nat) (dom : List Nat) (a : Nat) (r : List Nat) : allIn n dom (a :: r) = ((Nat.blt a n || has dom a) && allIn n dom r) := rfl
noncomputable def idsE : Option SV → List Nat
  | some v => idsV v
  | none => []
structure FP where
  rs : List Nat
  ws : List Nat
  gs : List Nat
  ds : List Nat
structure RS where
  env : Env
  mem : Mem
  needs : List Prop
  eqs : Eqs
  n : Nat
  fps : List FP
noncomputable def guardSlot (ops : List Oper) (o : Oper) : List Nat :=
  match o.guard with
  | none => []
  | some (j, _) => match (ops[j]?).bind (·.dst) with
    | some d => [d]
    | none => []
noncomputable def reads (ops : List Oper) (o : Oper) (g : List (Nat × Bool)) (e : Eff) : List Nat :=
  q0 (slotsOf o.op.operands.toList ++ (guardSlot ops o ++ gslots g)) ++ (q1 e.rd ++ q2 (idsE e.val ++ idsMem e.ups))
noncomputable def dstL (o : Oper) : List Nat := match o.dst with | some d => [d] | none => []
/-- The names that are new. -/
noncomputable def newOf (n : Nat) (l : List Nat) : List Nat :=
  List.rec (motive := fun _ => List Nat) [] (fun a _ ih => Bool.rec (a :: ih) ih (Nat.blt a n)) l
theorem mem_newOf {n id : Nat} : ∀ {l : List Nat}, id ∈ l → n ≤ id → id ∈ newOf n l
  | a :: r, h, hn => by
    show id ∈ (Bool.rec (a :: newOf n r) (newOf n r) (Nat.blt a n) : List Nat)
    rcases List.mem_cons.1 h with rfl | h
    · have : Nat.blt id n = false := by
        cases hb : Nat.blt id n
        · rfl
        · rw [Nat.blt_eq] at hb; omega
      rw [this]; simp
    · have := mem_newOf h hn
      cases Nat.blt a n
      · exact List.mem_cons_of_mem _ this
      · exact this
noncomputable def writes (n : Nat) (o : Oper) (e : Eff) : List Nat := q0 (dstL o) ++ (q1 (e.touched ++ domain e.ups) ++ q2 (newOf n (domain e.ups)))
/-- Are these the same cells, the same rows? Then under these equations. -/
noncomputable def sameTC : List (Nat × SC) → List (Nat × SC) → Option Eqs
  | [], [] => some []
  | (_, x) :: r, (_, y) :: s => (sameTC r s).map (eqCell x y)
  | _, _ => none
noncomputable def sameR : RowC → RowC → Option Eqs
  | .lit _ a, .lit _ b => some [(.v (tupR a), .v (tupR b))]
  | .lst _ ks xs, .lst _ js ys => bif cksEq ks js then some [(.l xs, .l ys)] else none
  | .lit _ [], .lst _ _ ys => some [(.l [], .l ys)]
  | .lst _ _ xs, .lit _ [] => some [(.l xs, .l [])]
  | _, _ => none
noncomputable def sameObj : Obj → Obj → Option Eqs
  | .blk t x, .blk u y => bif Nat.beq t u then sameTC x y else none
  | .row p t m x, .row q u k y => bif (p == q) && (Nat.beq t u && Nat.beq m k) then sameR x y else none
  | _, _ => none
noncomputable def sameMem (mem ups : Mem) : List Nat → Option Eqs
  | [] => some []
  | id :: r => match look mem id, look ups id with
    | some o, some o' => (match sameObj o o', sameMem mem ups r with
      | some a, some b => some (a ++ b)
      | _, _ => none)
    | _, _ => none
/-- May the effect stand behind a guard? It must leave everything as it was. -/
noncomputable def quietly (g : List (Nat × Bool)) (n : Nat) (e : Eff) (mem : Mem) : Option Eqs :=
  match g with
  | [] => some []
  | _ => bif (match e.val with | some v => noNew n (idsV v) | none => false) then sameMem mem e.ups e.touched else none
/-- What an operation does to the state. -/
structure Fx where
  dst : Option Nat
  ent : Option Ent
  touched : List Nat
  ups : Mem
noncomputable def Fx.env (x : Fx) (env : Env) : Env :=
  match x.dst with
  | some d => (match x.ent with | some e => put env d e | none => rem env d)
  | none => env
noncomputable def Fx.mem (x : Fx) (mem : Mem) : Mem := x.ups ++ delAll mem (x.touched ++ domain x.ups)
noncomputable def dstOk (nt : Nat) (o : Oper) (env : Env) : Bool := match o.dst with | some d => Nat.blt d nt && noGuardOn d env | none => true
noncomputable def dstFree (o : Oper) (g : List (Nat × Bool)) : Bool := match o.dst with | some d => freeOf d g | none => true
noncomputable def fxOf (o : Oper) (g : List (Nat × Bool)) (gx : List (Bool × Bool)) (e : Eff) (mem : Mem) : Fx :=
  match g with
  | [] => ⟨o.dst, e.val.map fun v => ⟨[], [], e.nx, v⟩, e.touched, e.ups⟩
  | _ => ⟨o.dst, e.val.map fun v => ⟨g, gx, e.nx, v⟩, e.touched, restrict mem e.touched⟩
noncomputable def opStep (P : Program) (ce : CE) (nt : Nat) (ops : List Oper) (o : Oper) (s : RS) : Option RS :=
  bif dstOk nt o s.env then
  (match wants ops s.env o with
  | .bad => none
  | .no => some { s with env := (Fx.mk o.dst none [] []).env s.env, fps := s.fps ++ [⟨q0 (guardSlot ops o), q0 (dstL o), [], dstL o⟩] }
  | .yes g gx => match step1 P ce o s.env g s.mem s.n with
    | none => none
    | some e => match quietly g s.n e s.mem with
      | none => none
      | some q => bif Nat.ble s.n e.nx && (dstFree o g && allIn 0 e.rd e.touched && (allIn s.n (domain e.ups) (idsE e.val ++ idsMem e.ups) && noNew e.nx (domain e.ups))) then
        some { env := (fxOf o g gx e s.mem).env s.env, mem := (fxOf o g gx e s.mem).mem s.mem, needs := s.needs ++ underAll gx e.needs, eqs := s.eqs ++ (e.eqs ++ q), n := e.nx + 1,
               fps := s.fps ++ [⟨reads ops o g e, writes s.n o e, gslots g, dstL o⟩] }
      else none)
  else none
noncomputable def opSteps (P : Program) (ce : CE) (nt : Nat) (ops : List Oper) : List Oper → RS → Option RS
  | [], s => some s
  | o :: r, s => match opStep P ce nt ops o s with
    | some s' => opSteps P ce nt ops r s'
    | none => none

/-! ### Code -/
inductive SX where
  | normal | exit (id : Nat) | ret
noncomputable def SX.eq : SX → SX → Bool
  | .normal, .normal => true
  | .ret, .ret => true
  | .exit a, .exit b => Nat.beq a b
  | _, _ => false
inductive Tree where
  | leaf (e : SX) (env : Env) (mem : Mem)
  | ite (c : Bool) (a b : Tree)
structure TR where
  t : Tree
  needs : List Prop
  eqs : Eqs
  n : Nat
noncomputable def andAll : List Prop → Prop
  | [] => True
  | [p] => p
  | p :: r => p ∧ andAll r
noncomputable def impAll (p : Prop) : List Prop → List Prop
  | [] => []
  | q :: r => [p → andAll (q :: r)]
noncomputable def bindT (k : Env → Mem → Nat → Option TR) : Tree → Nat → Option TR
  | .leaf .normal env mem, n => k env mem n
  | .leaf e env mem, n => some ⟨.leaf e env mem, [], [], n⟩
  | .ite c a b, n => match bindT k a n with
    | none => none
    | some x => match bindT k b x.n with
      | none => none
      | some y => some ⟨.ite c x.t y.t, impAll (c = true) x.needs ++ impAll (c = false) y.needs, x.eqs ++ y.eqs, y.n⟩
noncomputable def outB (id : Nat) : Tree → Tree
  | .leaf (.exit i) env mem => bif Nat.beq i id then .leaf .normal env mem else .leaf (.exit i) env mem
  | .leaf e env mem => .leaf e env mem
  | .ite c a b => .ite c (outB id a) (outB id b)
noncomputable def collapse : Tree → Nat → Tree × Eqs × Nat
  | .leaf e env mem, n => (.leaf e env mem, [], n)
  | .ite c a b, n => match collapse a n with
    | (a', qa, n1) => match collapse b n1 with
      | (b', qb, n2) => match a', b' with
        | .leaf e env mem, .leaf f env' mem' => bif SX.eq e f && !(partsEnv env env' || partsMem mem mem') then
            (match mergeEnv c n2 env env' with
            | (v, q1, n3) => match mergeMem c n3 mem mem' with
              | (m, q2, n4) => (.leaf e v m, qa ++ qb ++ q1 ++ q2, n4))
          else (.ite c a' b', qa ++ qb, n2)
        | _, _ => (.ite c a' b', qa ++ qb, n2)
/-- A list of numbers as one number. -/
noncomputable def mask (l : List Nat) : Nat :=
  List.rec (motive := fun _ => Nat) 0 (fun a _ ih => Nat.lor (2 ^ a) ih) l
theorem mask_nil : mask [] = 0 := rfl
theorem mask_cons (a : Nat) (r : List Nat) : mask (a :: r) = Nat.lor (2 ^ a) (mask r) := rfl
noncomputable def keepEnv (keep : Nat) : Env → Env
  | [] => []
  | (t, e) :: r => bif keep.testBit t then (match e.g with | [] => (t, e) :: keepEnv keep r | _ => del (keepEnv keep r) t) else del (keepEnv keep r) t

/-! ### An order that is open -/
/-- For each operation the bits of those that come before it in every order. -/
noncomputable def orAll (acc : List Nat) : List Edge → Nat
  | [] => 0
  | e :: r => bif Region.binds .any e then (2 ^ e.on ||| acc.getD e.on 0) ||| orAll acc r else orAll acc r
noncomputable def befores : List Oper → List Nat → List Nat
  | [], acc => acc
  | o :: r, acc => befores r (acc ++ [orAll acc o.after.toList])
noncomputable def backE (n : Nat) : List Edge → Bool
  | [] => true
  | e :: r => (!(Region.binds .any e) || Nat.blt e.on n) && backE n r
noncomputable def backs : Nat → List Oper → Bool
  | _, [] => true
  | n, o :: r => backE n o.after.toList && backs (n + 1) r
noncomputable def clash (a b : FP) : Bool := meets a.ws b.rs || (meets a.ws b.ws || meets a.rs b.ws)
structure FM where
  rs : Nat
  ws : Nat
  gs : Nat
  ds : Nat
noncomputable def fm (a : FP) : FM := ⟨mask a.rs, mask a.ws, mask a.gs, mask a.ds⟩
noncomputable def apart (a b : Nat) : Bool := Nat.beq (Nat.land a b) 0
noncomputable def clashM (a b : FM) : Bool := !(apart a.ws (Nat.lor b.rs b.ws) && apart a.rs b.ws)
/-- Operation j (footprint b, bits m) against those before it, from number i on. -/
noncomputable def chk1 (b : FM) (m : Nat) : List FM → Nat → Bool
  | [], _ => true
  | a :: r, i => (m.testBit i || !clashM a b) && (apart a.gs b.ds && chk1 b m r (i + 1))
noncomputable def chkAll : List FM → List FM → List Nat → Bool
  | _, [], _ => true
  | done, b :: r, m :: ms => chk1 b m done 0 && chkAll (done ++ [b]) r ms
  | _, _ :: _, [] => false

/-- What is known of a loop, at each state in front of it. -/
abbrev LoopS := Env → Mem → Nat → Option TR
/-- A loop is named by the first region in it. -/
noncomputable def firstR : Code → Option Nat
  | .region id _ _ => some id
  | .seq a b => match firstR a with | some i => some i | none => firstR b
  | .cond _ a b => match firstR a with | some i => some i | none => firstR b
  | .block _ b => firstR b
  | .loop b => firstR b
  | _ => none
noncomputable def loopsOf : Code → List Code
  | .seq a b => loopsOf a ++ loopsOf b
  | .cond _ a b => loopsOf a ++ loopsOf b
  | .block _ b => loopsOf b
  | .loop b => b :: loopsOf b
  | _ => []
structure Cfg where
  keep : Nat
  nt : Nat
  fuel : Nat
  loops : Nat → Option LoopS
noncomputable def loopAt (cfg : Cfg) (b : Code) (u : LoopS) (env : Env) (mem : Mem) (n : Nat) : Option TR :=
  match (firstR b).bind cfg.loops with
  | some s => (match s env mem n with
    | some r => some r
    | none => u env mem n)
  | none => u env mem n
noncomputable def regionC (P : Program) (ce : CE) (cfg : Cfg) (ops : List Oper) (draw : Bool) (env : Env) (mem : Mem) (n : Nat) : Option TR :=
  match opSteps P ce cfg.nt ops ops ⟨env, mem, [], [], n, []⟩ with
  | some s => bif !draw || (backs 0 ops && (P.follows .mixedOrders && chkAll [] (s.fps.map fm) (befores ops []))) then some ⟨.leaf .normal (keepEnv cfg.keep s.env) s.mem, s.needs, s.eqs, s.n⟩ else none
  | none => none
noncomputable def loopN (body : Env → Mem → Nat → Option TR) : Nat → Env → Mem → Nat → Option TR
  | 0, _, _, _ => none
  | k + 1, env, mem, n => match body env mem n with
    | none => none
    | some x => match collapse x.t x.n with
      | (t, q, n1) => match bindT (loopN body k) t n1 with
        | none => none
        | some y => some ⟨y.t, x.needs ++ y.needs, x.eqs ++ q ++ y.eqs, y.n⟩
noncomputable def execC (P : Program) (ce : CE) (cfg : Cfg) : Code → Env → Mem → Nat → Option TR
  | .skip, env, mem, n => some ⟨.leaf .normal env mem, [], [], n⟩
  | .region _ ops draw, env, mem, n => regionC P ce cfg ops.toList draw env mem n
  | .seq a b, env, mem, n => match execC P ce cfg a env mem n with
    | none => none
    | some x => match collapse x.t x.n with
      | (t, q, n1) => match bindT (execC P ce cfg b) t n1 with
        | none => none
        | some y => some ⟨y.t, x.needs ++ y.needs, x.eqs ++ q ++ y.eqs, y.n⟩
  | .cond c a b, env, mem, n => match arg env [] c with
    | some (.one (.bool (.c x))) => bif x then execC P ce cfg a env mem n else execC P ce cfg b env mem n
    | some (.one (.bool (.v x))) => match execC P ce cfg a env mem n with
      | none => (match execC P ce cfg b env mem n with
        | none => none
        | some z => some { z with needs := (x = false) :: z.needs })
      | some y => match execC P ce cfg b env mem y.n with
        | none => some { y with needs := (x = true) :: y.needs }
        | some z => some ⟨.ite x y.t z.t, impAll (x = true) y.needs ++ impAll (x = false) z.needs, y.eqs ++ z.eqs, z.n⟩
    | _ => none
  | .block id b, env, mem, n => match execC P ce cfg b env mem n with
    | none => none
    | some x => some { x with t := outB id x.t }
  | .exit id, env, mem, n => some ⟨.leaf (.exit id) env mem, [], [], n⟩
  | .ret, env, mem, n => some ⟨.leaf .ret env mem, [], [], n⟩
  | .loop b, env, mem, n => loopAt cfg b (loopN (execC P ce cfg b) cfg.fuel) env mem n
  | .rangeFunc .., _, _, _ => none
  | .scope _, _, _, _ => none
  | .label _, _, _, _ => none
  | .goto _, _, _, _ => none
  | .refuse _, _, _, _ => none

/-! ### Functions -/
/-- The slots that are read outside the region that writes them. -/
noncomputable def regionReads : List Oper → List Nat → List Nat
  | [], _ => []
  | o :: r, d => (slotsOf o.op.operands.toList).filter (fun t => !has d t) ++ regionReads r (match o.dst with | some t => t :: d | none => d)
noncomputable def codeReads : Code → List Nat
  | .region _ ops _ => regionReads ops.toList []
  | .seq a b => codeReads a ++ codeReads b
  | .cond c a b => slotsOf [c] ++ (codeReads a ++ codeReads b)
  | .block _ b => codeReads b
  | .loop b => codeReads b
  | _ => []
noncomputable def resReads : List ResultVar → List Nat
  | [] => []
  | .tmp t :: r => t :: resReads r
  | .cell t _ :: r => t :: resReads r
noncomputable def result1 (P : Program) (env : Env) (mem : Mem) : ResultVar → Option (Bool × List SC)
  | .tmp t => match look env t with
    | some e => match e.g, e.val with
      | [], .one c => some (false, [c])
      | [], .agg cs => some (true, cs)
      | _, _ => none
    | none => none
  | .cell t ty => match look env t, isAggT P ty, P.info? ty with
    | some e, some a, some i => match e.g, e.val with
      | [], .one (.ptr id off) => match look mem id with
        | some (.blk _ cs) => bif a then (let r := untag (cut cs off i.size); bif Nat.beq r.length i.size then some (true, r) else none)
            else (match cut cs off 1 with | [(_, c)] => some (false, [c]) | _ => none)
        | _ => none
      | _, _ => none
    | _, _, _ => none
noncomputable def resultsS (P : Program) (env : Env) (mem : Mem) : List ResultVar → Option (List (Bool × List SC))
  | [] => some []
  | r :: rs => match result1 P env mem r, resultsS P env mem rs with
    | some x, some xs => some (x :: xs)
    | _, _ => none
noncomputable def packS : List (Bool × List SC) → Option SV
  | [(true, cs)] => some (.agg cs)
  | [(false, [c])] => some (.one c)
  | [_] => none
  | l => some (.tup l)
/-- Two slices, of which a condition picks one: a new row. -/
noncomputable def pickRow (mem : Mem) (n0 : Nat) : SC → Option (Option (Nat × Nat × Nat × RowC))
  | .nilsl => some none
  | .wh id => match look mem id with
    | some (.row false ty m r) => bif Nat.ble n0 id then some (some (id, ty, m, r)) else none
    | _ => none
  | _ => none
structure Picked where
  ty : Nat
  esz : Nat
  r : RowC
  gone : List Nat
  eqs : Eqs
  n : Nat
noncomputable def mergeSl (c : Bool) (n0 n : Nat) (m m' : Mem) (x y : SC) : Option Picked :=
  match pickRow m n0 x, pickRow m' n0 y with
  | some (some (i, ty, k, r)), some (some (j, ty', k', r')) => bif Nat.beq ty ty' && Nat.beq k k' then (mergeR c n r r').map (fun (z, q, n') => ⟨ty, k, z, [i, j], q, n'⟩) else none
  | some (some (i, ty, k, r)), some none => bif Nat.blt 0 k then (mergeR c n r (.lit n [])).map (fun (z, q, n') => ⟨ty, k, z, [i], q, n'⟩) else none
  | some none, some (some (j, ty, k, r)) => bif Nat.blt 0 k then (mergeR c n (.lit n []) r).map (fun (z, q, n') => ⟨ty, k, z, [j], q, n'⟩) else none
  | _, _ => none
noncomputable def finalV (c : Bool) (n0 n : Nat) (m m' : Mem) : SV → SV → Option (SV × Picked)
  | .one x, .one y => (mergeSl c n0 n m m' x y).map fun p => (.one (.wh p.n), p)
  | .tup ((false, [x]) :: r), .tup ((false, [y]) :: s) => match mergeSl c n0 n m m' x y, mergeTup c r s with
    | some p, some t => bif (idsTup t).isEmpty then some (.tup ((false, [.wh p.n]) :: t), p) else none
    | _, _ => none
  | _, _ => none
/-! Slices that stand in blocks, where branches meet: a new row, in both. -/
noncomputable def findPart : List (Nat × SC) → List (Nat × SC) → Nat → Option Nat
  | (_, x) :: r, (_, y) :: s, j => bif partsC x y then some j else findPart r s (j + 1)
  | _, _, _ => none
noncomputable def findSlot : Mem → Mem → Option (Nat × Nat)
  | [], _ => none
  | (b, o) :: r, s => match (match o, look s b with
      | .blk _ x, some (.blk _ y) => findPart x y 0
      | _, _ => none) with
    | some j => some (b, j)
    | none => findSlot r s
noncomputable def slotTy (m : Mem) (b j : Nat) : Option (Nat × Nat) :=
  match look m b with
  | some (.blk _ cs) => match cs.drop j with
    | (_, .wh a) :: _ => match look m a with
      | some (.row false ty k _) => some (ty, k)
      | _ => none
    | _ => none
  | _ => none
noncomputable def moveSlot (m : Mem) (b j p e k : Nat) : Option Mem :=
  match look m b with
  | some (.blk ty cs) => match cs.drop j with
    | (_, x) :: r => match pickRow m 0 x with
      | some none => some (put ((p, .row false e k (.lit (p + 1) [])) :: delAll m [p]) b (.blk ty (cs.take j ++ (p + 2, .wh p) :: r)))
      | some (some (i, e', k', z)) => bif Nat.beq e' e && Nat.beq k' k then some (put ((p, .row false e k z) :: delAll m [p, i]) b (.blk ty (cs.take j ++ (p + 2, .wh p) :: r))) else none
      | none => none
    | [] => none
  | _ => none
noncomputable def levelSlots : Nat → Mem → Mem → Nat → Mem × Mem × Nat
  | 0, m, m', n => (m, m', n)
  | f + 1, m, m', n => match findSlot m m' with
    | none => (m, m', n)
    | some (b, j) => match (match slotTy m b j with | some x => some x | none => slotTy m' b j) with
      | none => (m, m', n)
      | some (e, k) => bif Nat.blt 0 k then (match moveSlot m b j n e k, moveSlot m' b j n e k with
        | some m1, some m2 => levelSlots f m1 m2 (n + 3)
        | _, _ => (m, m', n)) else (m, m', n)
noncomputable def levelled (v v' : SV) (m m' : Mem) (n : Nat) : Mem × Mem × Nat :=
  bif noNew n (idsV v) && noNew n (idsV v') then levelSlots 8 m m' n else (m, m', n)
/-- Rows that were given may be picked only where the values do not stand as one already. -/
noncomputable def floorN (c : Bool) (n0 : Nat) (v v' : SV) : Nat := match mergeV c v v' with
  | some _ => n0
  | none => 0
noncomputable def finalT (P : Program) (n0 : Nat) (rs : List ResultVar) : Tree → Nat → Option (SV × Mem × Eqs × Nat)
  | .leaf (.exit _) _ _, _ => none
  | .leaf _ env mem, n => match (resultsS P env mem rs).bind packS with
    | some v => some (v, mem, [], n)
    | none => none
  | .ite c a b, n => match finalT P n0 rs a n with
    | none => none
    | some (v, m0, q, n1) => match finalT P n0 rs b n1 with
      | none => none
      | some (v', m0', q', n2') => match levelled v v' m0 m0' n2' with
      | (m, m', n2) => match finalV c (floorN c n0 v v') n2 m m' v v' with
        | some (z, p) => (match mergeMem c (p.n + 1) m m' with
          | (mm, q'', n3) => some (z, (p.n, .row false p.ty p.esz p.r) :: delAll mm (p.n :: p.gone), q ++ q' ++ p.eqs ++ q'', n3))
        | none => match mergeV c v v' with
          | none => none
          | some z => match mergeMem c n2 m m' with
            | (mm, q'', n3) => some (z, mm, q ++ q' ++ q'', n3)
noncomputable def initEnv : List SV → Nat → Env
  | [], _ => []
  | v :: r, t => (t, ⟨[], [], 2 * t, v⟩) :: initEnv r (t + 1)
noncomputable def execF (P : Program) (ce : CE) (fuel : Nat) (L : Nat → Option LoopS) (f : FuncId) (vs : List SV) (mem : Mem) (n : Nat) : Option CRes :=
  bif Nat.ble 1000000 f then none else match P.funcs[f]? with
  | none => none
  | some fn => match fn.body with
    | none => none
    | some body => bif Nat.ble vs.length fn.ntmps then
      (match execC P ce ⟨mask (codeReads body ++ resReads fn.results.toList), fn.ntmps, fuel, L⟩ body (initEnv vs 0) mem n with
      | none => none
      | some x => match finalT P n fn.results.toList x.t x.n with
        | none => none
        | some (v, m, q, n') => bif Nat.ble n n' then
            some ⟨v, restrict m (reach m 3 (addAll (domain mem) (idsV v))), x.needs, x.eqs ++ q, n'⟩ else none) else none
/-! ### Names -/
/-- The names, numbered from 0 on. -/
noncomputable def nameAt : List Nat → Nat → Nat → Nat
  | [], n, i => n + i
  | a :: _, _, 0 => a
  | _ :: r, n, i + 1 => nameAt r (n + 1) i
noncomputable def numOf (l : List Nat) (id k : Nat) : Nat :=
  List.rec (motive := fun _ => Nat → Nat) (fun _ => 0) (fun a _ ih k => Bool.rec (ih (k + 1)) k (Nat.beq a id)) l k
theorem numOf_nil (id k : Nat) : numOf [] id k = 0 := rfl
theorem numOf_cons (a : Nat) (r : List Nat) (id k : Nat) : numOf (a :: r) id k = bif Nat.beq a id then k else numOf r id (k + 1) := by
  show (Bool.rec (numOf r id (k + 1)) k (Nat.beq a id) : Nat) = _
  cases Nat.beq a id <;> rfl
noncomputable def SC.ren (f : Nat → Nat) : SC → SC
  | .ptr id off => .ptr (f id) off
  | .eptr id esz i off => .eptr (f id) esz i off
  | .wh id => .wh (f id)
  | .sl id esz off len => .sl (f id) esz off len
  | .clo g id => .clo g (f id)
  | .int k n => .int k n
  | .bool b => .bool b
  | .nilp => .nilp
  | .nilsl => .nilsl
  | .fn g => .fn g
  | .yld g id => .yld g (f id)
  | .nilf => .nilf
/-- A renamed cell in front of a list: the cell is looked at first. -/
noncomputable def consC (f : Nat → Nat) (c : SC) (l : List SC) : List SC := match c with
  | .ptr id off => .ptr (f id) off :: l
  | .eptr id esz i off => .eptr (f id) esz i off :: l
  | .wh id => .wh (f id) :: l
  | .sl id esz off len => .sl (f id) esz off len :: l
  | .clo g id => .clo g (f id) :: l
  | .int k n => .int k n :: l
  | .bool b => .bool b :: l
  | .nilp => .nilp :: l
  | .nilsl => .nilsl :: l
  | .fn g => .fn g :: l
  | .yld g id => .yld g (f id) :: l
  | .nilf => .nilf :: l
noncomputable def renCs (f : Nat → Nat) (l : List SC) : List SC :=
  List.rec (motive := fun _ => List SC) [] (fun c _ ih => consC f c ih) l
theorem renCs_nil (f : Nat → Nat) : renCs f [] = [] := rfl
theorem renCs_cons (f : Nat → Nat) (c : SC) (r : List SC) : renCs f (c :: r) = c.ren f :: renCs f r := by cases c <;> rfl
noncomputable def renTup (f : Nat → Nat) : List (Bool × List SC) → List (Bool × List SC)
  | [] => []
  | (b, cs) :: r => (b, renCs f cs) :: renTup f r
noncomputable def SV.ren (f : Nat → Nat) : SV → SV
  | .one c => .one (c.ren f)
  | .agg cs => .agg (renCs f cs)
  | .tup vs => .tup (renTup f vs)
noncomputable def renVs (f : Nat → Nat) : List SV → List SV
  | [] => []
  | v :: r => v.ren f :: renVs f r
noncomputable def consT (f : Nat → Nat) (t : Nat) (c : SC) (l : List (Nat × SC)) : List (Nat × SC) := match c with
  | .ptr id off => (t, .ptr (f id) off) :: l
  | .eptr id esz i off => (t, .eptr (f id) esz i off) :: l
  | .wh id => (t, .wh (f id)) :: l
  | .sl id esz off len => (t, .sl (f id) esz off len) :: l
  | .clo g id => (t, .clo g (f id)) :: l
  | .int k n => (t, .int k n) :: l
  | .bool b => (t, .bool b) :: l
  | .nilp => (t, .nilp) :: l
  | .nilsl => (t, .nilsl) :: l
  | .fn g => (t, .fn g) :: l
  | .yld g id => (t, .yld g (f id)) :: l
  | .nilf => (t, .nilf) :: l
/-- Cells under other names and with other tags. -/
noncomputable def renT (f g : Nat → Nat) (l : List (Nat × SC)) : List (Nat × SC) :=
  List.rec (motive := fun _ => List (Nat × SC)) [] (fun p _ ih => consT f (g p.1) p.2 ih) l
theorem renT_nil (f g : Nat → Nat) : renT f g [] = [] := rfl
theorem renT_cons (f g : Nat → Nat) (t : Nat) (c : SC) (r : List (Nat × SC)) : renT f g ((t, c) :: r) = (g t, c.ren f) :: renT f g r := by cases c <;> rfl
noncomputable def retT (g : Nat → Nat) (l : List (Nat × SC)) : List (Nat × SC) :=
  List.rec (motive := fun _ => List (Nat × SC)) [] (fun p _ ih => (g p.1, p.2) :: ih) l
noncomputable def retR (g : Nat → Nat) : RowC → RowC
  | .lit t rows => .lit (g t) rows
  | .lst t ks xs => .lst (g t) ks xs
noncomputable def Obj.ren (f g : Nat → Nat) : Obj → Obj
  | .blk ty cs => .blk ty (renT f g cs)
  | .row ro ty esz r => .row ro ty esz (retR g r)
  | .clo cs => .clo (renVs f cs)
  | .raw b rs t L k => .raw b (rs.map f) (g t) L k
noncomputable def renMem (f g : Nat → Nat) : Mem → Mem
  | [] => []
  | (id, o) :: r => (f id, o.ren f g) :: renMem f g r
noncomputable def tagsT : List (Nat × SC) → List Nat
  | [] => []
  | (t, _) :: r => t :: tagsT r
noncomputable def tagsR : RowC → List Nat
  | .lit t _ => [t]
  | .lst t _ _ => [t]
noncomputable def tagsO : Obj → List Nat
  | .blk _ cs => tagsT cs
  | .row _ _ _ r => tagsR r
  | .clo _ => []
  | .raw _ _ t _ _ => [t]
noncomputable def tagsM : Mem → List Nat
  | [] => []
  | (_, o) :: r => tagsO o ++ tagsM r
noncomputable def nodupB : List Nat → Bool
  | [] => true
  | a :: r => !has r a && nodupB r
/-- The objects in the order of the names. -/
noncomputable def pickMem (mem : Mem) : List Nat → Mem
  | [] => []
  | id :: r => match look mem id with
    | some o => (id, o) :: pickMem mem r
    | none => pickMem mem r
/-- A call whose names are numbered from 0 on, in the order in which they are met. -/
noncomputable def canon (g : List SV → Mem → Nat → Option CRes) (vs : List SV) (mem : Mem) (n : Nat) : Option CRes :=
  let I := addAll (addAll [] (idsVs vs)) (idsMem mem)
  let M := pickMem mem I
  let T := addAll [] (tagsM M)
  let k := I.length
  let nc := k + T.length
  bif nodupB I && noNew n I then
    (match g (renVs (fun id => numOf I id 0) vs) (renMem (fun id => numOf I id 0) (fun t => numOf T t k) M) nc with
    | some r => some ⟨r.val.ren (nameAt I n), renMem (nameAt I n) (fun t => bif Nat.blt t nc then (bif Nat.blt t k then n + t else nameAt T n (t - k)) else n + t) r.mem, r.needs, r.eqs, n + r.nx⟩
    | none => none)
  else none
/-- The functions that are taken by what was proved of them; all others are run. -/
abbrev Summ := List SV → Mem → Nat → Option CRes
noncomputable def orElse (s : Option Summ) (g : Summ) (vs : List SV) (mem : Mem) (n : Nat) : Option CRes :=
  match s with
  | some s => (match s vs mem n with
    | some r => some r
    | none => g vs mem n)
  | none => g vs mem n
noncomputable def evalC (P : Program) (S : FuncId → Option Summ) (L : FuncId → Nat → Option LoopS) (fuel : Nat) : Nat → CE
  | 0 => fun _ _ _ _ => none
  | k + 1 => fun f => canon (orElse (S f) (execF P (evalC P S L fuel k) fuel (L f) f))

/-! ### Loops -/
/-- The names of a family of states, and what stands under them. -/
abbrev Sub := List (Nat × Option Nat)
structure MR where
  sub : Sub
  needs : List Prop
  eqs : Eqs
noncomputable def bindN (n0 : Nat) (a : Nat) (b : Option Nat) (m : MR) : Option MR :=
  bif Nat.blt a n0 then (match b with
    | some b => bif Nat.beq a b then some m else none
    | none => none)
  else match look m.sub a with
    | none => some { m with sub := (a, b) :: m.sub }
    | some b' => (match b, b' with
      | some x, some y => bif Nat.beq x y then some m else none
      | none, none => some m
      | _, _ => none)
noncomputable def needI (same : Bool) (k : IntKind) (x y : SI) (m : MR) : MR :=
  match x, y with
  | .c a, .c b => bif decide (a = b) then m else { m with needs := m.needs ++ [a = b] }
  | x, y => bif same then { m with eqs := m.eqs ++ [(.v (.one (.int k x)), .v (.one (.int k y)))] } else { m with needs := m.needs ++ [x.val = y.val] }
noncomputable def needB (same : Bool) (x y : SB) (m : MR) : MR :=
  match x, y with
  | .c a, .c b => bif (a == b) then m else { m with needs := m.needs ++ [a = b] }
  | x, y => bif same then { m with eqs := m.eqs ++ [(.v (.one (.bool x)), .v (.one (.bool y)))] } else { m with needs := m.needs ++ [x.val = y.val] }
noncomputable def needN (x y : SN) (m : MR) : MR :=
  match x, y with
  | .c a, .c b => bif Nat.beq a b then m else { m with needs := m.needs ++ [a = b] }
  | x, y => { m with needs := m.needs ++ [x.val = y.val] }
/-- One tag: but a great one says nothing. -/
noncomputable def sameTag (a b : Nat) : Bool := Nat.beq a b && Nat.blt a 1000000000
/-- The family's cell and the one that stands there. -/
noncomputable def matchC (n0 : Nat) (same : Bool) (x y : SC) (m : MR) : Option MR :=
  match x, y with
  | .int k x, .int j y => bif kindEq k j then some (needI same k x y m) else none
  | .bool x, .bool y => some (needB same x y m)
  | .ptr a o, .ptr b p => bif Nat.beq o p then bindN n0 a (some b) m else none
  | .wh a, .wh b => bindN n0 a (some b) m
  | .wh a, .nilsl => bindN n0 a none m
  | .sl a e o l, .sl b f p k => bif Nat.beq e f then bindN n0 a (some b) (needN l k (needN o p m)) else none
  | .eptr a e i o, .eptr b f j p => bif Nat.beq e f && Nat.beq o p then bindN n0 a (some b) (needN i j m) else none
  | .clo f a, .clo h b => bif Nat.beq f h then bindN n0 a (some b) m else none
  | .nilp, .nilp => some m
  | .nilsl, .nilsl => some m
  | .fn f, .fn h => bif Nat.beq f h then some m else none
  | _, _ => none
noncomputable def matchCs (n0 : Nat) (same : Bool) : List SC → List SC → MR → Option MR
  | [], [], m => some m
  | x :: r, y :: s, m => match matchC n0 same x y m with
    | some m' => matchCs n0 same r s m'
    | none => none
  | _, _, _ => none
noncomputable def matchV (n0 : Nat) (same : Bool) (x y : SV) (m : MR) : Option MR :=
  match x, y with
  | .one x, .one y => matchC n0 same x y m
  | .agg x, .agg y => matchCs n0 same x y m
  | _, _ => none
noncomputable def matchVs (n0 : Nat) : List SV → List SV → MR → Option MR
  | [], [], m => some m
  | x :: r, y :: s, m => match matchV n0 false x y m with
    | some m' => matchVs n0 r s m'
    | none => none
  | _, _, _ => none
noncomputable def matchT (n0 : Nat) : List (Nat × SC) → List (Nat × SC) → MR → Option MR
  | [], [], m => some m
  | (a, x) :: r, (b, y) :: s, m => match matchC n0 (sameTag a b) x y m with
    | some m' => matchT n0 r s m'
    | none => none
  | _, _, _ => none
noncomputable def matchE (n0 : Nat) : Env → Env → MR → Option MR
  | [], _, m => some m
  | (t, e) :: r, env, m => match look env t with
    | none => none
    | some f => match e.g, f.g with
      | [], [] => (match matchV n0 (sameTag e.tag f.tag) e.val f.val m with
        | some m' => matchE n0 r env m'
        | none => none)
      | _, _ => none
noncomputable def matchRows (n0 : Nat) (same : Bool) : List (List SC) → List (List SC) → MR → Option MR
  | [], [], m => some m
  | x :: r, y :: s, m => match encCs x, matchCs n0 same x y m with
    | some _, some m' => matchRows n0 same r s m'
    | _, _ => none
  | _, _, _ => none
noncomputable def matchR (n0 : Nat) (x y : RowC) (m : MR) : Option MR :=
  match x, y with
  | .lst t ks xs, .lst u js ys => bif cksEq ks js then (bif sameTag t u then some { m with eqs := m.eqs ++ [(.l xs, .l ys)] } else some { m with needs := m.needs ++ [xs = ys] }) else none
  | .lst _ ks xs, .lit _ rows => match encRows ks rows with
    | some ys => some { m with needs := m.needs ++ [xs = ys] }
    | none => none
  | .lit t a, .lit u b => matchRows n0 (sameTag t u) a b m
  | _, _ => none
noncomputable def matchO (n0 : Nat) (x y : Obj) (m : MR) : Option MR :=
  match x, y with
  | .blk t x, .blk u y => bif Nat.beq t u then matchT n0 x y m else none
  | .row p t e x, .row q u f y => bif (p == q) && (Nat.beq t u && Nat.beq e f) then matchR n0 x y m else none
  | .clo x, .clo y => matchVs n0 x y m
  | _, _ => none
noncomputable def matchM (n0 : Nat) : Mem → Mem → MR → Option MR
  | [], _, m => some m
  | (id, o) :: r, mem, m => match (bif Nat.blt id n0 then some (some id) else look m.sub id) with
    | none => none
    | some none => (match o with
      | .row false _ esz (.lst _ _ xs) => bif Nat.blt 0 esz then matchM n0 r mem { m with needs := m.needs ++ [xs = []] } else none
      | _ => none)
    | some (some b) => match look mem b with
      | none => none
      | some p => match matchO n0 o p m with
        | some m' => matchM n0 r mem m'
        | none => none
noncomputable def images : Sub → List Nat
  | [] => []
  | (_, some b) :: r => b :: images r
  | (_, none) :: r => images r
noncomputable def plainE : Env → Bool
  | [] => true
  | (_, e) :: r => (e.g.isEmpty && e.gx.isEmpty) && plainE r
noncomputable def idsEnv : Env → List Nat
  | [] => []
  | (_, e) :: r => idsV e.val ++ idsEnv r
noncomputable def lowDom (n0 : Nat) : Mem → List Nat
  | [] => []
  | (id, _) :: r => bif Nat.blt id n0 then id :: lowDom n0 r else lowDom n0 r
/-- A state (env, mem) is one of the family's: (E, M). -/
noncomputable def matchS (n0 N : Nat) (E : Env) (M : Mem) (env : Env) (mem : Mem) : Option (List Prop × Eqs) :=
  bif plainE E && (noNew N (idsEnv E) && noNew N (idsMem M)) then
    (match matchE n0 E env ⟨[], [], []⟩ with
    | none => none
    | some m => match matchM n0 M mem m with
      | none => none
      | some m' => bif nodupB (images m'.sub) && !(meets (images m'.sub) (lowDom n0 M)) then some (m'.needs, m'.eqs) else none)
  else none
/-- A leaf is one of a tree's leaves. -/
noncomputable def matchL (n0 N : Nat) (e : SX) (env : Env) (mem : Mem) : Tree → Option (List Prop × Eqs)
  | .leaf f E M => bif SX.eq e f then matchS n0 N E M env mem else some ([False], [])
  | .ite c a b => match matchL n0 N e env mem a, matchL n0 N e env mem b with
    | some (p, q), some (p', q') => some (impAll (c = true) p ++ impAll (c = false) p', q ++ q')
    | _, _ => none
/-- A family of the states in front of a loop: s the state, t what is behind the loop. -/
structure Fam (σ τ : Type) where
  k : Nat
  E : σ → Env
  M : σ → Mem
  out : τ → Tree
  fin : σ → τ
  next : σ → Nat → σ
  J : σ → Prop
  μ : σ → Nat
noncomputable def leavesC {σ τ : Type} (F : Fam σ τ) (n : Nat) (s : σ) : Tree → Nat → Option (List Prop × Eqs × Nat)
  | .leaf .normal env mem, i => match matchS n (n + F.k) (F.E (F.next s i)) (F.M (F.next s i)) env mem with
    | some (p, q) => some (F.J (F.next s i) :: (F.μ (F.next s i) < F.μ s) :: (F.fin (F.next s i) = F.fin s) :: p, q, i + 1)
    | none => none
  | .leaf e env mem, i => match matchL n (n + F.k) e env mem (F.out (F.fin s)) with
    | some (p, q) => some (p, q, i + 1)
    | none => none
  | .ite c a b, i => match leavesC F n s a i with
    | none => none
    | some (p, q, j) => match leavesC F n s b j with
      | none => none
      | some (p', q', l) => some (impAll (c = true) p ++ impAll (c = false) p', q ++ q', l)
/-- One round. -/
noncomputable def roundC {σ τ : Type} (F : Fam σ τ) (body : LoopS) (n : Nat) (s : σ) : Option (List Prop × Eqs) :=
  match body (F.E s) (F.M s) (n + F.k) with
  | none => none
  | some x => match collapse x.t x.n with
    | (t, q, _) => match leavesC F n s t 0 with
      | some (p, q', _) => some (x.needs ++ p, x.eqs ++ q ++ q')
      | none => none
/-- The loop, from a state that is found in the family. -/
noncomputable def famS {σ τ : Type} (F : Fam σ τ) (n0 : Nat) (init : Env → Mem → Option σ) : LoopS := fun env mem n =>
  bif Nat.beq n n0 then (match init env mem with
    | none => none
    | some s => match matchS n (n + F.k) (F.E s) (F.M s) env mem with
      | some (p, q) => some ⟨F.out (F.fin s), F.J s :: p, q, n + F.k⟩
      | none => none) else none
end Go.SX
namespace Go.SX
open Go.RowKit

/-- Where an object lies: the block that is the call's own, the block that it looks at, a row's address, length and capacity; what a closure holds. -/
structure Loc where
  blk : Option Nat
  eye : Option Nat
  ad : Option Addr
  len : Nat
  cap : Nat
  caps : Array Value
noncomputable def Loc.none : Loc := ⟨.none, .none, .none, 0, 0, #[]⟩
/-- A block of the call's own. -/
noncomputable def Loc.box (b : Nat) : Loc := ⟨some b, some b, some ⟨b, 0, .none⟩, 0, 0, #[]⟩
noncomputable def Loc.row (b len cap : Nat) : Loc := ⟨some b, some b, some ⟨b, 0, .none⟩, len, cap, #[]⟩
noncomputable def Loc.clo (caps : Array Value) : Loc := ⟨.none, .none, .none, 0, 0, caps⟩
abbrev Th := Nat → Loc
noncomputable def Th.none : Th := fun _ => Loc.none

noncomputable def SC.den (θ : Th) : SC → Value
  | .int k n => .int k n.val
  | .bool b => .bool b.val
  | .ptr id off => .pointer ((θ id).blk.map fun b => ⟨b, off, .none⟩)
  | .eptr id esz i off => .pointer ((θ id).ad.map fun a => a.add (i.val * esz + off))
  | .wh id => .slice (θ id).ad (θ id).len (θ id).cap
  | .sl id esz off len => .slice ((θ id).ad.map fun a => if (θ id).cap = off.val then a else a.add (off.val * esz)) len.val ((θ id).cap - off.val)
  | .nilp => .pointer .none
  | .nilsl => .slice .none 0 0
  | .fn f => .func (.func f) #[] #[]
  | .clo f id => .func (.func f) #[] (θ id).caps
  | .yld _ id => .func (.yield ((θ id).blk.getD 0)) #[] #[]
  | .nilf => .nilFunc
noncomputable def dens (θ : Th) (cs : List SC) : List Value := cs.map (SC.den θ)
noncomputable def compDen (θ : Th) : Bool × List SC → Value
  | (false, [c]) => c.den θ
  | (_, cs) => .agg (dens θ cs).toArray
noncomputable def SV.den (θ : Th) : SV → Value
  | .one c => c.den θ
  | .agg cs => .agg (dens θ cs).toArray
  | .tup vs => .tuple (vs.map (compDen θ)).toArray

/-- A cell's value is no struct and no tuple. -/
theorem SC.den_one (θ : Th) (c : SC) : (c.den θ).cells = #[c.den θ] := by cases c <;> rfl
/-! ### The agreement of two placements -/
noncomputable def Agree (n : Nat) (θ θ' : Th) : Prop := ∀ id, id < n → θ' id = θ id
theorem Agree.refl (n : Nat) (θ : Th) : Agree n θ θ := fun _ _ => rfl
theorem Agree.trans {n m : Nat} {a b c : Th} (h : Agree n a b) (k : Agree m b c) (hn : n ≤ m) : Agree n a c := fun id hi => (k id (Nat.lt_of_lt_of_le hi hn)).trans (h id hi)
theorem Agree.mono {n m : Nat} {a b : Th} (h : Agree m a b) (hn : n ≤ m) : Agree n a b := fun id hi => h id (Nat.lt_of_lt_of_le hi hn)

theorem noNew_spec {n : Nat} : ∀ {l : List Nat}, noNew n l = true → ∀ id ∈ l, id < n
  | [], _, _, h => by cases h
  | a :: r, h, id, hm => by
    simp only [noNew_nil, noNew_cons, Bool.and_eq_true, Nat.blt_eq] at h
    rcases List.mem_cons.1 hm with rfl | hm
    · exact h.1
    · exact noNew_spec h.2 id hm
section agree
variable {n : Nat} {θ θ' : Th} (ha : Agree n θ θ')
include ha
theorem SC.den_agree {c : SC} (h : ∀ id ∈ idsC c, id < n) : c.den θ' = c.den θ := by
  cases c <;> simp [SC.den, idsC] at h ⊢ <;> simp [ha _ h]
theorem dens_agree : ∀ {cs : List SC}, (∀ id ∈ idsCs cs, id < n) → dens θ' cs = dens θ cs
  | [], _ => rfl
  | c :: r, h => by
    simp only [dens, List.map_cons, List.cons.injEq]
    exact ⟨SC.den_agree ha fun id hi => h id (by simp [idsCs_nil, idsCs_cons, hi]), dens_agree fun id hi => h id (by simp [idsCs_nil, idsCs_cons, hi])⟩
theorem compDen_agree {x : Bool × List SC} (h : ∀ id ∈ idsCs x.2, id < n) : compDen θ' x = compDen θ x := by
  obtain ⟨b, cs⟩ := x
  unfold compDen
  split
  · rename_i c he; cases he; exact SC.den_agree ha fun id hi => h id (by simp [idsCs_nil, idsCs_cons, hi])
  · rename_i cs' _ he; cases he; rw [dens_agree ha h]
theorem tup_agree : ∀ {vs : List (Bool × List SC)}, (∀ id ∈ idsTup vs, id < n) → vs.map (compDen θ') = vs.map (compDen θ)
  | [], _ => rfl
  | (b, cs) :: r, h => by
    simp only [List.map_cons, List.cons.injEq]
    exact ⟨compDen_agree ha fun id hi => h id (by simp [idsTup, hi]), tup_agree fun id hi => h id (by simp [idsTup, hi])⟩
theorem SV.den_agree {v : SV} (h : ∀ id ∈ idsV v, id < n) : v.den θ' = v.den θ := by
  cases v with
  | one c => exact SC.den_agree ha h
  | agg cs => simp only [SV.den]; rw [dens_agree ha h]
  | tup vs => simp only [SV.den]; rw [tup_agree ha h]
theorem SVs_agree : ∀ {vs : List SV}, (∀ id ∈ idsVs vs, id < n) → vs.map (SV.den θ') = vs.map (SV.den θ)
  | [], _ => rfl
  | v :: r, h => by
    simp only [List.map_cons, List.cons.injEq]
    exact ⟨SV.den_agree ha fun id hi => h id (by simp [idsVs, hi]), SVs_agree fun id hi => h id (by simp [idsVs, hi])⟩
end agree

/-! ### Objects -/
noncomputable def RowC.rows : RowC → List (List SC)
  | .lit _ rows => rows
  | .lst _ ks xs => xs.map (decode ks)
/-- The elements of a row have one size and are integers and truth values. -/
noncomputable def rowOk (esz : Nat) (rows : List (List SC)) : Prop := 0 < esz ∧ ∀ r ∈ rows, r.length = esz ∧ idsCs r = []
/-- A row of the call's own: it may have no block if it is empty. -/
noncomputable def ownRel (l : Loc) (w : World) (ty esz n : Nat) (cells : List Value) : Prop :=
  l.len = n ∧ (l.blk = none ∧ l.eye = none ∧ l.ad = none ∧ l.cap = 0 ∨ ∃ b, l.blk = some b ∧ l.eye = some b ∧ l.ad = some ⟨b, 0, none⟩) ∧ w.ownsRow 0 ty esz (.slice l.ad l.len l.cap) n cells
/-- A row that is only read. -/
noncomputable def seeRel (l : Loc) (w : World) (n : Nat) (cells : List Value) : Prop :=
  l.blk = none ∧ l.len = n ∧ n ≤ l.cap ∧ ((cells = [] ∧ l.eye = none ∧ n = 0) ∨ ∃ a, l.ad = some a ∧ l.eye = some a.block ∧ cells ≠ [] ∧ ∀ (j : Nat) (u : Value), cells[j]? = some u → w.cell? (a.add j) = some u)
noncomputable def objRel (θ : Th) (w : World) (id : Nat) : Obj → Prop
  | .blk ty cells => ∃ b, θ id = Loc.box b ∧ w.heap[b]? = some (.cells (dens θ (untag cells)).toArray ty (0, 0))
  | .row false ty esz r => rowOk esz r.rows ∧ ownRel (θ id) w ty esz r.rows.length (dens θ r.rows.flatten)
  | .row true _ esz r => rowOk esz r.rows ∧ seeRel (θ id) w r.rows.length (dens θ r.rows.flatten)
  | .clo caps => θ id = Loc.clo (caps.map (SV.den θ)).toArray
  | .raw b _ _ L k => θ id = Loc.box b ∧ w.heap[b]? = some (L k.val)

theorem idsCs_append (a b : List SC) : idsCs (a ++ b) = idsCs a ++ idsCs b := by
  induction a with
  | nil => rfl
  | cons c r ih => simp [idsCs_nil, idsCs_cons, ih]
theorem idsCs_flatten : ∀ {rows : List (List SC)}, (∀ r ∈ rows, idsCs r = []) → idsCs rows.flatten = []
  | [], _ => rfl
  | r :: rs, h => by rw [List.flatten_cons, idsCs_append, h r (by simp), idsCs_flatten fun r hr => h r (by simp [hr])]; rfl
theorem rowOk.ids {esz : Nat} {rows : List (List SC)} (h : rowOk esz rows) : idsCs rows.flatten = [] := idsCs_flatten fun r hr => (h.2 r hr).2
theorem dens_plain {θ θ' : Th} {cs : List SC} (h : idsCs cs = []) : dens θ' cs = dens θ cs := by
  induction cs with
  | nil => rfl
  | cons c r ih =>
    simp only [idsCs_nil, idsCs_cons, List.append_eq_nil_iff] at h
    simp only [dens, List.map_cons, List.cons.injEq] at ih ⊢
    exact ⟨by cases c <;> simp [idsC] at h <;> rfl, ih h.2⟩

theorem ownRel_eye {l : Loc} {w : World} {ty esz n : Nat} {cells : List Value} (h : ownRel l w ty esz n cells) : l.blk = l.eye := by
  rcases h.2.1 with ⟨h1, h2, _⟩ | ⟨b, h1, h2, _⟩ <;> rw [h1, h2]
theorem objRel_eye {θ : Th} {w : World} {id b : Nat} {o : Obj} (h : objRel θ w id o) (hb : (θ id).blk = some b) : (θ id).eye = some b := by
  cases o with
  | blk ty cells => obtain ⟨b', h1, _⟩ := h; rw [h1] at hb ⊢; exact hb
  | row ro ty esz r =>
    cases ro
    · rw [← ownRel_eye h.2]; exact hb
    · rw [h.2.1] at hb; cases hb
  | clo caps => rw [show θ id = _ from h] at hb; cases hb
  | raw b0 rs t L k => rw [h.1] at hb ⊢; exact hb
theorem cell_same {w w' : World} {a : Addr} (j : Nat) (h : w'.heap[a.block]? = w.heap[a.block]?) : w'.cell? (a.add j) = w.cell? (a.add j) :=
  World.cell?_of_block (by rw [show (a.add j).block = a.block from by unfold Addr.add; split <;> rfl]; exact h)
theorem ownRel_keep {l : Loc} {w w' : World} {ty esz n : Nat} {cells : List Value} (hb : ∀ b, l.eye = some b → w'.heap[b]? = w.heap[b]?) (h : ownRel l w ty esz n cells) : ownRel l w' ty esz n cells := by
  refine ⟨h.1, h.2.1, h.2.2.1, ?_⟩
  rcases h.2.2.2 with hn | ⟨g, cap, cur, h1, h2, h3, h4⟩
  · exact .inl hn
  · refine .inr ⟨g, cap, cur, h1, h2, ?_, h4⟩
    rcases h.2.1 with ⟨_, _, h5, _⟩ | ⟨b, _, h5, h6⟩
    · rw [h5] at h1; cases h1
    · rw [h6] at h1
      have : b = g := by injection h1 with h1; injection h1 with h1; injection h1
      subst this
      rw [hb _ h5]; exact h3
theorem seeRel_keep {l : Loc} {w w' : World} {n : Nat} {cells : List Value} (hb : ∀ b, l.eye = some b → w'.heap[b]? = w.heap[b]?) (h : seeRel l w n cells) : seeRel l w' n cells := by
  refine ⟨h.1, h.2.1, h.2.2.1, h.2.2.2.imp (fun h => h) fun ⟨a, h1, h2, h3, h4⟩ => ⟨a, h1, h2, h3, fun j u hu => ?_⟩⟩
  rw [cell_same j (hb _ h2)]
  exact h4 j u hu
/-- An object stays what it is where its place and its block stay. -/
theorem objRel_keep {n : Nat} {θ θ' : Th} {w w' : World} {id : Nat} {o : Obj} (ha : Agree n θ θ') (hid : id < n) (ho : ∀ i ∈ idsO o, i < n)
    (hb : ∀ b, (θ id).eye = some b → w'.heap[b]? = w.heap[b]?) (h : objRel θ w id o) : objRel θ' w' id o := by
  have he := ha id hid
  cases o with
  | blk ty cells =>
    obtain ⟨b, h1, h2⟩ := h
    exact ⟨b, by rw [he, h1], by rw [hb b (by rw [h1]; rfl), h2, dens_agree ha ho]⟩
  | row ro ty esz r =>
    cases ro
    · exact ⟨h.1, by rw [he, dens_plain (θ := θ) h.1.ids]; exact ownRel_keep hb h.2⟩
    · exact ⟨h.1, by rw [he, dens_plain (θ := θ) h.1.ids]; exact seeRel_keep hb h.2⟩
  | clo caps => show θ' id = _; rw [he, show θ id = _ from h, SVs_agree ha ho]
  | raw b rs t L k => exact ⟨he.trans h.1, (hb b (by rw [h.1]; rfl)).trans h.2⟩

/-! ### Lists of pairs -/
theorem look_del_same {α : Type} (l : List (Nat × α)) (t : Nat) : look (del l t) t = none := by
  induction l with
  | nil => rfl
  | cons p r ih =>
    obtain ⟨k, x⟩ := p
    simp only [del_nil, del_cons]
    cases h : Nat.beq k t <;> simp [look_nil, look_cons, h, ih]
theorem look_del_ne {α : Type} (l : List (Nat × α)) {t u : Nat} (h : t ≠ u) : look (del l t) u = look l u := by
  induction l with
  | nil => rfl
  | cons p r ih =>
    obtain ⟨k, x⟩ := p
    simp only [del_nil, del_cons]
    cases h1 : Nat.beq k t
    · simp [look_nil, look_cons, ih]
    · have : k = t := Nat.eq_of_beq_eq_true h1
      subst this
      simp only [cond_true, look_nil, look_cons]
      have : Nat.beq k u = false := by
        cases h2 : Nat.beq k u
        · rfl
        · exact absurd (Nat.eq_of_beq_eq_true h2) h
      simp [this, ih]
theorem beq_self (t : Nat) : Nat.beq t t = true := by simp
theorem beq_ne {t u : Nat} (h : t ≠ u) : Nat.beq t u = false := by
  cases h2 : Nat.beq t u
  · rfl
  · exact absurd (Nat.eq_of_beq_eq_true h2) h
theorem look_rem_same {α : Type} (l : List (Nat × α)) (t : Nat) : look (rem l t) t = none := by
  unfold rem
  split
  · assumption
  · exact look_del_same l t
theorem look_rem_ne {α : Type} (l : List (Nat × α)) {t u : Nat} (h : t ≠ u) : look (rem l t) u = look l u := by
  unfold rem
  split
  · rfl
  · exact look_del_ne l h
theorem look_put_same {α : Type} (l : List (Nat × α)) (t : Nat) (x : α) : look (put l t x) t = some x := by simp [put, look_nil, look_cons]
theorem look_put_ne {α : Type} (l : List (Nat × α)) {t u : Nat} (x : α) (h : t ≠ u) : look (put l t x) u = look l u := by
  simp [put, look_nil, look_cons, beq_ne h, look_rem_ne l h]
theorem look_append {α : Type} (a b : List (Nat × α)) (t : Nat) : look (a ++ b) t = match look a t with | some x => some x | none => look b t := by
  induction a with
  | nil => rfl
  | cons p r ih =>
    obtain ⟨k, x⟩ := p
    simp only [List.cons_append, look_nil, look_cons]
    cases Nat.beq k t <;> simp [ih]
theorem has_iff {l : List Nat} {n : Nat} : has l n = true ↔ n ∈ l := by
  induction l with
  | nil => simp [has_nil, has_cons]
  | cons a r ih => simp only [has_nil, has_cons, Bool.or_eq_true, ih, List.mem_cons]; exact ⟨fun h => h.imp (fun e => (Nat.eq_of_beq_eq_true e).symm) id, fun h => h.imp (fun e => by rw [e]; exact Nat.beq_refl a) id⟩
theorem look_delAll (mem : Mem) (l : List Nat) (t : Nat) : look (delAll mem l) t = if t ∈ l then none else look mem t := by
  induction mem with
  | nil => simp [delAll, look_nil, look_cons]
  | cons p r ih =>
    obtain ⟨k, x⟩ := p
    simp only [delAll]
    cases h : has l k
    · have hk : k ∉ l := fun hm => by rw [has_iff.2 hm] at h; cases h
      simp only [cond_false, look_nil, look_cons]
      cases h1 : Nat.beq k t
      · simp [ih]
      · have := Nat.eq_of_beq_eq_true h1; subst this
        simp [hk]
    · have hk : k ∈ l := has_iff.1 h
      simp only [cond_true, look_nil, look_cons, ih]
      cases h1 : Nat.beq k t
      · simp
      · have := Nat.eq_of_beq_eq_true h1; subst this
        simp [hk]
theorem look_restrict (mem : Mem) (l : List Nat) (t : Nat) : look (restrict mem l) t = if t ∈ l then look mem t else none := by
  induction mem with
  | nil => simp [restrict, look_nil, look_cons]
  | cons p r ih =>
    obtain ⟨k, x⟩ := p
    simp only [restrict]
    cases h : has l k
    · have hk : k ∉ l := fun hm => by rw [has_iff.2 hm] at h; cases h
      simp only [cond_false, look_nil, look_cons, ih]
      cases h1 : Nat.beq k t
      · simp
      · have := Nat.eq_of_beq_eq_true h1; subst this
        simp [hk]
    · have hk : k ∈ l := has_iff.1 h
      simp only [cond_true, look_nil, look_cons]
      cases h1 : Nat.beq k t
      · simp [ih]
      · have := Nat.eq_of_beq_eq_true h1; subst this
        simp [hk]
theorem look_domain {mem : Mem} {t : Nat} : t ∈ domain mem ↔ ∃ o, look mem t = some o := by
  induction mem with
  | nil => simp [domain, look_nil, look_cons]
  | cons p r ih =>
    obtain ⟨k, x⟩ := p
    simp only [domain, List.mem_cons, look_nil, look_cons, ih]
    by_cases h : k = t
    · subst h; simp
    · simp [beq_ne h, Ne.symm h]
theorem look_ids {mem : Mem} {t : Nat} {o : Obj} (h : look mem t = some o) : t ∈ idsMem mem ∧ ∀ i ∈ idsO o, i ∈ idsMem mem := by
  induction mem with
  | nil => cases h
  | cons p r ih =>
    obtain ⟨k, x⟩ := p
    simp only [look_nil, look_cons] at h
    cases h1 : Nat.beq k t
    · rw [h1] at h
      obtain ⟨a, b⟩ := ih h
      exact ⟨by simp [idsMem, a], fun i hi => by simp [idsMem, b i hi]⟩
    · rw [h1] at h
      cases h
      have := Nat.eq_of_beq_eq_true h1; subst this
      exact ⟨by simp [idsMem], fun i hi => by simp [idsMem, hi]⟩

/-! ### Memory -/
noncomputable def memRel (θ : Th) (mem : Mem) (w : World) : Prop :=
  (∀ id o, look mem id = some o → objRel θ w id o) ∧
  (∀ id id' o o' b, look mem id = some o → look mem id' = some o' → id ≠ id' → (θ id).blk = some b → (θ id').eye ≠ some b)
noncomputable def wfMem (n : Nat) (mem : Mem) : Prop := ∀ id o, look mem id = some o → id < n ∧ ∀ i ∈ idsO o, i < n
theorem wfMem.mono {n m : Nat} {mem : Mem} (h : wfMem n mem) (hn : n ≤ m) : wfMem m mem :=
  fun id o hl => ⟨Nat.lt_of_lt_of_le (h id o hl).1 hn, fun i hi => Nat.lt_of_lt_of_le ((h id o hl).2 i hi) hn⟩

/-- How the world may have turned: what is not among the given objects is as it was; what stands in the new memory is one of the given blocks, or new. -/
structure Grew (n : Nat) (θ : Th) (mem : Mem) (w : World) (θ' : Th) (mem' : Mem) (w' : World) : Prop where
  agree : Agree n θ θ'
  os : w'.os = w.os
  tape : w'.tape = w.tape
  output : w'.output = w.output
  size : w.heap.size ≤ w'.heap.size
  heap : ∀ b, b < w.heap.size → (∀ id o, look mem id = some o → (θ id).blk ≠ some b) → w'.heap[b]? = w.heap[b]?
  blks : ∀ id o b, look mem' id = some o → (θ' id).blk = some b → w.heap.size ≤ b ∨ ∃ id0 o0, look mem id0 = some o0 ∧ (θ id0).blk = some b
  eyes : ∀ id o b, look mem' id = some o → (θ' id).eye = some b → w.heap.size ≤ b ∨ ∃ id0 o0, look mem id0 = some o0 ∧ (θ id0).eye = some b

theorem Grew.refl (n : Nat) (θ : Th) (mem : Mem) (w : World) : Grew n θ mem w θ mem w :=
  ⟨Agree.refl _ _, rfl, rfl, rfl, Nat.le_refl _, fun _ _ _ => rfl, fun id o _ h hb => .inr ⟨id, o, h, hb⟩, fun id o _ h hb => .inr ⟨id, o, h, hb⟩⟩
theorem Grew.trans {n m : Nat} {θ₁ θ₂ θ₃ : Th} {m₁ m₂ m₃ : Mem} {w₁ w₂ w₃ : World} (h : Grew n θ₁ m₁ w₁ θ₂ m₂ w₂) (k : Grew m θ₂ m₂ w₂ θ₃ m₃ w₃) (hn : n ≤ m) :
    Grew n θ₁ m₁ w₁ θ₃ m₃ w₃ where
  agree := h.agree.trans k.agree hn
  os := k.os.trans h.os
  tape := k.tape.trans h.tape
  output := k.output.trans h.output
  size := Nat.le_trans h.size k.size
  heap b hb hno := by
    rw [k.heap b (Nat.lt_of_lt_of_le hb h.size) fun id o hl he => ?_, h.heap b hb hno]
    rcases h.blks id o b hl he with h1 | ⟨id0, o0, h1, h2⟩
    · omega
    · exact hno id0 o0 h1 h2
  blks id o b hl he := by
    rcases k.blks id o b hl he with h1 | ⟨id0, o0, h1, h2⟩
    · exact .inl (Nat.le_trans h.size h1)
    · exact h.blks id0 o0 b h1 h2
  eyes id o b hl he := by
    rcases k.eyes id o b hl he with h1 | ⟨id0, o0, h1, h2⟩
    · exact .inl (Nat.le_trans h.size h1)
    · exact h.eyes id0 o0 b h1 h2
theorem Grew.mono {n m : Nat} {θ θ' : Th} {mem mem' : Mem} {w w' : World} (h : Grew m θ mem w θ' mem' w') (hn : n ≤ m) : Grew n θ mem w θ' mem' w' :=
  { h with agree := h.agree.mono hn }
/-- Fewer objects are of interest afterwards. -/
theorem Grew.sub {n : Nat} {θ θ' : Th} {mem mem' mem'' : Mem} {w w' : World} (h : Grew n θ mem w θ' mem' w') (hs : ∀ id o, look mem'' id = some o → ∃ o', look mem' id = some o') : Grew n θ mem w θ' mem'' w' :=
  { h with blks := fun id o b hl he => by obtain ⟨o', h'⟩ := hs id o hl; exact h.blks id o' b h' he, eyes := fun id o b hl he => by obtain ⟨o', h'⟩ := hs id o hl; exact h.eyes id o' b h' he }
theorem objRel_lt {θ : Th} {w : World} {id : Nat} {o : Obj} {b : Nat} (h : objRel θ w id o) (hb : (θ id).eye = some b) : b < w.heap.size := by
  have key : ∀ x, w.heap[b]? = some x → b < w.heap.size := fun x hx => by
    rcases Nat.lt_or_ge b w.heap.size with h' | h'
    · exact h'
    · simp [h'] at hx
  cases o with
  | blk ty cells => obtain ⟨b', h1, h2⟩ := h; rw [h1] at hb; cases hb; exact key _ h2
  | row ro ty esz r =>
    cases ro
    · rcases h.2.2.1 with ⟨_, h1, _⟩ | ⟨b', _, h1, h2⟩
      · rw [h1] at hb; cases hb
      · rw [h1] at hb; cases hb
        exact (h.2.2.2.lt b (by rw [h2]; rfl)).2
    · rcases h.2.2.2.2 with ⟨_, h1, _⟩ | ⟨a, _, h1, h2, h3⟩
      · rw [h1] at hb; cases hb
      · rw [h1] at hb; cases hb
        cases hc : dens θ r.rows.flatten with
        | nil => exact absurd hc h2
        | cons u l =>
          have := World.block_lt_of_cell? w _ (h3 0 u (by rw [hc]; rfl))
          simpa [Addr.add] using this
  | clo caps => rw [show θ id = _ from h] at hb; cases hb
  | raw b0 rs t L k => rw [h.1] at hb; cases hb; exact key _ h.2

/-- THE STEP OF MEMORY: an effect that knows only the objects that it touched. -/
theorem memRel_after {n : Nat} {θ θ' : Th} {mem sub ups : Mem} {w w' : World} {touched : List Nat} (hwf : wfMem n mem) (hm : memRel θ mem w)
    (hsub : ∀ id o, look sub id = some o → look mem id = some o) (htouch : ∀ id o, look sub id = some o → id ∈ touched)
    (hg : Grew n θ sub w θ' ups w') (hu : memRel θ' ups w') :
    memRel θ' (ups ++ delAll mem (touched ++ domain ups)) w' ∧ Grew n θ mem w θ' (ups ++ delAll mem (touched ++ domain ups)) w' := by
  have hlook : ∀ id o, look (ups ++ delAll mem (touched ++ domain ups)) id = some o → look ups id = some o ∨ (look mem id = some o ∧ id ∉ touched ∧ look ups id = none) := by
    intro id o h
    rw [look_append] at h
    cases h1 : look ups id with
    | some x => rw [h1] at h; exact .inl h
    | none =>
      rw [h1] at h
      simp only [look_delAll] at h
      split at h
      · cases h
      · rename_i hno
        exact .inr ⟨h, fun ht => hno (by simp [ht]), rfl⟩
  -- what was not touched
  have old : ∀ id o b, look mem id = some o → id ∉ touched → (θ id).eye = some b → b < w.heap.size ∧ (∀ i x, look sub i = some x → (θ i).blk ≠ some b) := by
    intro id o b hl hn hb
    refine ⟨objRel_lt (hm.1 id o hl) hb, fun i x hi he => ?_⟩
    have hne : i ≠ id := fun e => hn (e ▸ htouch i x hi)
    exact hm.2 i id x o b (hsub i x hi) hl hne he hb
  have keep : ∀ id o, look mem id = some o → id ∉ touched → objRel θ' w' id o := by
    intro id o hl hn
    refine objRel_keep hg.agree (hwf id o hl).1 (hwf id o hl).2 (fun b hb => ?_) (hm.1 id o hl)
    obtain ⟨h1, h2⟩ := old id o b hl hn hb
    exact hg.heap b h1 h2
  have part : ∀ id id' o o' b, look ups id = some o → look mem id' = some o' → id' ∉ touched → (θ' id).blk = some b → (θ' id').eye ≠ some b := by
    intro id id' o o' b h1 h2 h3 h4 h5
    rw [hg.agree id' (hwf id' o' h2).1] at h5
    obtain ⟨h6, h7⟩ := old id' o' b h2 h3 h5
    rcases hg.blks id o b h1 h4 with h8 | ⟨i, x, h8, h9⟩
    · omega
    · exact h7 i x h8 h9
  have part' : ∀ id id' o o' b, look ups id = some o → look mem id' = some o' → id' ∉ touched → (θ' id').blk = some b → (θ' id).eye ≠ some b := by
    intro id id' o o' b h1 h2 h3 h4 h5
    rw [hg.agree id' (hwf id' o' h2).1] at h4
    have h6 := objRel_lt (hm.1 id' o' h2) (objRel_eye (hm.1 id' o' h2) h4)
    rcases hg.eyes id o b h1 h5 with h8 | ⟨i, x, h8, h9⟩
    · omega
    · exact hm.2 id' i o' x b h2 (hsub i x h8) (fun e => h3 (e ▸ htouch i x h8)) h4 h9
  refine ⟨⟨fun id o h => ?_, fun id id' o o' b h h' hne hb hb' => ?_⟩, ?_⟩
  · rcases hlook id o h with h | ⟨h, hn, _⟩
    · exact hu.1 id o h
    · exact keep id o h hn
  · rcases hlook id o h with h | ⟨h, hn, _⟩ <;> rcases hlook id' o' h' with h' | ⟨h', hn', _⟩
    · exact hu.2 id id' o o' b h h' hne hb hb'
    · exact part id id' o o' b h h' hn' hb hb'
    · exact part' id' id o' o b h' h hn hb hb'
    · rw [hg.agree id (hwf id o h).1] at hb
      rw [hg.agree id' (hwf id' o' h').1] at hb'
      exact hm.2 id id' o o' b h h' hne hb hb'
  · refine { hg with heap := fun b hb hno => hg.heap b hb fun id o hl => hno id o (hsub id o hl), blks := fun id o b hl he => ?_, eyes := fun id o b hl he => ?_ }
    · rcases hlook id o hl with h | ⟨h, hn, _⟩
      · rcases hg.blks id o b h he with h8 | ⟨i, x, h8, h9⟩
        · exact .inl h8
        · exact .inr ⟨i, x, hsub i x h8, h9⟩
      · rw [hg.agree id (hwf id o h).1] at he
        exact .inr ⟨id, o, h, he⟩
    · rcases hlook id o hl with h | ⟨h, hn, _⟩
      · rcases hg.eyes id o b h he with h8 | ⟨i, x, h8, h9⟩
        · exact .inl h8
        · exact .inr ⟨i, x, hsub i x h8, h9⟩
      · rw [hg.agree id (hwf id o h).1] at he
        exact .inr ⟨id, o, h, he⟩
/-! ### What is captured stands -/
theorem look_keepC {mem m : Mem} {i : Nat} {o : Obj} : ∀ {l : List Nat}, look (keepC mem l m) i = some o → look m i = some o ∨ (i ∈ l ∧ look mem i = some o ∧ ∃ caps, o = .clo caps)
  | [], h => .inl h
  | id :: r, h => by
    unfold keepC at h
    split at h
    · rename_i caps h1 h2
      rw [look_cons] at h
      cases hb : Nat.beq id i
      · rw [hb] at h
        rcases look_keepC h with g | ⟨g1, g2⟩
        · exact .inl g
        · exact .inr ⟨List.mem_cons_of_mem _ g1, g2⟩
      · rw [hb] at h
        have := Nat.eq_of_beq_eq_true hb
        subst this
        cases h
        exact .inr ⟨List.mem_cons_self, h1, caps, rfl⟩
    · rcases look_keepC h with g | ⟨g1, g2⟩
      · exact .inl g
      · exact .inr ⟨List.mem_cons_of_mem _ g1, g2⟩
theorem keepC_rel {n : Nat} {θ θ' : Th} {mem m : Mem} {l : List Nat} {w w' : World} (hwf : wfMem n mem) (hm : memRel θ (restrict mem l) w) (hg : Grew n θ (restrict mem l) w θ' m w') (hm' : memRel θ' m w') :
    Grew n θ (restrict mem l) w θ' (keepC mem l m) w' ∧ memRel θ' (keepC mem l m) w' := by
  have key : ∀ {i o}, look (keepC mem l m) i = some o → look m i = some o ∨ (objRel θ' w' i o ∧ (θ' i).blk = none ∧ (θ' i).eye = none) := fun {i o} h => by
    rcases look_keepC h with g | ⟨g1, g2, caps, rfl⟩
    · exact .inl g
    · right
      have h1 : θ i = Loc.clo (caps.map (SV.den θ)).toArray := hm.1 i (.clo caps) (by rw [look_restrict, if_pos g1, g2])
      have h2 := hg.agree i (hwf i _ g2).1
      have h3 : caps.map (SV.den θ') = caps.map (SV.den θ) := SVs_agree hg.agree fun j hj => (hwf i _ g2).2 j hj
      refine ⟨?_, by rw [h2, h1]; rfl, by rw [h2, h1]; rfl⟩
      show θ' i = Loc.clo (caps.map (SV.den θ')).toArray
      rw [h3, h2, h1]
  refine ⟨{ hg with blks := fun id o b h hb => ?_, eyes := fun id o b h hb => ?_ }, fun id o h => ?_, fun id id' o o' b h h' hne hb => ?_⟩
  · rcases key h with g | ⟨_, g, _⟩
    · exact hg.blks id o b g hb
    · rw [g] at hb; cases hb
  · rcases key h with g | ⟨_, _, g⟩
    · exact hg.eyes id o b g hb
    · rw [g] at hb; cases hb
  · rcases key h with g | ⟨g, _⟩
    · exact hm'.1 id o g
    · exact g
  · rcases key h with g | ⟨_, g, _⟩
    · rcases key h' with g' | ⟨_, _, g'⟩
      · exact hm'.2 id id' o o' b g g' hne hb
      · rw [g']; intro hh; cases hh
    · rw [g] at hb; cases hb
end Go.SX
namespace Go.SX
open Go.RowKit

/-! ### The frame -/
noncomputable def holds (a : Act) (g : List (Nat × Bool)) : Prop := ∀ p ∈ g, a.tmps[p.1]? = some (.bool p.2)
noncomputable def gxs (gx : List (Bool × Bool)) : Prop := ∀ p ∈ gx, p.1 = p.2
noncomputable def entRel (θ : Th) (a : Act) (t : Nat) (e : Ent) : Prop :=
  (holds a e.g → a.tmps[t]? = some (e.val.den θ) ∧ gxs e.gx) ∧ (¬ holds a e.g → a.tmps[t]? = some undef)

theorem cellOf_den (θ : Th) : ∀ {v : Value} {c : SC}, cellOf v = some c → c.den θ = v ∧ idsC c = [] := by
  intro v c h
  unfold cellOf at h
  split at h <;> first | (cases h; exact ⟨rfl, rfl⟩) | (cases h)
theorem cellsOf_den (θ : Th) : ∀ {l : List Value} {cs : List SC}, cellsOf l = some cs → dens θ cs = l ∧ idsCs cs = []
  | [], cs, h => by cases h; exact ⟨rfl, rfl⟩
  | v :: r, cs, h => by
    simp only [cellsOf] at h
    split at h
    · rename_i c cs' h1 h2
      cases h
      obtain ⟨h3, h4⟩ := cellOf_den θ h1
      obtain ⟨h5, h6⟩ := cellsOf_den θ h2
      exact ⟨by simp only [dens, List.map_cons, h3] at h5 ⊢; rw [h5], by simp [idsCs_nil, idsCs_cons, h4, h6]⟩
    · cases h
theorem ofConst_den (θ : Th) {v : Value} {x : SV} (h : ofConst v = some x) : x.den θ = v ∧ idsV x = [] := by
  unfold ofConst at h
  split at h
  · rename_i cs
    cases h1 : cellsOf cs.toList with
    | none => rw [h1] at h; cases h
    | some l =>
      rw [h1] at h; cases h
      obtain ⟨h2, h3⟩ := cellsOf_den θ h1
      exact ⟨by simp [SV.den, h2], h3⟩
  · cases h1 : cellOf v with
    | none => rw [h1] at h; cases h
    | some c =>
      rw [h1] at h; cases h
      exact cellOf_den θ h1

theorem gmem_spec {x : Nat × Bool} : ∀ {l : List (Nat × Bool)}, gmem x l = true → x ∈ l
  | [], h => by cases h
  | b :: r, h => by
    simp only [gmem_nil, gmem_cons, Bool.or_eq_true, Bool.and_eq_true, beq_iff_eq] at h
    rcases h with ⟨h1, h2⟩ | h
    · have := Nat.eq_of_beq_eq_true h1
      exact List.mem_cons.2 (.inl (Prod.ext this h2))
    · exact List.mem_cons_of_mem _ (gmem_spec h)
theorem gsub_spec : ∀ {g h : List (Nat × Bool)}, gsub g h = true → ∀ p ∈ g, p ∈ h
  | [], _, _, _, hp => by cases hp
  | a :: r, h, hs, p, hp => by
    simp only [gsub_nil, gsub_cons, Bool.and_eq_true] at hs
    rcases List.mem_cons.1 hp with rfl | hp
    · exact gmem_spec hs.1
    · exact gsub_spec hs.2 p hp
theorem holds_sub {a : Act} {g h : List (Nat × Bool)} (hs : gsub g h = true) (hh : holds a h) : holds a g := fun p hp => hh p (gsub_spec hs p hp)

section ops
variable {P : Program} {θ : Th} {a : Act} {env : Env} {g : List (Nat × Bool)} {n : Nat}

theorem arg_spec {x : Operand} {v : SV} (h : arg env g x = some v) (hr : ∀ t ∈ slotsOf [x], ∀ e, look env t = some e → entRel θ a t e) (hg : holds a g) : a.eval x = v.den θ := by
  cases x with
  | tmp t =>
    simp only [arg] at h
    split at h
    · rename_i e he
      cases hs : gsub e.g g
      · rw [hs] at h; cases h
      · rw [hs] at h; cases h
        have := ((hr t (by simp [slotsOf]) e he).1 (holds_sub hs hg)).1
        simp [Act.eval, this]
    · cases h
  | const v' => exact ((ofConst_den θ h).1).symm
  | func f => cases h; rfl
  | global _ => cases h
theorem arg_ids {x : Operand} {v : SV} (h : arg env g x = some v) (hw : ∀ t e, look env t = some e → ∀ id ∈ idsV e.val, id < n) : ∀ id ∈ idsV v, id < n := by
  cases x with
  | tmp t =>
    simp only [arg] at h
    split at h
    · rename_i e he
      cases hs : gsub e.g g
      · rw [hs] at h; cases h
      · rw [hs] at h; cases h
        exact hw t e he
    · cases h
  | const v' => rw [(ofConst_den Th.none h).2]; simp
  | func f => cases h; simp [idsV, idsC]
  | global _ => cases h
theorem slotsOf_cons (x : Operand) (r : List Operand) : slotsOf (x :: r) = slotsOf [x] ++ slotsOf r := by cases x <;> rfl
theorem args_spec : ∀ {xs : List Operand} {vs : List SV}, args env g xs = some vs → (∀ t ∈ slotsOf xs, ∀ e, look env t = some e → entRel θ a t e) → holds a g → xs.map a.eval = vs.map (SV.den θ)
  | [], vs, h, _, _ => by cases h; rfl
  | x :: r, vs, h, hr, hg => by
    simp only [args] at h
    split at h
    · rename_i v vs' h1 h2
      cases h
      rw [slotsOf_cons] at hr
      simp only [List.map_cons, arg_spec h1 (fun t ht => hr t (by simp [ht])) hg, args_spec h2 (fun t ht => hr t (by simp [ht])) hg]
    · cases h
theorem args_ids : ∀ {xs : List Operand} {vs : List SV}, args env g xs = some vs → (∀ t e, look env t = some e → ∀ id ∈ idsV e.val, id < n) → ∀ id ∈ idsVs vs, id < n
  | [], vs, h, _ => by cases h; simp [idsVs]
  | x :: r, vs, h, hw => by
    simp only [args] at h
    split at h
    · rename_i v vs' h1 h2
      cases h
      intro id hid
      simp only [idsVs, List.mem_append] at hid
      exact hid.elim (arg_ids h1 hw id) (args_ids h2 hw id)
    · cases h
end ops

structure EffRel (n : Nat) (θ : Th) (w : World) (sub : Mem) (e : Eff) (v : Value) (θ' : Th) (w' : World) : Prop where
  val : v = match e.val with | some x => x.den θ' | none => undef
  grew : Grew n θ sub w θ' e.ups w'
  mem : memRel θ' e.ups w'

/-- A CALL: of a function (below the line), or of the yield of a loop (from the line on). -/
noncomputable def CallsY (P : Program) (f : FuncId) (vs : Array Value) (w : World) (R : Ending → World → Prop) : Prop :=
  (f < 1000000 → Calls P f vs w R) ∧
  (1000000 ≤ f → ∃ l as, vs = #[.func (.yield l) #[] #[]] ++ as ∧ ∃ fn tmps assign body, (Instr.yield l as).run P w = .ok (.round l fn tmps assign body) w ∧ RoundIn Fence.wide 0 P l fn tmps assign body w R)
theorem CallsY.mono {P : Program} {f : FuncId} {vs : Array Value} {w : World} {R R' : Ending → World → Prop} (h : CallsY P f vs w R) (hr : ∀ e w, R e w → R' e w) : CallsY P f vs w R' :=
  ⟨fun hf => (h.1 hf).mono hr, fun hf => by
    obtain ⟨l, as, h1, fn, tmps, assign, body, h2, h3⟩ := h.2 hf
    exact ⟨l, as, h1, fn, tmps, assign, body, h2, h3.mono hr⟩⟩
theorem CallsY.of {P : Program} {f : FuncId} {vs : Array Value} {w : World} {R : Ending → World → Prop} (hf : f < 1000000) (h : Calls P f vs w R) : CallsY P f vs w R :=
  ⟨fun _ => h, fun h' => absurd hf (Nat.not_lt.2 h')⟩
noncomputable def CESound (P : Program) (ce : CE) : Prop :=
  ∀ f vs mem n r, ce f vs mem n = some r → (∀ p ∈ r.needs, p) → (∀ p ∈ r.eqs, p.1 = p.2) → wfMem n mem → (∀ id ∈ idsVs vs, id < n) →
    ∀ θ w, memRel θ mem w → (f < 1000000 → ∃ fn, P.funcs[f]? = some fn ∧ fn.body.isSome = true) ∧
      CallsY P f (vs.map (SV.den θ)).toArray w fun e w' => ∃ θ', e = .returned (r.val.den θ') ∧ Grew n θ mem w θ' r.mem w' ∧ memRel θ' r.mem w'

noncomputable def PlainNames (P : Program) : Prop := ∀ (f : Nat) (fn : Func), P.funcs[f]? = some fn → (fn.name == "runtime.NumGoroutine") = false

theorem run_callFunc {P : Program} (hp : PlainNames P) {f : Nat} {fn : Func} (hf : P.funcs[f]? = some fn) (hb : fn.body.isSome = true) (as : Array Value) (w : World) :
    (callFunc f as).run P w = .ok (.enter f as) w := by
  have h1 := hp f fn hf
  have h2 : fn.body.isNone = false := by cases h : fn.body <;> simp_all
  unfold callFunc
  simp only [Sem.run_bind, run_program, Result.andThen_ok, hf, h1, h2, Bool.false_eq_true, if_false, Sem.run_pure]

theorem memRel_nil (θ : Th) (w : World) : memRel θ [] w := ⟨fun _ _ h => (by cases h), fun _ _ _ _ _ h => (by cases h)⟩
theorem Grew.none (n : Nat) (θ : Th) (mem : Mem) (w : World) : Grew n θ mem w θ [] w := (Grew.refl n θ mem w).sub fun _ _ h => by cases h
theorem EffRel.pure {n : Nat} {θ : Th} {w : World} {sub : Mem} {e : Eff} {x : SV} (h1 : e.val = some x) (h2 : e.ups = []) : EffRel n θ w sub e (x.den θ) θ w :=
  ⟨by rw [h1], by rw [h2]; exact Grew.none _ _ _ _, by rw [h2]; exact memRel_nil _ _⟩

/-- The shape of what follows an operation. -/
abbrev Then (K : Act → World → Prop) (o : Oper) (a : Act) (n : Nat) (θ : Th) (w : World) (sub : Mem) (e : Eff) : Prop :=
  ∀ v θ' w', EffRel n θ w sub e v θ' w' → K (a.put o.dst v) w'

theorem wp_value {P : Program} {o : Oper} {a : Act} {w w' : World} {v : Value} {K : Act → World → Prop} {Q : Exit → Act → World → Prop}
    (h : (execOp a.eval o).run P w = .ok (.value v) w') (hk : K (a.put o.dst v) w') : o.wp P a w K Q := by
  unfold Oper.wp; rw [h]; exact hk
theorem wp_skip' {P : Program} {o : Oper} {a : Act} {w w' : World} {K : Act → World → Prop} {Q : Exit → Act → World → Prop}
    (h : (execOp a.eval o).run P w = .ok .skip w') (hk : K (a.put o.dst undef) w') : o.wp P a w K Q := by
  unfold Oper.wp; rw [h]; exact hk
theorem run_v {P : Program} {s : Sem Value} {v : Value} {w w' : World} (h : s.run P w = .ok v w') : (do pure (Next.value (← s)) : Sem Next).run P w = .ok (.value v) w' := by
  simp only [Sem.run_bind, h, Result.andThen_ok, Sem.run_pure]
theorem run_u {P : Program} {s : Sem Unit} {w w' : World} (h : s.run P w = .ok () w') : (do s; pure Next.skip : Sem Next).run P w = .ok .skip w' := by
  simp only [Sem.run_bind, h, Result.andThen_ok, Sem.run_pure]

theorem untag_tagged (cs : List SC) : ∀ n, untag (tagged n cs) = cs := by
  induction cs with
  | nil => intro n; rfl
  | cons c r ih => intro n; simp [tagged_nil, tagged_cons, untag_nil, untag_cons, ih]
theorem SV.cells_den (θ : Th) {v : SV} {cs : List SC} (h : v.cells = some cs) : (v.den θ).cells = (dens θ cs).toArray := by
  cases v with
  | one c => cases h; simp [SV.den, SC.den_one, dens]
  | agg l => cases h; rfl
  | tup l => cases h
theorem SV.cells_ids {v : SV} {cs : List SC} (h : v.cells = some cs) : idsCs cs = idsV v := by
  cases v with
  | one c => cases h; simp [idsCs_nil, idsCs_cons, idsV]
  | agg l => cases h; rfl
  | tup l => cases h

/-- A new object under a new name. -/
noncomputable def Th.set (θ : Th) (n : Nat) (l : Loc) : Th := fun id => if id = n then l else θ id
theorem Th.set_agree (θ : Th) (n : Nat) (l : Loc) : Agree n θ (θ.set n l) := fun id hi => by simp [Th.set, Nat.ne_of_lt hi]
theorem Th.set_same (θ : Th) (n : Nat) (l : Loc) : θ.set n l n = l := by simp [Th.set]
theorem look_one {α : Type} {n id : Nat} {x y : α} (h : look [(n, x)] id = some y) : id = n ∧ y = x := by
  simp only [look_nil, look_cons] at h
  cases hq : Nat.beq n id
  · rw [hq] at h; cases h
  · rw [hq] at h; cases h
    exact ⟨(Nat.eq_of_beq_eq_true hq).symm, rfl⟩
/-- AN EFFECT THAT MAKES ONE NEW OBJECT, in new blocks or in none. -/
theorem new_obj {n : Nat} {θ : Th} {w w' : World} {sub : Mem} (l : Loc) (ob : Obj) {e : Eff} {x : SV} {v : Value} (h1 : e.val = some x) (h2 : e.ups = [(n, ob)]) (hv : v = x.den (θ.set n l))
    (ho : objRel (θ.set n l) w' n ob) (hos : w'.os = w.os) (htape : w'.tape = w.tape) (hout : w'.output = w.output) (hsz : w.heap.size ≤ w'.heap.size) (hheap : ∀ b, b < w.heap.size → w'.heap[b]? = w.heap[b]?)
    (hl : ∀ b, l.eye = some b → w.heap.size ≤ b) : EffRel n θ w sub e v (θ.set n l) w' := by
  refine ⟨by rw [h1]; exact hv, ⟨Th.set_agree _ _ _, hos, htape, hout, hsz, fun b hb _ => hheap b hb, ?_, ?_⟩, ?_, ?_⟩
  · rw [h2]
    intro id o b hl' hb
    obtain ⟨rfl, rfl⟩ := look_one hl'
    have := objRel_eye ho hb
    rw [Th.set_same] at this
    exact .inl (hl b this)
  · rw [h2]
    intro id o b hl' hb
    obtain ⟨rfl, rfl⟩ := look_one hl'
    rw [Th.set_same] at hb
    exact .inl (hl b hb)
  · rw [h2]
    intro id o hl'
    obtain ⟨rfl, rfl⟩ := look_one hl'
    exact ho
  · rw [h2]
    intro id id' o o' b hl1 hl2 hne
    obtain ⟨rfl, rfl⟩ := look_one hl1
    obtain ⟨rfl, rfl⟩ := look_one hl2
    exact absurd rfl hne
/-- A NEW BLOCK. -/
theorem new_block {n : Nat} {θ : Th} {w : World} {sub : Mem} (t : TypeId) (cs : List SC) (hids : ∀ id ∈ idsCs cs, id < n) {e : Eff}
    (h1 : e.val = some (.one (.ptr n 0))) (h2 : e.ups = [(n, .blk t (tagged (n + 1) cs))]) :
    EffRel n θ w sub e (.pointer (some ⟨w.heap.size, 0, none⟩)) (θ.set n (Loc.box w.heap.size)) (w.alloc (.cells (dens θ cs).toArray t)) := by
  refine new_obj (Loc.box w.heap.size) _ h1 h2 ?_ ⟨w.heap.size, Th.set_same _ _ _, ?_⟩ rfl rfl rfl (by simp) (fun b hb => Below.heap_alloc _ _ _ hb) (fun b hb => ?_)
  · simp [SV.den, SC.den, Th.set_same, Loc.box]
  · rw [untag_tagged, dens_agree (Th.set_agree _ _ _) hids]
    show (w.heap.push _)[w.heap.size]? = _
    simp
  · cases hb; exact Nat.le_refl _

/-! ### The operations, one by one -/
section each
variable {P : Program} {ce : CE} {o : Oper} {env : Env} {g : List (Nat × Bool)} {mem : Mem} {n : Nat} {e : Eff} {θ : Th} {a : Act} {w : World} {K : Act → World → Prop} {Q : Exit → Act → World → Prop}

theorem snd_move {x : Operand} (ho : o.op = .move x ∨ o.op = .assign x) (h : (arg env g x).map (Eff.pure n) = some e)
    (hs : ∀ t ∈ slotsOf [x], ∀ y, look env t = some y → entRel θ a t y) (hg : holds a g) (hk : Then K o a n θ w (restrict mem e.touched) e) : o.wp P a w K Q := by
  cases h1 : arg env g x with
  | none => rw [h1] at h; cases h
  | some v =>
    rw [h1] at h; cases h
    refine wp_value (v := v.den θ) (w' := w) ?_ (hk _ _ _ (EffRel.pure rfl rfl))
    unfold execOp
    rcases ho with ho | ho <;> simp only [ho, Sem.run_pure, arg_spec h1 hs hg]

theorem run_zeroValue' {t : TypeId} {i : TypeInfo} {v : Value} (h : P.info? t = some i) (hz : i.zero = some v) (w : World) : (zeroValue t).run P w = .ok v w := by
  simp [zeroValue, typeInfo, go_sem, h, hz]
theorem run_newVar' (t : TypeId) (v : Value) (w : World) : (newVar t v).run P w = .ok ⟨w.heap.size, 0, none⟩ (w.alloc (.cells v.cells t)) := by
  rfl
theorem zeroOf_spec {t : TypeId} {v : SV} (h : zeroOf P t = some v) (θ : Th) : ∃ i z, P.info? t = some i ∧ i.zero = some z ∧ v.den θ = z ∧ idsV v = [] := by
  unfold zeroOf at h
  cases h1 : P.info? t with
  | none => rw [h1] at h; cases h
  | some i =>
    cases h2 : i.zero with
    | none => rw [h1] at h; simp [h2] at h
    | some z =>
      rw [h1] at h; simp only [Option.bind_some, h2] at h
      obtain ⟨h3, h4⟩ := ofConst_den θ h
      exact ⟨i, z, rfl, h2, h3, h4⟩

theorem snd_alloc {t : TypeId} (ho : o.op = .alloc t)
    (h : (match zeroOf P t with
      | some v => match v.cells with
        | some cs => some (⟨some (.one (.ptr n 0)), [], [], [(n, .blk t (tagged (n + 1) cs))], [], [], n + 1 + cs.length⟩ : Eff)
        | none => none
      | none => none) = some e)
    (hk : Then K o a n θ w (restrict mem e.touched) e) : o.wp P a w K Q := by
  split at h
  · rename_i v hv
    split at h
    · rename_i cs hc
      cases h
      obtain ⟨i, z, h1, h2, h3, h4⟩ := zeroOf_spec hv θ
      have hcells := SV.cells_den θ hc
      rw [h3] at hcells
      refine wp_value (v := .pointer (some ⟨w.heap.size, 0, none⟩)) (w' := w.alloc (.cells (dens θ cs).toArray t)) ?_ (hk _ _ _ (new_block t cs (by rw [SV.cells_ids hc, h4]; simp) rfl rfl))
      unfold execOp
      simp only [ho]
      refine run_v ?_
      unfold Instr.alloc
      rw [Sem.run_bind, run_zeroValue' h1 h2]
      simp only [Result.andThen_ok, Sem.run_bind, run_newVar', Sem.run_pure, hcells]
    · cases h
  · cases h

theorem snd_box {t : TypeId} {x : Operand} (ho : o.op = .box t x)
    (h : (match (arg env g x).bind SV.cells with
      | some cs => some (⟨some (.one (.ptr n 0)), [], [], [(n, .blk t (tagged (n + 1) cs))], [], [], n + 1 + cs.length⟩ : Eff)
      | none => none) = some e)
    (hs : ∀ t ∈ slotsOf [x], ∀ y, look env t = some y → entRel θ a t y) (hg : holds a g) (hids : ∀ t y, look env t = some y → ∀ id ∈ idsV y.val, id < n)
    (hk : Then K o a n θ w (restrict mem e.touched) e) : o.wp P a w K Q := by
  split at h
  · rename_i cs hc
    cases h
    cases h1 : arg env g x with
    | none => rw [h1] at hc; cases hc
    | some v =>
      rw [h1] at hc; simp only [Option.bind_some] at hc
      have hcells := SV.cells_den θ hc
      refine wp_value (v := .pointer (some ⟨w.heap.size, 0, none⟩)) (w' := w.alloc (.cells (dens θ cs).toArray t)) ?_ (hk _ _ _ (new_block t cs (by rw [SV.cells_ids hc]; exact arg_ids h1 hids) rfl rfl))
      unfold execOp
      simp only [ho]
      refine run_v ?_
      simp only [Instr.box, Sem.run_bind, run_newVar', Sem.run_pure, Result.andThen_ok, arg_spec h1 hs hg, hcells]
  · cases h

/-! #### Loads and stores -/
theorem untag_cut (cs : List (Nat × SC)) : ∀ (off m : Nat), untag (cut cs off m) = cut (untag cs) off m := by
  have ht : ∀ (l : List (Nat × SC)) m, untag (l.take m) = (untag l).take m := by
    intro l
    induction l with
    | nil => intro m; simp [untag_nil, untag_cons]
    | cons p r ih => intro m; cases m with
      | zero => rfl
      | succ m => simp [untag_nil, untag_cons, ih]
  induction cs with
  | nil => intro off m; cases off <;> simp [cut, untag_nil, untag_cons]
  | cons p r ih =>
    intro off m
    cases off with
    | zero => exact ht _ _
    | succ off => simp only [cut, untag_nil, untag_cons]; exact ih off m
theorem cut_eq {α : Type} (l : List α) : ∀ (off m : Nat), cut l off m = (l.drop off).take m := by
  induction l with
  | nil => intro off m; cases off <;> simp [cut]
  | cons x r ih =>
    intro off m
    cases off with
    | zero => rfl
    | succ off => simp only [cut, List.drop_succ_cons]; exact ih off m
theorem dens_cut (θ : Th) (cs : List SC) (off m : Nat) : dens θ (cut cs off m) = ((dens θ cs).drop off).take m := by
  rw [cut_eq]; simp [dens, List.map_take, List.map_drop]
theorem isAggT_spec {t : TypeId} {b : Bool} (h : isAggT P t = some b) : ∃ d, P.underlying t = some d ∧ d.isRow = b := by
  unfold isAggT at h
  cases hu : P.underlying t with
  | none => rw [hu] at h; cases h
  | some d =>
    rw [hu] at h
    refine ⟨d, rfl, ?_⟩
    cases d <;> simp at h <;> subst h <;> rfl
theorem objRel_blk {id : Nat} {ty : TypeId} {cs : List (Nat × SC)} (h : objRel θ w id (.blk ty cs)) :
    ∃ b, (θ id).blk = some b ∧ w.heap[b]? = some (.cells (dens θ (untag cs)).toArray ty (0, 0)) := by
  obtain ⟨b, h1, h2⟩ := h
  exact ⟨b, by rw [h1]; rfl, h2⟩
theorem run_loadVar_plain {t : TypeId} {d : TypeDesc} (hu : P.underlying t = some d) (hd : d.isRow = false) {ad : Addr} {v : Value} (hc : w.cell? ad = some v) : (loadVar t ad).run P w = .ok v w := by
  have hagg : (isAgg t).run P w = .ok false w := by
    unfold isAgg
    rw [Sem.run_bind, run_underlying hu w]
    cases d <;> simp_all
  simp [loadVar, Sem.run_bind, hagg, go_sem, hc]

theorem snd_load {t : TypeId} {x : Operand} (ho : o.op = .load t x)
    (h : (match arg env g x, isAggT P t, P.info? t with
      | some (.one (.ptr id off)), some b, some i => match look mem id with
        | some (.blk _ cs) => bif b then
            (let r := untag (cut cs off i.size); bif Nat.beq r.length i.size then some (⟨some (.agg r), [id], [], [], [], [], n⟩ : Eff) else none)
          else (match cut cs off 1 with
            | [(_, c)] => some ⟨some (.one c), [id], [], [], [], [], n⟩
            | _ => none)
        | _ => none
      | _, _, _ => none) = some e)
    (hs : ∀ t ∈ slotsOf [x], ∀ y, look env t = some y → entRel θ a t y) (hg : holds a g) (hm : memRel θ (restrict mem e.rd) w)
    (hk : Then K o a n θ w (restrict mem e.touched) e) : o.wp P a w K Q := by
  split at h
  · rename_i id off b i h1 h2 h3
    obtain ⟨d, hu, hd⟩ := isAggT_spec h2
    have ha := arg_spec h1 hs hg
    split at h
    · rename_i ty cs hl
      cases b
      · simp only [cond_false] at h
        split at h
        · rename_i tg c hc
          cases h
          obtain ⟨bl, hb, hh⟩ := objRel_blk (hm.1 id (.blk ty cs) (by rw [look_restrict]; simp [hl]))
          have hcell : w.cell? ⟨bl, off, none⟩ = some (c.den θ) := by
            have h6 := untag_cut cs off 1
            rw [hc, cut_eq] at h6
            have h7 : (untag cs)[off]? = some c := by
              have := congrArg (fun l : List SC => l[0]?) h6
              simp only [untag_nil, untag_cons, List.getElem?_take, List.getElem?_drop] at this
              simpa using this.symm
            simp [World.cell?, hh, dens, h7]
          refine wp_value (v := c.den θ) (w' := w) ?_ (hk _ _ _ (EffRel.pure (x := .one c) rfl rfl))
          unfold execOp
          simp only [ho]
          refine run_v ?_
          simp only [Instr.loadAt, ha, SV.den, SC.den, hb, Option.map_some, Instr.sureAddr, Sem.run_bind, Sem.run_pure, Result.andThen_ok, run_loadVar_plain hu hd hcell]
        · cases h
      · simp only [cond_true] at h
        cases hq : Nat.beq (untag (cut cs off i.size)).length i.size
        · rw [hq] at h; cases h
        · rw [hq] at h; cases h
          have hlen := Nat.eq_of_beq_eq_true hq
          obtain ⟨bl, hb, hh⟩ := objRel_blk (hm.1 id (.blk ty cs) (by rw [look_restrict]; simp [hl]))
          have hrange : w.rangeAt bl off (dens θ (untag (cut cs off i.size))) := by
            intro j v hv
            rw [untag_cut, dens_cut] at hv
            have hv' : (dens θ (untag cs))[off + j]? = some v := by
              rw [List.getElem?_take] at hv
              split at hv
              · rw [List.getElem?_drop] at hv; exact hv
              · cases hv
            simp [World.cell?, hh, hv']
          refine wp_value (v := .agg (dens θ (untag (cut cs off i.size))).toArray) (w' := w) ?_ (hk _ _ _ (EffRel.pure (x := .agg _) rfl rfl))
          unfold execOp
          simp only [ho]
          refine run_v ?_
          simp only [ha, SV.den, SC.den, hb, Option.map_some]
          exact run_loadAt_mid w bl off t _ d hrange hu hd (by rw [h3]; simp [dens, hlen])
    · cases h
  · cases h

theorem paste_length {α : Type} (l : List α) : ∀ (off : Nat) (xs : List α), (paste l off xs).length = l.length := by
  induction l with
  | nil => intro off xs; cases off <;> cases xs <;> rfl
  | cons y r ih => intro off xs; cases off <;> cases xs <;> simp [paste, ih]
theorem paste_eq {α : Type} (l : List α) : ∀ (off : Nat) (xs : List α), off + xs.length ≤ l.length → paste l off xs = l.take off ++ xs ++ l.drop (off + xs.length) := by
  induction l with
  | nil => intro off xs h; cases xs <;> simp at h; subst h; rfl
  | cons y r ih =>
    intro off xs h
    cases off with
    | zero => cases xs with
      | nil => rfl
      | cons x xs => simp only [paste]; rw [ih 0 xs (by simp at h ⊢; omega)]; simp
    | succ off => simp only [paste]; rw [ih off xs (by simp at h ⊢; omega)]; simp [Nat.add_right_comm]
theorem untag_paste (cs : List (Nat × SC)) : ∀ (off : Nat) (xs : List (Nat × SC)), untag (paste cs off xs) = paste (untag cs) off (untag xs) := by
  induction cs with
  | nil => intro off xs; cases off <;> cases xs <;> rfl
  | cons p r ih => intro off xs; cases off <;> cases xs <;> simp [paste, untag_nil, untag_cons, ih]
theorem untag_length (cs : List (Nat × SC)) : (untag cs).length = cs.length := by
  induction cs with
  | nil => rfl
  | cons p r ih => simp [untag_nil, untag_cons, ih]
theorem SC.den_oneCell (θ : Th) (c : SC) : (c.den θ).oneCell' = true := by cases c <;> rfl

theorem snd_store {t : TypeId} {x y : Operand} (ho : o.op = .store t x y)
    (h : (match arg env g x, (arg env g y).bind SV.cells, P.info? t with
      | some (.one (.ptr id off)), some vs, some i => match look mem id with
        | some (.blk ty cs) => bif Nat.beq vs.length i.size && Nat.ble (off + vs.length) cs.length then
            some (⟨none, [id], [id], [(id, .blk ty (paste cs off (tagged n vs)))], [], [], n + vs.length⟩ : Eff) else none
        | _ => none
      | _, _, _ => none) = some e)
    (hs : ∀ t ∈ slotsOf [x, y], ∀ y, look env t = some y → entRel θ a t y) (hg : holds a g) (hm : memRel θ (restrict mem e.rd) w)
    (hk : Then K o a n θ w (restrict mem e.touched) e) : o.wp P a w K Q := by
  split at h
  · rename_i id off vs i h1 h2 h3
    have ha := arg_spec h1 (fun t ht => hs t (by rw [slotsOf_cons]; simp [ht])) hg
    cases h4 : arg env g y with
    | none => rw [h4] at h2; cases h2
    | some v =>
      rw [h4] at h2; simp only [Option.bind_some] at h2
      have hb := arg_spec h4 (fun t ht => hs t (by rw [slotsOf_cons]; simp [ht])) hg
      have hcells := SV.cells_den θ h2
      split at h
      · rename_i ty cs hl
        cases hq : (Nat.beq vs.length i.size && Nat.ble (off + vs.length) cs.length)
        · rw [hq] at h; cases h
        · rw [hq] at h; cases h
          simp only [Bool.and_eq_true] at hq
          have hlen := Nat.eq_of_beq_eq_true hq.1
          have hfit := Nat.le_of_ble_eq_true hq.2
          have hlr : look (restrict mem [id]) id = some (.blk ty cs) := by rw [look_restrict]; simp [hl]
          obtain ⟨bl, hbox, hh⟩ : ∃ b, θ id = Loc.box b ∧ w.heap[b]? = some (.cells (dens θ (untag cs)).toArray ty (0, 0)) := hm.1 id (.blk ty cs) hlr
          have hbl : (θ id).blk = some bl := by rw [hbox]; rfl
          have hst := run_storeCells_at P bl off ty (dens θ vs) 0 (dens θ (untag cs)).toArray w hh (by simp [dens, untag_length]; omega) (by
            intro v hv
            simp only [dens, List.mem_map] at hv
            obtain ⟨c, _, rfl⟩ := hv
            exact SC.den_oneCell θ c)
          have hnew : (List.take (off + 0) (dens θ (untag cs)) ++ dens θ vs ++ List.drop (off + 0 + (dens θ vs).length) (dens θ (untag cs))) = dens θ (untag (paste cs off (tagged n vs))) := by
            rw [untag_paste, untag_tagged, paste_eq _ _ _ (by rw [untag_length]; exact hfit)]
            simp [dens, List.map_take, List.map_drop]
          simp only at hst
          rw [hnew] at hst
          refine wp_skip' (w' := w.setRow bl (dens θ (untag (paste cs off (tagged n vs)))).toArray) ?_ (hk _ _ _ ⟨rfl, ⟨Agree.refl _ _, rfl, rfl, rfl, ?_, ?_, ?_, ?_⟩, ?_, ?_⟩)
          · unfold execOp
            simp only [ho]
            refine run_u ?_
            have hsz : (v.den θ).cells.size = i.size := by rw [hcells]; simp [dens, hlen]
            rw [hb]
            generalize v.den θ = vd at hcells hsz
            simp only [Instr.storeAt, ha, SV.den, SC.den, hbl, Option.map_some, Instr.sureAddr, Sem.run_bind, Sem.run_pure, Result.andThen_ok, storeVar, sizeOf, typeInfo, run_program, h3, hsz, ne_eq, not_true_eq_false, if_false]
            rw [hcells]
            exact hst
          · simp [World.setRow]
          · intro b hb' hno
            have hne : bl ≠ b := fun e => hno id _ hlr (e ▸ hbl)
            simp [World.setRow, Array.getElem?_modify, hne]
          · intro i' o' b hl' hb'
            obtain ⟨rfl, rfl⟩ := look_one hl'
            exact .inr ⟨_, _, hlr, hb'⟩
          · intro i' o' b hl' hb'
            obtain ⟨rfl, rfl⟩ := look_one hl'
            exact .inr ⟨_, _, hlr, hb'⟩
          · intro i' o' hl'
            obtain ⟨rfl, rfl⟩ := look_one hl'
            exact ⟨bl, hbox, setRow_heap w bl _ _ ty _ hh⟩
          · intro i1 i2 o1 o2 b hl1 hl2 hne
            obtain ⟨rfl, rfl⟩ := look_one hl1
            obtain ⟨rfl, rfl⟩ := look_one hl2
            exact absurd rfl hne
      · cases h
  · cases h

/-! #### Equality of structs -/
theorem kindEq_spec {k j : IntKind} (h : kindEq k j = true) : k = j := by cases k <;> cases j <;> first | rfl | cases h
theorem mkB_val (s x : Bool) : (mkB s x).val = x := by cases s <;> rfl
theorem mkI_val (s : Bool) (x : Int) : (mkI s x).val = x := by cases s <;> rfl
theorem andB_val (x y : SB) : (andB x y).val = (x.val && y.val) := by
  rcases x with b | b <;> rcases y with c | c <;> cases b <;> cases c <;> rfl
theorem notB_val (x : SB) : (notB x).val = !x.val := by cases x <;> rfl
theorem eqCs_append : ∀ {a c b d : List SC} {x : SB}, a.length = c.length → eqCs (a ++ b) (c ++ d) = some x → ∃ y z, eqCs a c = some y ∧ eqCs b d = some z ∧ x.val = (y.val && z.val)
  | [], [], b, d, x, _, h => ⟨.c true, x, rfl, h, by simp [SB.val]⟩
  | [], _ :: _, _, _, _, h, _ => by simp at h
  | _ :: _, [], _, _, _, h, _ => by simp at h
  | p :: a, q :: c, b, d, x, hl, h => by
    simp only [List.cons_append, eqCs] at h
    split at h
    · rename_i u v h1 h2
      cases h
      obtain ⟨y, z, h3, h4, h5⟩ := eqCs_append (by simpa using hl) h2
      exact ⟨andB u y, z, by simp [eqCs, h1, h3], h4, by rw [andB_val, andB_val, h5, Bool.and_assoc]⟩
    · cases h
/-- The value of a variable of these cells. -/
noncomputable def varOf (P : Program) (θ : Th) (t : TypeId) (cs : List SC) : Value :=
  match P.underlying t with
  | some (.struct _) => .agg (dens θ cs).toArray
  | some (.array _ _) => .agg (dens θ cs).toArray
  | _ => match cs with
    | [c] => c.den θ
    | _ => undef
theorem run_part {t : TypeId} {i : TypeInfo} (hi : P.info? t = some i) {d : TypeDesc} (hu : P.underlying t = some d) (h1 : d.isRow = false → i.size = 1) (cs : List SC) (o : Nat) (hlen : o + i.size ≤ cs.length) :
    (part t (dens θ cs).toArray o).run P w = .ok (varOf P θ t ((cs.drop o).take i.size)) w := by
  have hagg : (isAgg t).run P w = .ok d.isRow w := by
    unfold isAgg
    rw [Sem.run_bind, run_underlying hu w]
    cases d <;> rfl
  have hsz : (sizeOf t).run P w = .ok i.size w := by simp [sizeOf, typeInfo, go_sem, hi]
  unfold part varOf
  rw [Sem.run_bind, hagg, hu]
  cases hd : d.isRow
  · have h2 := h1 hd
    have h3 : o < cs.length := by omega
    have h4 : (cs.drop o).take i.size = [cs[o]] := by rw [h2, List.drop_eq_getElem_cons h3]; rfl
    rw [h4]
    have h5 : (dens θ cs).toArray[o]? = some (cs[o].den θ) := by simp [dens, h3]
    simp only [Result.andThen_ok, Bool.false_eq_true, if_false, h5, Sem.run_pure]
    cases d <;> simp at hd <;> rfl
  · simp only [Result.andThen_ok, if_true, Sem.run_bind, hsz, Sem.run_pure]
    have h5 : (dens θ cs).toArray.extract o (o + i.size) = (dens θ ((cs.drop o).take i.size)).toArray := by
      simp [dens, List.map_take, List.map_drop]
    rw [h5]
    cases d <;> simp at hd <;> rfl
theorem flatT_size : ∀ {d : Nat} {t : TypeId} {cs : List SC}, flatT P d t cs = true → ∃ de i, P.underlying t = some de ∧ P.info? t = some i ∧ (de.isRow = false → i.size = 1)
  | 0, _, _, h => by cases h
  | d + 1, t, cs, h => by
    unfold flatT at h
    split at h
    · rename_i fs i h1 h2; exact ⟨_, i, h1, h2, fun h => by cases h⟩
    · rename_i i h1 h2; simp only [Bool.and_eq_true] at h; exact ⟨_, i, h1, h2, fun _ => Nat.eq_of_beq_eq_true h.1⟩
    · rename_i i h1 h2; simp only [Bool.and_eq_true] at h; exact ⟨_, i, h1, h2, fun _ => Nat.eq_of_beq_eq_true h.1⟩
    · cases h
theorem flatFs_le {ft : TypeId → List SC → Bool} {cs : List SC} {tot : Nat} : ∀ {L : List Field} {o : Nat}, flatT.flatFs P ft L o tot cs = true → o ≤ tot
  | [], _, h => Nat.le_of_eq (Nat.eq_of_beq_eq_true h)
  | f :: L, o, h => by
    simp only [flatT.flatFs, Bool.and_eq_true] at h
    obtain ⟨_, _, h⟩ := h
    split at h
    · simp only [Bool.and_eq_true] at h
      exact Nat.le_trans (Nat.le_add_right _ _) (flatFs_le h.2)
    · cases h
theorem run_equalIn_flat : ∀ {d : Nat} {t : TypeId} {i : TypeInfo} {cs ds : List SC} {b : SB}, flatT P d t cs = true → P.info? t = some i → cs.length = i.size → ds.length = i.size → eqCs cs ds = some b →
    ∀ D, d ≤ D → (Op.equalIn D t (varOf P θ t cs) (varOf P θ t ds)).run P w = .ok b.val w
  | 0, _, _, _, _, _, h, _, _, _, _ => by cases h
  | d + 1, t, i, cs, ds, b, h, hi, hc, hd, he => by
    intro D hD
    obtain ⟨D, rfl⟩ : ∃ D', D = D' + 1 := ⟨D - 1, by omega⟩
    unfold flatT at h
    split at h
    · -- a struct
      rename_i fs i' hu hi'
      rw [hi] at hi'; cases hi'
      simp only [Bool.and_eq_true, Bool.not_eq_true'] at h
      obtain ⟨hstood, hfs⟩ := h
      unfold varOf
      simp only [hu]
      unfold Op.equalIn
      simp only [Sem.run_bind, run_underlying hu, Result.andThen_ok, run_program, hstood, Bool.false_eq_true, if_false]
      rw [← Array.forIn_toList]
      have key : ∀ (L : List Field) (o : Nat) (b : SB), flatT.flatFs P (flatT P d) L o i.size cs = true → eqCs (cs.drop o) (ds.drop o) = some b →
          (forIn L ((none : Option Bool), ()) (fun (f : Field) _ => if f.name ≠ "_" then do
                let x ← part f.type (dens θ cs).toArray f.offset
                let y ← part f.type (dens θ ds).toArray f.offset
                let z ← Op.equalIn D f.type x y
                if (!z) = true then pure (ForInStep.done (some false, ())) else pure (ForInStep.yield (none, ()))
              else pure (ForInStep.yield (none, ()))) : Sem (Option Bool × Unit)).run P w = .ok ((if b.val then none else some false), ()) w := by
        intro L
        induction L with
        | nil =>
          intro o b h1 h2
          have h3 : o = i.size := Nat.eq_of_beq_eq_true h1
          subst h3
          rw [List.drop_eq_nil_of_le (by omega), List.drop_eq_nil_of_le (by omega)] at h2
          cases h2
          simp [SB.val]
        | cons f L ih =>
          intro o b h1 h2
          simp only [flatT.flatFs, Bool.and_eq_true, bne_iff_ne, ne_eq] at h1
          obtain ⟨hn, ho, hr⟩ := h1
          have ho := Nat.eq_of_beq_eq_true ho
          split at hr
          · rename_i j hj
            simp only [Bool.and_eq_true] at hr
            obtain ⟨hft, hr⟩ := hr
            obtain ⟨de, j', hu', hj', hsz⟩ := flatT_size hft
            rw [hj] at hj'; cases hj'
            have hle' := flatFs_le hr
            have hsplit : ∀ l : List SC, l.drop o = (l.drop o).take j.size ++ l.drop (o + j.size) := fun l => by
              rw [← List.drop_drop, List.take_append_drop]
            rw [hsplit cs, hsplit ds] at h2
            obtain ⟨y, z, h3, h4, h5⟩ := eqCs_append (by simp; omega) h2
            have p1 := run_part (θ := θ) (w := w) hj hu' hsz cs o (by omega)
            have p2 := run_part (θ := θ) (w := w) hj hu' hsz ds o (by omega)
            have p3 := run_equalIn_flat hft hj (by simp; omega) (by simp; omega) h3 D (by omega)
            simp only [List.forIn_cons, Sem.run_bind, hn, ne_eq, not_false_eq_true, if_true, Result.andThen_ok, ho, p1, p2, p3]
            cases hy : y.val
            · simp [h5, hy]
            · simp only [Bool.not_true, Bool.false_eq_true, if_false, Sem.run_pure, Result.andThen_ok]
              have := ih (o + j.size) z hr h4
              simp only [h5, hy, Bool.true_and]
              exact this
          · cases hr
      have := key fs.toList 0 b hfs (by simpa using he)
      simp only [ne_eq] at this ⊢
      rw [this]
      cases hb : b.val <;> simp
    · rename_i i' hu hi'
      simp only [Bool.and_eq_true] at h
      obtain ⟨h1, h2⟩ := h
      split at h2
      · rename_i x
        rw [hi] at hi'; cases hi'
        match ds, hd.trans (Nat.eq_of_beq_eq_true h1) with
        | [e], _ =>
          simp only [eqCs] at he
          cases e <;> simp only [eqC] at he <;> cases he
          unfold varOf
          simp only [hu]
          unfold Op.equalIn
          simp only [Sem.run_bind, run_underlying hu, Result.andThen_ok, SC.den, Sem.run_pure, andB_val, mkB_val]
          simp [SB.val]
      · cases h2
    · rename_i i' hu hi'
      simp only [Bool.and_eq_true] at h
      obtain ⟨h1, h2⟩ := h
      split at h2
      · rename_i k x
        rw [hi] at hi'; cases hi'
        match ds, hd.trans (Nat.eq_of_beq_eq_true h1) with
        | [e], _ =>
          simp only [eqCs] at he
          obtain ⟨j, y, rfl⟩ : ∃ j y, e = .int j y := by
            cases e <;> simp only [eqC] at he <;> first | exact ⟨_, _, rfl⟩ | cases he
          simp only [eqC] at he
          cases hk : kindEq k j
          · rw [hk] at he; cases he
          · rw [hk] at he; cases he
            have := kindEq_spec hk; subst this
            unfold varOf
            simp only [hu]
            unfold Op.equalIn
            simp only [Sem.run_bind, run_underlying hu, Result.andThen_ok, SC.den, if_true, Sem.run_pure, andB_val, mkB_val]
            simp [SB.val]
      · cases h2
    · cases h
theorem eqGuardType_flat : ∀ {d : Nat} {t : TypeId} {cs : List SC}, flatT P d t cs = true → ∀ D, d ≤ D → P.eqGuardType D t = false
  | 0, _, _, h, _, _ => by cases h
  | d + 1, t, cs, h, D, hD => by
    obtain ⟨D, rfl⟩ : ∃ D', D = D' + 1 := ⟨D - 1, by omega⟩
    unfold flatT at h
    split at h
    · rename_i fs i hu hi
      simp only [Bool.and_eq_true] at h
      unfold Program.eqGuardType
      simp only [hu]
      rw [← Array.any_toList]
      have key : ∀ (L : List Field) (o : Nat), flatT.flatFs P (flatT P d) L o i.size cs = true → L.any (fun f => f.name != "_" && P.eqGuardType D f.type) = false := by
        intro L
        induction L with
        | nil => intro o _; rfl
        | cons f L ih =>
          intro o h1
          simp only [flatT.flatFs, Bool.and_eq_true] at h1
          obtain ⟨_, _, hr⟩ := h1
          split at hr
          · simp only [Bool.and_eq_true] at hr
            rw [List.any_cons, eqGuardType_flat hr.1 D (by omega), ih _ hr.2]
            simp
          · cases hr
      exact key _ _ h.2
    · rename_i i hu hi; unfold Program.eqGuardType; simp [hu]
    · rename_i i hu hi; unfold Program.eqGuardType; simp [hu]
    · cases h
end each
end Go.SX
namespace Go.SX
open Go.RowKit

section each
variable {P : Program} {ce : CE} {o : Oper} {env : Env} {g : List (Nat × Bool)} {mem : Mem} {n : Nat} {e : Eff} {θ : Th} {a : Act} {w : World} {K : Act → World → Prop} {Q : Exit → Act → World → Prop}

theorem nz_spec {b : SI} {q : List Prop} (h : nz b = some q) (hq : ∀ p ∈ q, p) : b.val ≠ 0 := by
  cases b with
  | c m =>
    simp only [nz] at h
    by_cases hm : m = 0
    · simp [hm] at h
    · exact hm
  | v x => cases h; exact (show x ≠ 0 from hq _ (by simp))
theorem nonneg_spec {b : SI} {q : List Prop} (h : nonneg b = some q) (hq : ∀ p ∈ q, p) : 0 ≤ b.val := by
  cases b with
  | c m =>
    simp only [nonneg] at h
    by_cases hm : 0 ≤ m
    · exact hm
    · simp [hm] at h
  | v x => cases h; exact (show 0 ≤ x from hq _ (by simp))

theorem run_binI {op : BinOp} {t : TypeId} {k : IntKind} {x y : SI} {c : SC} {q : List Prop} (h : binI op k x y = some (c, q)) (hq : ∀ p ∈ q, p) :
    (Go.binOp op t (.int k x.val) (.int k y.val)).run P w = .ok (c.den θ) w := by
  have hshl : op ≠ .shl := by rintro rfl; simp [binI] at h
  have hshr : op ≠ .shr := by rintro rfl; simp [binI] at h
  cases op <;> simp only [binI, Option.some.injEq, Prod.mk.injEq, Option.map_eq_some_iff, reduceCtorEq] at h <;> try contradiction
  all_goals first
    | (obtain ⟨rfl, rfl⟩ := h
       simp [Go.binOp, Op.intArith, Op.intCmp, SC.den, mkI_val, mkB_val, Sem.run_pure]
       done)
    | (obtain ⟨rfl, rfl⟩ := h
       simp [Go.binOp, Op.intBits, SC.den, mkI_val, ibits, Sem.run_pure]
       done)
    | (obtain ⟨q', h1, rfl, rfl⟩ := h
       have := nz_spec h1 hq
       simp [Go.binOp, Op.intDiv, SC.den, mkI_val, Sem.run_pure, this])

theorem run_eqGuard_int (op : BinOp) (t : TypeId) (x y : Operand) (k : IntKind) (m : Int) (v : Value) : (eqGuard op t x y (.int k m) v).run P w = .ok () w := by
  unfold eqGuard
  cases op <;> simp [Sem.run_pure]
theorem run_eqGuard_bool (op : BinOp) (t : TypeId) (x y : Operand) (m : Bool) (v : Value) : (eqGuard op t x y (.bool m) v).run P w = .ok () w := by
  unfold eqGuard
  cases op <;> simp [Sem.run_pure]
theorem run_eqGuard_agg (op : BinOp) (t : TypeId) (x y : Operand) (u v : Array Value) (h : P.eqGuardType P.depth t = false) : (eqGuard op t x y (.agg u) (.agg v)).run P w = .ok () w := by
  unfold eqGuard
  cases op <;> simp [Sem.run_pure, Sem.run_bind, run_program, h]

theorem run_binop {op : BinOp} {t : TypeId} {x y : SV} {c : SC} {q : List Prop} (h : SX.binop P op t x y = some (c, q)) (hq : ∀ p ∈ q, p) (ox oy : Operand) :
    (do eqGuard op t ox oy (x.den θ) (y.den θ); Go.binOp op t (x.den θ) (y.den θ) : Sem Value).run P w = .ok (c.den θ) w := by
  unfold SX.binop at h
  split at h
  · rename_i k x j y
    rw [Sem.run_bind]
    simp only [SV.den, SC.den, run_eqGuard_int, Result.andThen_ok]
    split at h
    · simp only [Option.map_eq_some_iff, Prod.mk.injEq] at h
      obtain ⟨q', h1, rfl, rfl⟩ := h
      have h2 := nonneg_spec h1 hq
      have h3 : ¬ y.val < 0 := by omega
      simp [Go.binOp, Op.shift, mkI_val, ishift, Sem.run_pure, h3]
    · simp only [Option.map_eq_some_iff, Prod.mk.injEq] at h
      obtain ⟨q', h1, rfl, rfl⟩ := h
      have h2 := nonneg_spec h1 hq
      have h3 : ¬ y.val < 0 := by omega
      simp [Go.binOp, Op.shift, mkI_val, ishift, Sem.run_pure, h3]
    · cases hk : kindEq k j
      · rw [hk] at h; cases h
      · rw [hk] at h
        have := kindEq_spec hk; subst this
        exact run_binI h hq
  · rename_i x y
    rw [Sem.run_bind]
    simp only [SV.den, SC.den, run_eqGuard_bool, Result.andThen_ok]
    split at h
    · rename_i hu
      have he : ∀ d, (Op.equalIn (d + 1) t (.bool x.val) (.bool y.val)).run P w = .ok (x.val == y.val) w := fun d => by
        unfold Op.equalIn
        simp [run_underlying hu]
      split at h
      · cases h
        simp [Go.binOp, Op.equal, Op.maxDepth, he 9999, mkB_val]
      · cases h
        simp [Go.binOp, Op.equal, Op.maxDepth, he 9999, mkB_val]
      · cases h
    · cases h
  · rename_i cs ds
    split at h
    · rename_i fs i hu hi
      cases hc : (flatT P 20 t cs && (Nat.beq cs.length i.size && Nat.beq ds.length i.size))
      · rw [hc] at h; cases h
      · rw [hc] at h
        simp only [Bool.and_eq_true] at hc
        obtain ⟨hf, h1, h2⟩ := hc
        have h1 := Nat.eq_of_beq_eq_true h1
        have h2 := Nat.eq_of_beq_eq_true h2
        have hdep : 20 ≤ P.depth := by unfold Program.depth Made.depth; omega
        rw [Sem.run_bind]
        simp only [SV.den, run_eqGuard_agg _ _ _ _ _ _ (eqGuardType_flat hf _ hdep), Result.andThen_ok]
        have key : ∀ b, eqCs cs ds = some b → (Op.equal t (.agg (dens θ cs).toArray) (.agg (dens θ ds).toArray)).run P w = .ok b.val w := by
          intro b hb
          have := run_equalIn_flat (θ := θ) (w := w) hf hi h1 h2 hb 10000 (by omega)
          unfold varOf at this
          rw [hu] at this
          exact this
        simp only [cond_true] at h
        split at h
        · rename_i b hb
          cases h
          simp [Go.binOp, key b hb, SC.den]
        · rename_i b hb
          cases h
          simp [Go.binOp, key b hb, SC.den, notB_val]
        · cases h
    · cases h
  · cases h

theorem snd_binop {op : BinOp} {t yt : TypeId} {x y : Operand} (ho : o.op = .binOp op t x y yt)
    (h : (match arg env g x, arg env g y with
      | some a, some b => (SX.binop P op t a b).map fun (c, q) => (⟨some (.one c), [], [], [], q, [], n⟩ : Eff)
      | _, _ => none) = some e) (hn : ∀ p ∈ e.needs, p)
    (hs : ∀ t ∈ slotsOf [x, y], ∀ y, look env t = some y → entRel θ a t y) (hg : holds a g)
    (hk : Then K o a n θ w (restrict mem e.touched) e) : o.wp P a w K Q := by
  split at h
  · rename_i u v h1 h2
    simp only [Option.map_eq_some_iff, Prod.exists] at h
    obtain ⟨c, q, h3, rfl⟩ := h
    have ha := arg_spec h1 (fun t ht => hs t (by rw [slotsOf_cons]; simp [ht])) hg
    have hb := arg_spec h2 (fun t ht => hs t (by rw [slotsOf_cons]; simp [ht])) hg
    refine wp_value (v := c.den θ) (w' := w) ?_ (hk _ _ _ (EffRel.pure (x := .one c) rfl rfl))
    unfold execOp
    simp only [ho]
    refine run_v ?_
    rw [ha, hb]
    exact run_binop h3 hn x y
  · cases h

theorem snd_unop {op : UnOp} {t : TypeId} {x : Operand} (ho : o.op = .unOp op t x)
    (h : ((arg env g x).bind (unop op)).map (fun c => Eff.pure n (.one c)) = some e)
    (hs : ∀ t ∈ slotsOf [x], ∀ y, look env t = some y → entRel θ a t y) (hg : holds a g)
    (hk : Then K o a n θ w (restrict mem e.touched) e) : o.wp P a w K Q := by
  simp only [Option.map_eq_some_iff, Option.bind_eq_some_iff] at h
  obtain ⟨c, ⟨v, h1, h2⟩, rfl⟩ := h
  have ha := arg_spec h1 hs hg
  refine wp_value (v := c.den θ) (w' := w) ?_ (hk _ _ _ (EffRel.pure (x := .one c) rfl rfl))
  unfold execOp
  simp only [ho]
  refine run_v ?_
  rw [ha]
  unfold unop at h2
  split at h2
  · rename_i k m
    cases op <;> cases m <;> simp only [reduceCtorEq, Option.some.injEq] at h2 <;> subst h2 <;> simp [SV.den, SC.den, Op.unary, Op.intArith, SI.val]
  · rename_i b
    cases op <;> simp only [reduceCtorEq, Option.some.injEq] at h2
    subst h2
    simp [SV.den, SC.den, Op.unary, notB_val]
  · cases h2

theorem snd_convert {s d : TypeId} {x : Operand} (ho : o.op = .convert s d x)
    (h : (match P.underlying s, P.underlying d, arg env g x with
      | some _, some (.int k), some (.one (.int _ (.c m))) => some (Eff.pure n (.one (.int k (.c (k.wrap m)))))
      | some _, some (.int k), some (.one (.int _ (.v m))) => some (Eff.pure n (.one (.int k (.v (k.wrap m)))))
      | _, _, _ => none) = some e)
    (hs : ∀ t ∈ slotsOf [x], ∀ y, look env t = some y → entRel θ a t y) (hg : holds a g)
    (hk : Then K o a n θ w (restrict mem e.touched) e) : o.wp P a w K Q := by
  have key : ∀ (ds : TypeDesc) (k j : IntKind) (m : Int), P.underlying s = some ds → P.underlying d = some (.int k) → (Go.convert s d (.int j m)).run P w = .ok (.int k (k.wrap m)) w := by
    intro ds k j m h1 h2
    unfold Go.convert
    rw [Sem.run_bind, run_underlying h1, Result.andThen_ok, Sem.run_bind, run_underlying h2, Result.andThen_ok]
    simp [Conv.intToInt]
  split at h
  · rename_i ds k j m h1 h2 h3
    cases h
    have ha := arg_spec h3 hs hg
    refine wp_value (v := .int k (k.wrap m)) (w' := w) ?_ (hk _ _ _ (EffRel.pure (x := .one (.int k (.c (k.wrap m)))) rfl rfl))
    unfold execOp
    simp only [ho]
    refine run_v ?_
    rw [ha]
    exact key ds k j m h1 h2
  · rename_i ds k j m h1 h2 h3
    cases h
    have ha := arg_spec h3 hs hg
    refine wp_value (v := .int k (k.wrap m)) (w' := w) ?_ (hk _ _ _ (EffRel.pure (x := .one (.int k (.v (k.wrap m)))) rfl rfl))
    unfold execOp
    simp only [ho]
    refine run_v ?_
    rw [ha]
    exact key ds k j m h1 h2
  · cases h

theorem snd_nilCheck {x : Operand} (ho : o.op = .nilCheck x)
    (h : (match arg env g x with
      | some (.one (.ptr id off)) => match look mem id with
        | some (.blk _ _) => some (⟨some (.one (.ptr id off)), [id], [], [], [], [], n⟩ : Eff)
        | _ => none
      | _ => none) = some e) (hm : memRel θ (restrict mem e.rd) w)
    (hs : ∀ t ∈ slotsOf [x], ∀ y, look env t = some y → entRel θ a t y) (hg : holds a g)
    (hk : Then K o a n θ w (restrict mem e.touched) e) : o.wp P a w K Q := by
  split at h
  · rename_i id off h1
    split at h
    case h_2 => cases h
    rename_i ty cs hl
    cases h
    have ha := arg_spec h1 hs hg
    obtain ⟨b, hb, _⟩ := objRel_blk (hm.1 id (.blk ty cs) (by rw [look_restrict]; simp [hl]))
    refine wp_value (v := SV.den θ (.one (.ptr id off))) (w' := w) ?_ (hk _ _ _ (EffRel.pure (x := .one (.ptr id off)) rfl rfl))
    unfold execOp
    simp only [ho, ha, SV.den, SC.den, hb, Option.map_some, Sem.run_pure]
  · cases h

theorem toList_get {α : Type} (fs : Array α) (f : Nat) : fs.toList[f]? = fs[f]? := by simp

theorem snd_fieldAddr {t : TypeId} {x : Operand} {f : Nat} (ho : o.op = .fieldAddr t x f)
    (h : (match P.underlying t, arg env g x with
      | some (.struct fs), some (.one (.ptr id off)) => match fs.toList[f]? with
        | some fd => (match P.info? fd.type with
          | some i => (match look mem id with
            | some (.blk _ _) => bif Nat.beq i.size 0 then none else some (⟨some (.one (.ptr id (off + fd.offset))), [id], [], [], [], [], n⟩ : Eff)
            | _ => none)
          | none => none)
        | none => none
      | _, _ => none) = some e) (hm : memRel θ (restrict mem e.rd) w)
    (hs : ∀ t ∈ slotsOf [x], ∀ y, look env t = some y → entRel θ a t y) (hg : holds a g)
    (hk : Then K o a n θ w (restrict mem e.touched) e) : o.wp P a w K Q := by
  split at h
  · rename_i fs id off hu h1
    have ha := arg_spec h1 hs hg
    split at h
    · rename_i fd hf
      split at h
      · rename_i i hi
        split at h
        case h_2 => cases h
        rename_i ty cs hl
        cases hq : Nat.beq i.size 0
        · rw [hq] at h; cases h
          obtain ⟨b, hb, _⟩ := objRel_blk (hm.1 id (.blk ty cs) (by rw [look_restrict]; simp [hl]))
          have hne : i.size ≠ 0 := fun hz => by rw [hz] at hq; cases hq
          refine wp_value (v := SV.den θ (.one (.ptr id (off + fd.offset)))) (w' := w) ?_ (hk _ _ _ (EffRel.pure (x := .one (.ptr id (off + fd.offset))) rfl rfl))
          unfold execOp
          simp only [ho]
          refine run_v ?_
          rw [toList_get] at hf
          simp only [ha, SV.den, SC.den, hb, Option.map_some, Instr.fieldAt, Sem.run_bind, run_underlying hu, Result.andThen_ok, hf, Instr.sureAddr, Sem.run_pure, fieldPlace, sizeOf, typeInfo, run_program, hi, hne, if_false, Addr.add_mid]
        · rw [hq] at h; cases h
      · cases h
    · cases h
  · cases h

theorem snd_field {t : TypeId} {x : Operand} {f : Nat} (ho : o.op = .field t x f)
    (h : (match P.underlying t, arg env g x with
      | some (.struct fs), some (.agg cs) => match fs.toList[f]? with
        | some fd => (match isAggT P fd.type, P.info? fd.type with
          | some true, some i => (let r := cut cs fd.offset i.size; bif Nat.beq r.length i.size then some (Eff.pure n (.agg r)) else none)
          | some false, some _ => (match cut cs fd.offset 1 with
            | [c] => some (Eff.pure n (.one c))
            | _ => none)
          | _, _ => none)
        | none => none
      | _, _ => none) = some e)
    (hs : ∀ t ∈ slotsOf [x], ∀ y, look env t = some y → entRel θ a t y) (hg : holds a g)
    (hk : Then K o a n θ w (restrict mem e.touched) e) : o.wp P a w K Q := by
  split at h
  · rename_i fs cs hu h1
    have ha := arg_spec h1 hs hg
    split at h
    · rename_i fd hf
      rw [toList_get] at hf
      split at h
      · rename_i i h2 hi
        obtain ⟨d, hd, hrow⟩ := isAggT_spec h2
        simp only at h
        cases hq : Nat.beq (cut cs fd.offset i.size).length i.size
        · rw [hq] at h; cases h
        · rw [hq] at h; cases h
          have hagg : (isAgg fd.type).run P w = .ok true w := by
            unfold isAgg
            rw [Sem.run_bind, run_underlying hd w]
            cases d <;> simp_all
          refine wp_value (v := SV.den θ (.agg (cut cs fd.offset i.size))) (w' := w) ?_ (hk _ _ _ (EffRel.pure (x := .agg _) rfl rfl))
          unfold execOp
          simp only [ho]
          refine run_v ?_
          simp only [ha, SV.den, Instr.field, Sem.run_bind, run_underlying hu, Result.andThen_ok, hf, asAgg, Sem.run_pure, part, hagg, if_true, sizeOf, typeInfo, run_program, hi]
          congr 2
          simp [dens, cut_eq, List.map_take, List.map_drop]
      · rename_i i h2 hi
        obtain ⟨d, hd, hrow⟩ := isAggT_spec h2
        split at h
        · rename_i c hc
          cases h
          have hagg : (isAgg fd.type).run P w = .ok false w := by
            unfold isAgg
            rw [Sem.run_bind, run_underlying hd w]
            cases d <;> simp_all
          have h7 : cs[fd.offset]? = some c := by
            rw [cut_eq] at hc
            have := congrArg (fun l : List SC => l[0]?) hc
            simp only [List.getElem?_take, List.getElem?_drop] at this
            simpa using this
          refine wp_value (v := SV.den θ (.one c)) (w' := w) ?_ (hk _ _ _ (EffRel.pure (x := .one c) rfl rfl))
          unfold execOp
          simp only [ho]
          refine run_v ?_
          have h8 : (dens θ cs).toArray[fd.offset]? = some (c.den θ) := by simp [dens, h7]
          simp only [ha, SV.den, Instr.field, Sem.run_bind, run_underlying hu, Result.andThen_ok, hf, asAgg, Sem.run_pure, part, hagg, Bool.false_eq_true, if_false, h8]
        · cases h
      · cases h
    · cases h
  · cases h

theorem snd_extract {x : Operand} {k : Nat} (ho : o.op = .extract x k)
    (h : (match arg env g x with
      | some (.tup vs) => match vs[k]? with
        | some (true, cs) => some (Eff.pure n (.agg cs))
        | some (false, [c]) => some (Eff.pure n (.one c))
        | _ => none
      | _ => none) = some e)
    (hs : ∀ t ∈ slotsOf [x], ∀ y, look env t = some y → entRel θ a t y) (hg : holds a g)
    (hk : Then K o a n θ w (restrict mem e.touched) e) : o.wp P a w K Q := by
  split at h
  · rename_i vs h1
    have ha := arg_spec h1 hs hg
    have key : ∀ p, vs[k]? = some p → (Instr.extract (.tuple (vs.map (compDen θ)).toArray) k).run P w = .ok (compDen θ p) w := by
      intro p hp
      have : (vs.map (compDen θ)).toArray[k]? = some (compDen θ p) := by simp [hp]
      simp [Instr.extract, this]
    split at h
    · rename_i cs hv
      cases h
      refine wp_value (v := SV.den θ (.agg cs)) (w' := w) ?_ (hk _ _ _ (EffRel.pure (x := .agg cs) rfl rfl))
      unfold execOp
      simp only [ho]
      refine run_v ?_
      rw [ha]
      exact (key _ hv).trans (by cases cs with
        | nil => rfl
        | cons c r => rfl)
    · rename_i c hv
      cases h
      refine wp_value (v := SV.den θ (.one c)) (w' := w) ?_ (hk _ _ _ (EffRel.pure (x := .one c) rfl rfl))
      unfold execOp
      simp only [ho]
      refine run_v ?_
      rw [ha]
      exact key _ hv
    · cases h
  · cases h

theorem roMem_spec : ∀ {m : Mem}, roMem m = true → ∀ {id : Nat} {o : Obj}, look m id = some o → ∃ ty esz r, o = .row true ty esz r
  | [], _, id, o, h => by cases h
  | (i, x) :: r, hr, id, o, h => by
    unfold roMem at hr
    split at hr
    · rename_i heq; cases heq
    · rename_i i' ty esz rr rest heq
      cases heq
      rw [look_cons] at h
      cases hb : Nat.beq i id
      · rw [hb] at h; exact roMem_spec hr h
      · rw [hb] at h; cases h; exact ⟨_, _, _, rfl⟩
    · cases hr
/-- THE STAND-IN for math/bits.Sub64. -/
def sub64E : Array Value → Sem Value := fun args => do
  let (x, y, b) ← Extern.MathBitsCarry.three "Sub64" args
  pure (Extern.MathBitsCarry.pair ((x + Extern.MathBitsCarry.m64 - y - b) % Extern.MathBitsCarry.m64) (if x < y + b then 1 else 0))
theorem run_sub64E (x y b : Nat) (hb : b ≤ 1) (w : World) :
    (sub64E #[.int .u64 x, .int .u64 y, .int .u64 b]).run P w =
      .ok (.tuple #[.int .u64 (((x + 18446744073709551616 - y - b) % 18446744073709551616 : Nat) : Int), .int .u64 ((if x < y + b then 1 else 0 : Nat) : Int)]) w := by
  have : b = 0 ∨ b = 1 := by omega
  rcases this with rfl | rfl <;> rfl
theorem find_sub64 {fn : Func} (h : fn.name = "math/bits.Sub64") (ho : fn.origin = "") : Extern.findNext fn = none ∧ Extern.find fn = some sub64E := by
  constructor
  · unfold Extern.findNext
    rw [h, ho]
    kernel_rfl
  · unfold Extern.find
    rw [h, ho]
    kernel_rfl
theorem run_sub64S {fid : FuncId} {vs : List SV} {n : Nat} {e : Eff} (hsb : isSub64 P fid = true) (h : subS vs n = some e) (hn : ∀ p ∈ e.needs, p) :
    ∃ v, e.val = some v ∧ e.ups = [] ∧ ∀ θ w, (callFunc fid (vs.map (SV.den θ)).toArray).run P w = .ok (.value (v.den θ)) w := by
  unfold isSub64 at hsb
  split at hsb
  case h_2 => cases hsb
  rename_i fn hfn
  split at hsb
  · cases hsb
  rename_i hbody
  simp only [Bool.and_eq_true, beq_iff_eq] at hsb
  obtain ⟨hname, horig⟩ := hsb
  obtain ⟨f1, f2⟩ := find_sub64 hname horig
  unfold subS at h
  split at h
  case h_2 => cases h
  rename_i x y b
  cases h
  have hx : 0 ≤ x.val := hn _ (by simp)
  have hy : 0 ≤ y.val := hn _ (by simp)
  have hb : 0 ≤ b.val ∧ b.val ≤ 1 := hn _ (by simp)
  refine ⟨_, rfl, rfl, fun θ w => ?_⟩
  rw [run_callFunc_extern hfn (by rw [hname]; decide) (by rw [hbody]; rfl) f1 f2]
  obtain ⟨i, hi⟩ := Int.eq_ofNat_of_zero_le hx
  obtain ⟨j, hj⟩ := Int.eq_ofNat_of_zero_le hy
  obtain ⟨k, hk⟩ := Int.eq_ofNat_of_zero_le hb.1
  have hval : ∀ (s : Bool) (z : Int), (mkI s z).val = z := fun s z => by cases s <;> rfl
  have hk1 : k ≤ 1 := by omega
  simp only [List.map_cons, List.map_nil, SV.den, SC.den, hi, hj, hk]
  have := run_sub64E (P := P) i j k hk1 w
  rw [this]
  simp only [Result.andThen, compDen, SC.den, List.map_cons, List.map_nil, hval, sub64v, sub64b, hi, hj, hk, Int.toNat_natCast, Bool.false_eq_true, if_false]
  try rfl
theorem snd_call {c : Call} (hp : PlainNames P) (hce : CESound P ce) (ho : o.op = .call c)
    (h : (match c.callee with
    | .value f => match arg env g f, args env g c.args.toList with
      | some (.one (.fn h)), some vs => callE P ce mem n h vs
      | _, _ => none
    | _ => none) = some e) (hn : ∀ p ∈ e.needs, p) (he : ∀ p ∈ e.eqs, p.1 = p.2)
    (hs : ∀ t ∈ slotsOf c.operands.toList, ∀ y, look env t = some y → entRel θ a t y) (hg : holds a g) (hids : ∀ t y, look env t = some y → ∀ id ∈ idsV y.val, id < n) (hwf : wfMem n mem)
    (hm : memRel θ (restrict mem e.rd) w) (hk : Then K o a n θ w (restrict mem e.touched) e) : o.wp P a w K Q := by
  split at h
  · rename_i f hc
    split at h
    · rename_i fid vs h1 h2
      unfold callE at h
      cases hsb : isSub64 P fid
      case true =>
        rw [hsb] at h
        simp only [cond_true] at h
        have hops : c.operands.toList = f :: c.args.toList := by simp [Call.operands, hc]
        rw [hops] at hs
        have hf := arg_spec h1 (fun t ht => hs t (by rw [slotsOf_cons]; simp [ht])) hg
        have has := args_spec h2 (fun t ht => hs t (by rw [slotsOf_cons]; simp [ht])) hg
        have hmap : c.args.map a.eval = (vs.map (SV.den θ)).toArray := by
          apply Array.toList_inj.1
          simp [has]
        obtain ⟨v, hv, hne, hcall⟩ := run_sub64S hsb h hn
        refine wp_value (v := SV.den θ v) (w' := w) ?_ (hk _ _ _ (EffRel.pure hv hne))
        have hcw := hcall θ w
        generalize SV.den θ v = z at hcw ⊢
        unfold execOp
        simp only [ho]
        simp only [resolve, hc, hf, SV.den, SC.den, Deferred.ofValue, Sem.run_bind, Sem.run_pure, Result.andThen_ok, hmap, invoke]
        simp [hcw]
      rw [hsb] at h
      simp only [cond_false] at h
      unfold callN at h
      cases hlt : Nat.blt fid 1000000
      · rw [hlt] at h; cases h
      rw [hlt] at h
      simp only [cond_true] at h
      have hlt : fid < 1000000 := by simpa using hlt
      split at h
      · rename_i r hr
        obtain ⟨rd, hrd⟩ : ∃ rd, rd = reach mem 3 (idsVs vs) := ⟨_, rfl⟩
        have hnd : e.needs = r.needs ∧ e.eqs = r.eqs ∧ e.rd = rd ∧ e.val = some r.val ∧ ((e.touched = [] ∧ e.ups = [] ∧ roMem (restrict mem rd) = true) ∨ (e.touched = rd ∧ e.ups = r.mem)) := by
          cases hro : (roMem (restrict mem (reach mem 3 (idsVs vs))) && subDom (reach mem 3 (idsVs vs)) r.mem)
          · rw [hro] at h; cases h; exact ⟨rfl, rfl, hrd.symm, rfl, .inr ⟨hrd.symm, rfl⟩⟩
          · rw [hro] at h; cases h
            simp only [Bool.and_eq_true] at hro
            exact ⟨rfl, rfl, hrd.symm, rfl, .inl ⟨rfl, rfl, by rw [hrd]; exact hro.1⟩⟩
        clear h
        obtain ⟨e1, e2, e3, e4, e5⟩ := hnd
        rw [e1] at hn
        rw [e2] at he
        rw [e3] at hm
        rw [← hrd] at hr
        have hops : c.operands.toList = f :: c.args.toList := by simp [Call.operands, hc]
        rw [hops] at hs
        have hf := arg_spec h1 (fun t ht => hs t (by rw [slotsOf_cons]; simp [ht])) hg
        have has := args_spec h2 (fun t ht => hs t (by rw [slotsOf_cons]; simp [ht])) hg
        have hwf' : wfMem n (restrict mem rd) := fun id ob hl => by
          rw [look_restrict] at hl
          split at hl
          · exact hwf id ob hl
          · cases hl
        obtain ⟨h34, h5⟩ := hce fid vs _ n r hr hn he hwf' (args_ids h2 hids) θ w hm
        obtain ⟨fn, h3, h4⟩ := h34 hlt
        have h5 := h5.1 hlt
        have hmap : c.args.map a.eval = (vs.map (SV.den θ)).toArray := by
          apply Array.toList_inj.1
          simp [has]
        have hrun : (execOp a.eval o).run P w = .ok (.enter fid (vs.map (SV.den θ)).toArray) w := by
          unfold execOp
          simp only [ho]
          simp only [resolve, hc, hf, SV.den, SC.den, Deferred.ofValue, Sem.run_bind, Sem.run_pure, Result.andThen_ok, hmap, invoke, run_callFunc hp h3 h4]
          simp
        unfold Oper.wp
        rw [hrun, Oper.upon_enter]
        refine h5.mono fun en w' hen => ?_
        obtain ⟨θ', rfl, h6, h7⟩ := hen
        rcases e5 with ⟨e5, e6, e7⟩ | ⟨e5, e6⟩
        · have hno : ∀ id ob b, look (restrict mem rd) id = some ob → (θ id).blk ≠ some b := fun id ob b hl hb => by
            obtain ⟨ty, es, rw', rfl⟩ := roMem_spec e7 hl
            have := (hm.1 id _ hl).2.1
            rw [this] at hb; cases hb
          refine hk _ θ' w' ⟨by rw [e4], ⟨h6.agree, h6.os, h6.tape, h6.output, h6.size, fun b hb _ => h6.heap b hb fun id ob hl => hno id ob b hl, fun id o b hl => (by rw [e6] at hl; cases hl), fun id o b hl => (by rw [e6] at hl; cases hl)⟩, by rw [e6]; exact memRel_nil _ _⟩
        · refine hk _ θ' w' ⟨by rw [e4], by rw [e5, e6]; exact h6, by rw [e6]; exact h7⟩
      · cases h
    · cases h
  · cases h

/-! #### A struct or an array out of its parts -/
theorem foldl_put (vs : List Value) : ∀ (k off : Nat) (cells : Array Value), off + k + vs.length ≤ cells.size →
    ((vs.zipIdx k).foldl (fun cs (p : Value × Nat) => cs.setIfInBounds (off + p.2) p.1) cells).toList = paste cells.toList (off + k) vs := by
  induction vs with
  | nil => intro k off cells h; rw [paste_eq _ _ _ (by simpa using h)]; simp
  | cons v r ih =>
    intro k off cells h
    simp only [List.zipIdx_cons, List.foldl_cons]
    rw [ih (k + 1) off _ (by simp at h ⊢; omega), paste_eq _ _ _ (by simp at h ⊢; omega), paste_eq _ _ _ (by simp at h ⊢; omega)]
    simp only [Array.toList_setIfInBounds, List.length_cons]
    have e1 : off + (k + 1) = off + k + 1 := by omega
    have e2 : off + k + 1 + r.length = off + k + (r.length + 1) := by omega
    rw [e1, e2]
    generalize off + k = q at *
    have hq : q < cells.toList.length := by simp at h ⊢; omega
    rw [List.take_set, List.drop_set, if_pos (by omega), List.take_succ_eq_append_getElem hq, List.set_append_right _ _ (by simp; omega)]
    have : q - (cells.toList.take q).length = 0 := by simp; omega
    rw [this]
    simp
theorem fillS_spec {place : Nat → Option (Nat × Nat)} : ∀ {ps : List (Nat × List SC)} {cells out : List SC} {vs : List (Nat × Value)}, fillS place cells ps = some out →
    vs.map (fun p => (p.1, p.2.cells.toList)) = ps.map (fun p => (p.1, dens θ p.2)) → Instr.fill place (dens θ cells).toArray vs = some (dens θ out).toArray
  | [], cells, out, vs, h, hv => by
    cases h
    cases vs with
    | nil => rfl
    | cons _ _ => simp at hv
  | (i, v) :: ps, cells, out, vs, h, hv => by
    cases vs with
    | nil => simp at hv
    | cons q vs =>
      obtain ⟨i', v'⟩ := q
      simp only [List.map_cons, List.cons.injEq, Prod.mk.injEq] at hv
      obtain ⟨⟨rfl, hv1⟩, hv2⟩ := hv
      simp only [fillS] at h
      unfold Instr.fill
      split at h
      · cases h
      · rename_i off size hpl
        simp only [hpl]
        cases hq : (Nat.beq v.length size && Nat.ble (off + size) cells.length)
        · rw [hq] at h; cases h
        · rw [hq] at h
          simp only [Bool.and_eq_true] at hq
          have h1 := Nat.eq_of_beq_eq_true hq.1
          have h2 := Nat.le_of_ble_eq_true hq.2
          have hsz : v'.cells.size = v.length := by rw [← Array.length_toList, hv1]; simp [dens]
          have hc : ¬ ((decide (v'.cells.size ≠ size) || decide (off + v'.cells.size > (dens θ cells).toArray.size)) = true) := by
            simp [hsz, h1, dens]; omega
          rw [if_neg hc]
          simp only [cond_true] at h
          have := fillS_spec h hv2
          rw [← this]
          congr 1
          apply Array.toList_inj.1
          have e := foldl_put v'.cells.toList 0 off (dens θ cells).toArray (by simp only [Array.length_toList, hsz, dens, List.size_toArray, List.length_map]; omega)
          rw [← Array.foldl_toList, Array.toList_zipIdx]
          simp only [Nat.add_zero] at e
          rw [e, hv1]
          simp only [dens]
          rw [paste_eq _ _ _ (by simp; omega), paste_eq _ _ _ (by omega)]
          simp [List.map_take, List.map_drop]
theorem parts_spec : ∀ {ps : List (Nat × Operand)} {vs : List (Nat × List SC)}, parts env g ps = some vs → (∀ t ∈ slotsOf (ps.map (·.2)), ∀ e, look env t = some e → entRel θ a t e) → holds a g →
    (ps.map (fun p => (p.1, a.eval p.2))).map (fun p => (p.1, p.2.cells.toList)) = vs.map (fun p => (p.1, dens θ p.2))
  | [], vs, h, _, _ => by cases h; rfl
  | (i, x) :: r, vs, h, hr, hg => by
    simp only [parts] at h
    split at h
    · rename_i v vs' h1 h2
      cases h
      simp only [List.map_cons] at hr
      rw [slotsOf_cons] at hr
      simp only [Option.bind_eq_some_iff] at h1
      obtain ⟨u, h3, h4⟩ := h1
      have h5 := arg_spec h3 (fun t ht => hr t (by simp [ht])) hg
      have h6 := SV.cells_den θ h4
      simp only [List.map_cons, List.cons.injEq, Prod.mk.injEq, true_and]
      exact ⟨by rw [h5, h6], by simpa using parts_spec h2 (fun t ht => hr t (by simp [ht])) hg⟩
    · cases h
theorem getq_toArray (pl : List (Nat × Nat)) : (fun i : Nat => pl[i]?) = (fun i : Nat => pl.toArray[i]?) := by funext i; simp
theorem fieldPlaces_spec : ∀ {fs : List Field} {pl : List (Nat × Nat)}, fieldPlaces P fs = some pl →
    (fs.mapM (fun f => (do pure (f.offset, ← sizeOf f.type) : Sem (Nat × Nat)))).run P w = .ok pl w
  | [], pl, h => by cases h; rfl
  | f :: r, pl, h => by
    simp only [fieldPlaces] at h
    split at h
    · rename_i i ps h1 h2
      cases h
      have h3 : (sizeOf f.type).run P w = .ok i.size w := by simp [sizeOf, typeInfo, go_sem, h1]
      simp only [List.mapM_cons, Sem.run_bind, h3, Result.andThen_ok, Sem.run_pure, fieldPlaces_spec h2]
    · cases h

theorem snd_build {t : TypeId} {ps : Array (Nat × Operand)} (ho : o.op = .build t ps)
    (h : (match P.underlying t, (zeroOf P t).bind SV.cells, parts env g ps.toList with
      | some (.struct fs), some z, some vs => match fieldPlaces P fs.toList with
        | some pl => (fillS (fun i => pl[i]?) z vs).map fun cs => Eff.pure n (.agg cs)
        | none => none
      | some (.array _ e), some z, some vs => match P.info? e with
        | some i => (fillS (fun j => some (j * i.size, i.size)) z vs).map fun cs => Eff.pure n (.agg cs)
        | none => none
      | _, _, _ => none) = some e)
    (hs : ∀ t ∈ slotsOf (ps.toList.map (·.2)), ∀ y, look env t = some y → entRel θ a t y) (hg : holds a g)
    (hk : Then K o a n θ w (restrict mem e.touched) e) : o.wp P a w K Q := by
  have hparts : ∀ vs, parts env g ps.toList = some vs → (ps.map (fun (p : Nat × Operand) => (p.1, a.eval p.2))).toList.map (fun p => (p.1, p.2.cells.toList)) = vs.map (fun p => (p.1, dens θ p.2)) := by
    intro vs hv
    have := parts_spec (θ := θ) hv hs hg
    simpa using this
  have hzero : ∀ z, (zeroOf P t).bind SV.cells = some z → ∃ zv, (zeroValue t).run P w = .ok zv w ∧ zv.cells = (dens θ z).toArray := by
    intro z hz
    simp only [Option.bind_eq_some_iff] at hz
    obtain ⟨v, h1, h2⟩ := hz
    obtain ⟨i, zv, h3, h4, h5, _⟩ := zeroOf_spec h1 θ
    exact ⟨zv, run_zeroValue' h3 h4 w, by rw [← h5]; exact SV.cells_den θ h2⟩
  split at h
  · rename_i fs z vs hu hz hv
    obtain ⟨zv, h1, h2⟩ := hzero z hz
    split at h
    · rename_i pl hpl
      simp only [Option.map_eq_some_iff] at h
      obtain ⟨cs, h3, rfl⟩ := h
      refine wp_value (v := SV.den θ (.agg cs)) (w' := w) ?_ (hk _ _ _ (EffRel.pure (x := .agg cs) rfl rfl))
      unfold execOp
      simp only [ho]
      refine run_v ?_
      have hplaces : (fs.mapM (fun f => (do pure (f.offset, ← sizeOf f.type) : Sem (Nat × Nat)))).run P w = .ok pl.toArray w := by
        have := fieldPlaces_spec (w := w) hpl
        rw [← Array.toArray_toList (xs := fs), List.mapM_toArray]
        rw [Sem.run_map, this, Result.andThen_ok]
      have hfill := fillS_spec (θ := θ) (vs := (ps.map (fun (p : Nat × Operand) => (p.1, a.eval p.2))).toList) h3 (hparts vs hv)
      rw [getq_toArray] at hfill
      simp only [Instr.build, Sem.run_bind, h1, Result.andThen_ok, run_underlying hu, hplaces, h2, hfill, Sem.run_pure, SV.den]
    · cases h
  · rename_i e' z vs hu hz hv
    obtain ⟨zv, h1, h2⟩ := hzero z hz
    split at h
    · rename_i i hi
      simp only [Option.map_eq_some_iff] at h
      obtain ⟨cs, h3, rfl⟩ := h
      refine wp_value (v := SV.den θ (.agg cs)) (w' := w) ?_ (hk _ _ _ (EffRel.pure (x := .agg cs) rfl rfl))
      unfold execOp
      simp only [ho]
      refine run_v ?_
      have hfill := fillS_spec (θ := θ) (vs := (ps.map (fun (p : Nat × Operand) => (p.1, a.eval p.2))).toList) h3 (hparts vs hv)
      have hsz : (sizeOf e').run P w = .ok i.size w := by simp [sizeOf, typeInfo, go_sem, hi]
      simp only [Instr.build, Sem.run_bind, h1, Result.andThen_ok, run_underlying hu, hsz, h2, hfill, Sem.run_pure, SV.den]
    · cases h
  · cases h
end each
end Go.SX
namespace Go.SX
open Go.RowKit

/-! ### Merging two values -/
theorem mergeI_val (c : Bool) (x y : SI) : (mergeI c x y).val = cond c x.val y.val := by
  cases x <;> cases y <;> try rfl
  rename_i a b
  simp only [mergeI]
  by_cases h : a = b
  · subst h; cases c <;> simp [SI.val]
  · simp [h, SI.val]
theorem mergeB_val (c : Bool) (x y : SB) : (mergeB c x y).val = cond c x.val y.val := by
  cases c <;> rcases x with a | a <;> rcases y with b | b <;> cases a <;> cases b <;> rfl
theorem mergeC_den (θ : Th) (c : Bool) {x y z : SC} (h : mergeC c x y = some z) : z.den θ = cond c (x.den θ) (y.den θ) ∧ ∀ id ∈ idsC z, id ∈ idsC x ∧ id ∈ idsC y := by
  cases x <;> cases y <;> simp only [mergeC, reduceCtorEq] at h
  · rename_i k x j y
    cases hk : kindEq k j
    · rw [hk] at h; cases h
    · rw [hk] at h; cases h
      have := kindEq_spec hk; subst this
      exact ⟨by simp only [SC.den, mergeI_val]; cases c <;> rfl, by simp [idsC]⟩
  · cases h
    exact ⟨by simp only [SC.den, mergeB_val]; cases c <;> rfl, by simp [idsC]⟩
  · rename_i i o j p
    cases hk : (Nat.beq i j && Nat.beq o p)
    · rw [hk] at h; cases h
    · rw [hk] at h; cases h
      simp only [Bool.and_eq_true] at hk
      have h1 := Nat.eq_of_beq_eq_true hk.1
      have h2 := Nat.eq_of_beq_eq_true hk.2
      subst h1; subst h2
      exact ⟨by cases c <;> rfl, fun _ h => ⟨h, h⟩⟩
  · rename_i i j
    cases hk : Nat.beq i j
    · rw [hk] at h; cases h
    · rw [hk] at h; cases h
      have h1 := Nat.eq_of_beq_eq_true hk
      subst h1
      exact ⟨by cases c <;> rfl, fun _ h => ⟨h, h⟩⟩
  · cases h; exact ⟨by cases c <;> rfl, fun _ h => ⟨h, h⟩⟩
  · cases h; exact ⟨by cases c <;> rfl, fun _ h => ⟨h, h⟩⟩
  · rename_i f j
    cases hk : Nat.beq f j
    · rw [hk] at h; cases h
    · rw [hk] at h; cases h
      have h1 := Nat.eq_of_beq_eq_true hk
      subst h1
      exact ⟨by cases c <;> rfl, fun _ h => ⟨h, h⟩⟩
theorem mergeCs_den (θ : Th) (c : Bool) : ∀ {x y z : List SC}, mergeCs c x y = some z → dens θ z = cond c (dens θ x) (dens θ y) ∧ z.length = x.length ∧ z.length = y.length ∧ ∀ id ∈ idsCs z, id ∈ idsCs x ∧ id ∈ idsCs y
  | [], [], z, h => by cases h; exact ⟨by cases c <;> rfl, rfl, rfl, fun _ h => ⟨h, h⟩⟩
  | [], _ :: _, _, h => by cases h
  | _ :: _, [], _, h => by cases h
  | x :: r, y :: s, z, h => by
    simp only [mergeCs] at h
    split at h
    · rename_i u t h1 h2
      cases h
      obtain ⟨h3, h4⟩ := mergeC_den θ c h1
      obtain ⟨h5, h6, h7, h8⟩ := mergeCs_den θ c h2
      refine ⟨?_, by simp [h6], by simp [h7], fun id hi => ?_⟩
      · simp only [dens, List.map_cons] at h5 ⊢
        rw [h3, h5]; cases c <;> rfl
      · simp only [idsCs_nil, idsCs_cons, List.mem_append] at hi ⊢
        rcases hi with hi | hi
        · exact ⟨.inl (h4 id hi).1, .inl (h4 id hi).2⟩
        · exact ⟨.inr (h8 id hi).1, .inr (h8 id hi).2⟩
    · cases h
theorem compDen_eq (θ : Th) (b : Bool) (cs : List SC) : compDen θ (b, cs) = (match b, dens θ cs with | false, [v] => v | _, l => .agg l.toArray) := by
  cases b
  · match cs with
    | [] => rfl
    | [c] => rfl
    | c :: d :: r => rfl
  · simp [compDen]
theorem mergeTup_den (θ : Th) (c : Bool) : ∀ {x y z : List (Bool × List SC)}, mergeTup c x y = some z → z.map (compDen θ) = cond c (x.map (compDen θ)) (y.map (compDen θ)) ∧ ∀ id ∈ idsTup z, id ∈ idsTup x ∧ id ∈ idsTup y
  | [], [], z, h => by cases h; exact ⟨by cases c <;> rfl, fun _ h => ⟨h, h⟩⟩
  | [], _ :: _, _, h => by cases h
  | _ :: _, [], _, h => by cases h
  | (p, x) :: r, (q, y) :: s, z, h => by
    simp only [mergeTup] at h
    cases hpq : (p == q)
    · rw [hpq] at h; cases h
    · rw [hpq] at h
      have := eq_of_beq hpq; subst this
      simp only [cond_true] at h
      split at h
      · rename_i u t h1 h2
        cases h
        obtain ⟨h3, _, _, h6⟩ := mergeCs_den θ c h1
        obtain ⟨h4, h5⟩ := mergeTup_den θ c h2
        refine ⟨?_, fun id hi => ?_⟩
        · simp only [List.map_cons, compDen_eq, h3, h4]
          cases c <;> rfl
        · simp only [idsTup, List.mem_append] at hi ⊢
          rcases hi with hi | hi
          · exact ⟨.inl (h6 id hi).1, .inl (h6 id hi).2⟩
          · exact ⟨.inr (h5 id hi).1, .inr (h5 id hi).2⟩
      · cases h
theorem mergeV_den (θ : Th) (c : Bool) {x y z : SV} (h : mergeV c x y = some z) : z.den θ = cond c (x.den θ) (y.den θ) ∧ ∀ id ∈ idsV z, id ∈ idsV x ∧ id ∈ idsV y := by
  cases x <;> cases y <;> simp only [mergeV, reduceCtorEq, Option.map_eq_some_iff] at h
  · obtain ⟨u, h1, rfl⟩ := h
    exact mergeC_den θ c h1
  · obtain ⟨u, h1, rfl⟩ := h
    obtain ⟨h2, _, _, h3⟩ := mergeCs_den θ c h1
    exact ⟨by simp only [SV.den, h2]; cases c <;> rfl, h3⟩
  · obtain ⟨u, h1, rfl⟩ := h
    obtain ⟨h2, h3⟩ := mergeTup_den θ c h1
    exact ⟨by simp only [SV.den, h2]; cases c <;> rfl, h3⟩


/-! ### Elements -/
theorem encC_ids {c : SC} {x : CK × Int} (h : encC c = some x) : idsC c = [] := by
  cases c <;> first | rfl | (simp [encC] at h)
theorem encCs_ids : ∀ {cs : List SC} {l : List (CK × Int)}, encCs cs = some l → idsCs cs = []
  | [], _, _ => rfl
  | c :: r, l, h => by
    simp only [encCs] at h
    split at h
    · rename_i x xs h1 h2
      simp [idsCs_nil, idsCs_cons, encC_ids h1, encCs_ids h2]
    · cases h
theorem decodeF_length : ∀ (ks : List CK) (xs : List Int) (j : Nat), (decodeF ks xs j).length = ks.length
  | [], _, _ => rfl
  | _ :: r, xs, j => by simp [decodeF, decodeF_length r]
theorem decodeF_ids : ∀ (ks : List CK) (xs : List Int) (j : Nat), idsCs (decodeF ks xs j) = []
  | [], _, _ => rfl
  | k :: r, xs, j => by cases k <;> simp [decodeF, idsCs_nil, idsCs_cons, decodeF_ids r, CK.cell, idsC]
theorem rowLen_val (r : RowC) : (rowLen r).val = r.rows.length := by
  cases r <;> simp [rowLen, RowC.rows, SN.val]
theorem chain_spec (i : Nat) : ∀ {rows : List (List SC)} {k : Nat} {t : List SC}, chain i rows k = some t → k ≤ i → i < k + rows.length →
    ∃ row, rows[i - k]? = some row ∧ t.length = row.length ∧ (∀ θ, dens θ t = dens θ row) ∧ ((∀ r ∈ rows, idsCs r = []) → idsCs t = [])
  | [], _, _, h, _, _ => by cases h
  | [r], k, t, h, h1, h2 => by
    simp only [chain, Option.some.injEq] at h
    subst h
    have : i - k = 0 := by simp at h2; omega
    exact ⟨r, by rw [this]; rfl, rfl, fun _ => rfl, fun h => h r (by simp)⟩
  | r :: s :: rest, k, t, h, h1, h2 => by
    simp only [chain] at h
    split at h
    · rename_i u hu
      have hm := fun θ => mergeCs_den θ _ h
      have hid : idsCs r = [] → idsCs t = [] := fun hr => List.eq_nil_iff_forall_not_mem.2 fun x hx => by
        have := ((hm Th.none).2.2.2 x hx).1
        rw [hr] at this; cases this
      by_cases hik : i = k
      · subst hik
        refine ⟨r, by simp, (hm Th.none).2.1, fun θ => by rw [(hm θ).1]; simp, fun hids => hid (hids r (by simp))⟩
      · obtain ⟨row, h3, h4, h5, h6⟩ := chain_spec i hu (by omega) (by simp at h2 ⊢; omega)
        refine ⟨row, ?_, by rw [(hm Th.none).2.2.1, h4], fun θ => ?_, fun hids => hid (hids r (by simp))⟩
        · rw [show i - k = (i - (k + 1)) + 1 from by omega]
          simpa using h3
        · rw [(hm θ).1, beq_ne hik]; exact h5 θ
    · cases h
theorem rowAt_spec {r : RowC} {i : SN} {cs : List SC} {q : List Prop} {esz : Nat} (h : rowAt r i = some (cs, q)) (hq : ∀ p ∈ q, p) (hok : rowOk esz r.rows) :
    ∃ row, r.rows[i.val]? = some row ∧ cs.length = row.length ∧ idsCs cs = [] ∧ ∀ θ, dens θ cs = dens θ row := by
  unfold rowAt at h
  split at h
  · rename_i tg rows k
    split at h
    · rename_i row hr
      cases h
      exact ⟨cs, hr, rfl, (hok.2 _ (List.mem_of_getElem? hr)).2, fun _ => rfl⟩
    · cases h
  · rename_i tg rows k
    split at h
    · rename_i t ht
      cases h
      have hlt : k < rows.length := hq _ (by simp)
      obtain ⟨row, h1, h2, h3, h4⟩ := chain_spec k ht (Nat.zero_le _) (by omega)
      exact ⟨row, h1, h2, h4 fun r hr => (hok.2 r hr).2, h3⟩
    · cases h
  · rename_i tag ks xs
    cases h
    have hlt : i.val < xs.length := hq _ (by simp)
    refine ⟨decode ks xs[i.val], ?_, ?_, decodeF_ids _ _ _, fun θ => ?_⟩
    · simp [RowC.rows, hlt]
    · simp [decode, decodeF_length]
    · rw [List.getD_eq_getElem?_getD, List.getElem?_eq_getElem hlt]; rfl
theorem flatten_get {α : Type} {esz : Nat} : ∀ {rows : List (List α)} {i : Nat} {row : List α} {k : Nat}, (∀ r ∈ rows, r.length = esz) → rows[i]? = some row → k < esz → rows.flatten[i * esz + k]? = row[k]?
  | [], _, _, _, _, h, _ => by simp at h
  | r :: rs, 0, row, k, hl, h, hk => by
    simp only [List.getElem?_cons_zero, Option.some.injEq] at h
    subst h
    have := hl r (by simp)
    simp only [List.flatten_cons, Nat.zero_mul, Nat.zero_add]
    rw [List.getElem?_append_left (by omega)]
  | r :: rs, i + 1, row, k, hl, h, hk => by
    have h1 := hl r (by simp)
    simp only [List.flatten_cons]
    rw [List.getElem?_append_right (by rw [h1, Nat.add_mul]; omega), h1, show (i + 1) * esz + k - esz = i * esz + k from by rw [Nat.add_mul]; omega]
    exact flatten_get (fun r hr => hl r (by simp [hr])) (by simpa using h) hk
theorem flatten_length {α : Type} {esz : Nat} : ∀ {rows : List (List α)}, (∀ r ∈ rows, r.length = esz) → rows.flatten.length = rows.length * esz
  | [], _ => by simp
  | r :: rs, h => by
    rw [List.flatten_cons, List.length_append, h r (by simp), flatten_length fun r hr => h r (by simp [hr]), List.length_cons, Nat.add_mul]
    omega

/-- Where a row's cells lie. -/
theorem row_at {θ : Th} {w : World} {id ty esz : Nat} {ro : Bool} {r : RowC} (h : objRel θ w id (.row ro ty esz r)) :
    rowOk esz r.rows ∧ (θ id).len = r.rows.length ∧ r.rows.length ≤ (θ id).cap ∧ (r.rows ≠ [] → ∃ a, (θ id).ad = some a ∧ ∀ (j : Nat) (u : Value), (dens θ r.rows.flatten)[j]? = some u → w.cell? (a.add j) = some u) := by
  cases ro
  · obtain ⟨h0, h1, h2, h3⟩ := h
    refine ⟨h0, h1, ?_, fun hne => ?_⟩
    · rcases h3.2 with ⟨_, hn⟩ | ⟨g, cap, cur, hv, _, _, h4, _⟩
      · omega
      · injection hv with _ _ hc
        omega
    · rcases h2 with ⟨_, _, h4, _⟩ | ⟨b, _, _, h4⟩
      · exfalso
        rcases h3.2 with ⟨_, hn⟩ | ⟨g, cap, cur, hv, _⟩
        · exact hne (List.eq_nil_of_length_eq_zero hn)
        · rw [h4] at hv; injection hv with hv; cases hv
      · exact ⟨⟨b, 0, none⟩, h4, h3.cells (by rw [h4]; rfl)⟩
  · obtain ⟨h0, _, h1, h2, h3⟩ := h
    refine ⟨h0, h1, h2, fun hne => ?_⟩
    rcases h3 with ⟨_, _, hn⟩ | ⟨a, h4, _, _, h5⟩
    · exact absurd (List.eq_nil_of_length_eq_zero hn) hne
    · exact ⟨a, h4, h5⟩
theorem elem_at {θ : Th} {w : World} {id ty esz : Nat} {ro : Bool} {r : RowC} (h : objRel θ w id (.row ro ty esz r)) {i off : Nat} {row : List SC} (hi : r.rows[i]? = some row) :
    ∃ a, (θ id).ad = some a ∧ ∀ (j : Nat) (u : Value), ((dens θ row).drop off)[j]? = some u → w.cell? (a.add (i * esz + off + j)) = some u := by
  obtain ⟨h0, _, _, h3⟩ := row_at h
  obtain ⟨a, h4, h5⟩ := h3 (fun e => by rw [e] at hi; simp at hi)
  refine ⟨a, h4, fun j u hu => h5 _ u ?_⟩
  rw [List.getElem?_drop] at hu
  have hlen := (h0.2 row (List.mem_of_getElem? hi)).1
  have hk : off + j < esz := by
    have := (List.getElem?_eq_some_iff.1 hu).1
    simp only [dens, List.length_map] at this
    omega
  have := flatten_get (fun r hr => (h0.2 r hr).1) hi hk
  simp only [dens, List.getElem?_map, Nat.add_assoc] at hu ⊢
  rw [this]
  exact hu

/-! ### Lists of integers -/
theorem decodeF_get : ∀ (ks : List CK) (L : List Int) (j i : Nat), (decodeF ks L j)[i]? = (ks[i]?).map fun k => k.cell (L.getD (j + i) 0)
  | [], _, _, _ => by simp [decodeF]
  | k :: r, L, j, 0 => by simp [decodeF]
  | k :: r, L, j, i + 1 => by
    simp only [decodeF, List.getElem?_cons_succ]
    rw [decodeF_get r L (j + 1) i, show j + 1 + i = j + (i + 1) from by omega]
theorem encC_den {c : SC} {k j : CK} {x : Int} (h : encC c = some (j, x)) (hk : ckEq k j = true) (θ : Th) : (k.cell x).den θ = c.den θ := by
  cases c <;> simp only [encC, reduceCtorEq, Option.some.injEq, Prod.mk.injEq] at h
  · obtain ⟨rfl, rfl⟩ := h
    cases k <;> simp only [ckEq, Bool.false_eq_true] at hk
    rw [kindEq_spec hk]; rfl
  · rename_i b
    cases b with
    | c b =>
      simp only [Option.some.injEq, Prod.mk.injEq] at h
      obtain ⟨rfl, rfl⟩ := h
      cases k <;> simp only [ckEq, Bool.false_eq_true] at hk
      cases b <;> rfl
    | v b =>
      simp only [Option.some.injEq, Prod.mk.injEq] at h
      obtain ⟨rfl, rfl⟩ := h
      cases k <;> simp only [ckEq, Bool.false_eq_true] at hk
      cases b <;> rfl
theorem fit_den : ∀ {ks : List CK} {cs : List SC} {l : List (CK × Int)} {xs L : List Int} {j : Nat}, encCs cs = some l → fitK ks l = some xs → (∀ i, L.getD (j + i) 0 = xs.getD i 0) →
    ks.length = cs.length ∧ xs.length = cs.length ∧ ∀ θ, dens θ (decodeF ks L j) = dens θ cs
  | [], cs, l, xs, L, j, h, hf, _ => by
    cases l with
    | nil =>
      cases cs with
      | nil => simp only [fitK, Option.some.injEq] at hf; subst hf; exact ⟨rfl, rfl, fun _ => rfl⟩
      | cons c r =>
        simp only [encCs] at h
        split at h <;> cases h
    | cons _ _ => cases hf
  | k :: ks, cs, l, xs, L, j, h, hf, hL => by
    cases l with
    | nil => cases hf
    | cons p l =>
      obtain ⟨kj, x⟩ := p
      simp only [fitK] at hf
      cases hk : ckEq k kj
      · rw [hk] at hf; cases hf
      rw [hk] at hf
      simp only [cond_true, Option.map_eq_some_iff] at hf
      obtain ⟨ys, h1, rfl⟩ := hf
      cases cs with
      | nil => simp [encCs] at h
      | cons c r =>
        simp only [encCs] at h
        split at h
        · rename_i y yl h2 h3
          simp only [Option.some.injEq, List.cons.injEq] at h
          obtain ⟨rfl, rfl⟩ := h
          obtain ⟨h4, h5, h6⟩ := fit_den (L := L) (j := j + 1) h3 h1 fun i => by
            have := hL (i + 1)
            rw [show j + (i + 1) = j + 1 + i from by omega] at this
            simpa using this
          refine ⟨by simp [h4], by simp [h5], fun θ => ?_⟩
          simp only [decodeF, dens, List.map_cons, List.cons.injEq]
          refine ⟨?_, h6 θ⟩
          have := hL 0
          simp only [Nat.add_zero, List.getD_cons_zero] at this
          rw [this]
          exact encC_den h2 hk θ
        · cases h
theorem fit_dec {ks : List CK} {cs : List SC} {xs : List Int} (h : (encCs cs).bind (fitK ks) = some xs) : ks.length = cs.length ∧ xs.length = cs.length ∧ ∀ θ, dens θ (decode ks xs) = dens θ cs := by
  simp only [Option.bind_eq_some_iff] at h
  obtain ⟨l, h1, h2⟩ := h
  exact fit_den h1 h2 fun i => by simp
theorem ckEq_spec {a b : CK} (h : ckEq a b = true) : a = b := by
  cases a <;> cases b <;> simp only [ckEq, Bool.false_eq_true] at h
  · rw [kindEq_spec h]
  · rfl
theorem cksEq_spec : ∀ {a b : List CK}, cksEq a b = true → a = b
  | [], [], _ => rfl
  | [], _ :: _, h => by cases h
  | _ :: _, [], h => by cases h
  | a :: r, b :: s, h => by
    simp only [cksEq, Bool.and_eq_true] at h
    rw [ckEq_spec h.1, cksEq_spec h.2]
theorem dens_flatten (θ : Th) (rows : List (List SC)) : dens θ rows.flatten = (rows.map (dens θ)).flatten := by
  induction rows with
  | nil => rfl
  | cons r rs ih => simp only [List.flatten_cons, List.map_cons, ← ih, dens, List.map_append]
theorem encRows_spec {ks : List CK} {esz : Nat} : ∀ {rows : List (List SC)} {xs : List (List Int)}, encRows ks rows = some xs → (∀ r ∈ rows, r.length = esz) →
    xs.length = rows.length ∧ (∀ r ∈ xs.map (decode ks), r.length = esz ∧ idsCs r = []) ∧ ∀ θ, (xs.map (decode ks)).map (dens θ) = rows.map (dens θ)
  | [], xs, h, _ => by cases h; exact ⟨rfl, by simp, fun _ => rfl⟩
  | r :: rs, xs, h, hl => by
    simp only [encRows] at h
    split at h
    · rename_i x ys h1 h2
      cases h
      obtain ⟨h3, h4, h5⟩ := fit_dec h1
      obtain ⟨h6, h7, h8⟩ := encRows_spec h2 fun r hr => hl r (by simp [hr])
      refine ⟨by simp [h6], fun q hq => ?_, fun θ => ?_⟩
      · simp only [List.map_cons, List.mem_cons] at hq
        rcases hq with rfl | hq
        · exact ⟨by rw [decode, decodeF_length, h3]; exact hl _ (by simp), decodeF_ids _ _ _⟩
        · exact h7 q hq
      · simp only [List.map_cons, List.cons.injEq]
        exact ⟨h5 θ, h8 θ⟩
    · cases h
/-- Row behind row. -/
theorem joinRows_spec {n esz : Nat} {r1 r2 r : RowC} (h : joinRows n r1 r2 = some r) (h1 : rowOk esz r1.rows) (h2 : rowOk esz r2.rows) :
    rowOk esz r.rows ∧ r.rows.length = r1.rows.length + r2.rows.length ∧ ∀ θ, r.rows.map (dens θ) = r1.rows.map (dens θ) ++ r2.rows.map (dens θ) := by
  have both : ∀ {a b c : List (List SC)}, rowOk esz a → (∀ r ∈ b, r.length = esz ∧ idsCs r = []) → c = a ++ b → rowOk esz c := fun ha hb hc => ⟨ha.1, fun r hr => by
    rw [hc, List.mem_append] at hr
    exact hr.elim (ha.2 r) (hb r)⟩
  cases r1 <;> cases r2 <;> simp only [joinRows, Option.some.injEq, Option.map_eq_some_iff] at h
  · subst h
    exact ⟨both h1 h2.2 (by simp [RowC.rows]), by simp [RowC.rows], fun θ => by simp [RowC.rows]⟩
  · obtain ⟨xs, h3, rfl⟩ := h
    obtain ⟨h4, h5, h6⟩ := encRows_spec h3 fun r hr => (h1.2 r hr).1
    refine ⟨⟨h1.1, fun r hr => ?_⟩, by simp [RowC.rows, h4], fun θ => ?_⟩
    · simp only [RowC.rows, List.map_append, List.mem_append] at hr
      exact hr.elim (h5 r) (h2.2 r)
    · have := h6 θ
      simp only [RowC.rows, List.map_append] at this ⊢
      rw [this]
  · obtain ⟨xs, h3, rfl⟩ := h
    obtain ⟨h4, h5, h6⟩ := encRows_spec h3 fun r hr => (h2.2 r hr).1
    refine ⟨⟨h1.1, fun r hr => ?_⟩, by simp [RowC.rows, h4], fun θ => ?_⟩
    · simp only [RowC.rows, List.map_append, List.mem_append] at hr
      exact hr.elim (h1.2 r) (h5 r)
    · have := h6 θ
      simp only [RowC.rows, List.map_append] at this ⊢
      rw [this]
  · rename_i t1 ks xs t2 js ys
    cases hk : cksEq ks js
    · rw [hk] at h; cases h
    rw [hk] at h
    have := cksEq_spec hk; subst this
    cases h
    exact ⟨both h1 h2.2 (by simp [RowC.rows]), by simp [RowC.rows], fun θ => by simp [RowC.rows]⟩
/-- A part of a row. -/
theorem partRow_spec {t : Nat} {r r' : RowC} {o m : SN} (h : partRow t r o m = some r') : r'.rows = (r.rows.drop o.val).take m.val := by
  unfold partRow at h
  split at h
  · cases h; simp [RowC.rows, SN.val, List.map_take, List.map_drop]
  · cases h
  · cases h; simp [RowC.rows, List.map_take, List.map_drop]
theorem flatten_part {α : Type} {esz : Nat} {rows : List (List α)} (h : ∀ r ∈ rows, r.length = esz) (o m : Nat) : ((rows.drop o).take m).flatten = (rows.flatten.drop (o * esz)).take (m * esz) := by
  have hd : ∀ {rows : List (List α)} (o : Nat), (∀ r ∈ rows, r.length = esz) → (rows.drop o).flatten = rows.flatten.drop (o * esz) := by
    intro rows
    induction rows with
    | nil => intro o _; simp
    | cons r rs ih =>
      intro o h
      cases o with
      | zero => simp
      | succ o =>
        have := h r (by simp)
        have e1 : r.drop ((o + 1) * esz) = [] := List.drop_eq_nil_of_le (by rw [this, Nat.add_mul]; omega)
        have e2 : (o + 1) * esz - esz = o * esz := by rw [Nat.add_mul]; omega
        rw [List.drop_succ_cons, ih o fun r hr => h r (by simp [hr]), List.flatten_cons, List.drop_append, this, e1, e2, List.nil_append]
  have ht : ∀ {rows : List (List α)} (m : Nat), (∀ r ∈ rows, r.length = esz) → (rows.take m).flatten = rows.flatten.take (m * esz) := by
    intro rows
    induction rows with
    | nil => intro m _; simp
    | cons r rs ih =>
      intro m h
      cases m with
      | zero => simp
      | succ m =>
        have := h r (by simp)
        have e1 : r.take ((m + 1) * esz) = r := List.take_of_length_le (by rw [this, Nat.add_mul]; omega)
        have e2 : (m + 1) * esz - esz = m * esz := by rw [Nat.add_mul]; omega
        rw [List.take_succ_cons, List.flatten_cons, ih m fun r hr => h r (by simp [hr]), List.flatten_cons, List.take_append, this, e1, e2]
  rw [ht m fun r hr => h r (List.mem_of_mem_drop hr), hd o h]
/-- A row with one element changed. -/
theorem flatten_set {α : Type} {esz : Nat} : ∀ {rows : List (List α)} {i : Nat} {row row' : List α}, (∀ r ∈ rows, r.length = esz) → rows[i]? = some row → row'.length = esz →
    (rows.set i row').flatten = rows.flatten.take (i * esz) ++ row' ++ rows.flatten.drop (i * esz + esz)
  | [], _, _, _, _, h, _ => by simp at h
  | r :: rs, 0, row, row', hl, h, h' => by
    have := hl r (by simp)
    simp only [List.set_cons_zero, List.flatten_cons, Nat.zero_mul, List.take_zero, List.nil_append, Nat.zero_add]
    rw [List.drop_append, this, List.drop_eq_nil_of_le (by omega)]
    simp
  | r :: rs, i + 1, row, row', hl, h, h' => by
    have h1 := hl r (by simp)
    simp only [List.set_cons_succ, List.flatten_cons]
    have e1 : r.take ((i + 1) * esz) = r := List.take_of_length_le (by rw [h1, Nat.add_mul]; omega)
    have e2 : r.drop ((i + 1) * esz + esz) = [] := List.drop_eq_nil_of_le (by rw [h1, Nat.add_mul]; omega)
    have e3 : (i + 1) * esz - esz = i * esz := by rw [Nat.add_mul]; omega
    have e4 : (i + 1) * esz + esz - esz = i * esz + esz := by rw [Nat.add_mul]; omega
    rw [flatten_set (esz := esz) (fun r hr => hl r (by simp [hr])) (by simpa using h) h', List.take_append, List.drop_append, h1, e1, e2, e3, e4]
    simp
theorem overF_get (off : Nat) (ys row : List Int) : ∀ (m j i : Nat), i < m → (overF m j off ys row).getD i 0 = if off ≤ j + i ∧ j + i < off + ys.length then ys.getD (j + i - off) 0 else row.getD (j + i) 0
  | 0, _, _, h => by omega
  | m + 1, j, 0, _ => by
    simp only [overF, List.getD_cons_zero, Nat.add_zero]
    by_cases h : off ≤ j ∧ j < off + ys.length
    · rw [if_pos h]
      have : (Nat.ble off j && Nat.blt j (off + ys.length)) = true := by
        simp only [Bool.and_eq_true, Nat.blt_eq]
        exact ⟨Nat.ble_eq_true_of_le h.1, h.2⟩
      rw [this]; rfl
    · rw [if_neg h]
      have : (Nat.ble off j && Nat.blt j (off + ys.length)) = false := by
        rw [Bool.eq_false_iff]
        intro h'
        simp only [Bool.and_eq_true, Nat.blt_eq] at h'
        exact h ⟨Nat.le_of_ble_eq_true h'.1, h'.2⟩
      rw [this]; rfl
  | m + 1, j, i + 1, h => by
    simp only [overF, List.getD_cons_succ]
    rw [overF_get off ys row m (j + 1) i (by omega), show j + 1 + i = j + (i + 1) from by omega]
theorem storeR_spec {n esz off : Nat} {i : SN} {vs : List SC} {r r' : RowC} {q : List Prop} (h : storeR n esz i off vs r = some (r', q)) (hq : ∀ p ∈ q, p) (hok : rowOk esz r.rows) :
    ∃ row row', r.rows[i.val]? = some row ∧ off + vs.length ≤ esz ∧ r'.rows = r.rows.set i.val row' ∧ row'.length = esz ∧ idsCs row' = [] ∧ ∀ θ, dens θ row' = (dens θ row).take off ++ dens θ vs ++ (dens θ row).drop (off + vs.length) := by
  unfold storeR at h
  split at h
  · rename_i tg rows
    split at h
    case h_2 => cases h
    rename_i k
    split at h
    case h_2 => cases h
    rename_i row hr
    cases hc : (Nat.ble (off + vs.length) row.length && (encCs vs).isSome)
    · rw [hc] at h; cases h
    rw [hc] at h; cases h
    simp only [Bool.and_eq_true] at hc
    have hfit := Nat.le_of_ble_eq_true hc.1
    have hids : idsCs vs = [] := by
      obtain ⟨l, hl⟩ := Option.isSome_iff_exists.1 hc.2
      exact encCs_ids hl
    obtain ⟨h1, h2⟩ := hok.2 _ (List.mem_of_getElem? hr)
    have hnew : paste row off vs = row.take off ++ vs ++ row.drop (off + vs.length) := paste_eq _ _ _ hfit
    refine ⟨row, paste row off vs, hr, by omega, rfl, ?_, ?_, fun θ => ?_⟩
    · rw [paste_length, h1]
    · rw [hnew, idsCs_append, idsCs_append, hids]
      have hsub : ∀ l : List SC, idsCs l = [] → ∀ k, idsCs (l.take k) = [] ∧ idsCs (l.drop k) = [] := by
        intro l
        induction l with
        | nil => intro _ k; simp [idsCs_nil]
        | cons c r ih =>
          intro hl k
          simp only [idsCs_cons, List.append_eq_nil_iff] at hl
          cases k with
          | zero => simp [idsCs_nil, idsCs_cons, hl]
          | succ k => simp [idsCs_cons, hl.1, ih hl.2 k]
      rw [(hsub _ h2 off).1, (hsub _ h2 _).2]; rfl
    · rw [hnew]; simp [dens, List.map_take, List.map_drop]
  · rename_i tag ks xs
    split at h
    case h_2 => cases h
    rename_i ys hy
    cases hc : (Nat.beq ks.length esz && Nat.ble (off + vs.length) esz)
    · rw [hc] at h; cases h
    rw [hc] at h; cases h
    simp only [Bool.and_eq_true] at hc
    have hks := Nat.eq_of_beq_eq_true hc.1
    have hfit := Nat.le_of_ble_eq_true hc.2
    have hlt : i.val < xs.length := hq _ (by simp)
    obtain ⟨h3, h4, h5⟩ := fit_dec hy
    refine ⟨decode ks xs[i.val], decode ks (overF esz 0 off ys (xs.getD i.val [])), by simp [RowC.rows, hlt], hfit, by simp [RowC.rows, List.map_set], by rw [decode, decodeF_length, hks], decodeF_ids _ _ _, fun θ => ?_⟩
    rw [← h5 θ, List.getD_eq_getElem?_getD, List.getElem?_eq_getElem hlt, Option.getD_some]
    have hlen : (dens θ (decode ks xs[i.val])).length = esz := by rw [dens, List.length_map, decode, decodeF_length, hks]
    have hvl : (dens θ (decode (cut ks off vs.length) ys)).length = vs.length := by rw [h5 θ]; simp [dens]
    apply List.ext_getElem?
    intro j
    have hget : ∀ (ks : List CK) (L : List Int) (j : Nat), (dens θ (decode ks L))[j]? = (ks[j]?).map fun k => (k.cell (L.getD j 0)).den θ := by
      intro ks L j
      simp only [dens, decode, List.getElem?_map, decodeF_get, Nat.zero_add, Option.map_map]
      rfl
    by_cases hj : j < esz
    · rw [hget, overF_get off ys _ esz 0 j hj]
      simp only [Nat.zero_add]
      have hkj : j < ks.length := by omega
      rw [List.getElem?_eq_getElem hkj]
      by_cases h6 : j < off
      · rw [List.append_assoc, List.getElem?_append_left (by simp [hlen]; omega), List.getElem?_take, if_pos h6, hget, if_neg (by omega), List.getElem?_eq_getElem hkj]
      · by_cases h7 : j < off + vs.length
        · rw [List.append_assoc, List.getElem?_append_right (by simp; omega), List.getElem?_append_left (by simp [hvl, hlen]; omega), hget, if_pos (by omega), cut_eq]
          have e1 : j - (List.take off (dens θ (decode ks xs[i.val]))).length = j - off := by simp [hlen]; omega
          rw [e1, List.getElem?_take, if_pos (by omega), List.getElem?_drop, show off + (j - off) = j from by omega, List.getElem?_eq_getElem hkj]
        · rw [List.getElem?_append_right (by simp [hvl, hlen]; omega), List.getElem?_drop, if_neg (by omega)]
          have e1 : off + vs.length + (j - (List.take off (dens θ (decode ks xs[i.val])) ++ dens θ (decode (cut ks off vs.length) ys)).length) = j := by
            simp only [List.length_append, List.length_take, hlen, hvl]; omega
          rw [e1, hget, List.getElem?_eq_getElem hkj]
    · rw [List.getElem?_eq_none (by rw [dens, List.length_map, decode, decodeF_length]; omega), List.getElem?_eq_none (by simp only [List.length_append, List.length_take, List.length_drop, hlen, hvl]; omega)]
end Go.SX
