/-
  Texts of one claim, laid together. Conditions: none.
-/
import Derived.WalkKit
import Derived.Orders
import Derived.Below
import Derived.OrdersIn
import Derived.RangeFuncIn
import Derived.Laws.AppendOwn
import Derived.Maps.AppendAt
import Derived.Laws.CopyRow
import Derived.Deep.MidRow
import Derived.Laws.Externs
import Derived.DataElems
set_option linter.all false
set_option maxRecDepth 1000000
namespace Go.SX
noncomputable section
inductive SI where
  | c (n:Int) | v (x:Int)
inductive SB where
  | c (b:Bool) | v (x:Bool)
inductive SN where
  | c (n:Nat) | v (x:Nat)
def SI.val:SI → Int | .c n => n | .v x => x
def SB.val:SB → Bool | .c n => n | .v x => x
def SN.val:SN → Nat | .c n => n | .v x => x
inductive SC where
  | int (k:IntKind) (n:SI)
  | bool (b:SB)
  | ptr (id off:Nat)
  | eptr (id esz:Nat) (i:SN) (off:Nat)
  | wh (id:Nat)
  | sl (id esz:Nat) (off len:SN)
  | bs (id len:Nat)
  | nilp
  | nilsl
  | fn (f:FuncId)
  | clo (f:FuncId) (id:Nat)
  | nilf
  | yld (g id:Nat)
inductive SV where
  | one (c:SC)
  | agg (cs:List SC)
  | tup (vs:List (Bool × List SC))
inductive CK where
  | int (k:IntKind) | bool
inductive RowC where
  | lit (tag:Nat) (rows:List (List SC))
  | lst (tag:Nat) (ks:List CK) (xs:List (List Int))
inductive Obj where
  | blk (ty:TypeId) (cells:List (Nat × SC))
  | row (ro:Bool) (ty:TypeId) (esz:Nat) (r:RowC)
  | clo (caps:List SV)
  | raw (b:Nat) (rs:List Nat) (tag:Nat) (L:Bool → Go.Obj) (k:SB)
structure Ent where
  g:List (Nat × Bool)
  gx:List (Bool × Bool)
  tag:Nat
  val:SV
abbrev KL := List (Nat × Ent)
abbrev Jn := List (Nat × Obj)
def JD {α:Type} (l:List (Nat × α)) (t:Nat):Option α := List.rec (motive := fun _ => Option α) none (fun p _ ih => Bool.rec ih (some p.2) (Nat.beq p.1 t)) l
theorem Js {α:Type} (t:Nat):JD ([]:List (Nat × α)) t = none := rfl
theorem JX {α:Type} (k:Nat) (x:α) (r:List (Nat × α)) (t:Nat):JD ((k,x) :: r) t = bif Nat.beq k t then some x else JD r t := by
  show (Bool.rec (JD r t) (some x) (Nat.beq k t):Option α) = _
  cases Nat.beq k t <;> rfl
def del {α:Type} (l:List (Nat × α)) (t:Nat):List (Nat × α) := List.rec (motive := fun _ => List (Nat × α)) [] (fun p _ ih => Bool.rec (p :: ih) ih (Nat.beq p.1 t)) l
theorem Jo6 {α:Type} (t:Nat):del ([]:List (Nat × α)) t = [] := rfl
theorem Jhi {α:Type} (k:Nat) (x:α) (r:List (Nat × α)) (t:Nat):del ((k,x) :: r) t = bif Nat.beq k t then del r t else (k,x) :: del r t := by
  show (Bool.rec ((k,x) :: del r t) (del r t) (Nat.beq k t):List (Nat × α)) = _
  cases Nat.beq k t <;> rfl
def rem {α:Type} (l:List (Nat × α)) (t:Nat):List (Nat × α) := match JD l t with
  | none => l
  | some _ => del l t
def put {α:Type} (l:List (Nat × α)) (t:Nat) (x:α):List (Nat × α) := (t,x) :: rem l t
def JXc:Value → Option SC
  | .int k n => some (.int k (.c n))
  | .bool b => some (.bool (.c b))
  | .pointer none => some .nilp
  | .slice none 0 0 => some .nilsl
  | .nilFunc => some .nilf
  | .func (.func f) ⟨[]⟩ ⟨[]⟩ => some (.fn f)
  | _ => none
def cellsOf:List Value → Option (List SC)
  | [] => some []
  | v :: r => match JXc v,cellsOf r with
    | some c,some cs => some (c :: cs)
    | _,_ => none
def JVV:Value → Option SV
  | .agg cs => (cellsOf cs.toList).map .agg
  | v => (JXc v).map .one
def Jp3 (a:Nat × Bool) (l:List (Nat × Bool)):Bool := List.rec (motive := fun _ => Bool) false (fun b _ ih => (Nat.beq a.1 b.1 && (a.2 == b.2)) || ih) l
theorem Jsc (a:Nat × Bool):Jp3 a [] = false := rfl
theorem Jpt (a b:Nat × Bool) (r:List (Nat × Bool)):Jp3 a (b :: r) = ((Nat.beq a.1 b.1 && (a.2 == b.2)) || Jp3 a r) := rfl
def JbK (g h:List (Nat × Bool)):Bool := List.rec (motive := fun _ => Bool) true (fun a _ ih => Jp3 a h && ih) g
theorem Js7 (h:List (Nat × Bool)):JbK [] h = true := rfl
theorem JpF (a:Nat × Bool) (r h:List (Nat × Bool)):JbK (a :: r) h = (Jp3 a h && JbK r h) := rfl
def Y6 (env:KL) (g:List (Nat × Bool)):Operand → Option SV
  | .tmp t => match JD env t with
    | some e => bif JbK e.g g then some e.val else none
    | none => none
  | .const v => JVV v
  | .func f => some (.one (.fn f))
  | .global _ => none
def args (env:KL) (g:List (Nat × Bool)):List Operand → Option (List SV)
  | [] => some []
  | o :: r => match Y6 env g o,args env g r with
    | some v,some vs => some (v :: vs)
    | _,_ => none
def JAF:List (Bool × Bool) → Prop → Prop
  | [],p => p
  | (x,w) :: r,p => x = w → JAF r p
def Jl5 (c:Bool):SI → SI → SI
  | .c a,.c b => bif decide (a = b) then .c a else .v (cond c a b)
  | .c a,.v b => .v (cond c a b)
  | .v a,.c b => .v (cond c a b)
  | .v a,.v b => .v (cond c a b)
def Jmr (c:Bool):SB → SB → SB
  | .c true,.c true => .c true
  | .c false,.c false => .c false
  | .c true,.c false => .v c
  | .c false,.c true => .v (!c)
  | .v a,.c false => .v (c && a)
  | .c true,.v b => .v (c || b)
  | .c a,.v b => .v (cond c a b)
  | .v a,.c b => .v (cond c a b)
  | .v a,.v b => .v (cond c a b)
def j6:IntKind → IntKind → Bool
  | .i8,.i8 | .i16,.i16 | .i32,.i32 | .i64,.i64 | .u8,.u8 | .u16,.u16 | .u32,.u32 | .u64,.u64 => true
  | _,_ => false
def JYq (c:Bool):SC → SC → Option SC
  | .int k x,.int j y => bif j6 k j then some (.int k (Jl5 c x y)) else none
  | .bool x,.bool y => some (.bool (Jmr c x y))
  | .ptr a o,.ptr b p => bif Nat.beq a b && Nat.beq o p then some (.ptr a o) else none
  | .wh a,.wh b => bif Nat.beq a b then some (.wh a) else none
  | .nilp,.nilp => some .nilp
  | .nilsl,.nilsl => some .nilsl
  | .fn f,.fn g => bif Nat.beq f g then some (.fn f) else none
  | _,_ => none
def JHG (c:Bool):List SC → List SC → Option (List SC)
  | [],[] => some []
  | x :: r,y :: s => match JYq c x y,JHG c r s with
    | some z,some t => some (z :: t)
    | _,_ => none
  | _,_ => none
def JIf (c:Bool):List (Bool × List SC) → List (Bool × List SC) → Option (List (Bool × List SC))
  | [],[] => some []
  | (a,x) :: r,(b,y) :: s => bif (a == b) then (match JHG c x y,JIf c r s with
    | some z,some t => some ((a,z) :: t)
    | _,_ => none) else none
  | _,_ => none
def JQA (c:Bool):SV → SV → Option SV
  | .one x,.one y => (JYq c x y).map .one
  | .agg x,.agg y => (JHG c x y).map .agg
  | .tup x,.tup y => (JIf c x y).map .tup
  | _,_ => none
def j0 (n:Nat) (l:List SC):List (Nat × SC) := List.rec (motive := fun _ => Nat → List (Nat × SC)) (fun _ => []) (fun c _ ih n => (n,c) :: ih (n + 1)) l n
theorem JmM (n:Nat):j0 n [] = [] := rfl
theorem JiS (n:Nat) (c:SC) (r:List SC):j0 n (c :: r) = (n,c) :: j0 (n + 1) r := rfl
def QY (l:List (Nat × SC)):List SC := List.rec (motive := fun _ => List SC) [] (fun p _ ih => p.2 :: ih) l
theorem XL:QY [] = [] := rfl
theorem QK (p:Nat × SC) (r:List (Nat × SC)):QY (p :: r) = p.2 :: QY r := rfl
def CK.cell:CK → Int → SC
  | .int k,n => .int k (.v n)
  | .bool,n => .bool (.v (n != 0))
def Kz:List CK → List Int → Nat → List SC
  | [],_,_ => []
  | k :: r,xs,j => k.cell (xs.getD j 0) :: Kz r xs (j + 1)
def Qz (ks:List CK) (xs:List Int):List SC := Kz ks xs 0
def Jpb:SC → Option (CK × Int)
  | .int k n => some (.int k,n.val)
  | .bool (.c b) => some (.bool,bif b then 1 else 0)
  | .bool (.v b) => some (.bool,bif b then 1 else 0)
  | _ => none
def JCS:List SC → Option (List (CK × Int))
  | [] => some []
  | c :: r => match Jpb c,JCS r with
    | some x,some xs => some (x :: xs)
    | _,_ => none
def JX6:CK → CK → Bool
  | .int k,.int j => j6 k j
  | .bool,.bool => true
  | _,_ => false
def Jhc:List CK → List (CK × Int) → Option (List Int)
  | [],[] => some []
  | k :: ks,(j,x) :: r => bif JX6 k j then (Jhc ks r).map (x :: ·) else none
  | _,_ => none
def jj:RowC → SN
  | .lit _ rows => .c rows.length
  | .lst _ _ xs => .v xs.length
def chain (i:Nat):List (List SC) → Nat → Option (List SC)
  | [],_ => none
  | [r],_ => some r
  | r :: rest,k => match chain i rest (k + 1) with
    | some t => JHG (Nat.beq i k) r t
    | none => none
def JsT:RowC → SN → Option (List SC × List Prop)
  | .lit _ rows,.c i => match rows[i]? with
    | some r => some (r,[])
    | none => none
  | .lit _ rows,.v i => match chain i rows 0 with
    | some r => some (r,[i < rows.length])
    | none => none
  | .lst _ ks xs,i => some (Qz ks (xs.getD i.val []),[i.val < xs.length])
def qE (ks:List CK):List (List SC) → Option (List (List Int))
  | [] => some []
  | r :: rs => match (JCS r).bind (Jhc ks),qE ks rs with
    | some x,some xs => some (x :: xs)
    | _,_ => none
def JdS:List SC → Option (List CK)
  | [] => some []
  | c :: r => match Jpb c,JdS r with
    | some (k,_),some ks => some (k :: ks)
    | _,_ => none
def WD:List CK → List CK → Bool
  | [],[] => true
  | a :: r,b :: s => JX6 a b && WD r s
  | _,_ => false
def JXO (n:Nat):RowC → RowC → Option RowC
  | .lit _ a,.lit _ b => some (.lit n (a ++ b))
  | .lst _ ks xs,.lst _ js ys => bif WD ks js then some (.lst n ks (xs ++ ys)) else none
  | .lst _ ks xs,.lit _ b => (qE ks b).map fun ys => .lst n ks (xs ++ ys)
  | .lit _ a,.lst _ ks ys => (qE ks a).map fun xs => .lst n ks (xs ++ ys)
def JVd (t:Nat):RowC → SN → SN → Option RowC
  | .lit _ rows,.c o,.c n => some (.lit t ((rows.drop o).take n))
  | .lit ..,_,_ => none
  | .lst _ ks xs,o,n => some (.lst t ks ((xs.drop o.val).take n.val))
def JuV:RowC → Option (List CK)
  | .lst _ ks _ => some ks
  | .lit _ (r :: _) => JdS r
  | .lit _ [] => none
def Jim (ks:List CK):RowC → Option (List (List Int))
  | .lst _ js xs => bif WD ks js then some xs else none
  | .lit _ rows => qE ks rows
def JM3:Nat → Nat → Nat → List Int → List Int → List Int
  | 0,_,_,_,_ => []
  | n + 1,j,off,ys,row => (bif Nat.ble off j && Nat.blt j (off + ys.length) then ys.getD (j - off) 0 else row.getD j 0) :: JM3 n (j + 1) off ys row
def JIZ (esz:Nat):List (List SC) → Bool
  | [] => true
  | r :: rs => Nat.beq r.length esz && (JCS r).isSome && JIZ esz rs
def jW (esz:Nat):Nat → List SC → List (List SC)
  | 0,_ => []
  | n + 1,cs => cs.take esz :: jW esz n (cs.drop esz)
def ltN:SN → SN → Option (List Prop)
  | .c a,.c b => bif Nat.blt a b then some [] else none
  | a,b => some [a.val < b.val]
def leN:SN → SN → Option (List Prop)
  | .c a,.c b => bif Nat.ble a b then some [] else none
  | a,b => some [a.val ≤ b.val]
def JmR:SN → SN → SN
  | .c a,.c b => .c (a + b)
  | .c 0,b => b
  | a,b => .v (a.val + b.val)
def Juj:SN → SN → SN
  | .c a,.c b => .c (a - b)
  | a,b => .v (a.val - b.val)
def JVf:SI → Option (SN × List Prop)
  | .c n => bif decide (0 ≤ n) then some (.c n.toNat,[]) else none
  | .v n => some (.v n.toNat,[0 ≤ n])
def JXJ:SN → SI
  | .c n => .c (Int.ofNat n)
  | .v n => .v (Int.ofNat n)
inductive EV where
  | v (x:SV) | l (x:List (List Int)) | o (b:Nat) (L:Bool → Go.Obj)
abbrev jq := List (EV × EV)
def JYi (x y:SC) (q:jq):jq := match x,y with
  | .wh a,.wh b => bif Nat.beq a b then q else (.v (.one (.wh a)),.v (.one (.wh b))) :: q
  | .ptr a o,.ptr b p => bif Nat.beq a b && Nat.beq o p then q else (.v (.one (.ptr a o)),.v (.one (.ptr b p))) :: q
  | x,y => (.v (.one x),.v (.one y)) :: q
def Jr8 (x y:SV) (q:jq):jq := match x,y with
  | .one a,.one b => JYi a b q
  | x,y => (.v x,.v y) :: q
def JOB (c:Bool) (n:Nat):List (Nat × SC) → List (Nat × SC) → Option (List (Nat × SC) × jq × Nat)
  | [],[] => some ([],[],n)
  | (a,x) :: r,(b,y) :: s => bif Nat.beq a b then
      (match JOB c n r s with
      | some (t,e,n') => some ((a,x) :: t,JYi x y e,n')
      | none => none)
    else (match JYq c x y,JOB c (n + 1) r s with
      | some z,some (t,e,n') => some ((n,z) :: t,e,n')
      | _,_ => none)
  | _,_ => none
def zd (c:Bool) (n:Nat):KL → KL → KL × jq × Nat
  | [],_ => ([],[],n)
  | (t,e) :: r,s => match zd c n r s with
    | (r',q,m) => match JD s t with
      | none => (del r' t,q,m)
      | some f => match e.g,f.g with
        | [],[] => bif Nat.beq e.tag f.tag then ((t,⟨[],[],e.tag,e.val⟩) :: r',Jr8 e.val f.val q,m)
            else (match JQA c e.val f.val with
              | some v => ((t,⟨[],[],m,v⟩) :: r',q,m + 1)
              | none => (del r' t,q,m))
        | _,_ => (del r' t,q,m)
def JKm (c:Bool):List (List SC) → List (List SC) → Option (List (List SC))
  | [],[] => some []
  | x :: r,y :: s => match JHG c x y,JKm c r s with
    | some z,some t => some (z :: t)
    | _,_ => none
  | _,_ => none
def JUo (rows:List (List SC)):SV := .tup (rows.map fun r => (true,r))
def JRk (c:Bool) (n:Nat) (x y:RowC):Option (RowC × jq × Nat) :=
  match (match x,y with
    | .lit t a,.lit u b => bif Nat.beq t u then some (.lit t a,[(.v (JUo a),.v (JUo b))],n) else (JKm c a b).map fun z => (RowC.lit n z,[],n + 1)
    | .lst t ks xs,.lst u js ys => bif Nat.beq t u && WD ks js then some (.lst t ks xs,[(.l xs,.l ys)],n) else none
    | _,_ => none) with
  | some r => some r
  | none => match (match JuV x with | some ks => some ks | none => JuV y) with
    | none => none
    | some ks => match Jim ks x,Jim ks y with
      | some xs,some ys => some (.lst n ks (bif c then xs else ys),[],n + 1)
      | _,_ => none
def JZz:List Nat → List Nat → Bool
  | [],[] => true
  | a :: r,b :: s => Nat.beq a b && JZz r s
  | _,_ => false
def Jsx:SV → SV → Bool
  | .one (.ptr a o),.one (.ptr b p) => Nat.beq a b && Nat.beq o p
  | .one (.clo f a),.one (.clo g b) => Nat.beq f g && Nat.beq a b
  | .one (.fn f),.one (.fn g) => Nat.beq f g
  | _,_ => false
def JYG:List SV → List SV → Bool
  | [],[] => true
  | a :: r,b :: s => Jsx a b && JYG r s
  | _,_ => false
def JZW (c:Bool) (n:Nat):Obj → Obj → Option (Obj × jq × Nat)
  | .blk t x,.blk u y => bif Nat.beq t u then (match JOB c n x y with
    | some (z,e,m) => some (.blk t z,e,m)
    | none => none) else none
  | .row p t m x,.row q u k y => bif (p == q) && (Nat.beq t u && Nat.beq m k) then (match JRk c n x y with
    | some (z,e,m') => some (.row p t m z,e,m')
    | none => none) else none
  | .raw b rs t L k,.raw b' rs' t' L' k' => bif JZz rs rs' then some (.raw b rs t L (Jmr c k k'),[(.o b L,.o b' L')],n) else none
  | .clo x,.clo y => bif JYG x y then some (.clo x,[],n) else none
  | _,_ => none
def Js8:SC → Bool
  | .wh _ => true
  | .sl .. => true
  | .nilsl => true
  | _ => false
def Jjk:SC → SC → Bool
  | .wh a,.wh b => !(Nat.beq a b)
  | .nilsl,.nilsl => false
  | a,b => Js8 a || Js8 b
def Jn8:List (Nat × SC) → List (Nat × SC) → Bool
  | (_,a) :: r,(_,b) :: s => Jjk a b || Jn8 r s
  | _,_ => false
def JXo:KL → KL → Bool
  | [],_ => false
  | (t,e) :: r,s => (match JD s t with
    | some f => (match e.val,f.val with | .one a,.one b => Jjk a b | _,_ => false)
    | none => false) || JXo r s
def JXA:Jn → Jn → Bool
  | [],_ => false
  | (t,o) :: r,s => (match o,JD s t with
    | .blk _ x,some (.blk _ y) => Jn8 x y
    | _,_ => false) || JXA r s
def YG (c:Bool) (n:Nat):Jn → Jn → Jn × jq × Nat
  | [],_ => ([],[],n)
  | (t,e) :: r,s => match YG c n r s with
    | (r',q,m) => match JD s t with
      | none => (del r' t,q,m)
      | some f => match JZW c m e f with
        | some (o,e',m') => ((t,o) :: r',e' ++ q,m')
        | none => (del r' t,q,m)
def isC:SI → SI → Bool
  | .c _,.c _ => true
  | _,_ => false
def mkI (st:Bool) (x:Int):SI := bif st then .c x else .v x
def mkB (st:Bool) (x:Bool):SB := bif st then .c x else .v x
def Zg (op:BinOp) (k:IntKind) (x y:Int):Int :=
  match op with
  | .and => k.wrap (BitVec.ofInt k.bits x &&& BitVec.ofInt k.bits y).toNat
  | .or => k.wrap (BitVec.ofInt k.bits x ||| BitVec.ofInt k.bits y).toNat
  | .xor => k.wrap (BitVec.ofInt k.bits x ^^^ BitVec.ofInt k.bits y).toNat
  | _ => k.wrap (BitVec.ofInt k.bits x &&& ~~~BitVec.ofInt k.bits y).toNat
def JV (op:BinOp) (k:IntKind) (x y:Int):Int :=
  match op with
  | .shl => k.wrap (x * 2 ^ min y.toNat k.bits)
  | _ => x.fdiv (2 ^ min y.toNat k.bits)
def nz:SI → Option (List Prop)
  | .c n => bif decide (n = 0) then none else some []
  | .v x => some [x ≠ 0]
def Jey:SI → Option (List Prop)
  | .c n => bif decide (0 ≤ n) then some [] else none
  | .v x => some [0 ≤ x]
def JsL (op:BinOp) (k:IntKind) (a b:SI):Option (SC × List Prop) :=
  let s := isC a b
  let x := a.val
  let y := b.val
  match op with
  | .add => some (.int k (mkI s (k.wrap (x + y))),[])
  | .sub => some (.int k (mkI s (k.wrap (x - y))),[])
  | .mul => some (.int k (mkI s (k.wrap (x * y))),[])
  | .quo => (nz b).map fun q => (.int k (mkI s (k.wrap (x.tdiv y))),q)
  | .rem => (nz b).map fun q => (.int k (mkI s (x.tmod y)),q)
  | .and => some (.int k (mkI s (Zg .and k x y)),[])
  | .or => some (.int k (mkI s (Zg .or k x y)),[])
  | .xor => some (.int k (mkI s (Zg .xor k x y)),[])
  | .andNot => some (.int k (mkI s (Zg .andNot k x y)),[])
  | .eql => some (.bool (mkB s (x == y)),[])
  | .neq => some (.bool (mkB s (x != y)),[])
  | .lss => some (.bool (mkB s (decide (x < y))),[])
  | .leq => some (.bool (mkB s (decide (x ≤ y))),[])
  | .gtr => some (.bool (mkB s (decide (x > y))),[])
  | .geq => some (.bool (mkB s (decide (x ≥ y))),[])
  | _ => none
def JxL:SB → SB → Bool
  | .c _,.c _ => true
  | _,_ => false
def eqC:SC → SC → Option SB
  | .int k x,.int j y => bif j6 k j then some (mkB (isC x y) (x.val == y.val)) else none
  | .bool x,.bool y => some (mkB (JxL x y) (x.val == y.val))
  | _,_ => none
def JxT:SB → SB → SB
  | .c false,_ => .c false
  | .c true,b => b
  | .v _,.c false => .c false
  | .v x,.c true => .v x
  | .v x,.v y => .v (x && y)
def JUn:List SC → List SC → Option SB
  | [],[] => some (.c true)
  | x :: r,y :: s => match eqC x y,JUn r s with
    | some a,some b => some (JxT a b)
    | _,_ => none
  | _,_ => none
def Jwp:SB → SB
  | .c b => .c (!b)
  | .v b => .v (!b)
def zE (P:Program):Nat → TypeId → List SC → Bool
  | 0,_,_ => false
  | d + 1,t,cs => match P.underlying t,P.info? t with
    | some (.struct fs),some i => !(P.stoodInHeld t) && flatFs P (zE P d) fs.toList 0 i.size cs
    | some .bool,some i => Nat.beq i.size 1 && (match cs with | [.bool _] => true | _ => false)
    | some (.int _),some i => Nat.beq i.size 1 && (match cs with | [.int _ _] => true | _ => false)
    | _,_ => false
where flatFs (P:Program) (ft:TypeId → List SC → Bool):List Field → Nat → Nat → List SC → Bool
  | [],o,tot,_ => Nat.beq o tot
  | f :: r, o, tot, cs => (f.name != "_") && (Nat.beq f.offset o && (match P.info? f.type with
      | some i => ft f.type ((cs.drop o).take i.size) && flatFs P ft r (o + i.size) tot cs
      | none => false))
def Jnc (P:Program) (op:BinOp) (t:TypeId):SV → SV → Option (SC × List Prop)
  | .one (.int k a),.one (.int j b) => match op with
    | .shl => (Jey b).map fun q => (.int k (mkI (isC a b) (JV .shl k a.val b.val)),q)
    | .shr => (Jey b).map fun q => (.int k (mkI (isC a b) (JV .shr k a.val b.val)),q)
    | op => bif j6 k j then JsL op k a b else none
  | .one (.bool a),.one (.bool b) => match P.underlying t with
    | some .bool => (match op with
      | .eql => some (.bool (mkB (JxL a b) (a.val == b.val)),[])
      | .neq => some (.bool (mkB (JxL a b) (!(a.val == b.val))),[])
      | _ => none)
    | _ => none
  | .agg x,.agg y => match P.underlying t,P.info? t with
    | some (.struct _),some i => bif zE P 20 t x && (Nat.beq x.length i.size && Nat.beq y.length i.size) then (match op,JUn x y with
      | .eql,some b => some (.bool b,[])
      | .neq,some b => some (.bool (Jwp b),[])
      | _,_ => none) else none
    | _,_ => none
  | _,_ => none
def JxJ (op:UnOp):SV → Option SC
  | .one (.int k a) => match op,a with
    | .neg,.c n => some (.int k (.c (k.wrap (0 - n))))
    | .neg,.v n => some (.int k (.v (k.wrap (0 - n))))
    | _,_ => none
  | .one (.bool b) => match op with
    | .not => some (.bool (Jwp b))
    | _ => none
  | _ => none
structure Eff where
  val:Option SV
  rd:List Nat
  touched:List Nat
  ups:Jn
  needs:List Prop
  eqs:jq
  nx:Nat
def Eff.pure (n:Nat) (v:SV):Eff := ⟨some v,[],[],[],[],[],n⟩
def SV.cells:SV → Option (List SC)
  | .one c => some [c]
  | .agg cs => some cs
  | .tup _ => none
def Xo {α:Type}:List α → Nat → Nat → List α
  | l,0,n => l.take n
  | [],_,_ => []
  | _ :: r,o + 1,n => Xo r o n
def Zb {α:Type}:List α → Nat → List α → List α
  | l,0,[] => l
  | _ :: r,0,x :: xs => x :: Zb r 0 xs
  | [],_,_ => []
  | y :: r,o + 1,xs => y :: Zb r o xs
def JLQ (place:Nat → Option (Nat × Nat)) (cells:List SC):List (Nat × List SC) → Option (List SC)
  | [] => some cells
  | (i,v) :: rest => match place i with
    | none => none
    | some (off,size) => bif Nat.beq v.length size && Nat.ble (off + size) cells.length then JLQ place (Zb cells off v) rest else none
def JLP (env:KL) (g:List (Nat × Bool)):List (Nat × Operand) → Option (List (Nat × List SC))
  | [] => some []
  | (i,o) :: r => match (Y6 env g o).bind SV.cells,JLP env g r with
    | some v,some vs => some ((i,v) :: vs)
    | _,_ => none
def kg (P:Program):List Field → Option (List (Nat × Nat))
  | [] => some []
  | f :: r => match P.info? f.type,kg P r with
    | some i,some ps => some ((f.offset,i.size) :: ps)
    | _,_ => none
def JEf (P:Program) (t:TypeId):Option SV := ((P.info? t).bind (·.zero)).bind JVV
def JEZ (P:Program) (t:TypeId):Option Bool := match P.underlying t with
  | some (.struct _) | some (.array _ _) => some true
  | some _ => some false
  | none => none
structure CRes where
  val:SV
  mem:Jn
  needs:List Prop
  eqs:jq
  nx:Nat
abbrev CE := FuncId → List SV → Jn → Nat → Option CRes
def Wm:SC → List Nat
  | .ptr id _ => [id]
  | .eptr id _ _ _ => [id]
  | .sl id _ _ _ => [id]
  | .wh id => [id]
  | .bs id _ => [id]
  | .clo _ id => [id]
  | .yld _ id => [id]
  | _ => []
def Qu (l:List SC):List Nat := List.rec (motive := fun _ => List Nat) [] (fun c _ ih => Wm c ++ ih) l
theorem ZH:Qu [] = [] := rfl
theorem Jt (c:SC) (r:List SC):Qu (c :: r) = Wm c ++ Qu r := rfl
def KZ:List (Bool × List SC) → List Nat
  | [] => []
  | (_,cs) :: r => Qu cs ++ KZ r
def Zc:SV → List Nat
  | .one c => Wm c
  | .agg cs => Qu cs
  | .tup vs => KZ vs
def Qj:List SV → List Nat
  | [] => []
  | v :: r => Zc v ++ Qj r
def K6:Obj → List Nat
  | .blk _ cs => Qu (QY cs)
  | .row .. => []
  | .clo cs => Qj cs
  | .raw _ rs _ _ _ => rs
def has (l:List Nat) (n:Nat):Bool := List.rec (motive := fun _ => Bool) false (fun a _ ih => Nat.beq a n || ih) l
theorem Je3 (n:Nat):has [] n = false := rfl
theorem JYU (a:Nat) (r:List Nat) (n:Nat):has (a :: r) n = (Nat.beq a n || has r n) := rfl
def YX (acc l:List Nat):List Nat := List.rec (motive := fun _ => List Nat → List Nat) (fun acc => acc) (fun a _ ih acc => ih (Bool.rec (acc ++ [a]) acc (has acc a))) l acc
theorem JWZ (acc:List Nat):YX acc [] = acc := rfl
theorem JU5 (acc:List Nat) (a:Nat) (r:List Nat):YX acc (a :: r) = YX (bif has acc a then acc else acc ++ [a]) r := by
  show YX (Bool.rec (acc ++ [a]) acc (has acc a)) r = _
  cases has acc a <;> rfl
def YP:List Nat → List Nat → Bool
  | [],_ => false
  | a :: r,l => has l a || YP r l
def Ka (mem:Jn):Nat → List Nat → List Nat
  | 0,l => l
  | k + 1,l => Ka mem k (l.foldl (fun acc id => match JD mem id with | some o => YX acc (K6 o) | none => acc) l)
def JJ:Jn → List Nat → Jn
  | [],_ => []
  | (id,o) :: r,l => bif has l id then (id,o) :: JJ r l else JJ r l
def domain:Jn → List Nat
  | [] => []
  | (id,_) :: r => id :: domain r
def JRc:Option SV → Option (Nat × Nat × SN × Nat)
  | some (.one (.eptr id esz i off)) => some (id,esz,i,off)
  | _ => none
def JrZ:Option SV → Option (FuncId × Nat)
  | some (.one (.clo f id)) => some (f,id)
  | _ => none
def Jtu (P:Program) (t:TypeId) (mem:Jn) (n id esz:Nat) (i:SN) (off:Nat):Option Eff :=
  match JEZ P t,P.info? t,JD mem id with
  | some b,some inf,some (.row _ _ m r) => bif Nat.beq m esz then (match JsT r i with
    | some (cs,q) => bif b then (bif Nat.beq (Xo cs off inf.size).length inf.size then some ⟨some (.agg (Xo cs off inf.size)),[id],[],[],q,[],n⟩ else none)
        else (match Xo cs off 1 with
          | [c] => some ⟨some (.one c),[id],[],[],q,[],n⟩
          | _ => none)
    | none => none) else none
  | _,_,_ => none
def Jm7 (n esz:Nat) (i:SN) (off:Nat) (vs:List SC):RowC → Option (RowC × List Prop)
  | .lit _ rows => match i with
    | .c k => match rows[k]? with
      | some row => bif Nat.ble (off + vs.length) row.length && (JCS vs).isSome then some (.lit n (rows.set k (Zb row off vs)),[]) else none
      | none => none
    | .v _ => none
  | .lst _ ks xs => match (JCS vs).bind (Jhc (Xo ks off vs.length)) with
    | some ys => bif Nat.beq ks.length esz && Nat.ble (off + vs.length) esz then some (.lst n ks (xs.set i.val (JM3 esz 0 off ys (xs.getD i.val []))),[i.val < xs.length]) else none
    | none => none
def JkR (P:Program) (t:TypeId) (mem:Jn) (n id esz:Nat) (i:SN) (off:Nat) (vs:List SC):Option Eff :=
  match P.info? t,JD mem id with
  | some inf,some (.row false ty m r) => bif Nat.beq m esz && Nat.beq vs.length inf.size then (match Jm7 n esz i off vs r with
    | some (r',q) => some ⟨none,[id],[id],[(id,.row false ty m r')],q,[],n + vs.length + 1⟩
    | none => none) else none
  | _,_ => none
def Jct (mem:Jn) (id:Nat) (i:SN):Option (List Prop) :=
  match JD mem id with
  | some (.row _ _ _ r) => ltN i (jj r)
  | _ => none
def Jkt (P:Program) (t:TypeId) (f:Nat) (mem:Jn) (n id esz:Nat) (i:SN) (off:Nat):Option Eff :=
  match P.underlying t,Jct mem id i with
  | some (.struct fs),some q => match fs.toList[f]? with
    | some fd => (match P.info? fd.type with
      | some inf => bif Nat.beq inf.size 0 then none else some ⟨some (.one (.eptr id esz i (off + fd.offset))),[id],[],[],q,[],n⟩
      | none => none)
    | none => none
  | _,_ => none
def Ku (n:Nat) (l:List Nat):Bool := List.rec (motive := fun _ => Bool) true (fun a _ ih => Nat.blt a n && ih) l
theorem JqZ (n:Nat):Ku n [] = true := rfl
theorem Jm4 (n a:Nat) (r:List Nat):Ku n (a :: r) = (Nat.blt a n && Ku n r) := rfl
def JmP (P:Program) (t:TypeId) (len:Nat) (ps:Option (List (Nat × List SC))) (n:Nat):Option Eff :=
  match P.underlying t,ps with
  | some (.slice e),some vs => match P.info? e,(JEf P e).bind SV.cells with
    | some inf,some z => bif Nat.blt 0 inf.size && (Nat.beq z.length inf.size && Nat.ble (len * inf.size) 16777216) then
        (match JLQ (fun i => some (i * inf.size,inf.size)) ((List.range (len * inf.size)).map fun j => (z[j % z.length]?).getD .nilp) vs with
        | some cs => bif JIZ inf.size (jW inf.size len cs) then some ⟨some (.one (.wh n)),[],[],[(n,.row false e inf.size (.lit (n + 1) (jW inf.size len cs)))],[],[],n + 2⟩
            else bif Ku n (Qu cs) then some ⟨some (.one (.bs n len)),[],[],[(n,.blk e (j0 (n + 1) cs))],[],[],n + 1 + cs.length⟩ else none
        | none => none) else none
    | _,_ => none
  | _,_ => none
def Jm2 (P:Program) (t:TypeId) (x i:Option SV) (mem:Jn) (n:Nat):Option Eff :=
  match P.underlying t,x,i with
  | some (.slice e),some (.one (.wh id)),some (.one (.int _ iv)) => match P.info? e,JD mem id,JVf iv with
    | some inf,some (.row _ _ m r),some (k,q1) => bif Nat.beq inf.size m then (match ltN k (jj r) with
        | some q2 => some ⟨some (.one (.eptr id m k 0)),[id],[],[],q1 ++ q2,[],n⟩
        | none => none) else none
    | _,_,_ => none
  | some (.slice e),some (.one (.sl id esz off len)),some (.one (.int _ iv)) => match P.info? e,JD mem id,JVf iv with
    | some inf,some (.row _ _ m r),some (k,q1) => bif Nat.beq inf.size m && Nat.beq esz m then (match ltN k len,ltN (JmR off k) (jj r) with
        | some q2,some q3 => some ⟨some (.one (.eptr id m (JmR off k) 0)),[id],[],[],q1 ++ q2 ++ q3,[],n⟩
        | _,_ => none) else none
    | _,_,_ => none
  | some (.array len e),some (.one (.ptr id off)),some (.one (.int _ (.c j))) => match P.info? e,JD mem id with
    | some inf,some (.blk _ _) => bif decide (0 ≤ j) && decide (j < len) then some ⟨some (.one (.ptr id (off + j.toNat * inf.size))),[id],[],[],[],[],n⟩ else none
    | _,_ => none
  | some (.slice e),some (.one (.bs id len)),some (.one (.int _ (.c j))) => match P.info? e,JD mem id with
    | some inf,some (.blk _ _) => bif decide (0 ≤ j) && decide (j < len) then some ⟨some (.one (.ptr id (j.toNat * inf.size))),[id],[],[],[],[],n⟩ else none
    | _,_ => none
  | _,_,_ => none
def Jl0 (P:Program) (t:TypeId) (x i:Option SV) (n:Nat):Option Eff :=
  match P.underlying t,x,i with
  | some (.array len e),some (.agg cs),some (.one (.int _ (.c j))) => match JEZ P e,P.info? e with
    | some b,some inf => bif decide (0 ≤ j) && decide (j < len) then
        (bif b then (bif Nat.beq (Xo cs (j.toNat * inf.size) inf.size).length inf.size then some (Eff.pure n (.agg (Xo cs (j.toNat * inf.size) inf.size))) else none)
        else (match Xo cs (j.toNat * inf.size) 1 with
          | [c] => some (Eff.pure n (.one c))
          | _ => none)) else none
    | _,_ => none
  | _,_,_ => none
def JDQ (env:KL) (g:List (Nat × Bool)) (d:SN):Option Operand → Option (SN × List Prop)
  | none => some (d,[])
  | some o => match Y6 env g o with
    | some (.one (.int _ iv)) => JVf iv
    | _ => none
def JlJ (P:Program) (t:TypeId) (x:Option SV) (lo hi:SN → Option (SN × List Prop)) (mem:Jn) (n:Nat):Option Eff :=
  match P.underlying t,x with
  | some (.slice e),some (.one (.wh id)) => match P.info? e,JD mem id with
    | some inf,some (.row _ _ m r) => bif Nat.beq inf.size m then (match lo (.c 0),hi (jj r) with
        | some (l,q1),some (h,q2) => (match leN l h,leN h (jj r) with
          | some q3,some q4 => some ⟨some (.one (.sl id m l (Juj h l))),[id],[],[],q1 ++ q2 ++ q3 ++ q4,[],n⟩
          | _,_ => none)
        | _,_ => none) else none
    | _,_ => none
  | _,_ => none
def JxO (P:Program) (t:TypeId) (x:Option SV) (lo:Option Operand) (hi:Option (SN × List Prop)) (mem:Jn) (n:Nat):Option Eff :=
  match lo,hi with
  | none,some (h,q1) => match P.underlying t,x with
    | some (.slice e),some (.one (.wh id)) => match P.underlying e,P.info? e,JD mem id with
      | some (.int .u64),some inf,some (.row false ty m r) => bif Nat.beq inf.size m && Nat.beq ty e then (match JVd (n + 1) r (.c 0) h,leN h (jj r) with
          | some r',some q2 => some ⟨some (.one (.wh n)),[id],[id],[(n,.row false ty m r')],q1 ++ q2,[],n + 2⟩
          | _,_ => none) else none
      | _,_,_ => none
    | _,_ => none
  | _,_ => none
def JwF (env:KL) (g:List (Nat × Bool)):Option Operand → Option (SN × List Prop)
  | none => none
  | some y => JDQ env g (.c 0) (some y)
def JMz (P:Program) (t:TypeId) (x:Option SV) (env:KL) (g:List (Nat × Bool)) (lo hi:Option Operand) (mem:Jn) (n:Nat):Option Eff :=
  match JxO P t x lo (JwF env g hi) mem n with
  | some e => some e
  | none => JlJ P t x (fun d => JDQ env g d lo) (fun d => JDQ env g d hi) mem n
def JdD (mem:Jn) (n:Nat) (m:Nat):SC → Option (RowC × SN × List Nat × List Prop)
  | .nilsl => some (.lit 0 [],.c 0,[],[])
  | .wh id => match JD mem id with
    | some (.row _ _ k r) => bif Nat.beq k m then some (r,jj r,[id],[]) else none
    | _ => none
  | .sl id esz off len => match JD mem id with
    | some (.row _ _ k r) => bif Nat.beq k m && Nat.beq esz m then (match JVd n r off len,leN (JmR off len) (jj r) with
        | some r',some q => some (r',len,[id],q)
        | _,_ => none) else none
    | _ => none
  | _ => none
def Jdk (bytes:Nat):SN → SN → Option (List Prop)
  | .c x,.c y => bif Nat.ble ((x + y) * bytes) 140737488355328 && Nat.ble (x + y) 9223372036854775807 then some [] else none
  | a,b => some [(a.val + b.val) * bytes ≤ 140737488355328,a.val + b.val ≤ 9223372036854775807]
def Jf8:Operand → Operand → Bool
  | .tmp a,.tmp b => Nat.beq a b
  | _,_ => false
def JtK (P:Program) (t:TypeId) (s:Bool) (x:Option SV) (n:Nat):Option Eff :=
  match P.underlying t,x with
  | some (.slice e),some (.one (.int _ l)) => match P.info? e,(JEf P e).bind SV.cells,JVf l with
    | some inf,some z,some (k,q1) => match JdS z,Jdk inf.bytes k (.c 0) with
      | some ks,some q2 => match (JCS z).bind (Jhc ks) with
        | some zs => bif s && (Nat.blt 0 inf.size && Nat.beq z.length inf.size) then
          some ⟨some (.one (.wh n)),[],[],[(n,.row false e inf.size (.lst (n + 1) ks (List.replicate k.val zs)))],q1 ++ q2,[],n + 2⟩ else none
        | none => none
      | _,_ => none
    | _,_,_ => none
  | _,_ => none
def Jrg (mem:Jn) (e m:Nat):SC → Option (RowC × List Nat)
  | .nilsl => some (.lit 0 [],[])
  | .wh id => match JD mem id with
    | some (.row false ty k r) => bif Nat.beq k m && Nat.beq ty e then some (r,[id]) else none
    | _ => none
  | _ => none
def Jdd (P:Program) (t:TypeId) (s x:Option SV) (mem:Jn) (n:Nat):Option Eff :=
  match P.underlying t,s,x with
  | some (.slice e),some (.one sc),some (.one xc) => match P.info? e,(JEf P e).bind SV.cells with
    | some inf,some z => bif Nat.blt 0 inf.size && Nat.beq z.length inf.size then
        (match Jrg mem e inf.size sc,JdD mem (n + 1) inf.size xc with
        | some (r1,t1),some (r2,l2,t2,q) => bif YP t1 t2 then none else (match JXO (n + 2) r1 r2,Jdk inf.bytes (jj r1) l2 with
          | some r,some q2 => some ⟨some (.one (.wh n)),t1 ++ t2,t1,[(n,.row false e inf.size r)],q ++ q2,[],n + 3⟩
          | _,_ => none)
        | _,_ => none) else none
    | _,_ => none
  | _,_,_ => none
def JxN (P:Program) (t:TypeId) (x:Option SV) (mem:Jn) (n:Nat):Option Eff :=
  match P.underlying t,x with
  | some (.slice _),some (.one .nilsl) => some (Eff.pure n (.one (.int .i64 (.c 0))))
  | some (.slice _),some (.one (.wh id)) => match JD mem id with
    | some (.row _ _ _ r) => some ⟨some (.one (.int .i64 (JXJ (jj r)))),[id],[],[],[],[],n⟩
    | _ => none
  | some (.slice _),some (.one (.sl _ _ _ len)) => some (Eff.pure n (.one (.int .i64 (JXJ len))))
  | some (.slice _),some (.one (.bs _ len)) => some (Eff.pure n (.one (.int .i64 (.c (Int.ofNat len)))))
  | some (.array m _),some _ => some (Eff.pure n (.one (.int .i64 (.c (Int.ofNat m)))))
  | _,_ => none
def Jwu:SI → SI → SI
  | .c x,.c y => .c (if y < x then y else x)
  | a,b => .v (if b.val < a.val then b.val else a.val)
def JxI:SI → SI → SI
  | .c x,.c y => .c (if y > x then y else x)
  | a,b => .v (if b.val > a.val then b.val else a.val)
def JnB (f:SI → SI → SI) (k:IntKind):SI → List SV → Option SI
  | a,[] => some a
  | a,.one (.int j b) :: r => bif j6 k j then JnB f k (f a b) r else none
  | _,_ => none
def JVQ (f:SI → SI → SI) (n:Nat):Option (List SV) → Option Eff
  | some (.one (.int k a) :: r) => (JnB f k a r).map fun x => Eff.pure n (.one (.int k x))
  | _ => none
def JZR (P:Program) (b:Builtin) (ts:List TypeId) (vs:Option (List SV)) (mem:Jn) (n:Nat):Option Eff :=
  match b,ts,vs with
  | .len,[t],some [x] => JxN P t (some x) mem n
  | .append,[t,u],some [s,x] => bif Nat.beq t u then Jdd P t (some s) (some x) mem n else none
  | .min,_,vs => JVQ Jwu n vs
  | .max,_,vs => JVQ JxI n vs
  | _,_,_ => none
def JwQ (n:Nat) (f:FuncId):List SV → Eff
  | [] => Eff.pure n (.one (.fn f))
  | vs => ⟨some (.one (.clo f n)),[],[],[(n,.clo vs)],[],[],n + 1⟩
def JUK (mem:Jn):List Nat → Jn → Jn
  | [],m => m
  | id :: r,m => match JD mem id,JD m id with
    | some (.clo caps),none => (id,.clo caps) :: JUK mem r m
    | _,_ => JUK mem r m
def Ju6 (ce:CE) (mem:Jn) (n:Nat) (f:FuncId) (id:Nat) (vs:List SV):Option Eff :=
  match JD mem id with
  | some (.clo caps) => bif Nat.blt f 1000000 then (match ce f (vs ++ caps) (JJ mem (Ka mem 3 (id :: Qj vs))) n with
    | some r => some ⟨some r.val,Ka mem 3 (id :: Qj vs),Ka mem 3 (id :: Qj vs),JUK mem (Ka mem 3 (id :: Qj vs)) r.mem,r.needs,r.eqs,r.nx⟩
    | none => none) else none
  | _ => none
def Jwz (ce:CE) (mem:Jn) (n y id:Nat) (vs:List SV):Option Eff :=
  bif Nat.ble 1000000 y then (match ce y (.one (.yld y id) :: vs) (JJ mem (Ka mem 3 (id :: Qj vs))) n with
    | some r => some ⟨some r.val,Ka mem 3 (id :: Qj vs),Ka mem 3 (id :: Qj vs),r.mem,r.needs,r.eqs,r.nx⟩
    | none => none) else none
def Jc2:Jn → Bool
  | [] => true
  | (_,.row true _ _ _) :: r => Jc2 r
  | _ => false
def Jb5 (l:List Nat):Jn → Bool
  | [] => true
  | (id,_) :: r => has l id && Jb5 l r
def JgC:SC → SC
  | .int k x => .int k (.v x.val)
  | .bool b => .bool (.v b.val)
  | c => c
def JM9:List (Nat × SC) → List (Nat × SC) → Option jq
  | [],[] => some []
  | (_,x) :: r,(_,y) :: s => (JM9 r s).map (JYi (JgC x) (JgC y))
  | _,_ => none
def JmB:Obj → Option Obj → Option jq
  | .row true _ _ _,_ => some []
  | .blk t x,some (.blk u y) => bif Nat.beq t u then JM9 x y else none
  | _,_ => none
def JFO (res:Jn):Jn → Option jq
  | [] => some []
  | (id,o) :: r => match JmB o (JD res id),JFO res r with
    | some a,some b => some (a ++ b)
    | _,_ => none
def JuD (ce:CE) (h:FuncId) (n:Nat) (rd:List Nat) (sub res:Jn):Option jq :=
  match ce (2000000 + h) [] [] n with
  | some _ => bif Jb5 rd res then JFO res sub else none
  | none => none
def Jwi (ce:CE) (mem:Jn) (n:Nat) (h:FuncId) (vs:List SV):Option Eff :=
  bif Nat.blt h 1000000 then (match ce h vs (JJ mem (Ka mem 3 (Qj vs))) n with
    | some r => bif Jc2 (JJ mem (Ka mem 3 (Qj vs))) && Jb5 (Ka mem 3 (Qj vs)) r.mem then some ⟨some r.val,Ka mem 3 (Qj vs),[],[],r.needs,r.eqs,r.nx⟩
      else match JuD ce h n (Ka mem 3 (Qj vs)) (JJ mem (Ka mem 3 (Qj vs))) r.mem with
        | some q => some ⟨some r.val,Ka mem 3 (Qj vs),[],[],r.needs,r.eqs ++ q,r.nx⟩
        | none => some ⟨some r.val,Ka mem 3 (Qj vs),Ka mem 3 (Qj vs),r.mem,r.needs,r.eqs,r.nx⟩
    | none => none) else none
def JuU:Option SV → Option (Nat × Nat)
  | some (.one (.yld g id)) => some (g,id)
  | _ => none
def JDO (s:ByteArray) (k:Nat):Int := match s[k]? with
  | some b => (b.toNat:Int)
  | none => 0
def Jr9:Operand → Option ByteArray
  | .const (.string s) => some s
  | _ => none
def JZQ (P:Program) (t:TypeId) (s:ByteArray) (i:Option SV) (n:Nat):Option Eff :=
  match P.underlying t,i with
  | some .string,some (.one (.int _ iv)) => match JVf iv with
    | some (k,q) => some ⟨some (.one (.int .u8 (.v (JDO s k.val)))),[],[],[],q ++ [k.val < s.size],[],n⟩
    | none => none
  | _,_ => none
def JJm (x y b:Int):Int := (((x.toNat + 18446744073709551616 - y.toNat - b.toNat) % 18446744073709551616:Nat):Int)
def JEc (x y b:Int):Int := ((if x.toNat < y.toNat + b.toNat then 1 else 0:Nat):Int)
def JUx (P:Program) (h:FuncId):Bool := match P.funcs[h]? with
  | some fn => (match fn.body with
    | some _ => false
    | none => (fn.name == "math/bits.Sub64") && (fn.origin == ""))
  | none => false
def JxS (vs:List SV) (n:Nat):Option Eff := match vs with
  | [.one (.int .u64 x),.one (.int .u64 y),.one (.int .u64 b)] =>
    some ⟨some (.tup [(false,[.int .u64 (mkI (isC x y && isC x b) (JJm x.val y.val b.val))]),(false,[.int .u64 (mkI (isC x y && isC x b) (JEc x.val y.val b.val))])]),[],[],[],[0 ≤ x.val,0 ≤ y.val,0 ≤ b.val ∧ b.val ≤ 1],[],n⟩
  | _ => none
def Ju2 (P:Program) (ce:CE) (mem:Jn) (n:Nat) (h:FuncId) (vs:List SV):Option Eff := bif JUx P h then JxS vs n else Jwi ce mem n h vs
def Jt7 (P:Program) (mem:Jn) (n:Nat) (op:BinOp) (t:TypeId):Option SV → Option SV → Option Eff
  | some (.one (.ptr id _)),some (.one .nilp) => match op,P.underlying t,JD mem id with
    | .eql,some (.pointer _),some (.blk _ _) => some ⟨some (.one (.bool (.c false))),[id],[],[],[],[],n⟩
    | .neq,some (.pointer _),some (.blk _ _) => some ⟨some (.one (.bool (.c true))),[id],[],[],[],[],n⟩
    | _,_,_ => none
  | some (.one (.wh id)),some (.one .nilsl) => match op,P.underlying t,JD mem id with
    | .eql,some (.slice _),some _ => (Jct mem id (.c 0)).map fun q => ⟨some (.one (.bool (.c false))),[id],[],[],q,[],n⟩
    | _,_,_ => none
  | some (.one .nilsl),some (.one .nilsl) => match op,P.underlying t with
    | .eql,some (.slice _) => some (Eff.pure n (.one (.bool (.c true))))
    | _,_ => none
  | _,_ => none
def Jtz (P:Program) (ce:CE) (o:Oper) (env:KL) (g:List (Nat × Bool)) (mem:Jn) (n:Nat):Option Eff :=
  match o.op with
  | .move x => (Y6 env g x).map (Eff.pure n)
  | .assign x => (Y6 env g x).map (Eff.pure n)
  | .alloc t => match JEf P t with
    | some v => match v.cells with
      | some cs => some ⟨some (.one (.ptr n 0)),[],[],[(n,.blk t (j0 (n + 1) cs))],[],[],n + 1 + cs.length⟩
      | none => none
    | none => none
  | .box t x => match (Y6 env g x).bind SV.cells with
    | some cs => some ⟨some (.one (.ptr n 0)),[],[],[(n,.blk t (j0 (n + 1) cs))],[],[],n + 1 + cs.length⟩
    | none => none
  | .build t ps => match P.underlying t,(JEf P t).bind SV.cells,JLP env g ps.toList with
    | some (.struct fs),some z,some vs => match kg P fs.toList with
      | some pl => (JLQ (fun i => pl[i]?) z vs).map fun cs => Eff.pure n (.agg cs)
      | none => none
    | some (.array _ e),some z,some vs => match P.info? e with
      | some i => (JLQ (fun j => some (j * i.size,i.size)) z vs).map fun cs => Eff.pure n (.agg cs)
      | none => none
    | _,_,_ => none
  | .load t x => match JRc (Y6 env g x) with
    | some (id,esz,i,off) => Jtu P t mem n id esz i off
    | none => match Y6 env g x,JEZ P t,P.info? t with
    | some (.one (.ptr id off)),some a,some i => match JD mem id with
      | some (.blk _ cs) => bif a then
          (let r := QY (Xo cs off i.size); bif Nat.beq r.length i.size then some ⟨some (.agg r),[id],[],[],[],[],n⟩ else none)
        else (match Xo cs off 1 with
          | [(_,c)] => some ⟨some (.one c),[id],[],[],[],[],n⟩
          | _ => none)
      | _ => none
    | _,_,_ => none
  | .store t x y => match JRc (Y6 env g x) with
    | some (id,esz,i,off) => (match (Y6 env g y).bind SV.cells with
      | some vs => JkR P t mem n id esz i off vs
      | none => none)
    | none => match Y6 env g x,(Y6 env g y).bind SV.cells,P.info? t with
    | some (.one (.ptr id off)),some vs,some i => match JD mem id with
      | some (.blk ty cs) => bif Nat.beq vs.length i.size && Nat.ble (off + vs.length) cs.length then
          some ⟨none,[id],[id],[(id,.blk ty (Zb cs off (j0 n vs)))],[],[],n + vs.length⟩ else none
      | _ => none
    | _,_,_ => none
  | .nilCheck x => match JRc (Y6 env g x) with
    | some (id,esz,i,off) => (Jct mem id i).map fun q => ⟨some (.one (.eptr id esz i off)),[id],[],[],q,[],n⟩
    | none => match Y6 env g x with
    | some (.one (.ptr id off)) => match JD mem id with
      | some (.blk _ _) => some ⟨some (.one (.ptr id off)),[id],[],[],[],[],n⟩
      | _ => none
    | _ => none
  | .binOp op t x y _ => match Jt7 P mem n op t (Y6 env g x) (Y6 env g y) with
    | some e => some e
    | none => match Y6 env g x,Y6 env g y with
    | some a,some b => (Jnc P op t a b).map fun (c,q) => ⟨some (.one c),[],[],[],q,[],n⟩
    | _,_ => none
  | .unOp op _ x => ((Y6 env g x).bind (JxJ op)).map fun c => Eff.pure n (.one c)
  | .convert s d x => match P.underlying s,P.underlying d,Y6 env g x with
    | some _,some (.int k),some (.one (.int _ (.c m))) => some (Eff.pure n (.one (.int k (.c (k.wrap m)))))
    | some _,some (.int k),some (.one (.int _ (.v m))) => some (Eff.pure n (.one (.int k (.v (k.wrap m)))))
    | _,_,_ => none
  | .fieldAddr t x f => match JRc (Y6 env g x) with
    | some (id,esz,i,off) => Jkt P t f mem n id esz i off
    | none => match P.underlying t,Y6 env g x with
    | some (.struct fs),some (.one (.ptr id off)) => match fs.toList[f]? with
      | some fd => (match P.info? fd.type with
        | some i => (match JD mem id with
          | some (.blk _ _) => bif Nat.beq i.size 0 then none else some ⟨some (.one (.ptr id (off + fd.offset))),[id],[],[],[],[],n⟩
          | _ => none)
        | none => none)
      | none => none
    | _,_ => none
  | .field t x f => match P.underlying t,Y6 env g x with
    | some (.struct fs),some (.agg cs) => match fs.toList[f]? with
      | some fd => (match JEZ P fd.type,P.info? fd.type with
        | some true,some i => (let r := Xo cs fd.offset i.size; bif Nat.beq r.length i.size then some (Eff.pure n (.agg r)) else none)
        | some false,some _ => (match Xo cs fd.offset 1 with
          | [c] => some (Eff.pure n (.one c))
          | _ => none)
        | _,_ => none)
      | none => none
    | _,_ => none
  | .extract x k => match Y6 env g x with
    | some (.tup vs) => match vs[k]? with
      | some (true,cs) => some (Eff.pure n (.agg cs))
      | some (false,[c]) => some (Eff.pure n (.one c))
      | _ => none
    | _ => none
  | .buildSlice t len ps => JmP P t len (JLP env g ps.toList) n
  | .indexAddr t x i => Jm2 P t (Y6 env g x) (Y6 env g i) mem n
  | .index t x i => match Jr9 x with
    | some s => JZQ P t s (Y6 env g i) n
    | none => Jl0 P t (Y6 env g x) (Y6 env g i) n
  | .slice t x lo hi none => JMz P t (Y6 env g x) env g lo hi mem n
  | .makeSlice t x y => JtK P t (Jf8 x y) (Y6 env g x) n
  | .makeFunc (.func f) ⟨[]⟩ caps => (args env g caps.toList).map (JwQ n f)
  | .call c => match c.callee with
    | .builtin b => JZR P b c.argTypes.toList (args env g c.args.toList) mem n
    | .value f => match JrZ (Y6 env g f) with
      | some (h,id) => (match args env g c.args.toList with
        | some vs => Ju6 ce mem n h id vs
        | none => none)
      | none => match JuU (Y6 env g f) with
      | some (y,id) => (match args env g c.args.toList with
        | some vs => Jwz ce mem n y id vs
        | none => none)
      | none => match Y6 env g f,args env g c.args.toList with
      | some (.one (.fn h)),some vs => Ju2 P ce mem n h vs
      | _,_ => none
    | _ => none
  | _ => none
inductive Wt where
  | no | yes (g:List (Nat × Bool)) (gx:List (Bool × Bool)) | bad
def Jsq (ops:List Oper) (env:KL) (o:Oper):Wt :=
  match o.guard with
  | none => .yes [] []
  | some (j,w) => match (ops[j]?).bind (·.dst) with
    | none => .bad
    | some d => match JD env d with
      | none => .bad
      | some e => match e.val with
        | .one (.bool (.c b)) => bif (b == w) then .yes e.g e.gx else .no
        | .one (.bool (.v x)) => .yes ((d,w) :: e.g) ((x,w) :: e.gx)
        | _ => .bad
def Jrp (env:KL) (g:List (Nat × Bool)) (c a b:Operand):Option SV :=
  match c with
  | .tmp d => match JD env d with
    | some e => bif JbK e.g g then (match e.val with
        | .one (.bool (.c x)) => bif x then Y6 env g a else Y6 env g b
        | .one (.bool (.v x)) => (match Y6 env ((d,true) :: g) a,Y6 env ((d,false) :: g) b with
          | some va,some vb => JQA x va vb
          | _,_ => none)
        | _ => none) else none
    | none => none
  | _ => none
def Jsi (P:Program) (ce:CE) (o:Oper) (env:KL) (g:List (Nat × Bool)) (mem:Jn) (n:Nat):Option Eff :=
  match o.op with
  | .pick c a b => (Jrp env g c a b).map (Eff.pure n)
  | _ => Jtz P ce o env g mem n
def Zv:Jn → List Nat → Jn
  | [],_ => []
  | (id,o) :: r,l => bif has l id then Zv r l else (id,o) :: Zv r l
def JK1 (gx:List (Bool × Bool)):List Prop → List Prop
  | [] => []
  | p :: r => JAF gx p :: JK1 gx r
def JEi (d:Nat) (l:List (Nat × Bool)):Bool := List.rec (motive := fun _ => Bool) true (fun p _ ih => !(Nat.beq p.1 d) && ih) l
theorem Jjt (d:Nat):JEi d [] = true := rfl
theorem Jgb (d:Nat) (p:Nat × Bool) (r:List (Nat × Bool)):JEi d (p :: r) = (!(Nat.beq p.1 d) && JEi d r) := rfl
def jY (d:Nat) (l:KL):Bool := List.rec (motive := fun _ => Bool) true (fun p _ ih => List.rec (motive := fun _ => Bool) ih (fun q r _ => Bool.rec false ih (JEi d (q :: r))) p.2.g) l
theorem JbZ (d:Nat):jY d [] = true := rfl
theorem JXl (d k:Nat) (e:Ent) (r:KL):jY d ((k,e) :: r) = (JEi d e.g && jY d r) := by
  obtain ⟨g,gx,tag,val⟩ := e
  cases g with
  | nil => rfl
  | cons q g =>
    show (Bool.rec false (jY d r) (JEi d (q :: g)):Bool) = (JEi d (q :: g) && jY d r)
    cases JEi d (q :: g) <;> rfl
def W1:Jn → List Nat
  | [] => []
  | (id,o) :: r => id :: (K6 o ++ W1 r)
def JH7:List (Nat × Bool) → List Nat
  | [] => []
  | p :: r => p.1 :: JH7 r
def Jg:List Operand → List Nat
  | [] => []
  | .tmp t :: r => t :: Jg r
  | _ :: r => Jg r
def q0:List Nat → List Nat
  | [] => []
  | a :: r => 4 * a :: q0 r
def q1:List Nat → List Nat
  | [] => []
  | a :: r => (4 * a + 1) :: q1 r
def q2:List Nat → List Nat
  | [] => []
  | a :: r => (4 * a + 2) :: q2 r
def JLk (n:Nat) (dom:List Nat) (l:List Nat):Bool := List.rec (motive := fun _ => Bool) true (fun a _ ih => (Nat.blt a n || has dom a) && ih) l
theorem JoO (n:Nat) (dom:List Nat):JLk n dom [] = true := rfl
theorem JlT (n:Nat) (dom:List Nat) (a:Nat) (r:List Nat):JLk n dom (a :: r) = ((Nat.blt a n || has dom a) && JLk n dom r) := rfl
def Jpo:Option SV → List Nat
  | some v => Zc v
  | none => []
structure FP where
  rs:List Nat
  ws:List Nat
  gs:List Nat
  ds:List Nat
structure RS where
  env:KL
  mem:Jn
  needs:List Prop
  eqs:jq
  n:Nat
  fps:List FP
def jd (ops:List Oper) (o:Oper):List Nat :=
  match o.guard with
  | none => []
  | some (j,_) => match (ops[j]?).bind (·.dst) with
    | some d => [d]
    | none => []
def JLn (ops:List Oper) (o:Oper) (g:List (Nat × Bool)) (e:Eff):List Nat := q0 (Jg o.op.operands.toList ++ (jd ops o ++ JH7 g)) ++ (q1 e.rd ++ q2 (Jpo e.val ++ W1 e.ups))
def JQz (o:Oper):List Nat := match o.dst with | some d => [d] | none => []
def Jo7 (n:Nat) (l:List Nat):List Nat := List.rec (motive := fun _ => List Nat) [] (fun a _ ih => Bool.rec (a :: ih) ih (Nat.blt a n)) l
theorem JcA {n id:Nat}:∀ {l:List Nat},id ∈ l → n ≤ id → id ∈ Jo7 n l
  | a :: r,h,hn => by
    show id ∈ (Bool.rec (a :: Jo7 n r) (Jo7 n r) (Nat.blt a n):List Nat)
    rcases List.mem_cons.1 h with rfl | h
    · have:Nat.blt id n = false := by
        cases hb:Nat.blt id n
        · rfl
        · rw [Nat.blt_eq] at hb; omega
      rw [this]; simp
    · have := JcA h hn
      cases Nat.blt a n
      · exact List.mem_cons_of_mem _ this
      · exact this
def JGq (n:Nat) (o:Oper) (e:Eff):List Nat := q0 (JQz o) ++ (q1 (e.touched ++ domain e.ups) ++ q2 (Jo7 n (domain e.ups)))
def Jto:RowC → RowC → Option jq
  | .lit _ a,.lit _ b => some [(.v (JUo a),.v (JUo b))]
  | .lst _ ks xs,.lst _ js ys => bif WD ks js then some [(.l xs,.l ys)] else none
  | .lit _ [],.lst _ _ ys => some [(.l [],.l ys)]
  | .lst _ _ xs,.lit _ [] => some [(.l xs,.l [])]
  | _,_ => none
def Jeq:Obj → Obj → Option jq
  | .blk t x,.blk u y => bif Nat.beq t u then JM9 x y else none
  | .row p t m x,.row q u k y => bif (p == q) && (Nat.beq t u && Nat.beq m k) then Jto x y else none
  | _,_ => none
def JOd (mem ups:Jn):List Nat → Option jq
  | [] => some []
  | id :: r => match JD mem id,JD ups id with
    | some o,some o' => (match Jeq o o',JOd mem ups r with
      | some a,some b => some (a ++ b)
      | _,_ => none)
    | _,_ => none
def Jmy (g:List (Nat × Bool)) (n:Nat) (e:Eff) (mem:Jn):Option jq :=
  match g with
  | [] => some []
  | _ => bif (match e.val with | some v => Ku n (Zc v) | none => false) then JOd mem e.ups e.touched else none
structure Fx where
  dst:Option Nat
  ent:Option Ent
  touched:List Nat
  ups:Jn
def Fx.env (x:Fx) (env:KL):KL :=
  match x.dst with
  | some d => (match x.ent with | some e => put env d e | none => rem env d)
  | none => env
def Fx.mem (x:Fx) (mem:Jn):Jn := x.ups ++ Zv mem (x.touched ++ domain x.ups)
def Jc3 (nt:Nat) (o:Oper) (env:KL):Bool := match o.dst with | some d => Nat.blt d nt && jY d env | none => true
def JVI (o:Oper) (g:List (Nat × Bool)):Bool := match o.dst with | some d => JEi d g | none => true
def JIR (o:Oper) (g:List (Nat × Bool)) (gx:List (Bool × Bool)) (e:Eff) (mem:Jn):Fx :=
  match g with
  | [] => ⟨o.dst,e.val.map fun v => ⟨[],[],e.nx,v⟩,e.touched,e.ups⟩
  | _ => ⟨o.dst,e.val.map fun v => ⟨g,gx,e.nx,v⟩,e.touched,JJ mem e.touched⟩
def JgO (P:Program) (ce:CE) (nt:Nat) (ops:List Oper) (o:Oper) (s:RS):Option RS :=
  bif Jc3 nt o s.env then
  (match Jsq ops s.env o with
  | .bad => none
  | .no => some { s with env := (Fx.mk o.dst none [] []).env s.env,fps := s.fps ++ [⟨q0 (jd ops o),q0 (JQz o),[],JQz o⟩] }
  | .yes g gx => match Jsi P ce o s.env g s.mem s.n with
    | none => none
    | some e => match Jmy g s.n e s.mem with
      | none => none
      | some q => bif Nat.ble s.n e.nx && (JVI o g && JLk 0 e.rd e.touched && (JLk s.n (domain e.ups) (Jpo e.val ++ W1 e.ups) && Ku e.nx (domain e.ups))) then
        some { env := (JIR o g gx e s.mem).env s.env,mem := (JIR o g gx e s.mem).mem s.mem,needs := s.needs ++ JK1 gx e.needs,eqs := s.eqs ++ (e.eqs ++ q),n := e.nx + 1,
               fps := s.fps ++ [⟨JLn ops o g e,JGq s.n o e,JH7 g,JQz o⟩] }
      else none)
  else none
def JDU (P:Program) (ce:CE) (nt:Nat) (ops:List Oper):List Oper → RS → Option RS
  | [],s => some s
  | o :: r,s => match JgO P ce nt ops o s with
    | some s' => JDU P ce nt ops r s'
    | none => none
inductive SX where
  | normal | exit (id:Nat) | ret
def SX.eq:SX → SX → Bool
  | .normal,.normal => true
  | .ret,.ret => true
  | .exit a,.exit b => Nat.beq a b
  | _,_ => false
inductive Tree where
  | leaf (e:SX) (env:KL) (mem:Jn)
  | ite (c:Bool) (a b:Tree)
structure TR where
  t:Tree
  needs:List Prop
  eqs:jq
  n:Nat
def JlR:List Prop → Prop
  | [] => True
  | [p] => p
  | p :: r => p ∧ JlR r
def JGy (p:Prop):List Prop → List Prop
  | [] => []
  | q :: r => [p → JlR (q :: r)]
def JLX (k:KL → Jn → Nat → Option TR):Tree → Nat → Option TR
  | .leaf .normal env mem,n => k env mem n
  | .leaf e env mem,n => some ⟨.leaf e env mem,[],[],n⟩
  | .ite c a b,n => match JLX k a n with
    | none => none
    | some x => match JLX k b x.n with
      | none => none
      | some y => some ⟨.ite c x.t y.t,JGy (c = true) x.needs ++ JGy (c = false) y.needs,x.eqs ++ y.eqs,y.n⟩
def JuQ (id:Nat):Tree → Tree
  | .leaf (.exit i) env mem => bif Nat.beq i id then .leaf .normal env mem else .leaf (.exit i) env mem
  | .leaf e env mem => .leaf e env mem
  | .ite c a b => .ite c (JuQ id a) (JuQ id b)
def KU:Tree → Nat → Tree × jq × Nat
  | .leaf e env mem,n => (.leaf e env mem,[],n)
  | .ite c a b,n => match KU a n with
    | (a',qa,n1) => match KU b n1 with
      | (b',qb,n2) => match a',b' with
        | .leaf e env mem,.leaf f env' mem' => bif SX.eq e f && !(JXo env env' || JXA mem mem') then
            (match zd c n2 env env' with
            | (v,q1,n3) => match YG c n3 mem mem' with
              | (m,q2,n4) => (.leaf e v m,qa ++ qb ++ q1 ++ q2,n4))
          else (.ite c a' b',qa ++ qb,n2)
        | _,_ => (.ite c a' b',qa ++ qb,n2)
def JEh (l:List Nat):Nat := List.rec (motive := fun _ => Nat) 0 (fun a _ ih => Nat.lor (2 ^ a) ih) l
theorem JrC:JEh [] = 0 := rfl
theorem Joa (a:Nat) (r:List Nat):JEh (a :: r) = Nat.lor (2 ^ a) (JEh r) := rfl
def JBD (keep:Nat):KL → KL
  | [] => []
  | (t,e) :: r => bif keep.testBit t then (match e.g with | [] => (t,e) :: JBD keep r | _ => del (JBD keep r) t) else del (JBD keep r) t
def JOL (acc:List Nat):List Edge → Nat
  | [] => 0
  | e :: r => bif Region.binds .any e then (2 ^ e.on ||| acc.getD e.on 0) ||| JOL acc r else JOL acc r
def Yu:List Oper → List Nat → List Nat
  | [],acc => acc
  | o :: r,acc => Yu r (acc ++ [JOL acc o.after.toList])
def Jnn (n:Nat):List Edge → Bool
  | [] => true
  | e :: r => (!(Region.binds .any e) || Nat.blt e.on n) && Jnn n r
def JiV:Nat → List Oper → Bool
  | _,[] => true
  | n,o :: r => Jnn n o.after.toList && JiV (n + 1) r
def clash (a b:FP):Bool := YP a.ws b.rs || (YP a.ws b.ws || YP a.rs b.ws)
structure FM where
  rs:Nat
  ws:Nat
  gs:Nat
  ds:Nat
def fm (a:FP):FM := ⟨JEh a.rs,JEh a.ws,JEh a.gs,JEh a.ds⟩
def Jc0 (a b:Nat):Bool := Nat.beq (Nat.land a b) 0
def JjJ (a b:FM):Bool := !(Jc0 a.ws (Nat.lor b.rs b.ws) && Jc0 a.rs b.ws)
def Jw1 (b:FM) (m:Nat):List FM → Nat → Bool
  | [],_ => true
  | a :: r,i => (m.testBit i || !JjJ a b) && (Jc0 a.gs b.ds && Jw1 b m r (i + 1))
def JRs:List FM → List FM → List Nat → Bool
  | _,[],_ => true
  | done,b :: r,m :: ms => Jw1 b m done 0 && JRs (done ++ [b]) r ms
  | _,_ :: _,[] => false
abbrev QE := KL → Jn → Nat → Option TR
def JCN:Code → Option Nat
  | .region id _ _ => some id
  | .seq a b => match JCN a with | some i => some i | none => JCN b
  | .cond _ a b => match JCN a with | some i => some i | none => JCN b
  | .block _ b => JCN b
  | .loop b => JCN b
  | _ => none
def ZG:Code → List Code
  | .seq a b => ZG a ++ ZG b
  | .cond _ a b => ZG a ++ ZG b
  | .block _ b => ZG b
  | .loop b => b :: ZG b
  | _ => []
structure Cfg where
  keep:Nat
  nt:Nat
  fuel:Nat
  loops:Nat → Option QE
def Jsf (cfg:Cfg) (b:Code) (u:QE) (env:KL) (mem:Jn) (n:Nat):Option TR :=
  match (JCN b).bind cfg.loops with
  | some s => (match s env mem n with
    | some r => some r
    | none => u env mem n)
  | none => u env mem n
def JgM (P:Program) (ce:CE) (cfg:Cfg) (ops:List Oper) (draw:Bool) (env:KL) (mem:Jn) (n:Nat):Option TR :=
  match JDU P ce cfg.nt ops ops ⟨env,mem,[],[],n,[]⟩ with
  | some s => bif !draw || (JiV 0 ops && (P.follows .mixedOrders && JRs [] (s.fps.map fm) (Yu ops []))) then some ⟨.leaf .normal (JBD cfg.keep s.env) s.mem,s.needs,s.eqs,s.n⟩ else none
  | none => none
def Jc8 (body:KL → Jn → Nat → Option TR):Nat → KL → Jn → Nat → Option TR
  | 0,_,_,_ => none
  | k + 1,env,mem,n => match body env mem n with
    | none => none
    | some x => match KU x.t x.n with
      | (t,q,n1) => match JLX (Jc8 body k) t n1 with
        | none => none
        | some y => some ⟨y.t,x.needs ++ y.needs,x.eqs ++ q ++ y.eqs,y.n⟩
def YC (P:Program) (ce:CE) (cfg:Cfg):Code → KL → Jn → Nat → Option TR
  | .skip,env,mem,n => some ⟨.leaf .normal env mem,[],[],n⟩
  | .region _ ops draw,env,mem,n => JgM P ce cfg ops.toList draw env mem n
  | .seq a b,env,mem,n => match YC P ce cfg a env mem n with
    | none => none
    | some x => match KU x.t x.n with
      | (t,q,n1) => match JLX (YC P ce cfg b) t n1 with
        | none => none
        | some y => some ⟨y.t,x.needs ++ y.needs,x.eqs ++ q ++ y.eqs,y.n⟩
  | .cond c a b,env,mem,n => match Y6 env [] c with
    | some (.one (.bool (.c x))) => bif x then YC P ce cfg a env mem n else YC P ce cfg b env mem n
    | some (.one (.bool (.v x))) => match YC P ce cfg a env mem n with
      | none => (match YC P ce cfg b env mem n with
        | none => none
        | some z => some { z with needs := (x = false) :: z.needs })
      | some y => match YC P ce cfg b env mem y.n with
        | none => some { y with needs := (x = true) :: y.needs }
        | some z => some ⟨.ite x y.t z.t,JGy (x = true) y.needs ++ JGy (x = false) z.needs,y.eqs ++ z.eqs,z.n⟩
    | _ => none
  | .block id b,env,mem,n => match YC P ce cfg b env mem n with
    | none => none
    | some x => some { x with t := JuQ id x.t }
  | .exit id,env,mem,n => some ⟨.leaf (.exit id) env mem,[],[],n⟩
  | .ret,env,mem,n => some ⟨.leaf .ret env mem,[],[],n⟩
  | .loop b,env,mem,n => Jsf cfg b (Jc8 (YC P ce cfg b) cfg.fuel) env mem n
  | .rangeFunc ..,_,_,_ => none
  | .scope _,_,_,_ => none
  | .label _,_,_,_ => none
  | .goto _,_,_,_ => none
  | .refuse _,_,_,_ => none
def JTi:List Oper → List Nat → List Nat
  | [],_ => []
  | o :: r,d => (Jg o.op.operands.toList).filter (fun t => !has d t) ++ JTi r (match o.dst with | some t => t :: d | none => d)
def YK:Code → List Nat
  | .region _ ops _ => JTi ops.toList []
  | .seq a b => YK a ++ YK b
  | .cond c a b => Jg [c] ++ (YK a ++ YK b)
  | .block _ b => YK b
  | .loop b => YK b
  | _ => []
def JGG:List ResultVar → List Nat
  | [] => []
  | .tmp t :: r => t :: JGG r
  | .cell t _ :: r => t :: JGG r
def JVR (P:Program) (env:KL) (mem:Jn):ResultVar → Option (Bool × List SC)
  | .tmp t => match JD env t with
    | some e => match e.g,e.val with
      | [],.one c => some (false,[c])
      | [],.agg cs => some (true,cs)
      | _,_ => none
    | none => none
  | .cell t ty => match JD env t,JEZ P ty,P.info? ty with
    | some e,some a,some i => match e.g,e.val with
      | [],.one (.ptr id off) => match JD mem id with
        | some (.blk _ cs) => bif a then (let r := QY (Xo cs off i.size); bif Nat.beq r.length i.size then some (true,r) else none)
            else (match Xo cs off 1 with | [(_,c)] => some (false,[c]) | _ => none)
        | _ => none
      | _,_ => none
    | _,_,_ => none
def JFX (P:Program) (env:KL) (mem:Jn):List ResultVar → Option (List (Bool × List SC))
  | [] => some []
  | r :: rs => match JVR P env mem r,JFX P env mem rs with
    | some x,some xs => some (x :: xs)
    | _,_ => none
def Jhw:List (Bool × List SC) → Option SV
  | [(true,cs)] => some (.agg cs)
  | [(false,[c])] => some (.one c)
  | [_] => none
  | l => some (.tup l)
def JPb (mem:Jn) (n0:Nat):SC → Option (Option (Nat × Nat × Nat × RowC))
  | .nilsl => some none
  | .wh id => match JD mem id with
    | some (.row false ty m r) => bif Nat.ble n0 id then some (some (id,ty,m,r)) else none
    | _ => none
  | _ => none
structure Picked where
  ty:Nat
  esz:Nat
  r:RowC
  gone:List Nat
  eqs:jq
  n:Nat
def JVC (c:Bool) (n0 n:Nat) (m m':Jn) (x y:SC):Option Picked :=
  match JPb m n0 x,JPb m' n0 y with
  | some (some (i,ty,k,r)),some (some (j,ty',k',r')) => bif Nat.beq ty ty' && Nat.beq k k' then (JRk c n r r').map (fun (z,q,n') => ⟨ty,k,z,[i,j],q,n'⟩) else none
  | some (some (i,ty,k,r)),some none => bif Nat.blt 0 k then (JRk c n r (.lit n [])).map (fun (z,q,n') => ⟨ty,k,z,[i],q,n'⟩) else none
  | some none,some (some (j,ty,k,r)) => bif Nat.blt 0 k then (JRk c n (.lit n []) r).map (fun (z,q,n') => ⟨ty,k,z,[j],q,n'⟩) else none
  | _,_ => none
def Jjq (c:Bool) (n0 n:Nat) (m m':Jn):SV → SV → Option (SV × Picked)
  | .one x,.one y => (JVC c n0 n m m' x y).map fun p => (.one (.wh p.n),p)
  | .tup ((false,[x]) :: r),.tup ((false,[y]) :: s) => match JVC c n0 n m m' x y,JIf c r s with
    | some p,some t => bif (KZ t).isEmpty then some (.tup ((false,[.wh p.n]) :: t),p) else none
    | _,_ => none
  | _,_ => none
def JiU:List (Nat × SC) → List (Nat × SC) → Nat → Option Nat
  | (_,x) :: r,(_,y) :: s,j => bif Jjk x y then some j else JiU r s (j + 1)
  | _,_,_ => none
def JgZ:Jn → Jn → Option (Nat × Nat)
  | [],_ => none
  | (b,o) :: r,s => match (match o,JD s b with
      | .blk _ x,some (.blk _ y) => JiU x y 0
      | _,_ => none) with
    | some j => some (b,j)
    | none => JgZ r s
def JsM (m:Jn) (b j:Nat):Option (Nat × Nat) :=
  match JD m b with
  | some (.blk _ cs) => match cs.drop j with
    | (_,.wh a) :: _ => match JD m a with
      | some (.row false ty k _) => some (ty,k)
      | _ => none
    | _ => none
  | _ => none
def JOA (m:Jn) (b j p e k:Nat):Option Jn :=
  match JD m b with
  | some (.blk ty cs) => match cs.drop j with
    | (_,x) :: r => match JPb m 0 x with
      | some none => some (put ((p,.row false e k (.lit (p + 1) [])) :: Zv m [p]) b (.blk ty (cs.take j ++ (p + 2,.wh p) :: r)))
      | some (some (i,e',k',z)) => bif Nat.beq e' e && Nat.beq k' k then some (put ((p,.row false e k z) :: Zv m [p,i]) b (.blk ty (cs.take j ++ (p + 2,.wh p) :: r))) else none
      | none => none
    | [] => none
  | _ => none
def Jdw (mem:Jn):SC → Option (Option (Nat × Nat × Nat × Bool × RowC))
  | .nilsl => some none
  | .wh id => match JD mem id with
    | some (.row ro ty m r) => some (some (id,ty,m,ro,r))
    | _ => none
  | _ => none
def JV5 (m:Jn) (b j p e k:Nat):Option Jn :=
  match JD m b with
  | some (.blk ty cs) => match cs.drop j with
    | (_,x) :: r => match Jdw m x with
      | some none => some (put ((p,.row true e k (.lit (p + 1) [])) :: Zv m [p]) b (.blk ty (cs.take j ++ (p + 2,.wh p) :: r)))
      | some (some (i,e',k',ro,z)) => bif Nat.beq e' e && Nat.beq k' k then some (put ((p,.row true e k z) :: Zv m (p :: bif ro then [] else [i])) b (.blk ty (cs.take j ++ (p + 2,.wh p) :: r))) else none
      | none => none
    | [] => none
  | _ => none
def JrF (m:Jn) (b j:Nat):Option (Nat × Nat) :=
  match JD m b with
  | some (.blk _ cs) => match cs.drop j with
    | (_,.wh a) :: _ => match JD m a with
      | some (.row true ty k _) => some (ty,k)
      | _ => none
    | _ => none
  | _ => none
def JQb (ro:Bool) (m:Jn) (b j p e k:Nat):Option Jn := bif ro then JV5 m b j p e k else JOA m b j p e k
def Jud (m m':Jn) (b j:Nat):Option (Bool × Nat × Nat) :=
  match JrF m b j,JrF m' b j with
  | some (e,k),_ => some (true,e,k)
  | none,some (e,k) => some (true,e,k)
  | none,none => match JsM m b j with
    | some (e,k) => some (false,e,k)
    | none => match JsM m' b j with
      | some (e,k) => some (false,e,k)
      | none => none
def JD5:Nat → Jn → Jn → Nat → Jn × Jn × Nat
  | 0,m,m',n => (m,m',n)
  | f + 1,m,m',n => match JgZ m m' with
    | none => (m,m',n)
    | some (b,j) => match Jud m m' b j with
      | none => (m,m',n)
      | some (ro,e,k) => bif Nat.blt 0 k then (match JQb ro m b j n e k,JQb ro m' b j n e k with
        | some m1,some m2 => JD5 f m1 m2 (n + 3)
        | _,_ => (m,m',n)) else (m,m',n)
def JPf (v v':SV) (m m':Jn) (n:Nat):Jn × Jn × Nat := bif Ku n (Zc v) && Ku n (Zc v') then JD5 8 m m' n else (m,m',n)
def JxB (c:Bool) (n0:Nat) (v v':SV):Nat := match JQA c v v' with
  | some _ => n0
  | none => 0
def JIr (P:Program) (n0:Nat) (rs:List ResultVar):Tree → Nat → Option (SV × Jn × jq × Nat)
  | .leaf (.exit _) _ _,_ => none
  | .leaf _ env mem,n => match (JFX P env mem rs).bind Jhw with
    | some v => some (v,mem,[],n)
    | none => none
  | .ite c a b,n => match JIr P n0 rs a n with
    | none => none
    | some (v,m0,q,n1) => match JIr P n0 rs b n1 with
      | none => none
      | some (v',m0',q',n2') => match JPf v v' m0 m0' n2' with
      | (m,m',n2) => match Jjq c (JxB c n0 v v') n2 m m' v v' with
        | some (z,p) => (match YG c (p.n + 1) m m' with
          | (mm,q'',n3) => some (z,(p.n,.row false p.ty p.esz p.r) :: Zv mm (p.n :: p.gone),q ++ q' ++ p.eqs ++ q'',n3))
        | none => match JQA c v v' with
          | none => none
          | some z => match YG c n2 m m' with
            | (mm,q'',n3) => some (z,mm,q ++ q' ++ q'',n3)
def JH8:List SV → Nat → KL
  | [],_ => []
  | v :: r,t => (t,⟨[],[],2 * t,v⟩) :: JH8 r (t + 1)
def JcJ (P:Program) (ce:CE) (fuel:Nat) (L:Nat → Option QE) (f:FuncId) (vs:List SV) (mem:Jn) (n:Nat):Option CRes :=
  bif Nat.ble 1000000 f then none else match P.funcs[f]? with
  | none => none
  | some fn => match fn.body with
    | none => none
    | some body => bif Nat.ble vs.length fn.ntmps then
      (match YC P ce ⟨JEh (YK body ++ JGG fn.results.toList),fn.ntmps,fuel,L⟩ body (JH8 vs 0) mem n with
      | none => none
      | some x => match JIr P n fn.results.toList x.t x.n with
        | none => none
        | some (v,m,q,n') => bif Nat.ble n n' then
            some ⟨v,JJ m (Ka m 3 (YX (domain mem) (Zc v))),x.needs,x.eqs ++ q,n'⟩ else none) else none
def KW:List Nat → Nat → Nat → Nat
  | [],n,i => n + i
  | a :: _,_,0 => a
  | _ :: r,n,i + 1 => KW r (n + 1) i
def KD (l:List Nat) (id k:Nat):Nat := List.rec (motive := fun _ => Nat → Nat) (fun _ => 0) (fun a _ ih k => Bool.rec (ih (k + 1)) k (Nat.beq a id)) l k
theorem Jcn (id k:Nat):KD [] id k = 0 := rfl
theorem Jae (a:Nat) (r:List Nat) (id k:Nat):KD (a :: r) id k = bif Nat.beq a id then k else KD r id (k + 1) := by
  show (Bool.rec (KD r id (k + 1)) k (Nat.beq a id):Nat) = _
  cases Nat.beq a id <;> rfl
def SC.ren (f:Nat → Nat):SC → SC
  | .ptr id off => .ptr (f id) off
  | .eptr id esz i off => .eptr (f id) esz i off
  | .wh id => .wh (f id)
  | .sl id esz off len => .sl (f id) esz off len
  | .bs id len => .bs (f id) len
  | .clo g id => .clo g (f id)
  | .int k n => .int k n
  | .bool b => .bool b
  | .nilp => .nilp
  | .nilsl => .nilsl
  | .fn g => .fn g
  | .yld g id => .yld g (f id)
  | .nilf => .nilf
def JyC (f:Nat → Nat) (c:SC) (l:List SC):List SC := match c with
  | .ptr id off => .ptr (f id) off :: l
  | .eptr id esz i off => .eptr (f id) esz i off :: l
  | .wh id => .wh (f id) :: l
  | .sl id esz off len => .sl (f id) esz off len :: l
  | .bs id len => .bs (f id) len :: l
  | .clo g id => .clo g (f id) :: l
  | .int k n => .int k n :: l
  | .bool b => .bool b :: l
  | .nilp => .nilp :: l
  | .nilsl => .nilsl :: l
  | .fn g => .fn g :: l
  | .yld g id => .yld g (f id) :: l
  | .nilf => .nilf :: l
def JUa (f:Nat → Nat) (l:List SC):List SC := List.rec (motive := fun _ => List SC) [] (fun c _ ih => JyC f c ih) l
theorem JQk (f:Nat → Nat):JUa f [] = [] := rfl
theorem JNK (f:Nat → Nat) (c:SC) (r:List SC):JUa f (c :: r) = c.ren f :: JUa f r := by cases c <;> rfl
def JR4 (f:Nat → Nat):List (Bool × List SC) → List (Bool × List SC)
  | [] => []
  | (b,cs) :: r => (b,JUa f cs) :: JR4 f r
def SV.ren (f:Nat → Nat):SV → SV
  | .one c => .one (c.ren f)
  | .agg cs => .agg (JUa f cs)
  | .tup vs => .tup (JR4 f vs)
def JUO (f:Nat → Nat):List SV → List SV
  | [] => []
  | v :: r => v.ren f :: JUO f r
def Jxp (f:Nat → Nat) (t:Nat) (c:SC) (l:List (Nat × SC)):List (Nat × SC) := match c with
  | .ptr id off => (t,.ptr (f id) off) :: l
  | .eptr id esz i off => (t,.eptr (f id) esz i off) :: l
  | .wh id => (t,.wh (f id)) :: l
  | .sl id esz off len => (t,.sl (f id) esz off len) :: l
  | .bs id len => (t,.bs (f id) len) :: l
  | .clo g id => (t,.clo g (f id)) :: l
  | .int k n => (t,.int k n) :: l
  | .bool b => (t,.bool b) :: l
  | .nilp => (t,.nilp) :: l
  | .nilsl => (t,.nilsl) :: l
  | .fn g => (t,.fn g) :: l
  | .yld g id => (t,.yld g (f id)) :: l
  | .nilf => (t,.nilf) :: l
def JtY (f g:Nat → Nat) (l:List (Nat × SC)):List (Nat × SC) := List.rec (motive := fun _ => List (Nat × SC)) [] (fun p _ ih => Jxp f (g p.1) p.2 ih) l
theorem Jrn (f g:Nat → Nat):JtY f g [] = [] := rfl
theorem Jqo (f g:Nat → Nat) (t:Nat) (c:SC) (r:List (Nat × SC)):JtY f g ((t,c) :: r) = (g t,c.ren f) :: JtY f g r := by cases c <;> rfl
def Jy8 (g:Nat → Nat):RowC → RowC
  | .lit t rows => .lit (g t) rows
  | .lst t ks xs => .lst (g t) ks xs
def Obj.ren (f g:Nat → Nat):Obj → Obj
  | .blk ty cs => .blk ty (JtY f g cs)
  | .row ro ty esz r => .row ro ty esz (Jy8 g r)
  | .clo cs => .clo (JUO f cs)
  | .raw b rs t L k => .raw b (rs.map f) (g t) L k
def JEe (f g:Nat → Nat):Jn → Jn
  | [] => []
  | (id,o) :: r => (f id,o.ren f g) :: JEe f g r
def Jwa:List (Nat × SC) → List Nat
  | [] => []
  | (t,_) :: r => t :: Jwa r
def Jy1:RowC → List Nat
  | .lit t _ => [t]
  | .lst t _ _ => [t]
def Jxt:Obj → List Nat
  | .blk _ cs => Jwa cs
  | .row _ _ _ r => Jy1 r
  | .clo _ => []
  | .raw _ _ t _ _ => [t]
def JtJ:Jn → List Nat
  | [] => []
  | (_,o) :: r => Jxt o ++ JtJ r
def JMV:List Nat → Bool
  | [] => true
  | a :: r => !has r a && JMV r
def JL1 (mem:Jn):List Nat → Jn
  | [] => []
  | id :: r => match JD mem id with
    | some o => (id,o) :: JL1 mem r
    | none => JL1 mem r
def Jiy (g:List SV → Jn → Nat → Option CRes) (vs:List SV) (mem:Jn) (n:Nat):Option CRes :=
  let I := YX (YX [] (Qj vs)) (W1 mem)
  let M := JL1 mem I
  let T := YX [] (JtJ M)
  let k := I.length
  let nc := k + T.length
  bif JMV I && Ku n I then
    (match g (JUO (fun id => KD I id 0) vs) (JEe (fun id => KD I id 0) (fun t => KD T t k) M) nc with
    | some r => some ⟨r.val.ren (KW I n),JEe (KW I n) (fun t => bif Nat.blt t nc then (bif Nat.blt t k then n + t else KW T n (t - k)) else n + t) r.mem,r.needs,r.eqs,n + r.nx⟩
    | none => none)
  else none
abbrev JY := List SV → Jn → Nat → Option CRes
def JlB (s:Option JY) (g:JY) (vs:List SV) (mem:Jn) (n:Nat):Option CRes :=
  match s with
  | some s => (match s vs mem n with
    | some r => some r
    | none => g vs mem n)
  | none => g vs mem n
def JdB (P:Program) (S:FuncId → Option JY) (L:FuncId → Nat → Option QE) (fuel:Nat):Nat → CE
  | 0 => fun _ _ _ _ => none
  | k + 1 => fun f => Jiy (JlB (S f) (JcJ P (JdB P S L fuel k) fuel (L f) f))
abbrev Sub := List (Nat × Option Nat)
structure MR where
  sub:Sub
  needs:List Prop
  eqs:jq
def JUI (n0:Nat) (a:Nat) (b:Option Nat) (m:MR):Option MR :=
  bif Nat.blt a n0 then (match b with
    | some b => bif Nat.beq a b then some m else none
    | none => none)
  else match JD m.sub a with
    | none => some { m with sub := (a,b) :: m.sub }
    | some b' => (match b,b' with
      | some x,some y => bif Nat.beq x y then some m else none
      | none,none => some m
      | _,_ => none)
def Jo3 (same:Bool) (k:IntKind) (x y:SI) (m:MR):MR :=
  match x,y with
  | .c a,.c b => bif decide (a = b) then m else { m with needs := m.needs ++ [a = b] }
  | x,y => bif same then { m with eqs := m.eqs ++ [(.v (.one (.int k x)),.v (.one (.int k y)))] } else { m with needs := m.needs ++ [x.val = y.val] }
def Jn1 (same:Bool) (x y:SB) (m:MR):MR :=
  match x,y with
  | .c a,.c b => bif (a == b) then m else { m with needs := m.needs ++ [a = b] }
  | x,y => bif same then { m with eqs := m.eqs ++ [(.v (.one (.bool x)),.v (.one (.bool y)))] } else { m with needs := m.needs ++ [x.val = y.val] }
def JZ9 (x y:SN) (m:MR):MR :=
  match x,y with
  | .c a,.c b => bif Nat.beq a b then m else { m with needs := m.needs ++ [a = b] }
  | x,y => { m with needs := m.needs ++ [x.val = y.val] }
def JNx (a b:Nat):Bool := Nat.beq a b && Nat.blt a 1000000000
def JZl (n0:Nat) (same:Bool) (x y:SC) (m:MR):Option MR :=
  match x,y with
  | .int k x,.int j y => bif j6 k j then some (Jo3 same k x y m) else none
  | .bool x,.bool y => some (Jn1 same x y m)
  | .ptr a o,.ptr b p => bif Nat.beq o p then JUI n0 a (some b) m else none
  | .wh a,.wh b => JUI n0 a (some b) m
  | .wh a,.nilsl => JUI n0 a none m
  | .sl a e o l,.sl b f p k => bif Nat.beq e f then JUI n0 a (some b) (JZ9 l k (JZ9 o p m)) else none
  | .eptr a e i o,.eptr b f j p => bif Nat.beq e f && Nat.beq o p then JUI n0 a (some b) (JZ9 i j m) else none
  | .clo f a,.clo h b => bif Nat.beq f h then JUI n0 a (some b) m else none
  | .nilp,.nilp => some m
  | .nilsl,.nilsl => some m
  | .fn f,.fn h => bif Nat.beq f h then some m else none
  | _,_ => none
def JOW (n0:Nat) (same:Bool):List SC → List SC → MR → Option MR
  | [],[],m => some m
  | x :: r,y :: s,m => match JZl n0 same x y m with
    | some m' => JOW n0 same r s m'
    | none => none
  | _,_,_ => none
def JeG (n0:Nat) (same:Bool) (x y:SV) (m:MR):Option MR :=
  match x,y with
  | .one x,.one y => JZl n0 same x y m
  | .agg x,.agg y => JOW n0 same x y m
  | _,_ => none
def JUt (n0:Nat):List SV → List SV → MR → Option MR
  | [],[],m => some m
  | x :: r,y :: s,m => match JeG n0 false x y m with
    | some m' => JUt n0 r s m'
    | none => none
  | _,_,_ => none
def JfH (n0:Nat):List (Nat × SC) → List (Nat × SC) → MR → Option MR
  | [],[],m => some m
  | (a,x) :: r,(b,y) :: s,m => match JZl n0 (JNx a b) x y m with
    | some m' => JfH n0 r s m'
    | none => none
  | _,_,_ => none
def JfY (n0:Nat):KL → KL → MR → Option MR
  | [],_,m => some m
  | (t,e) :: r,env,m => match JD env t with
    | none => none
    | some f => match e.g,f.g with
      | [],[] => (match JeG n0 (JNx e.tag f.tag) e.val f.val m with
        | some m' => JfY n0 r env m'
        | none => none)
      | _,_ => none
def JKp (n0:Nat) (same:Bool):List (List SC) → List (List SC) → MR → Option MR
  | [],[],m => some m
  | x :: r,y :: s,m => match JCS x,JOW n0 same x y m with
    | some _,some m' => JKp n0 same r s m'
    | _,_ => none
  | _,_,_ => none
def JmH (n0:Nat) (x y:RowC) (m:MR):Option MR :=
  match x,y with
  | .lst t ks xs,.lst u js ys => bif WD ks js then (bif JNx t u then some { m with eqs := m.eqs ++ [(.l xs,.l ys)] } else some { m with needs := m.needs ++ [xs = ys] }) else none
  | .lst _ ks xs,.lit _ rows => match qE ks rows with
    | some ys => some { m with needs := m.needs ++ [xs = ys] }
    | none => none
  | .lit t a,.lit u b => JKp n0 (JNx t u) a b m
  | _,_ => none
def JmN (n0:Nat) (x y:Obj) (m:MR):Option MR :=
  match x,y with
  | .blk t x,.blk u y => bif Nat.beq t u then JfH n0 x y m else none
  | .row p t e x,.row q u f y => bif (p == q) && (Nat.beq t u && Nat.beq e f) then JmH n0 x y m else none
  | .clo x,.clo y => JUt n0 x y m
  | _,_ => none
def JbC (n0:Nat):Jn → Jn → MR → Option MR
  | [],_,m => some m
  | (id,o) :: r,mem,m => match (bif Nat.blt id n0 then some (some id) else JD m.sub id) with
    | none => none
    | some none => (match o with
      | .row false _ esz (.lst _ _ xs) => bif Nat.blt 0 esz then JbC n0 r mem { m with needs := m.needs ++ [xs = []] } else none
      | _ => none)
    | some (some b) => match JD mem b with
      | none => none
      | some p => match JmN n0 o p m with
        | some m' => JbC n0 r mem m'
        | none => none
def jV:Sub → List Nat
  | [] => []
  | (_,some b) :: r => b :: jV r
  | (_,none) :: r => jV r
def JZf:KL → Bool
  | [] => true
  | (_,e) :: r => (e.g.isEmpty && e.gx.isEmpty) && JZf r
def Jab:KL → List Nat
  | [] => []
  | (_,e) :: r => Zc e.val ++ Jab r
def JMH (n0:Nat):Jn → List Nat
  | [] => []
  | (id,_) :: r => bif Nat.blt id n0 then id :: JMH n0 r else JMH n0 r
def Jaz (n0 N:Nat) (E:KL) (M:Jn) (env:KL) (mem:Jn):Option (List Prop × jq) :=
  bif JZf E && (Ku N (Jab E) && Ku N (W1 M)) then
    (match JfY n0 E env ⟨[],[],[]⟩ with
    | none => none
    | some m => match JbC n0 M mem m with
      | none => none
      | some m' => bif JMV (jV m'.sub) && !(YP (jV m'.sub) (JMH n0 M)) then some (m'.needs,m'.eqs) else none)
  else none
def JQx (n0 N:Nat) (e:SX) (env:KL) (mem:Jn):Tree → Option (List Prop × jq)
  | .leaf f E M => bif SX.eq e f then Jaz n0 N E M env mem else some ([False],[])
  | .ite c a b => match JQx n0 N e env mem a,JQx n0 N e env mem b with
    | some (p,q),some (p',q') => some (JGy (c = true) p ++ JGy (c = false) p',q ++ q')
    | _,_ => none
structure Fam (σ τ:Type) where
  k:Nat
  E:σ → KL
  M:σ → Jn
  out:τ → Tree
  fin:σ → τ
  next:σ → Nat → σ
  J:σ → Prop
  μ:σ → Nat
def JDR {σ τ:Type} (F:Fam σ τ) (n:Nat) (s:σ):Tree → Nat → Option (List Prop × jq × Nat)
  | .leaf .normal env mem,i => match Jaz n (n + F.k) (F.E (F.next s i)) (F.M (F.next s i)) env mem with
    | some (p,q) => some (F.J (F.next s i) :: (F.μ (F.next s i) < F.μ s) :: (F.fin (F.next s i) = F.fin s) :: p,q,i + 1)
    | none => none
  | .leaf e env mem,i => match JQx n (n + F.k) e env mem (F.out (F.fin s)) with
    | some (p,q) => some (p,q,i + 1)
    | none => none
  | .ite c a b,i => match JDR F n s a i with
    | none => none
    | some (p,q,j) => match JDR F n s b j with
      | none => none
      | some (p',q',l) => some (JGy (c = true) p ++ JGy (c = false) p',q ++ q',l)
def Xd {σ τ:Type} (F:Fam σ τ) (body:QE) (n:Nat) (s:σ):Option (List Prop × jq) :=
  match body (F.E s) (F.M s) (n + F.k) with
  | none => none
  | some x => match KU x.t x.n with
    | (t,q,_) => match JDR F n s t 0 with
      | some (p,q',_) => some (x.needs ++ p,x.eqs ++ q ++ q')
      | none => none
def jk {σ τ:Type} (F:Fam σ τ) (n0:Nat) (init:KL → Jn → Option σ):QE := fun env mem n =>
  bif Nat.beq n n0 then (match init env mem with
    | none => none
    | some s => match Jaz n (n + F.k) (F.E s) (F.M s) env mem with
      | some (p,q) => some ⟨F.out (F.fin s),F.J s :: p,q,n + F.k⟩
      | none => none) else none
open Go.RowKit
structure Loc where
  blk:Option Nat
  eye:Option Nat
  ad:Option Addr
  len:Nat
  cap:Nat
  caps:Array Value
def Loc.none:Loc := ⟨.none,.none,.none,0,0,#[]⟩
def Loc.box (b:Nat):Loc := ⟨some b,some b,some ⟨b,0,.none⟩,0,0,#[]⟩
def Loc.row (b len cap:Nat):Loc := ⟨some b,some b,some ⟨b,0,.none⟩,len,cap,#[]⟩
def Loc.clo (caps:Array Value):Loc := ⟨.none,.none,.none,0,0,caps⟩
abbrev Th := Nat → Loc
def Th.none:Th := fun _ => Loc.none
def SC.den (θ:Th):SC → Value
  | .int k n => .int k n.val
  | .bool b => .bool b.val
  | .ptr id off => .pointer ((θ id).blk.map fun b => ⟨b,off,.none⟩)
  | .eptr id esz i off => .pointer ((θ id).ad.map fun a => a.add (i.val * esz + off))
  | .wh id => .slice (θ id).ad (θ id).len (θ id).cap
  | .sl id esz off len => .slice ((θ id).ad.map fun a => if (θ id).cap = off.val then a else a.add (off.val * esz)) len.val ((θ id).cap - off.val)
  | .bs id len => .slice ((θ id).blk.map fun b => ⟨b,0,.none⟩) len len
  | .nilp => .pointer .none
  | .nilsl => .slice .none 0 0
  | .fn f => .func (.func f) #[] #[]
  | .clo f id => .func (.func f) #[] (θ id).caps
  | .yld _ id => .func (.yield ((θ id).blk.getD 0)) #[] #[]
  | .nilf => .nilFunc
def JM (θ:Th) (cs:List SC):List Value := cs.map (SC.den θ)
def QU (θ:Th):Bool × List SC → Value
  | (false,[c]) => c.den θ
  | (_,cs) => .agg (JM θ cs).toArray
def SV.den (θ:Th):SV → Value
  | .one c => c.den θ
  | .agg cs => .agg (JM θ cs).toArray
  | .tup vs => .tuple (vs.map (QU θ)).toArray
theorem SC.den_one (θ:Th) (c:SC):(c.den θ).cells = #[c.den θ] := by cases c <;> rfl
def WE (n:Nat) (θ θ':Th):Prop := ∀ id,id < n → θ' id = θ id
theorem WE.refl (n:Nat) (θ:Th):WE n θ θ := fun _ _ => rfl
theorem WE.trans {n m:Nat} {a b c:Th} (h:WE n a b) (k:WE m b c) (hn:n ≤ m):WE n a c := fun id hi => (k id (Nat.lt_of_lt_of_le hi hn)).trans (h id hi)
theorem WE.mono {n m:Nat} {a b:Th} (h:WE m a b) (hn:n ≤ m):WE n a b := fun id hi => h id (Nat.lt_of_lt_of_le hi hn)
theorem Xp {n:Nat}:∀ {l:List Nat},Ku n l = true → ∀ id ∈ l,id < n
  | [],_,_,h => by cases h
  | a :: r,h,id,hm => by
    simp only [JqZ,Jm4,Bool.and_eq_true,Nat.blt_eq] at h
    rcases List.mem_cons.1 hm with rfl | hm
    · exact h.1
    · exact Xp h.2 id hm
section agree
variable {n:Nat} {θ θ':Th} (ha:WE n θ θ')
include ha
theorem SC.den_agree {c:SC} (h:∀ id ∈ Wm c,id < n):c.den θ' = c.den θ := by
  cases c <;> simp [SC.den,Wm] at h ⊢ <;> simp [ha _ h]
theorem WT:∀ {cs:List SC},(∀ id ∈ Qu cs,id < n) → JM θ' cs = JM θ cs
  | [],_ => rfl
  | c :: r,h => by
    simp only [JM,List.map_cons,List.cons.injEq]
    exact ⟨SC.den_agree ha fun id hi => h id (by simp [ZH,Jt,hi]),WT fun id hi => h id (by simp [ZH,Jt,hi])⟩
theorem Jbg {x:Bool × List SC} (h:∀ id ∈ Qu x.2,id < n):QU θ' x = QU θ x := by
  obtain ⟨b,cs⟩ := x
  unfold QU
  split
  · rename_i c he; cases he; exact SC.den_agree ha fun id hi => h id (by simp [ZH,Jt,hi])
  · rename_i cs' _ he; cases he; rw [WT ha h]
theorem JQC:∀ {vs:List (Bool × List SC)},(∀ id ∈ KZ vs,id < n) → vs.map (QU θ') = vs.map (QU θ)
  | [],_ => rfl
  | (b,cs) :: r,h => by
    simp only [List.map_cons,List.cons.injEq]
    exact ⟨Jbg ha fun id hi => h id (by simp [KZ,hi]),JQC fun id hi => h id (by simp [KZ,hi])⟩
theorem SV.den_agree {v:SV} (h:∀ id ∈ Zc v,id < n):v.den θ' = v.den θ := by
  cases v with
  | one c => exact SC.den_agree ha h
  | agg cs => simp only [SV.den]; rw [WT ha h]
  | tup vs => simp only [SV.den]; rw [JQC ha h]
theorem JLI:∀ {vs:List SV},(∀ id ∈ Qj vs,id < n) → vs.map (SV.den θ') = vs.map (SV.den θ)
  | [],_ => rfl
  | v :: r,h => by
    simp only [List.map_cons,List.cons.injEq]
    exact ⟨SV.den_agree ha fun id hi => h id (by simp [Qj,hi]),JLI fun id hi => h id (by simp [Qj,hi])⟩
end agree
def RowC.rows:RowC → List (List SC)
  | .lit _ rows => rows
  | .lst _ ks xs => xs.map (Qz ks)
def Z8 (esz:Nat) (rows:List (List SC)):Prop := 0 < esz ∧ ∀ r ∈ rows,r.length = esz ∧ Qu r = []
def W0 (l:Loc) (w:World) (ty esz n:Nat) (cells:List Value):Prop := l.len = n ∧ (l.blk = none ∧ l.eye = none ∧ l.ad = none ∧ l.cap = 0 ∨ ∃ b,l.blk = some b ∧ l.eye = some b ∧ l.ad = some ⟨b,0,none⟩) ∧ w.ownsRow 0 ty esz (.slice l.ad l.len l.cap) n cells
def JQn (l:Loc) (w:World) (n:Nat) (cells:List Value):Prop := l.blk = none ∧ l.len = n ∧ n ≤ l.cap ∧ ((cells = [] ∧ l.eye = none ∧ n = 0) ∨ ∃ a,l.ad = some a ∧ l.eye = some a.block ∧ cells ≠ [] ∧ ∀ (j:Nat) (u:Value),cells[j]? = some u → w.cell? (a.add j) = some u)
def QN (θ:Th) (w:World) (id:Nat):Obj → Prop
  | .blk ty cells => ∃ b,θ id = Loc.box b ∧ w.heap[b]? = some (.cells (JM θ (QY cells)).toArray ty (0,0))
  | .row false ty esz r => Z8 esz r.rows ∧ W0 (θ id) w ty esz r.rows.length (JM θ r.rows.flatten)
  | .row true _ esz r => Z8 esz r.rows ∧ JQn (θ id) w r.rows.length (JM θ r.rows.flatten)
  | .clo caps => θ id = Loc.clo (caps.map (SV.den θ)).toArray
  | .raw b _ _ L k => θ id = Loc.box b ∧ w.heap[b]? = some (L k.val)
theorem Y0 (a b:List SC):Qu (a ++ b) = Qu a ++ Qu b := by
  induction a with
  | nil => rfl
  | cons c r ih => simp [ZH,Jt,ih]
theorem JEa:∀ {rows:List (List SC)},(∀ r ∈ rows,Qu r = []) → Qu rows.flatten = []
  | [],_ => rfl
  | r :: rs,h => by rw [List.flatten_cons,Y0,h r (by simp),JEa fun r hr => h r (by simp [hr])]; rfl
theorem Z8.ids {esz:Nat} {rows:List (List SC)} (h:Z8 esz rows):Qu rows.flatten = [] := JEa fun r hr => (h.2 r hr).2
theorem ZN {θ θ':Th} {cs:List SC} (h:Qu cs = []):JM θ' cs = JM θ cs := by
  induction cs with
  | nil => rfl
  | cons c r ih =>
    simp only [ZH,Jt,List.append_eq_nil_iff] at h
    simp only [JM,List.map_cons,List.cons.injEq] at ih ⊢
    exact ⟨by cases c <;> simp [Wm] at h <;> rfl,ih h.2⟩
theorem JHz {l:Loc} {w:World} {ty esz n:Nat} {cells:List Value} (h:W0 l w ty esz n cells):l.blk = l.eye := by
  rcases h.2.1 with ⟨h1,h2,_⟩ | ⟨b,h1,h2,_⟩ <;> rw [h1,h2]
theorem jT {θ:Th} {w:World} {id b:Nat} {o:Obj} (h:QN θ w id o) (hb:(θ id).blk = some b):(θ id).eye = some b := by
  cases o with
  | blk ty cells => obtain ⟨b',h1,_⟩ := h; rw [h1] at hb ⊢; exact hb
  | row ro ty esz r =>
    cases ro
    · rw [← JHz h.2]; exact hb
    · rw [h.2.1] at hb; cases hb
  | clo caps => rw [show θ id = _ from h] at hb; cases hb
  | raw b0 rs t L k => rw [h.1] at hb ⊢; exact hb
theorem Jp4 {w w':World} {a:Addr} (j:Nat) (h:w'.heap[a.block]? = w.heap[a.block]?):w'.cell? (a.add j) = w.cell? (a.add j) :=
  World.cell?_of_block (by rw [show (a.add j).block = a.block from by unfold Addr.add; split <;> rfl]; exact h)
theorem JUP {l:Loc} {w w':World} {ty esz n:Nat} {cells:List Value} (hb:∀ b,l.eye = some b → w'.heap[b]? = w.heap[b]?) (h:W0 l w ty esz n cells):W0 l w' ty esz n cells := by
  refine ⟨h.1,h.2.1,h.2.2.1,?_⟩
  rcases h.2.2.2 with hn | ⟨g,cap,cur,h1,h2,h3,h4⟩
  · exact .inl hn
  · refine .inr ⟨g,cap,cur,h1,h2,?_,h4⟩
    rcases h.2.1 with ⟨_,_,h5,_⟩ | ⟨b,_,h5,h6⟩
    · rw [h5] at h1; cases h1
    · rw [h6] at h1
      have:b = g := by injection h1 with h1; injection h1 with h1; injection h1
      subst this
      rw [hb _ h5]; exact h3
theorem JUd {l:Loc} {w w':World} {n:Nat} {cells:List Value} (hb:∀ b,l.eye = some b → w'.heap[b]? = w.heap[b]?) (h:JQn l w n cells):JQn l w' n cells := by
  refine ⟨h.1,h.2.1,h.2.2.1,h.2.2.2.imp (fun h => h) fun ⟨a,h1,h2,h3,h4⟩ => ⟨a,h1,h2,h3,fun j u hu => ?_⟩⟩
  rw [Jp4 j (hb _ h2)]
  exact h4 j u hu
theorem JIU {n:Nat} {θ θ':Th} {w w':World} {id:Nat} {o:Obj} (ha:WE n θ θ') (hid:id < n) (ho:∀ i ∈ K6 o,i < n)
    (hb:∀ b,(θ id).eye = some b → w'.heap[b]? = w.heap[b]?) (h:QN θ w id o):QN θ' w' id o := by
  have he := ha id hid
  cases o with
  | blk ty cells =>
    obtain ⟨b,h1,h2⟩ := h
    exact ⟨b,by rw [he,h1],by rw [hb b (by rw [h1]; rfl),h2,WT ha ho]⟩
  | row ro ty esz r =>
    cases ro
    · exact ⟨h.1,by rw [he,ZN (θ := θ) h.1.ids]; exact JUP hb h.2⟩
    · exact ⟨h.1,by rw [he,ZN (θ := θ) h.1.ids]; exact JUd hb h.2⟩
  | clo caps => show θ' id = _; rw [he,show θ id = _ from h,JLI ha ho]
  | raw b rs t L k => exact ⟨he.trans h.1,(hb b (by rw [h.1]; rfl)).trans h.2⟩
theorem qC {α:Type} (l:List (Nat × α)) (t:Nat):JD (del l t) t = none := by
  induction l with
  | nil => rfl
  | cons p r ih =>
    obtain ⟨k,x⟩ := p
    simp only [Jo6,Jhi]
    cases h:Nat.beq k t <;> simp [Js,JX,h,ih]
theorem JE0 {α:Type} (l:List (Nat × α)) {t u:Nat} (h:t ≠ u):JD (del l t) u = JD l u := by
  induction l with
  | nil => rfl
  | cons p r ih =>
    obtain ⟨k,x⟩ := p
    simp only [Jo6,Jhi]
    cases h1:Nat.beq k t
    · simp [Js,JX,ih]
    · have:k = t := Nat.eq_of_beq_eq_true h1
      subst this
      simp only [cond_true,Js,JX]
      have:Nat.beq k u = false := by
        cases h2:Nat.beq k u
        · rfl
        · exact absurd (Nat.eq_of_beq_eq_true h2) h
      simp [this,ih]
theorem jD (t:Nat):Nat.beq t t = true := by simp
theorem Xb {t u:Nat} (h:t ≠ u):Nat.beq t u = false := by
  cases h2:Nat.beq t u
  · rfl
  · exact absurd (Nat.eq_of_beq_eq_true h2) h
theorem JEY {α:Type} (l:List (Nat × α)) (t:Nat):JD (rem l t) t = none := by
  unfold rem
  split
  · assumption
  · exact qC l t
theorem JEN {α:Type} (l:List (Nat × α)) {t u:Nat} (h:t ≠ u):JD (rem l t) u = JD l u := by
  unfold rem
  split
  · rfl
  · exact JE0 l h
theorem q7 {α:Type} (l:List (Nat × α)) (t:Nat) (x:α):JD (put l t x) t = some x := by simp [put,Js,JX]
theorem JEB {α:Type} (l:List (Nat × α)) {t u:Nat} (x:α) (h:t ≠ u):JD (put l t x) u = JD l u := by
  simp [put,Js,JX,Xb h,JEN l h]
theorem kB {α:Type} (a b:List (Nat × α)) (t:Nat):JD (a ++ b) t = match JD a t with | some x => some x | none => JD b t := by
  induction a with
  | nil => rfl
  | cons p r ih =>
    obtain ⟨k,x⟩ := p
    simp only [List.cons_append,Js,JX]
    cases Nat.beq k t <;> simp [ih]
theorem JEW {l:List Nat} {n:Nat}:has l n = true ↔ n ∈ l := by
  induction l with
  | nil => simp [Je3,JYU]
  | cons a r ih => simp only [Je3,JYU,Bool.or_eq_true,ih,List.mem_cons]; exact ⟨fun h => h.imp (fun e => (Nat.eq_of_beq_eq_true e).symm) id,fun h => h.imp (fun e => by rw [e]; exact Nat.beq_refl a) id⟩
theorem Xc (mem:Jn) (l:List Nat) (t:Nat):JD (Zv mem l) t = if t ∈ l then none else JD mem t := by
  induction mem with
  | nil => simp [Zv,Js,JX]
  | cons p r ih =>
    obtain ⟨k,x⟩ := p
    simp only [Zv]
    cases h:has l k
    · have hk:k ∉ l := fun hm => by rw [JEW.2 hm] at h; cases h
      simp only [cond_false,Js,JX]
      cases h1:Nat.beq k t
      · simp [ih]
      · have := Nat.eq_of_beq_eq_true h1; subst this
        simp [hk]
    · have hk:k ∈ l := JEW.1 h
      simp only [cond_true,Js,JX,ih]
      cases h1:Nat.beq k t
      · simp
      · have := Nat.eq_of_beq_eq_true h1; subst this
        simp [hk]
theorem Jr (mem:Jn) (l:List Nat) (t:Nat):JD (JJ mem l) t = if t ∈ l then JD mem t else none := by
  induction mem with
  | nil => simp [JJ,Js,JX]
  | cons p r ih =>
    obtain ⟨k,x⟩ := p
    simp only [JJ]
    cases h:has l k
    · have hk:k ∉ l := fun hm => by rw [JEW.2 hm] at h; cases h
      simp only [cond_false,Js,JX,ih]
      cases h1:Nat.beq k t
      · simp
      · have := Nat.eq_of_beq_eq_true h1; subst this
        simp [hk]
    · have hk:k ∈ l := JEW.1 h
      simp only [cond_true,Js,JX]
      cases h1:Nat.beq k t
      · simp [ih]
      · have := Nat.eq_of_beq_eq_true h1; subst this
        simp [hk]
theorem Zm {mem:Jn} {t:Nat}:t ∈ domain mem ↔ ∃ o,JD mem t = some o := by
  induction mem with
  | nil => simp [domain,Js,JX]
  | cons p r ih =>
    obtain ⟨k,x⟩ := p
    simp only [domain,List.mem_cons,Js,JX,ih]
    by_cases h:k = t
    · subst h; simp
    · simp [Xb h,Ne.symm h]
theorem JKF {mem:Jn} {t:Nat} {o:Obj} (h:JD mem t = some o):t ∈ W1 mem ∧ ∀ i ∈ K6 o,i ∈ W1 mem := by
  induction mem with
  | nil => cases h
  | cons p r ih =>
    obtain ⟨k,x⟩ := p
    simp only [Js,JX] at h
    cases h1:Nat.beq k t
    · rw [h1] at h
      obtain ⟨a,b⟩ := ih h
      exact ⟨by simp [W1,a],fun i hi => by simp [W1,b i hi]⟩
    · rw [h1] at h
      cases h
      have := Nat.eq_of_beq_eq_true h1; subst this
      exact ⟨by simp [W1],fun i hi => by simp [W1,hi]⟩
def Jj (θ:Th) (mem:Jn) (w:World):Prop := (∀ id o,JD mem id = some o → QN θ w id o) ∧ (∀ id id' o o' b,JD mem id = some o → JD mem id' = some o' → id ≠ id' → (θ id).blk = some b → (θ id').eye ≠ some b)
def Z9 (n:Nat) (mem:Jn):Prop := ∀ id o,JD mem id = some o → id < n ∧ ∀ i ∈ K6 o,i < n
theorem Z9.mono {n m:Nat} {mem:Jn} (h:Z9 n mem) (hn:n ≤ m):Z9 m mem :=
  fun id o hl => ⟨Nat.lt_of_lt_of_le (h id o hl).1 hn,fun i hi => Nat.lt_of_lt_of_le ((h id o hl).2 i hi) hn⟩
structure Grew (n:Nat) (θ:Th) (mem:Jn) (w:World) (θ':Th) (mem':Jn) (w':World):Prop where
  agree:WE n θ θ'
  os:w'.os = w.os
  tape:w'.tape = w.tape
  output:w'.output = w.output
  size:w.heap.size ≤ w'.heap.size
  heap:∀ b,b < w.heap.size → (∀ id o,JD mem id = some o → (θ id).blk ≠ some b) → w'.heap[b]? = w.heap[b]?
  blks:∀ id o b,JD mem' id = some o → (θ' id).blk = some b → w.heap.size ≤ b ∨ ∃ id0 o0,JD mem id0 = some o0 ∧ (θ id0).blk = some b
  eyes:∀ id o b,JD mem' id = some o → (θ' id).eye = some b → w.heap.size ≤ b ∨ ∃ id0 o0,JD mem id0 = some o0 ∧ (θ id0).eye = some b
theorem Grew.refl (n:Nat) (θ:Th) (mem:Jn) (w:World):Grew n θ mem w θ mem w :=
  ⟨WE.refl _ _,rfl,rfl,rfl,Nat.le_refl _,fun _ _ _ => rfl,fun id o _ h hb => .inr ⟨id,o,h,hb⟩,fun id o _ h hb => .inr ⟨id,o,h,hb⟩⟩
theorem Grew.trans {n m:Nat} {θ₁ θ₂ θ₃:Th} {m₁ m₂ m₃:Jn} {w₁ w₂ w₃:World} (h:Grew n θ₁ m₁ w₁ θ₂ m₂ w₂) (k:Grew m θ₂ m₂ w₂ θ₃ m₃ w₃) (hn:n ≤ m) :
    Grew n θ₁ m₁ w₁ θ₃ m₃ w₃ where
  agree := h.agree.trans k.agree hn
  os := k.os.trans h.os
  tape := k.tape.trans h.tape
  output := k.output.trans h.output
  size := Nat.le_trans h.size k.size
  heap b hb hno := by
    rw [k.heap b (Nat.lt_of_lt_of_le hb h.size) fun id o hl he => ?_,h.heap b hb hno]
    rcases h.blks id o b hl he with h1 | ⟨id0,o0,h1,h2⟩
    · omega
    · exact hno id0 o0 h1 h2
  blks id o b hl he := by
    rcases k.blks id o b hl he with h1 | ⟨id0,o0,h1,h2⟩
    · exact .inl (Nat.le_trans h.size h1)
    · exact h.blks id0 o0 b h1 h2
  eyes id o b hl he := by
    rcases k.eyes id o b hl he with h1 | ⟨id0,o0,h1,h2⟩
    · exact .inl (Nat.le_trans h.size h1)
    · exact h.eyes id0 o0 b h1 h2
theorem Grew.mono {n m:Nat} {θ θ':Th} {mem mem':Jn} {w w':World} (h:Grew m θ mem w θ' mem' w') (hn:n ≤ m):Grew n θ mem w θ' mem' w' :=
  { h with agree := h.agree.mono hn }
theorem Grew.sub {n:Nat} {θ θ':Th} {mem mem' mem'':Jn} {w w':World} (h:Grew n θ mem w θ' mem' w') (hs:∀ id o,JD mem'' id = some o → ∃ o',JD mem' id = some o'):Grew n θ mem w θ' mem'' w' :=
  { h with blks := fun id o b hl he => by obtain ⟨o',h'⟩ := hs id o hl; exact h.blks id o' b h' he,eyes := fun id o b hl he => by obtain ⟨o',h'⟩ := hs id o hl; exact h.eyes id o' b h' he }
theorem JL8 {θ:Th} {w:World} {id:Nat} {o:Obj} {b:Nat} (h:QN θ w id o) (hb:(θ id).eye = some b):b < w.heap.size := by
  have key:∀ x,w.heap[b]? = some x → b < w.heap.size := fun x hx => by
    rcases Nat.lt_or_ge b w.heap.size with h' | h'
    · exact h'
    · simp [h'] at hx
  cases o with
  | blk ty cells => obtain ⟨b',h1,h2⟩ := h; rw [h1] at hb; cases hb; exact key _ h2
  | row ro ty esz r =>
    cases ro
    · rcases h.2.2.1 with ⟨_,h1,_⟩ | ⟨b',_,h1,h2⟩
      · rw [h1] at hb; cases hb
      · rw [h1] at hb; cases hb
        exact (h.2.2.2.lt b (by rw [h2]; rfl)).2
    · rcases h.2.2.2.2 with ⟨_,h1,_⟩ | ⟨a,_,h1,h2,h3⟩
      · rw [h1] at hb; cases hb
      · rw [h1] at hb; cases hb
        cases hc:JM θ r.rows.flatten with
        | nil => exact absurd hc h2
        | cons u l =>
          have := World.block_lt_of_cell? w _ (h3 0 u (by rw [hc]; rfl))
          simpa [Addr.add] using this
  | clo caps => rw [show θ id = _ from h] at hb; cases hb
  | raw b0 rs t L k => rw [h.1] at hb; cases hb; exact key _ h.2
theorem Jfo {n:Nat} {θ θ':Th} {mem sub ups:Jn} {w w':World} {touched:List Nat} (hwf:Z9 n mem) (hm:Jj θ mem w)
    (hsub:∀ id o,JD sub id = some o → JD mem id = some o) (htouch:∀ id o,JD sub id = some o → id ∈ touched)
    (hg:Grew n θ sub w θ' ups w') (hu:Jj θ' ups w') :
    Jj θ' (ups ++ Zv mem (touched ++ domain ups)) w' ∧ Grew n θ mem w θ' (ups ++ Zv mem (touched ++ domain ups)) w' := by
  have hlook:∀ id o,JD (ups ++ Zv mem (touched ++ domain ups)) id = some o → JD ups id = some o ∨ (JD mem id = some o ∧ id ∉ touched ∧ JD ups id = none) := by
    intro id o h
    rw [kB] at h
    cases h1:JD ups id with
    | some x => rw [h1] at h; exact .inl h
    | none =>
      rw [h1] at h
      simp only [Xc] at h
      split at h
      · cases h
      · rename_i hno
        exact .inr ⟨h,fun ht => hno (by simp [ht]),rfl⟩
  have old:∀ id o b,JD mem id = some o → id ∉ touched → (θ id).eye = some b → b < w.heap.size ∧ (∀ i x,JD sub i = some x → (θ i).blk ≠ some b) := by
    intro id o b hl hn hb
    refine ⟨JL8 (hm.1 id o hl) hb,fun i x hi he => ?_⟩
    have hne:i ≠ id := fun e => hn (e ▸ htouch i x hi)
    exact hm.2 i id x o b (hsub i x hi) hl hne he hb
  have keep:∀ id o,JD mem id = some o → id ∉ touched → QN θ' w' id o := by
    intro id o hl hn
    refine JIU hg.agree (hwf id o hl).1 (hwf id o hl).2 (fun b hb => ?_) (hm.1 id o hl)
    obtain ⟨h1,h2⟩ := old id o b hl hn hb
    exact hg.heap b h1 h2
  have part:∀ id id' o o' b,JD ups id = some o → JD mem id' = some o' → id' ∉ touched → (θ' id).blk = some b → (θ' id').eye ≠ some b := by
    intro id id' o o' b h1 h2 h3 h4 h5
    rw [hg.agree id' (hwf id' o' h2).1] at h5
    obtain ⟨h6,h7⟩ := old id' o' b h2 h3 h5
    rcases hg.blks id o b h1 h4 with h8 | ⟨i,x,h8,h9⟩
    · omega
    · exact h7 i x h8 h9
  have part':∀ id id' o o' b,JD ups id = some o → JD mem id' = some o' → id' ∉ touched → (θ' id').blk = some b → (θ' id).eye ≠ some b := by
    intro id id' o o' b h1 h2 h3 h4 h5
    rw [hg.agree id' (hwf id' o' h2).1] at h4
    have h6 := JL8 (hm.1 id' o' h2) (jT (hm.1 id' o' h2) h4)
    rcases hg.eyes id o b h1 h5 with h8 | ⟨i,x,h8,h9⟩
    · omega
    · exact hm.2 id' i o' x b h2 (hsub i x h8) (fun e => h3 (e ▸ htouch i x h8)) h4 h9
  refine ⟨⟨fun id o h => ?_,fun id id' o o' b h h' hne hb hb' => ?_⟩,?_⟩
  · rcases hlook id o h with h | ⟨h,hn,_⟩
    · exact hu.1 id o h
    · exact keep id o h hn
  · rcases hlook id o h with h | ⟨h,hn,_⟩ <;> rcases hlook id' o' h' with h' | ⟨h',hn',_⟩
    · exact hu.2 id id' o o' b h h' hne hb hb'
    · exact part id id' o o' b h h' hn' hb hb'
    · exact part' id' id o' o b h' h hn hb hb'
    · rw [hg.agree id (hwf id o h).1] at hb
      rw [hg.agree id' (hwf id' o' h').1] at hb'
      exact hm.2 id id' o o' b h h' hne hb hb'
  · refine { hg with heap := fun b hb hno => hg.heap b hb fun id o hl => hno id o (hsub id o hl),blks := fun id o b hl he => ?_,eyes := fun id o b hl he => ?_ }
    · rcases hlook id o hl with h | ⟨h,hn,_⟩
      · rcases hg.blks id o b h he with h8 | ⟨i,x,h8,h9⟩
        · exact .inl h8
        · exact .inr ⟨i,x,hsub i x h8,h9⟩
      · rw [hg.agree id (hwf id o h).1] at he
        exact .inr ⟨id,o,h,he⟩
    · rcases hlook id o hl with h | ⟨h,hn,_⟩
      · rcases hg.eyes id o b h he with h8 | ⟨i,x,h8,h9⟩
        · exact .inl h8
        · exact .inr ⟨i,x,hsub i x h8,h9⟩
      · rw [hg.agree id (hwf id o h).1] at he
        exact .inr ⟨id,o,h,he⟩
theorem JNM {mem m:Jn} {i:Nat} {o:Obj}:∀ {l:List Nat},JD (JUK mem l m) i = some o → JD m i = some o ∨ (i ∈ l ∧ JD mem i = some o ∧ ∃ caps,o = .clo caps)
  | [],h => .inl h
  | id :: r,h => by
    unfold JUK at h
    split at h
    · rename_i caps h1 h2
      rw [JX] at h
      cases hb:Nat.beq id i
      · rw [hb] at h
        rcases JNM h with g | ⟨g1,g2⟩
        · exact .inl g
        · exact .inr ⟨List.mem_cons_of_mem _ g1,g2⟩
      · rw [hb] at h
        have := Nat.eq_of_beq_eq_true hb
        subst this
        cases h
        exact .inr ⟨List.mem_cons_self,h1,caps,rfl⟩
    · rcases JNM h with g | ⟨g1,g2⟩
      · exact .inl g
      · exact .inr ⟨List.mem_cons_of_mem _ g1,g2⟩
theorem JqU {n:Nat} {θ θ':Th} {mem m:Jn} {l:List Nat} {w w':World} (hwf:Z9 n mem) (hm:Jj θ (JJ mem l) w) (hg:Grew n θ (JJ mem l) w θ' m w') (hm':Jj θ' m w') :
    Grew n θ (JJ mem l) w θ' (JUK mem l m) w' ∧ Jj θ' (JUK mem l m) w' := by
  have key:∀ {i o},JD (JUK mem l m) i = some o → JD m i = some o ∨ (QN θ' w' i o ∧ (θ' i).blk = none ∧ (θ' i).eye = none) := fun {i o} h => by
    rcases JNM h with g | ⟨g1,g2,caps,rfl⟩
    · exact .inl g
    · right
      have h1:θ i = Loc.clo (caps.map (SV.den θ)).toArray := hm.1 i (.clo caps) (by rw [Jr,if_pos g1,g2])
      have h2 := hg.agree i (hwf i _ g2).1
      have h3:caps.map (SV.den θ') = caps.map (SV.den θ) := JLI hg.agree fun j hj => (hwf i _ g2).2 j hj
      refine ⟨?_,by rw [h2,h1]; rfl,by rw [h2,h1]; rfl⟩
      show θ' i = Loc.clo (caps.map (SV.den θ')).toArray
      rw [h3,h2,h1]
  refine ⟨{ hg with blks := fun id o b h hb => ?_,eyes := fun id o b h hb => ?_ },fun id o h => ?_,fun id id' o o' b h h' hne hb => ?_⟩
  · rcases key h with g | ⟨_,g,_⟩
    · exact hg.blks id o b g hb
    · rw [g] at hb; cases hb
  · rcases key h with g | ⟨_,_,g⟩
    · exact hg.eyes id o b g hb
    · rw [g] at hb; cases hb
  · rcases key h with g | ⟨g,_⟩
    · exact hm'.1 id o g
    · exact g
  · rcases key h with g | ⟨_,g,_⟩
    · rcases key h' with g' | ⟨_,_,g'⟩
      · exact hm'.2 id id' o o' b g g' hne hb
      · rw [g']; intro hh; cases hh
    · rw [g] at hb; cases hb
open Go.RowKit
def holds (a:Act) (g:List (Nat × Bool)):Prop := ∀ p ∈ g,a.tmps[p.1]? = some (.bool p.2)
def gxs (gx:List (Bool × Bool)):Prop := ∀ p ∈ gx,p.1 = p.2
def Jz (θ:Th) (a:Act) (t:Nat) (e:Ent):Prop := (holds a e.g → a.tmps[t]? = some (e.val.den θ) ∧ gxs e.gx) ∧ (¬ holds a e.g → a.tmps[t]? = some undef)
theorem JZg (θ:Th):∀ {v:Value} {c:SC},JXc v = some c → c.den θ = v ∧ Wm c = [] := by
  intro v c h
  unfold JXc at h
  split at h <;> first | (cases h; exact ⟨rfl,rfl⟩) | (cases h)
theorem JTq (θ:Th):∀ {l:List Value} {cs:List SC},cellsOf l = some cs → JM θ cs = l ∧ Qu cs = []
  | [],cs,h => by cases h; exact ⟨rfl,rfl⟩
  | v :: r,cs,h => by
    simp only [cellsOf] at h
    split at h
    · rename_i c cs' h1 h2
      cases h
      obtain ⟨h3,h4⟩ := JZg θ h1
      obtain ⟨h5,h6⟩ := JTq θ h2
      exact ⟨by simp only [JM,List.map_cons,h3] at h5 ⊢; rw [h5],by simp [ZH,Jt,h4,h6]⟩
    · cases h
theorem JJf (θ:Th) {v:Value} {x:SV} (h:JVV v = some x):x.den θ = v ∧ Zc x = [] := by
  unfold JVV at h
  split at h
  · rename_i cs
    cases h1:cellsOf cs.toList with
    | none => rw [h1] at h; cases h
    | some l =>
      rw [h1] at h; cases h
      obtain ⟨h2,h3⟩ := JTq θ h1
      exact ⟨by simp [SV.den,h2],h3⟩
  · cases h1:JXc v with
    | none => rw [h1] at h; cases h
    | some c =>
      rw [h1] at h; cases h
      exact JZg θ h1
theorem Jcz {x:Nat × Bool}:∀ {l:List (Nat × Bool)},Jp3 x l = true → x ∈ l
  | [],h => by cases h
  | b :: r,h => by
    simp only [Jsc,Jpt,Bool.or_eq_true,Bool.and_eq_true,beq_iff_eq] at h
    rcases h with ⟨h1,h2⟩ | h
    · have := Nat.eq_of_beq_eq_true h1
      exact List.mem_cons.2 (.inl (Prod.ext this h2))
    · exact List.mem_cons_of_mem _ (Jcz h)
theorem JcU:∀ {g h:List (Nat × Bool)},JbK g h = true → ∀ p ∈ g,p ∈ h
  | [],_,_,_,hp => by cases hp
  | a :: r,h,hs,p,hp => by
    simp only [Js7,JpF,Bool.and_eq_true] at hs
    rcases List.mem_cons.1 hp with rfl | hp
    · exact Jcz hs.1
    · exact JcU hs.2 p hp
theorem Jbx {a:Act} {g h:List (Nat × Bool)} (hs:JbK g h = true) (hh:holds a h):holds a g := fun p hp => hh p (JcU hs p hp)
section ops
variable {P:Program} {θ:Th} {a:Act} {env:KL} {g:List (Nat × Bool)} {n:Nat}
theorem Jh {x:Operand} {v:SV} (h:Y6 env g x = some v) (hr:∀ t ∈ Jg [x],∀ e,JD env t = some e → Jz θ a t e) (hg:holds a g):a.eval x = v.den θ := by
  cases x with
  | tmp t =>
    simp only [Y6] at h
    split at h
    · rename_i e he
      cases hs:JbK e.g g
      · rw [hs] at h; cases h
      · rw [hs] at h; cases h
        have := ((hr t (by simp [Jg]) e he).1 (Jbx hs hg)).1
        simp [Act.eval,this]
    · cases h
  | const v' => exact ((JJf θ h).1).symm
  | func f => cases h; rfl
  | global _ => cases h
theorem Jeb {x:Operand} {v:SV} (h:Y6 env g x = some v) (hw:∀ t e,JD env t = some e → ∀ id ∈ Zc e.val,id < n):∀ id ∈ Zc v,id < n := by
  cases x with
  | tmp t =>
    simp only [Y6] at h
    split at h
    · rename_i e he
      cases hs:JbK e.g g
      · rw [hs] at h; cases h
      · rw [hs] at h; cases h
        exact hw t e he
    · cases h
  | const v' => rw [(JJf Th.none h).2]; simp
  | func f => cases h; simp [Zc,Wm]
  | global _ => cases h
theorem Jq (x:Operand) (r:List Operand):Jg (x :: r) = Jg [x] ++ Jg r := by cases x <;> rfl
theorem JCC:∀ {xs:List Operand} {vs:List SV},args env g xs = some vs → (∀ t ∈ Jg xs,∀ e,JD env t = some e → Jz θ a t e) → holds a g → xs.map a.eval = vs.map (SV.den θ)
  | [],vs,h,_,_ => by cases h; rfl
  | x :: r,vs,h,hr,hg => by
    simp only [args] at h
    split at h
    · rename_i v vs' h1 h2
      cases h
      rw [Jq] at hr
      simp only [List.map_cons,Jh h1 (fun t ht => hr t (by simp [ht])) hg,JCC h2 (fun t ht => hr t (by simp [ht])) hg]
    · cases h
theorem JKJ:∀ {xs:List Operand} {vs:List SV},args env g xs = some vs → (∀ t e,JD env t = some e → ∀ id ∈ Zc e.val,id < n) → ∀ id ∈ Qj vs,id < n
  | [],vs,h,_ => by cases h; simp [Qj]
  | x :: r,vs,h,hw => by
    simp only [args] at h
    split at h
    · rename_i v vs' h1 h2
      cases h
      intro id hid
      simp only [Qj,List.mem_append] at hid
      exact hid.elim (Jeb h1 hw id) (JKJ h2 hw id)
    · cases h
end ops
structure EffRel (n:Nat) (θ:Th) (w:World) (sub:Jn) (e:Eff) (v:Value) (θ':Th) (w':World):Prop where
  val:v = match e.val with | some x => x.den θ' | none => undef
  grew:Grew n θ sub w θ' e.ups w'
  mem:Jj θ' e.ups w'
def JMB (P:Program) (f:FuncId) (vs:Array Value) (w:World) (R:Ending → World → Prop):Prop := (f < 1000000 → Calls P f vs w R) ∧ (1000000 ≤ f → ∃ l as,vs = #[.func (.yield l) #[] #[]] ++ as ∧ ∃ fn tmps assign body,(Instr.yield l as).run P w = .ok (.round l fn tmps assign body) w ∧ RoundIn Fence.wide 0 P l fn tmps assign body w R)
theorem JMB.mono {P:Program} {f:FuncId} {vs:Array Value} {w:World} {R R':Ending → World → Prop} (h:JMB P f vs w R) (hr:∀ e w,R e w → R' e w):JMB P f vs w R' :=
  ⟨fun hf => (h.1 hf).mono hr,fun hf => by
    obtain ⟨l,as,h1,fn,tmps,assign,body,h2,h3⟩ := h.2 hf
    exact ⟨l,as,h1,fn,tmps,assign,body,h2,h3.mono hr⟩⟩
theorem JMB.of {P:Program} {f:FuncId} {vs:Array Value} {w:World} {R:Ending → World → Prop} (hf:f < 1000000) (h:Calls P f vs w R):JMB P f vs w R :=
  ⟨fun _ => h,fun h' => absurd hf (Nat.not_lt.2 h')⟩
def WP (P:Program) (ce:CE):Prop := ∀ f vs mem n r,ce f vs mem n = some r → (∀ p ∈ r.needs,p) → (∀ p ∈ r.eqs,p.1 = p.2) → Z9 n mem → (∀ id ∈ Qj vs,id < n) → ∀ θ w,Jj θ mem w → (f < 1000000 → ∃ fn,P.funcs[f]? = some fn ∧ fn.body.isSome = true) ∧ JMB P f (vs.map (SV.den θ)).toArray w fun e w' => ∃ θ',e = .returned (r.val.den θ') ∧ Grew n θ mem w θ' r.mem w' ∧ Jj θ' r.mem w'
def Zi (P : Program) : Prop := ∀ (f : Nat) (fn : Func), P.funcs[f]? = some fn → (fn.name == "runtime.NumGoroutine") = false
theorem JOn {P:Program} (hp:Zi P) {f:Nat} {fn:Func} (hf:P.funcs[f]? = some fn) (hb:fn.body.isSome = true) (as:Array Value) (w:World) :
    (callFunc f as).run P w = .ok (.enter f as) w := by
  have h1 := hp f fn hf
  have h2:fn.body.isNone = false := by cases h:fn.body <;> simp_all
  unfold callFunc
  simp only [Sem.run_bind,run_program,Result.andThen_ok,hf,h1,h2,Bool.false_eq_true,if_false,Sem.run_pure]
theorem JN5 (θ:Th) (w:World):Jj θ [] w := ⟨fun _ _ h => (by cases h),fun _ _ _ _ _ h => (by cases h)⟩
theorem Grew.none (n:Nat) (θ:Th) (mem:Jn) (w:World):Grew n θ mem w θ [] w := (Grew.refl n θ mem w).sub fun _ _ h => by cases h
theorem EffRel.pure {n:Nat} {θ:Th} {w:World} {sub:Jn} {e:Eff} {x:SV} (h1:e.val = some x) (h2:e.ups = []):EffRel n θ w sub e (x.den θ) θ w :=
  ⟨by rw [h1],by rw [h2]; exact Grew.none _ _ _ _,by rw [h2]; exact JN5 _ _⟩
abbrev YF (K:Act → World → Prop) (o:Oper) (a:Act) (n:Nat) (θ:Th) (w:World) (sub:Jn) (e:Eff):Prop := ∀ v θ' w',EffRel n θ w sub e v θ' w' → K (a.put o.dst v) w'
theorem Q6 {P:Program} {o:Oper} {a:Act} {w w':World} {v:Value} {K:Act → World → Prop} {Q:Exit → Act → World → Prop}
    (h:(execOp a.eval o).run P w = .ok (.value v) w') (hk:K (a.put o.dst v) w'):o.wp P a w K Q := by
  unfold Oper.wp; rw [h]; exact hk
theorem JhU {P:Program} {o:Oper} {a:Act} {w w':World} {K:Act → World → Prop} {Q:Exit → Act → World → Prop}
    (h:(execOp a.eval o).run P w = .ok .skip w') (hk:K (a.put o.dst undef) w'):o.wp P a w K Q := by
  unfold Oper.wp; rw [h]; exact hk
theorem Xw {P:Program} {s:Sem Value} {v:Value} {w w':World} (h:s.run P w = .ok v w'):(do pure (Next.value (← s)):Sem Next).run P w = .ok (.value v) w' := by
  simp only [Sem.run_bind,h,Result.andThen_ok,Sem.run_pure]
theorem JwG {P:Program} {s:Sem Unit} {w w':World} (h:s.run P w = .ok () w'):(do s; pure Next.skip:Sem Next).run P w = .ok .skip w' := by
  simp only [Sem.run_bind,h,Result.andThen_ok,Sem.run_pure]
theorem JHi (cs:List SC):∀ n,QY (j0 n cs) = cs := by
  induction cs with
  | nil => intro n; rfl
  | cons c r ih => intro n; simp [JmM,JiS,XL,QK,ih]
theorem SV.cells_den (θ:Th) {v:SV} {cs:List SC} (h:v.cells = some cs):(v.den θ).cells = (JM θ cs).toArray := by
  cases v with
  | one c => cases h; simp [SV.den,SC.den_one,JM]
  | agg l => cases h; rfl
  | tup l => cases h
theorem SV.cells_ids {v:SV} {cs:List SC} (h:v.cells = some cs):Qu cs = Zc v := by
  cases v with
  | one c => cases h; simp [ZH,Jt,Zc]
  | agg l => cases h; rfl
  | tup l => cases h
def Th.set (θ:Th) (n:Nat) (l:Loc):Th := fun id => if id = n then l else θ id
theorem Th.set_agree (θ:Th) (n:Nat) (l:Loc):WE n θ (θ.set n l) := fun id hi => by simp [Th.set,Nat.ne_of_lt hi]
theorem Th.set_same (θ:Th) (n:Nat) (l:Loc):θ.set n l n = l := by simp [Th.set]
theorem Z3 {α:Type} {n id:Nat} {x y:α} (h:JD [(n,x)] id = some y):id = n ∧ y = x := by
  simp only [Js,JX] at h
  cases hq:Nat.beq n id
  · rw [hq] at h; cases h
  · rw [hq] at h; cases h
    exact ⟨(Nat.eq_of_beq_eq_true hq).symm,rfl⟩
theorem JP6 {n:Nat} {θ:Th} {w w':World} {sub:Jn} (l:Loc) (ob:Obj) {e:Eff} {x:SV} {v:Value} (h1:e.val = some x) (h2:e.ups = [(n,ob)]) (hv:v = x.den (θ.set n l))
    (ho:QN (θ.set n l) w' n ob) (hos:w'.os = w.os) (htape:w'.tape = w.tape) (hout:w'.output = w.output) (hsz:w.heap.size ≤ w'.heap.size) (hheap:∀ b,b < w.heap.size → w'.heap[b]? = w.heap[b]?)
    (hl:∀ b,l.eye = some b → w.heap.size ≤ b):EffRel n θ w sub e v (θ.set n l) w' := by
  refine ⟨by rw [h1]; exact hv,⟨Th.set_agree _ _ _,hos,htape,hout,hsz,fun b hb _ => hheap b hb,?_,?_⟩,?_,?_⟩
  · rw [h2]
    intro id o b hl' hb
    obtain ⟨rfl,rfl⟩ := Z3 hl'
    have := jT ho hb
    rw [Th.set_same] at this
    exact .inl (hl b this)
  · rw [h2]
    intro id o b hl' hb
    obtain ⟨rfl,rfl⟩ := Z3 hl'
    rw [Th.set_same] at hb
    exact .inl (hl b hb)
  · rw [h2]
    intro id o hl'
    obtain ⟨rfl,rfl⟩ := Z3 hl'
    exact ho
  · rw [h2]
    intro id id' o o' b hl1 hl2 hne
    obtain ⟨rfl,rfl⟩ := Z3 hl1
    obtain ⟨rfl,rfl⟩ := Z3 hl2
    exact absurd rfl hne
theorem JcK {n:Nat} {θ:Th} {w:World} {sub:Jn} (t:TypeId) (cs:List SC) (hids:∀ id ∈ Qu cs,id < n) {e:Eff}
    (h1:e.val = some (.one (.ptr n 0))) (h2:e.ups = [(n,.blk t (j0 (n + 1) cs))]) :
    EffRel n θ w sub e (.pointer (some ⟨w.heap.size,0,none⟩)) (θ.set n (Loc.box w.heap.size)) (w.alloc (.cells (JM θ cs).toArray t)) := by
  refine JP6 (Loc.box w.heap.size) _ h1 h2 ?_ ⟨w.heap.size,Th.set_same _ _ _,?_⟩ rfl rfl rfl (by simp) (fun b hb => Below.heap_alloc _ _ _ hb) (fun b hb => ?_)
  · simp [SV.den,SC.den,Th.set_same,Loc.box]
  · rw [JHi,WT (Th.set_agree _ _ _) hids]
    show (w.heap.push _)[w.heap.size]? = _
    simp
  · cases hb; exact Nat.le_refl _
section each
variable {P:Program} {ce:CE} {o:Oper} {env:KL} {g:List (Nat × Bool)} {mem:Jn} {n:Nat} {e:Eff} {θ:Th} {a:Act} {w:World} {K:Act → World → Prop} {Q:Exit → Act → World → Prop}
theorem Jig {x:Operand} (ho:o.op = .move x ∨ o.op = .assign x) (h:(Y6 env g x).map (Eff.pure n) = some e)
    (hs:∀ t ∈ Jg [x],∀ y,JD env t = some y → Jz θ a t y) (hg:holds a g) (hk:YF K o a n θ w (JJ mem e.touched) e):o.wp P a w K Q := by
  cases h1:Y6 env g x with
  | none => rw [h1] at h; cases h
  | some v =>
    rw [h1] at h; cases h
    refine Q6 (v := v.den θ) (w' := w) ?_ (hk _ _ _ (EffRel.pure rfl rfl))
    unfold execOp
    rcases ho with ho | ho <;> simp only [ho,Sem.run_pure,Jh h1 hs hg]
theorem JDB {t:TypeId} {i:TypeInfo} {v:Value} (h:P.info? t = some i) (hz:i.zero = some v) (w:World):(zeroValue t).run P w = .ok v w := by
  simp [zeroValue,typeInfo,go_sem,h,hz]
theorem JUW (t:TypeId) (v:Value) (w:World):(newVar t v).run P w = .ok ⟨w.heap.size,0,none⟩ (w.alloc (.cells v.cells t)) := by
  rfl
theorem JA1 {t:TypeId} {v:SV} (h:JEf P t = some v) (θ:Th):∃ i z,P.info? t = some i ∧ i.zero = some z ∧ v.den θ = z ∧ Zc v = [] := by
  unfold JEf at h
  cases h1:P.info? t with
  | none => rw [h1] at h; cases h
  | some i =>
    cases h2:i.zero with
    | none => rw [h1] at h; simp [h2] at h
    | some z =>
      rw [h1] at h; simp only [Option.bind_some,h2] at h
      obtain ⟨h3,h4⟩ := JJf θ h
      exact ⟨i,z,rfl,h2,h3,h4⟩
theorem JoU {t:TypeId} (ho:o.op = .alloc t)
    (h:(match JEf P t with
      | some v => match v.cells with
        | some cs => some (⟨some (.one (.ptr n 0)),[],[],[(n,.blk t (j0 (n + 1) cs))],[],[],n + 1 + cs.length⟩:Eff)
        | none => none
      | none => none) = some e)
    (hk:YF K o a n θ w (JJ mem e.touched) e):o.wp P a w K Q := by
  split at h
  · rename_i v hv
    split at h
    · rename_i cs hc
      cases h
      obtain ⟨i,z,h1,h2,h3,h4⟩ := JA1 hv θ
      have hcells := SV.cells_den θ hc
      rw [h3] at hcells
      refine Q6 (v := .pointer (some ⟨w.heap.size,0,none⟩)) (w' := w.alloc (.cells (JM θ cs).toArray t)) ?_ (hk _ _ _ (JcK t cs (by rw [SV.cells_ids hc,h4]; simp) rfl rfl))
      unfold execOp
      simp only [ho]
      refine Xw ?_
      unfold Instr.alloc
      rw [Sem.run_bind,JDB h1 h2]
      simp only [Result.andThen_ok,Sem.run_bind,JUW,Sem.run_pure,hcells]
    · cases h
  · cases h
theorem JvC {t:TypeId} {x:Operand} (ho:o.op = .box t x)
    (h:(match (Y6 env g x).bind SV.cells with
      | some cs => some (⟨some (.one (.ptr n 0)),[],[],[(n,.blk t (j0 (n + 1) cs))],[],[],n + 1 + cs.length⟩:Eff)
      | none => none) = some e)
    (hs:∀ t ∈ Jg [x],∀ y,JD env t = some y → Jz θ a t y) (hg:holds a g) (hids:∀ t y,JD env t = some y → ∀ id ∈ Zc y.val,id < n)
    (hk:YF K o a n θ w (JJ mem e.touched) e):o.wp P a w K Q := by
  split at h
  · rename_i cs hc
    cases h
    cases h1:Y6 env g x with
    | none => rw [h1] at hc; cases hc
    | some v =>
      rw [h1] at hc; simp only [Option.bind_some] at hc
      have hcells := SV.cells_den θ hc
      refine Q6 (v := .pointer (some ⟨w.heap.size,0,none⟩)) (w' := w.alloc (.cells (JM θ cs).toArray t)) ?_ (hk _ _ _ (JcK t cs (by rw [SV.cells_ids hc]; exact Jeb h1 hids) rfl rfl))
      unfold execOp
      simp only [ho]
      refine Xw ?_
      simp only [Instr.box,Sem.run_bind,JUW,Sem.run_pure,Result.andThen_ok,Jh h1 hs hg,hcells]
  · cases h
theorem JKd (cs:List (Nat × SC)):∀ (off m:Nat),QY (Xo cs off m) = Xo (QY cs) off m := by
  have ht:∀ (l:List (Nat × SC)) m,QY (l.take m) = (QY l).take m := by
    intro l
    induction l with
    | nil => intro m; simp [XL,QK]
    | cons p r ih => intro m; cases m with
      | zero => rfl
      | succ m => simp [XL,QK,ih]
  induction cs with
  | nil => intro off m; cases off <;> simp [Xo,XL,QK]
  | cons p r ih =>
    intro off m
    cases off with
    | zero => exact ht _ _
    | succ off => simp only [Xo,XL,QK]; exact ih off m
theorem JGx {α:Type} (l:List α):∀ (off m:Nat),Xo l off m = (l.drop off).take m := by
  induction l with
  | nil => intro off m; cases off <;> simp [Xo]
  | cons x r ih =>
    intro off m
    cases off with
    | zero => rfl
    | succ off => simp only [Xo,List.drop_succ_cons]; exact ih off m
theorem Jas (θ:Th) (cs:List SC) (off m:Nat):JM θ (Xo cs off m) = ((JM θ cs).drop off).take m := by
  rw [JGx]; simp [JM,List.map_take,List.map_drop]
theorem WY {t:TypeId} {b:Bool} (h:JEZ P t = some b):∃ d,P.underlying t = some d ∧ d.isRow = b := by
  unfold JEZ at h
  cases hu:P.underlying t with
  | none => rw [hu] at h; cases h
  | some d =>
    rw [hu] at h
    refine ⟨d,rfl,?_⟩
    cases d <;> simp at h <;> subst h <;> rfl
theorem Kv {id:Nat} {ty:TypeId} {cs:List (Nat × SC)} (h:QN θ w id (.blk ty cs)) :
    ∃ b,(θ id).blk = some b ∧ w.heap[b]? = some (.cells (JM θ (QY cs)).toArray ty (0,0)) := by
  obtain ⟨b,h1,h2⟩ := h
  exact ⟨b,by rw [h1]; rfl,h2⟩
theorem jB {t:TypeId} {d:TypeDesc} (hu:P.underlying t = some d) (hd:d.isRow = false) {ad:Addr} {v:Value} (hc:w.cell? ad = some v):(loadVar t ad).run P w = .ok v w := by
  have hagg:(isAgg t).run P w = .ok false w := by
    unfold isAgg
    rw [Sem.run_bind,run_underlying hu w]
    cases d <;> simp_all
  simp [loadVar,Sem.run_bind,hagg,go_sem,hc]
theorem JuA {t:TypeId} {x:Operand} (ho:o.op = .load t x)
    (h:(match Y6 env g x,JEZ P t,P.info? t with
      | some (.one (.ptr id off)),some b,some i => match JD mem id with
        | some (.blk _ cs) => bif b then
            (let r := QY (Xo cs off i.size); bif Nat.beq r.length i.size then some (⟨some (.agg r),[id],[],[],[],[],n⟩:Eff) else none)
          else (match Xo cs off 1 with
            | [(_,c)] => some ⟨some (.one c),[id],[],[],[],[],n⟩
            | _ => none)
        | _ => none
      | _,_,_ => none) = some e)
    (hs:∀ t ∈ Jg [x],∀ y,JD env t = some y → Jz θ a t y) (hg:holds a g) (hm:Jj θ (JJ mem e.rd) w)
    (hk:YF K o a n θ w (JJ mem e.touched) e):o.wp P a w K Q := by
  split at h
  · rename_i id off b i h1 h2 h3
    obtain ⟨d,hu,hd⟩ := WY h2
    have ha := Jh h1 hs hg
    split at h
    · rename_i ty cs hl
      cases b
      · simp only [cond_false] at h
        split at h
        · rename_i tg c hc
          cases h
          obtain ⟨bl,hb,hh⟩ := Kv (hm.1 id (.blk ty cs) (by rw [Jr]; simp [hl]))
          have hcell:w.cell? ⟨bl,off,none⟩ = some (c.den θ) := by
            have h6 := JKd cs off 1
            rw [hc,JGx] at h6
            have h7:(QY cs)[off]? = some c := by
              have := congrArg (fun l:List SC => l[0]?) h6
              simp only [XL,QK,List.getElem?_take,List.getElem?_drop] at this
              simpa using this.symm
            simp [World.cell?,hh,JM,h7]
          refine Q6 (v := c.den θ) (w' := w) ?_ (hk _ _ _ (EffRel.pure (x := .one c) rfl rfl))
          unfold execOp
          simp only [ho]
          refine Xw ?_
          simp only [Instr.loadAt,ha,SV.den,SC.den,hb,Option.map_some,Instr.sureAddr,Sem.run_bind,Sem.run_pure,Result.andThen_ok,jB hu hd hcell]
        · cases h
      · simp only [cond_true] at h
        cases hq:Nat.beq (QY (Xo cs off i.size)).length i.size
        · rw [hq] at h; cases h
        · rw [hq] at h; cases h
          have hlen := Nat.eq_of_beq_eq_true hq
          obtain ⟨bl,hb,hh⟩ := Kv (hm.1 id (.blk ty cs) (by rw [Jr]; simp [hl]))
          have hrange:w.rangeAt bl off (JM θ (QY (Xo cs off i.size))) := by
            intro j v hv
            rw [JKd,Jas] at hv
            have hv':(JM θ (QY cs))[off + j]? = some v := by
              rw [List.getElem?_take] at hv
              split at hv
              · rw [List.getElem?_drop] at hv; exact hv
              · cases hv
            simp [World.cell?,hh,hv']
          refine Q6 (v := .agg (JM θ (QY (Xo cs off i.size))).toArray) (w' := w) ?_ (hk _ _ _ (EffRel.pure (x := .agg _) rfl rfl))
          unfold execOp
          simp only [ho]
          refine Xw ?_
          simp only [ha,SV.den,SC.den,hb,Option.map_some]
          exact run_loadAt_mid w bl off t _ d hrange hu hd (by rw [h3]; simp [JM,hlen])
    · cases h
  · cases h
theorem JOu {α:Type} (l:List α):∀ (off:Nat) (xs:List α),(Zb l off xs).length = l.length := by
  induction l with
  | nil => intro off xs; cases off <;> cases xs <;> rfl
  | cons y r ih => intro off xs; cases off <;> cases xs <;> simp [Zb,ih]
theorem JCT {α:Type} (l:List α):∀ (off:Nat) (xs:List α),off + xs.length ≤ l.length → Zb l off xs = l.take off ++ xs ++ l.drop (off + xs.length) := by
  induction l with
  | nil => intro off xs h; cases xs <;> simp at h; subst h; rfl
  | cons y r ih =>
    intro off xs h
    cases off with
    | zero => cases xs with
      | nil => rfl
      | cons x xs => simp only [Zb]; rw [ih 0 xs (by simp at h ⊢; omega)]; simp
    | succ off => simp only [Zb]; rw [ih off xs (by simp at h ⊢; omega)]; simp [Nat.add_right_comm]
theorem JiM (cs:List (Nat × SC)):∀ (off:Nat) (xs:List (Nat × SC)),QY (Zb cs off xs) = Zb (QY cs) off (QY xs) := by
  induction cs with
  | nil => intro off xs; cases off <;> cases xs <;> rfl
  | cons p r ih => intro off xs; cases off <;> cases xs <;> simp [Zb,XL,QK,ih]
theorem JPF (cs:List (Nat × SC)):(QY cs).length = cs.length := by
  induction cs with
  | nil => rfl
  | cons p r ih => simp [XL,QK,ih]
theorem SC.den_oneCell (θ:Th) (c:SC):(c.den θ).oneCell' = true := by cases c <;> rfl
theorem Jop {t:TypeId} {x y:Operand} (ho:o.op = .store t x y)
    (h:(match Y6 env g x,(Y6 env g y).bind SV.cells,P.info? t with
      | some (.one (.ptr id off)),some vs,some i => match JD mem id with
        | some (.blk ty cs) => bif Nat.beq vs.length i.size && Nat.ble (off + vs.length) cs.length then
            some (⟨none,[id],[id],[(id,.blk ty (Zb cs off (j0 n vs)))],[],[],n + vs.length⟩:Eff) else none
        | _ => none
      | _,_,_ => none) = some e)
    (hs:∀ t ∈ Jg [x,y],∀ y,JD env t = some y → Jz θ a t y) (hg:holds a g) (hm:Jj θ (JJ mem e.rd) w)
    (hk:YF K o a n θ w (JJ mem e.touched) e):o.wp P a w K Q := by
  split at h
  · rename_i id off vs i h1 h2 h3
    have ha := Jh h1 (fun t ht => hs t (by rw [Jq]; simp [ht])) hg
    cases h4:Y6 env g y with
    | none => rw [h4] at h2; cases h2
    | some v =>
      rw [h4] at h2; simp only [Option.bind_some] at h2
      have hb := Jh h4 (fun t ht => hs t (by rw [Jq]; simp [ht])) hg
      have hcells := SV.cells_den θ h2
      split at h
      · rename_i ty cs hl
        cases hq:(Nat.beq vs.length i.size && Nat.ble (off + vs.length) cs.length)
        · rw [hq] at h; cases h
        · rw [hq] at h; cases h
          simp only [Bool.and_eq_true] at hq
          have hlen := Nat.eq_of_beq_eq_true hq.1
          have hfit := Nat.le_of_ble_eq_true hq.2
          have hlr:JD (JJ mem [id]) id = some (.blk ty cs) := by rw [Jr]; simp [hl]
          obtain ⟨bl,hbox,hh⟩:∃ b,θ id = Loc.box b ∧ w.heap[b]? = some (.cells (JM θ (QY cs)).toArray ty (0,0)) := hm.1 id (.blk ty cs) hlr
          have hbl:(θ id).blk = some bl := by rw [hbox]; rfl
          have hst := run_storeCells_at P bl off ty (JM θ vs) 0 (JM θ (QY cs)).toArray w hh (by simp [JM,JPF]; omega) (by
            intro v hv
            simp only [JM,List.mem_map] at hv
            obtain ⟨c,_,rfl⟩ := hv
            exact SC.den_oneCell θ c)
          have hnew:(List.take (off + 0) (JM θ (QY cs)) ++ JM θ vs ++ List.drop (off + 0 + (JM θ vs).length) (JM θ (QY cs))) = JM θ (QY (Zb cs off (j0 n vs))) := by
            rw [JiM,JHi,JCT _ _ _ (by rw [JPF]; exact hfit)]
            simp [JM,List.map_take,List.map_drop]
          simp only at hst
          rw [hnew] at hst
          refine JhU (w' := w.setRow bl (JM θ (QY (Zb cs off (j0 n vs)))).toArray) ?_ (hk _ _ _ ⟨rfl,⟨WE.refl _ _,rfl,rfl,rfl,?_,?_,?_,?_⟩,?_,?_⟩)
          · unfold execOp
            simp only [ho]
            refine JwG ?_
            have hsz:(v.den θ).cells.size = i.size := by rw [hcells]; simp [JM,hlen]
            rw [hb]
            generalize v.den θ = vd at hcells hsz
            simp only [Instr.storeAt,ha,SV.den,SC.den,hbl,Option.map_some,Instr.sureAddr,Sem.run_bind,Sem.run_pure,Result.andThen_ok,storeVar,sizeOf,typeInfo,run_program,h3,hsz,ne_eq,not_true_eq_false,if_false]
            rw [hcells]
            exact hst
          · simp [World.setRow]
          · intro b hb' hno
            have hne:bl ≠ b := fun e => hno id _ hlr (e ▸ hbl)
            simp [World.setRow,Array.getElem?_modify,hne]
          · intro i' o' b hl' hb'
            obtain ⟨rfl,rfl⟩ := Z3 hl'
            exact .inr ⟨_,_,hlr,hb'⟩
          · intro i' o' b hl' hb'
            obtain ⟨rfl,rfl⟩ := Z3 hl'
            exact .inr ⟨_,_,hlr,hb'⟩
          · intro i' o' hl'
            obtain ⟨rfl,rfl⟩ := Z3 hl'
            exact ⟨bl,hbox,setRow_heap w bl _ _ ty _ hh⟩
          · intro i1 i2 o1 o2 b hl1 hl2 hne
            obtain ⟨rfl,rfl⟩ := Z3 hl1
            obtain ⟨rfl,rfl⟩ := Z3 hl2
            exact absurd rfl hne
      · cases h
  · cases h
theorem Ye {k j:IntKind} (h:j6 k j = true):k = j := by cases k <;> cases j <;> first | rfl | cases h
theorem JPB (s x:Bool):(mkB s x).val = x := by cases s <;> rfl
theorem JP8 (s:Bool) (x:Int):(mkI s x).val = x := by cases s <;> rfl
theorem JNa (x y:SB):(JxT x y).val = (x.val && y.val) := by
  rcases x with b | b <;> rcases y with c | c <;> cases b <;> cases c <;> rfl
theorem Jis (x:SB):(Jwp x).val = !x.val := by cases x <;> rfl
theorem JTa:∀ {a c b d:List SC} {x:SB},a.length = c.length → JUn (a ++ b) (c ++ d) = some x → ∃ y z,JUn a c = some y ∧ JUn b d = some z ∧ x.val = (y.val && z.val)
  | [],[],b,d,x,_,h => ⟨.c true,x,rfl,h,by simp [SB.val]⟩
  | [],_ :: _,_,_,_,h,_ => by simp at h
  | _ :: _,[],_,_,_,h,_ => by simp at h
  | p :: a,q :: c,b,d,x,hl,h => by
    simp only [List.cons_append,JUn] at h
    split at h
    · rename_i u v h1 h2
      cases h
      obtain ⟨y,z,h3,h4,h5⟩ := JTa (by simpa using hl) h2
      exact ⟨JxT u y,z,by simp [JUn,h1,h3],h4,by rw [JNa,JNa,h5,Bool.and_assoc]⟩
    · cases h
def JTn (P:Program) (θ:Th) (t:TypeId) (cs:List SC):Value :=
  match P.underlying t with
  | some (.struct _) => .agg (JM θ cs).toArray
  | some (.array _ _) => .agg (JM θ cs).toArray
  | _ => match cs with
    | [c] => c.den θ
    | _ => undef
theorem Jh3 {t:TypeId} {i:TypeInfo} (hi:P.info? t = some i) {d:TypeDesc} (hu:P.underlying t = some d) (h1:d.isRow = false → i.size = 1) (cs:List SC) (o:Nat) (hlen:o + i.size ≤ cs.length) :
    (part t (JM θ cs).toArray o).run P w = .ok (JTn P θ t ((cs.drop o).take i.size)) w := by
  have hagg:(isAgg t).run P w = .ok d.isRow w := by
    unfold isAgg
    rw [Sem.run_bind,run_underlying hu w]
    cases d <;> rfl
  have hsz:(sizeOf t).run P w = .ok i.size w := by simp [sizeOf,typeInfo,go_sem,hi]
  unfold part JTn
  rw [Sem.run_bind,hagg,hu]
  cases hd:d.isRow
  · have h2 := h1 hd
    have h3:o < cs.length := by omega
    have h4:(cs.drop o).take i.size = [cs[o]] := by rw [h2,List.drop_eq_getElem_cons h3]; rfl
    rw [h4]
    have h5:(JM θ cs).toArray[o]? = some (cs[o].den θ) := by simp [JM,h3]
    simp only [Result.andThen_ok,Bool.false_eq_true,if_false,h5,Sem.run_pure]
    cases d <;> simp at hd <;> rfl
  · simp only [Result.andThen_ok,if_true,Sem.run_bind,hsz,Sem.run_pure]
    have h5:(JM θ cs).toArray.extract o (o + i.size) = (JM θ ((cs.drop o).take i.size)).toArray := by
      simp [JM,List.map_take,List.map_drop]
    rw [h5]
    cases d <;> simp at hd <;> rfl
theorem JlY:∀ {d:Nat} {t:TypeId} {cs:List SC},zE P d t cs = true → ∃ de i,P.underlying t = some de ∧ P.info? t = some i ∧ (de.isRow = false → i.size = 1)
  | 0,_,_,h => by cases h
  | d + 1,t,cs,h => by
    unfold zE at h
    split at h
    · rename_i fs i h1 h2; exact ⟨_,i,h1,h2,fun h => by cases h⟩
    · rename_i i h1 h2; simp only [Bool.and_eq_true] at h; exact ⟨_,i,h1,h2,fun _ => Nat.eq_of_beq_eq_true h.1⟩
    · rename_i i h1 h2; simp only [Bool.and_eq_true] at h; exact ⟨_,i,h1,h2,fun _ => Nat.eq_of_beq_eq_true h.1⟩
    · cases h
theorem JcY {ft:TypeId → List SC → Bool} {cs:List SC} {tot:Nat}:∀ {L:List Field} {o:Nat},zE.flatFs P ft L o tot cs = true → o ≤ tot
  | [],_,h => Nat.le_of_eq (Nat.eq_of_beq_eq_true h)
  | f :: L,o,h => by
    simp only [zE.flatFs,Bool.and_eq_true] at h
    obtain ⟨_,_,h⟩ := h
    split at h
    · simp only [Bool.and_eq_true] at h
      exact Nat.le_trans (Nat.le_add_right _ _) (JcY h.2)
    · cases h
theorem JF7:∀ {d:Nat} {t:TypeId} {i:TypeInfo} {cs ds:List SC} {b:SB},zE P d t cs = true → P.info? t = some i → cs.length = i.size → ds.length = i.size → JUn cs ds = some b →
    ∀ D,d ≤ D → (Op.equalIn D t (JTn P θ t cs) (JTn P θ t ds)).run P w = .ok b.val w
  | 0,_,_,_,_,_,h,_,_,_,_ => by cases h
  | d + 1,t,i,cs,ds,b,h,hi,hc,hd,he => by
    intro D hD
    obtain ⟨D,rfl⟩:∃ D',D = D' + 1 := ⟨D - 1,by omega⟩
    unfold zE at h
    split at h
    ·
      rename_i fs i' hu hi'
      rw [hi] at hi'; cases hi'
      simp only [Bool.and_eq_true,Bool.not_eq_true'] at h
      obtain ⟨hstood,hfs⟩ := h
      unfold JTn
      simp only [hu]
      unfold Op.equalIn
      simp only [Sem.run_bind,run_underlying hu,Result.andThen_ok,run_program,hstood,Bool.false_eq_true,if_false]
      rw [← Array.forIn_toList]
      have key:∀ (L:List Field) (o:Nat) (b:SB),zE.flatFs P (zE P d) L o i.size cs = true → JUn (cs.drop o) (ds.drop o) = some b →
          (forIn L ((none : Option Bool), ()) (fun (f : Field) _ => if f.name ≠ "_" then do
                let x ← part f.type (JM θ cs).toArray f.offset
                let y ← part f.type (JM θ ds).toArray f.offset
                let z ← Op.equalIn D f.type x y
                if (!z) = true then pure (ForInStep.done (some false,())) else pure (ForInStep.yield (none,()))
              else pure (ForInStep.yield (none,()))):Sem (Option Bool × Unit)).run P w = .ok ((if b.val then none else some false),()) w := by
        intro L
        induction L with
        | nil =>
          intro o b h1 h2
          have h3:o = i.size := Nat.eq_of_beq_eq_true h1
          subst h3
          rw [List.drop_eq_nil_of_le (by omega),List.drop_eq_nil_of_le (by omega)] at h2
          cases h2
          simp [SB.val]
        | cons f L ih =>
          intro o b h1 h2
          simp only [zE.flatFs,Bool.and_eq_true,bne_iff_ne,ne_eq] at h1
          obtain ⟨hn,ho,hr⟩ := h1
          have ho := Nat.eq_of_beq_eq_true ho
          split at hr
          · rename_i j hj
            simp only [Bool.and_eq_true] at hr
            obtain ⟨hft,hr⟩ := hr
            obtain ⟨de,j',hu',hj',hsz⟩ := JlY hft
            rw [hj] at hj'; cases hj'
            have hle' := JcY hr
            have hsplit:∀ l:List SC,l.drop o = (l.drop o).take j.size ++ l.drop (o + j.size) := fun l => by
              rw [← List.drop_drop,List.take_append_drop]
            rw [hsplit cs,hsplit ds] at h2
            obtain ⟨y,z,h3,h4,h5⟩ := JTa (by simp; omega) h2
            have p1 := Jh3 (θ := θ) (w := w) hj hu' hsz cs o (by omega)
            have p2 := Jh3 (θ := θ) (w := w) hj hu' hsz ds o (by omega)
            have p3 := JF7 hft hj (by simp; omega) (by simp; omega) h3 D (by omega)
            simp only [List.forIn_cons,Sem.run_bind,hn,ne_eq,not_false_eq_true,if_true,Result.andThen_ok,ho,p1,p2,p3]
            cases hy:y.val
            · simp [h5,hy]
            · simp only [Bool.not_true,Bool.false_eq_true,if_false,Sem.run_pure,Result.andThen_ok]
              have := ih (o + j.size) z hr h4
              simp only [h5,hy,Bool.true_and]
              exact this
          · cases hr
      have := key fs.toList 0 b hfs (by simpa using he)
      simp only [ne_eq] at this ⊢
      rw [this]
      cases hb:b.val <;> simp
    · rename_i i' hu hi'
      simp only [Bool.and_eq_true] at h
      obtain ⟨h1,h2⟩ := h
      split at h2
      · rename_i x
        rw [hi] at hi'; cases hi'
        match ds,hd.trans (Nat.eq_of_beq_eq_true h1) with
        | [e],_ =>
          simp only [JUn] at he
          cases e <;> simp only [eqC] at he <;> cases he
          unfold JTn
          simp only [hu]
          unfold Op.equalIn
          simp only [Sem.run_bind,run_underlying hu,Result.andThen_ok,SC.den,Sem.run_pure,JNa,JPB]
          simp [SB.val]
      · cases h2
    · rename_i i' hu hi'
      simp only [Bool.and_eq_true] at h
      obtain ⟨h1,h2⟩ := h
      split at h2
      · rename_i k x
        rw [hi] at hi'; cases hi'
        match ds,hd.trans (Nat.eq_of_beq_eq_true h1) with
        | [e],_ =>
          simp only [JUn] at he
          obtain ⟨j,y,rfl⟩:∃ j y,e = .int j y := by
            cases e <;> simp only [eqC] at he <;> first | exact ⟨_,_,rfl⟩ | cases he
          simp only [eqC] at he
          cases hk:j6 k j
          · rw [hk] at he; cases he
          · rw [hk] at he; cases he
            have := Ye hk; subst this
            unfold JTn
            simp only [hu]
            unfold Op.equalIn
            simp only [Sem.run_bind,run_underlying hu,Result.andThen_ok,SC.den,if_true,Sem.run_pure,JNa,JPB]
            simp [SB.val]
      · cases h2
    · cases h
theorem JFJ:∀ {d:Nat} {t:TypeId} {cs:List SC},zE P d t cs = true → ∀ D,d ≤ D → P.eqGuardType D t = false
  | 0,_,_,h,_,_ => by cases h
  | d + 1,t,cs,h,D,hD => by
    obtain ⟨D,rfl⟩:∃ D',D = D' + 1 := ⟨D - 1,by omega⟩
    unfold zE at h
    split at h
    · rename_i fs i hu hi
      simp only [Bool.and_eq_true] at h
      unfold Program.eqGuardType
      simp only [hu]
      rw [← Array.any_toList]
      have key : ∀ (L : List Field) (o : Nat), zE.flatFs P (zE P d) L o i.size cs = true → L.any (fun f => f.name != "_" && P.eqGuardType D f.type) = false := by
        intro L
        induction L with
        | nil => intro o _; rfl
        | cons f L ih =>
          intro o h1
          simp only [zE.flatFs,Bool.and_eq_true] at h1
          obtain ⟨_,_,hr⟩ := h1
          split at hr
          · simp only [Bool.and_eq_true] at hr
            rw [List.any_cons,JFJ hr.1 D (by omega),ih _ hr.2]
            simp
          · cases hr
      exact key _ _ h.2
    · rename_i i hu hi; unfold Program.eqGuardType; simp [hu]
    · rename_i i hu hi; unfold Program.eqGuardType; simp [hu]
    · cases h
end each
open Go.RowKit
section each
variable {P:Program} {ce:CE} {o:Oper} {env:KL} {g:List (Nat × Bool)} {mem:Jn} {n:Nat} {e:Eff} {θ:Th} {a:Act} {w:World} {K:Act → World → Prop} {Q:Exit → Act → World → Prop}
theorem Jvs {b:SI} {q:List Prop} (h:nz b = some q) (hq:∀ p ∈ q,p):b.val ≠ 0 := by
  cases b with
  | c m =>
    simp only [nz] at h
    by_cases hm:m = 0
    · simp [hm] at h
    · exact hm
  | v x => cases h; exact (show x ≠ 0 from hq _ (by simp))
theorem JUV {b:SI} {q:List Prop} (h:Jey b = some q) (hq:∀ p ∈ q,p):0 ≤ b.val := by
  cases b with
  | c m =>
    simp only [Jey] at h
    by_cases hm:0 ≤ m
    · exact hm
    · simp [hm] at h
  | v x => cases h; exact (show 0 ≤ x from hq _ (by simp))
theorem JtR {op:BinOp} {t:TypeId} {k:IntKind} {x y:SI} {c:SC} {q:List Prop} (h:JsL op k x y = some (c,q)) (hq:∀ p ∈ q,p) :
    (Go.binOp op t (.int k x.val) (.int k y.val)).run P w = .ok (c.den θ) w := by
  have hshl:op ≠ .shl := by rintro rfl; simp [JsL] at h
  have hshr:op ≠ .shr := by rintro rfl; simp [JsL] at h
  cases op <;> simp only [JsL,Option.some.injEq,Prod.mk.injEq,Option.map_eq_some_iff,reduceCtorEq] at h <;> try contradiction
  all_goals first
    | (obtain ⟨rfl,rfl⟩ := h
       simp [Go.binOp,Op.intArith,Op.intCmp,SC.den,JP8,JPB,Sem.run_pure]
       done)
    | (obtain ⟨rfl,rfl⟩ := h
       simp [Go.binOp,Op.intBits,SC.den,JP8,Zg,Sem.run_pure]
       done)
    | (obtain ⟨q',h1,rfl,rfl⟩ := h
       have := Jvs h1 hq
       simp [Go.binOp,Op.intDiv,SC.den,JP8,Sem.run_pure,this])
theorem JUl (op:BinOp) (t:TypeId) (x y:Operand) (k:IntKind) (m:Int) (v:Value):(eqGuard op t x y (.int k m) v).run P w = .ok () w := by
  unfold eqGuard
  cases op <;> simp [Sem.run_pure]
theorem JSR (op:BinOp) (t:TypeId) (x y:Operand) (m:Bool) (v:Value):(eqGuard op t x y (.bool m) v).run P w = .ok () w := by
  unfold eqGuard
  cases op <;> simp [Sem.run_pure]
theorem JUi (op:BinOp) (t:TypeId) (x y:Operand) (u v:Array Value) (h:P.eqGuardType P.depth t = false):(eqGuard op t x y (.agg u) (.agg v)).run P w = .ok () w := by
  unfold eqGuard
  cases op <;> simp [Sem.run_pure,Sem.run_bind,run_program,h]
theorem Jq8 {op:BinOp} {t:TypeId} {x y:SV} {c:SC} {q:List Prop} (h:SX.Jnc P op t x y = some (c,q)) (hq:∀ p ∈ q,p) (ox oy:Operand) :
    (do eqGuard op t ox oy (x.den θ) (y.den θ); Go.binOp op t (x.den θ) (y.den θ):Sem Value).run P w = .ok (c.den θ) w := by
  unfold SX.Jnc at h
  split at h
  · rename_i k x j y
    rw [Sem.run_bind]
    simp only [SV.den,SC.den,JUl,Result.andThen_ok]
    split at h
    · simp only [Option.map_eq_some_iff,Prod.mk.injEq] at h
      obtain ⟨q',h1,rfl,rfl⟩ := h
      have h2 := JUV h1 hq
      have h3:¬ y.val < 0 := by omega
      simp [Go.binOp,Op.shift,JP8,JV,Sem.run_pure,h3]
    · simp only [Option.map_eq_some_iff,Prod.mk.injEq] at h
      obtain ⟨q',h1,rfl,rfl⟩ := h
      have h2 := JUV h1 hq
      have h3:¬ y.val < 0 := by omega
      simp [Go.binOp,Op.shift,JP8,JV,Sem.run_pure,h3]
    · cases hk:j6 k j
      · rw [hk] at h; cases h
      · rw [hk] at h
        have := Ye hk; subst this
        exact JtR h hq
  · rename_i x y
    rw [Sem.run_bind]
    simp only [SV.den,SC.den,JSR,Result.andThen_ok]
    split at h
    · rename_i hu
      have he:∀ d,(Op.equalIn (d + 1) t (.bool x.val) (.bool y.val)).run P w = .ok (x.val == y.val) w := fun d => by
        unfold Op.equalIn
        simp [run_underlying hu]
      split at h
      · cases h
        simp [Go.binOp,Op.equal,Op.maxDepth,he 9999,JPB]
      · cases h
        simp [Go.binOp,Op.equal,Op.maxDepth,he 9999,JPB]
      · cases h
    · cases h
  · rename_i cs ds
    split at h
    · rename_i fs i hu hi
      cases hc:(zE P 20 t cs && (Nat.beq cs.length i.size && Nat.beq ds.length i.size))
      · rw [hc] at h; cases h
      · rw [hc] at h
        simp only [Bool.and_eq_true] at hc
        obtain ⟨hf,h1,h2⟩ := hc
        have h1 := Nat.eq_of_beq_eq_true h1
        have h2 := Nat.eq_of_beq_eq_true h2
        have hdep:20 ≤ P.depth := by unfold Program.depth Made.depth; omega
        rw [Sem.run_bind]
        simp only [SV.den,JUi _ _ _ _ _ _ (JFJ hf _ hdep),Result.andThen_ok]
        have key:∀ b,JUn cs ds = some b → (Op.equal t (.agg (JM θ cs).toArray) (.agg (JM θ ds).toArray)).run P w = .ok b.val w := by
          intro b hb
          have := JF7 (θ := θ) (w := w) hf hi h1 h2 hb 10000 (by omega)
          unfold JTn at this
          rw [hu] at this
          exact this
        simp only [cond_true] at h
        split at h
        · rename_i b hb
          cases h
          simp [Go.binOp,key b hb,SC.den]
        · rename_i b hb
          cases h
          simp [Go.binOp,key b hb,SC.den,Jis]
        · cases h
    · cases h
  · cases h
theorem JpY {op:BinOp} {t yt:TypeId} {x y:Operand} (ho:o.op = .binOp op t x y yt)
    (h:(match Y6 env g x,Y6 env g y with
      | some a,some b => (SX.Jnc P op t a b).map fun (c,q) => (⟨some (.one c),[],[],[],q,[],n⟩:Eff)
      | _,_ => none) = some e) (hn:∀ p ∈ e.needs,p)
    (hs:∀ t ∈ Jg [x,y],∀ y,JD env t = some y → Jz θ a t y) (hg:holds a g)
    (hk:YF K o a n θ w (JJ mem e.touched) e):o.wp P a w K Q := by
  split at h
  · rename_i u v h1 h2
    simp only [Option.map_eq_some_iff,Prod.exists] at h
    obtain ⟨c,q,h3,rfl⟩ := h
    have ha := Jh h1 (fun t ht => hs t (by rw [Jq]; simp [ht])) hg
    have hb := Jh h2 (fun t ht => hs t (by rw [Jq]; simp [ht])) hg
    refine Q6 (v := c.den θ) (w' := w) ?_ (hk _ _ _ (EffRel.pure (x := .one c) rfl rfl))
    unfold execOp
    simp only [ho]
    refine Xw ?_
    rw [ha,hb]
    exact Jq8 h3 hn x y
  · cases h
theorem JsC {op:UnOp} {t:TypeId} {x:Operand} (ho:o.op = .unOp op t x)
    (h:((Y6 env g x).bind (JxJ op)).map (fun c => Eff.pure n (.one c)) = some e)
    (hs:∀ t ∈ Jg [x],∀ y,JD env t = some y → Jz θ a t y) (hg:holds a g)
    (hk:YF K o a n θ w (JJ mem e.touched) e):o.wp P a w K Q := by
  simp only [Option.map_eq_some_iff,Option.bind_eq_some_iff] at h
  obtain ⟨c,⟨v,h1,h2⟩,rfl⟩ := h
  have ha := Jh h1 hs hg
  refine Q6 (v := c.den θ) (w' := w) ?_ (hk _ _ _ (EffRel.pure (x := .one c) rfl rfl))
  unfold execOp
  simp only [ho]
  refine Xw ?_
  rw [ha]
  unfold JxJ at h2
  split at h2
  · rename_i k m
    cases op <;> cases m <;> simp only [reduceCtorEq,Option.some.injEq] at h2 <;> subst h2 <;> simp [SV.den,SC.den,Op.unary,Op.intArith,SI.val]
  · rename_i b
    cases op <;> simp only [reduceCtorEq,Option.some.injEq] at h2
    subst h2
    simp [SV.den,SC.den,Op.unary,Jis]
  · cases h2
theorem Jgn {s d:TypeId} {x:Operand} (ho:o.op = .convert s d x)
    (h:(match P.underlying s,P.underlying d,Y6 env g x with
      | some _,some (.int k),some (.one (.int _ (.c m))) => some (Eff.pure n (.one (.int k (.c (k.wrap m)))))
      | some _,some (.int k),some (.one (.int _ (.v m))) => some (Eff.pure n (.one (.int k (.v (k.wrap m)))))
      | _,_,_ => none) = some e)
    (hs:∀ t ∈ Jg [x],∀ y,JD env t = some y → Jz θ a t y) (hg:holds a g)
    (hk:YF K o a n θ w (JJ mem e.touched) e):o.wp P a w K Q := by
  have key:∀ (ds:TypeDesc) (k j:IntKind) (m:Int),P.underlying s = some ds → P.underlying d = some (.int k) → (Go.convert s d (.int j m)).run P w = .ok (.int k (k.wrap m)) w := by
    intro ds k j m h1 h2
    unfold Go.convert
    rw [Sem.run_bind,run_underlying h1,Result.andThen_ok,Sem.run_bind,run_underlying h2,Result.andThen_ok]
    simp [Conv.intToInt]
  split at h
  · rename_i ds k j m h1 h2 h3
    cases h
    have ha := Jh h3 hs hg
    refine Q6 (v := .int k (k.wrap m)) (w' := w) ?_ (hk _ _ _ (EffRel.pure (x := .one (.int k (.c (k.wrap m)))) rfl rfl))
    unfold execOp
    simp only [ho]
    refine Xw ?_
    rw [ha]
    exact key ds k j m h1 h2
  · rename_i ds k j m h1 h2 h3
    cases h
    have ha := Jh h3 hs hg
    refine Q6 (v := .int k (k.wrap m)) (w' := w) ?_ (hk _ _ _ (EffRel.pure (x := .one (.int k (.v (k.wrap m)))) rfl rfl))
    unfold execOp
    simp only [ho]
    refine Xw ?_
    rw [ha]
    exact key ds k j m h1 h2
  · cases h
theorem Je7 {x:Operand} (ho:o.op = .nilCheck x)
    (h:(match Y6 env g x with
      | some (.one (.ptr id off)) => match JD mem id with
        | some (.blk _ _) => some (⟨some (.one (.ptr id off)),[id],[],[],[],[],n⟩:Eff)
        | _ => none
      | _ => none) = some e) (hm:Jj θ (JJ mem e.rd) w)
    (hs:∀ t ∈ Jg [x],∀ y,JD env t = some y → Jz θ a t y) (hg:holds a g)
    (hk:YF K o a n θ w (JJ mem e.touched) e):o.wp P a w K Q := by
  split at h
  · rename_i id off h1
    split at h
    case h_2 => cases h
    rename_i ty cs hl
    cases h
    have ha := Jh h1 hs hg
    obtain ⟨b,hb,_⟩ := Kv (hm.1 id (.blk ty cs) (by rw [Jr]; simp [hl]))
    refine Q6 (v := SV.den θ (.one (.ptr id off))) (w' := w) ?_ (hk _ _ _ (EffRel.pure (x := .one (.ptr id off)) rfl rfl))
    unfold execOp
    simp only [ho,ha,SV.den,SC.den,hb,Option.map_some,Sem.run_pure]
  · cases h
theorem JNC {α:Type} (fs:Array α) (f:Nat):fs.toList[f]? = fs[f]? := by simp
theorem Jbj {t:TypeId} {x:Operand} {f:Nat} (ho:o.op = .fieldAddr t x f)
    (h:(match P.underlying t,Y6 env g x with
      | some (.struct fs),some (.one (.ptr id off)) => match fs.toList[f]? with
        | some fd => (match P.info? fd.type with
          | some i => (match JD mem id with
            | some (.blk _ _) => bif Nat.beq i.size 0 then none else some (⟨some (.one (.ptr id (off + fd.offset))),[id],[],[],[],[],n⟩:Eff)
            | _ => none)
          | none => none)
        | none => none
      | _,_ => none) = some e) (hm:Jj θ (JJ mem e.rd) w)
    (hs:∀ t ∈ Jg [x],∀ y,JD env t = some y → Jz θ a t y) (hg:holds a g)
    (hk:YF K o a n θ w (JJ mem e.touched) e):o.wp P a w K Q := by
  split at h
  · rename_i fs id off hu h1
    have ha := Jh h1 hs hg
    split at h
    · rename_i fd hf
      split at h
      · rename_i i hi
        split at h
        case h_2 => cases h
        rename_i ty cs hl
        cases hq:Nat.beq i.size 0
        · rw [hq] at h; cases h
          obtain ⟨b,hb,_⟩ := Kv (hm.1 id (.blk ty cs) (by rw [Jr]; simp [hl]))
          have hne:i.size ≠ 0 := fun hz => by rw [hz] at hq; cases hq
          refine Q6 (v := SV.den θ (.one (.ptr id (off + fd.offset)))) (w' := w) ?_ (hk _ _ _ (EffRel.pure (x := .one (.ptr id (off + fd.offset))) rfl rfl))
          unfold execOp
          simp only [ho]
          refine Xw ?_
          rw [JNC] at hf
          simp only [ha,SV.den,SC.den,hb,Option.map_some,Instr.fieldAt,Sem.run_bind,run_underlying hu,Result.andThen_ok,hf,Instr.sureAddr,Sem.run_pure,fieldPlace,sizeOf,typeInfo,run_program,hi,hne,if_false,Addr.add_mid]
        · rw [hq] at h; cases h
      · cases h
    · cases h
  · cases h
theorem JpE {t:TypeId} {x:Operand} {f:Nat} (ho:o.op = .field t x f)
    (h:(match P.underlying t,Y6 env g x with
      | some (.struct fs),some (.agg cs) => match fs.toList[f]? with
        | some fd => (match JEZ P fd.type,P.info? fd.type with
          | some true,some i => (let r := Xo cs fd.offset i.size; bif Nat.beq r.length i.size then some (Eff.pure n (.agg r)) else none)
          | some false,some _ => (match Xo cs fd.offset 1 with
            | [c] => some (Eff.pure n (.one c))
            | _ => none)
          | _,_ => none)
        | none => none
      | _,_ => none) = some e)
    (hs:∀ t ∈ Jg [x],∀ y,JD env t = some y → Jz θ a t y) (hg:holds a g)
    (hk:YF K o a n θ w (JJ mem e.touched) e):o.wp P a w K Q := by
  split at h
  · rename_i fs cs hu h1
    have ha := Jh h1 hs hg
    split at h
    · rename_i fd hf
      rw [JNC] at hf
      split at h
      · rename_i i h2 hi
        obtain ⟨d,hd,hrow⟩ := WY h2
        simp only at h
        cases hq:Nat.beq (Xo cs fd.offset i.size).length i.size
        · rw [hq] at h; cases h
        · rw [hq] at h; cases h
          have hagg:(isAgg fd.type).run P w = .ok true w := by
            unfold isAgg
            rw [Sem.run_bind,run_underlying hd w]
            cases d <;> simp_all
          refine Q6 (v := SV.den θ (.agg (Xo cs fd.offset i.size))) (w' := w) ?_ (hk _ _ _ (EffRel.pure (x := .agg _) rfl rfl))
          unfold execOp
          simp only [ho]
          refine Xw ?_
          simp only [ha,SV.den,Instr.field,Sem.run_bind,run_underlying hu,Result.andThen_ok,hf,asAgg,Sem.run_pure,part,hagg,if_true,sizeOf,typeInfo,run_program,hi]
          congr 2
          simp [JM,JGx,List.map_take,List.map_drop]
      · rename_i i h2 hi
        obtain ⟨d,hd,hrow⟩ := WY h2
        split at h
        · rename_i c hc
          cases h
          have hagg:(isAgg fd.type).run P w = .ok false w := by
            unfold isAgg
            rw [Sem.run_bind,run_underlying hd w]
            cases d <;> simp_all
          have h7:cs[fd.offset]? = some c := by
            rw [JGx] at hc
            have := congrArg (fun l:List SC => l[0]?) hc
            simp only [List.getElem?_take,List.getElem?_drop] at this
            simpa using this
          refine Q6 (v := SV.den θ (.one c)) (w' := w) ?_ (hk _ _ _ (EffRel.pure (x := .one c) rfl rfl))
          unfold execOp
          simp only [ho]
          refine Xw ?_
          have h8:(JM θ cs).toArray[fd.offset]? = some (c.den θ) := by simp [JM,h7]
          simp only [ha,SV.den,Instr.field,Sem.run_bind,run_underlying hu,Result.andThen_ok,hf,asAgg,Sem.run_pure,part,hagg,Bool.false_eq_true,if_false,h8]
        · cases h
      · cases h
    · cases h
  · cases h
theorem JiH {x:Operand} {k:Nat} (ho:o.op = .extract x k)
    (h:(match Y6 env g x with
      | some (.tup vs) => match vs[k]? with
        | some (true,cs) => some (Eff.pure n (.agg cs))
        | some (false,[c]) => some (Eff.pure n (.one c))
        | _ => none
      | _ => none) = some e)
    (hs:∀ t ∈ Jg [x],∀ y,JD env t = some y → Jz θ a t y) (hg:holds a g)
    (hk:YF K o a n θ w (JJ mem e.touched) e):o.wp P a w K Q := by
  split at h
  · rename_i vs h1
    have ha := Jh h1 hs hg
    have key:∀ p,vs[k]? = some p → (Instr.extract (.tuple (vs.map (QU θ)).toArray) k).run P w = .ok (QU θ p) w := by
      intro p hp
      have:(vs.map (QU θ)).toArray[k]? = some (QU θ p) := by simp [hp]
      simp [Instr.extract,this]
    split at h
    · rename_i cs hv
      cases h
      refine Q6 (v := SV.den θ (.agg cs)) (w' := w) ?_ (hk _ _ _ (EffRel.pure (x := .agg cs) rfl rfl))
      unfold execOp
      simp only [ho]
      refine Xw ?_
      rw [ha]
      exact (key _ hv).trans (by cases cs with
        | nil => rfl
        | cons c r => rfl)
    · rename_i c hv
      cases h
      refine Q6 (v := SV.den θ (.one c)) (w' := w) ?_ (hk _ _ _ (EffRel.pure (x := .one c) rfl rfl))
      unfold execOp
      simp only [ho]
      refine Xw ?_
      rw [ha]
      exact key _ hv
    · cases h
  · cases h
theorem JWP:∀ {m:Jn},Jc2 m = true → ∀ {id:Nat} {o:Obj},JD m id = some o → ∃ ty esz r,o = .row true ty esz r
  | [],_,id,o,h => by cases h
  | (i,x) :: r,hr,id,o,h => by
    unfold Jc2 at hr
    split at hr
    · rename_i heq; cases heq
    · rename_i i' ty esz rr rest heq
      cases heq
      rw [JX] at h
      cases hb:Nat.beq i id
      · rw [hb] at h; exact JWP hr h
      · rw [hb] at h; cases h; exact ⟨_,_,_,rfl⟩
    · cases hr
theorem JO6 {x y:SV} (h:EV.v x = EV.v y):x = y := by injection h
theorem JJI {x y:SC} {q:jq} (h:∀ p ∈ JYi x y q,p.1 = p.2):x = y ∧ ∀ p ∈ q,p.1 = p.2 := by
  have gen:∀ {x y:SC} {q:jq},(∀ p ∈ ((EV.v (.one x),EV.v (.one y)) :: q:jq),p.1 = p.2) → x = y ∧ ∀ p ∈ q,p.1 = p.2 := fun {x y q} h => by
    have heq:SV.one x = SV.one y := JO6 (h (.v (.one x),.v (.one y)) (by simp))
    exact ⟨by injection heq,fun p hp => h p (by simp [hp])⟩
  unfold JYi at h
  split at h
  · rename_i a b
    cases hb:Nat.beq a b
    · rw [hb] at h; exact gen h
    · rw [hb] at h
      have := Nat.eq_of_beq_eq_true hb; subst this
      exact ⟨rfl,h⟩
  · rename_i a o b p
    cases hb:(Nat.beq a b && Nat.beq o p)
    · rw [hb] at h; exact gen h
    · rw [hb] at h
      simp only [Bool.and_eq_true] at hb
      have := Nat.eq_of_beq_eq_true hb.1; subst this
      have := Nat.eq_of_beq_eq_true hb.2; subst this
      exact ⟨rfl,h⟩
  · exact gen h
theorem JHv (θ:Th) (c:SC):(JgC c).den θ = c.den θ ∧ Wm (JgC c) = Wm c := by cases c <;> exact ⟨rfl,rfl⟩
theorem JJ8:∀ {x y:List (Nat × SC)} {q:jq},JM9 x y = some q → (∀ p ∈ q,p.1 = p.2) → (∀ θ,JM θ (QY x) = JM θ (QY y)) ∧ Qu (QY x) = Qu (QY y)
  | [],[],_,_,_ => ⟨fun _ => rfl,rfl⟩
  | (a,x) :: r,(b,y) :: s,q,h,hq => by
    simp only [JM9,Option.map_eq_some_iff] at h
    obtain ⟨q',h1,rfl⟩ := h
    obtain ⟨h2,hq'⟩ := JJI hq
    obtain ⟨h3,h4⟩ := JJ8 h1 hq'
    refine ⟨fun θ => ?_,?_⟩
    · have := h3 θ
      simp only [QK,JM,List.map_cons] at this ⊢
      rw [this,← (JHv θ x).1,h2,(JHv θ y).1]
    · rw [QK,QK,Jt,Jt,h4,← (JHv Th.none x).2,h2,(JHv Th.none y).2]
  | [],_ :: _,_,h,_ => by simp [JM9] at h
  | _ :: _,[],_,h,_ => by simp [JM9] at h
theorem Jhb {x:Obj} {y:Option Obj} {q:jq} (h:JmB x y = some q) (hq:∀ p ∈ q,p.1 = p.2) :
    (∃ ty esz r,x = .row true ty esz r) ∨ ∃ t a b,x = .blk t a ∧ y = some (.blk t b) ∧ ∀ θ,JM θ (QY a) = JM θ (QY b) := by
  unfold JmB at h
  split at h
  · exact .inl ⟨_,_,_,rfl⟩
  · rename_i t a u b
    cases hb:Nat.beq t u
    · rw [hb] at h; cases h
    · rw [hb] at h
      have := Nat.eq_of_beq_eq_true hb; subst this
      exact .inr ⟨t,a,b,rfl,rfl,(JJ8 h hq).1⟩
  · cases h
theorem JLe {res:Jn}:∀ {m:Jn} {q:jq},JFO res m = some q → (∀ p ∈ q,p.1 = p.2) → ∀ {id:Nat} {x:Obj},JD m id = some x →
    (∃ ty esz r,x = .row true ty esz r) ∨ ∃ t a b,x = .blk t a ∧ JD res id = some (.blk t b) ∧ ∀ θ,JM θ (QY a) = JM θ (QY b)
  | [],_,_,_,id,x,h => by cases h
  | (i,o) :: r,q,hs,hq,id,x,h => by
    simp only [JFO] at hs
    split at hs
    · rename_i a b h1 h2
      cases hs
      rw [JX] at h
      cases hb:Nat.beq i id
      · rw [hb] at h
        exact JLe h2 (fun p hp => hq p (List.mem_append.2 (.inr hp))) h
      · rw [hb] at h; cases h
        have := Nat.eq_of_beq_eq_true hb; subst this
        exact Jhb h1 fun p hp => hq p (List.mem_append.2 (.inl hp))
    · cases hs
theorem Jjn {n:Nat} {θ θ':Th} {sub res:Jn} {w w':World} {q:jq} (hs:JFO res sub = some q) (hq:∀ p ∈ q,p.1 = p.2) (hwf:Z9 n sub) (hm:Jj θ sub w)
    (hg:Grew n θ sub w θ' res w') (hu:Jj θ' res w') (b:Nat) (hb:b < w.heap.size):w'.heap[b]? = w.heap[b]? := by
  by_cases hno:∀ id o,JD sub id = some o → (θ id).blk ≠ some b
  · exact hg.heap b hb hno
  · obtain ⟨id,hno⟩ := Classical.not_forall.1 hno
    obtain ⟨o,hno⟩ := Classical.not_forall.1 hno
    simp only [Classical.not_imp,ne_eq,Classical.not_not] at hno
    obtain ⟨hl,hblk⟩ := hno
    rcases JLe hs hq hl with ⟨ty,es,r,rfl⟩ | ⟨t,x,y,rfl,hr,hxy⟩
    · have := (hm.1 id _ hl).2.1
      rw [this] at hblk; cases hblk
    · obtain ⟨b1,h1,h2⟩ := hm.1 id _ hl
      obtain ⟨b2,h3,h4⟩ := hu.1 id _ hr
      have ha := hg.agree id (hwf id _ hl).1
      rw [ha,h1] at h3
      have e1:b1 = b2 := by injection h3 with h3; injection h3
      subst e1
      rw [h1] at hblk
      have e2:b1 = b := by injection hblk
      subst e2
      rw [h2,h4,← hxy,WT hg.agree (hwf id _ hl).2]
def Jry:Array Value → Sem Value := fun args => do
  let (x, y, b) ← Extern.MathBitsCarry.three "Sub64" args
  pure (Extern.MathBitsCarry.pair ((x + Extern.MathBitsCarry.m64 - y - b) % Extern.MathBitsCarry.m64) (if x < y + b then 1 else 0))
theorem JjW (x y b:Nat) (hb:b ≤ 1) (w:World) :
    (Jry #[.int .u64 x,.int .u64 y,.int .u64 b]).run P w =
      .ok (.tuple #[.int .u64 (((x + 18446744073709551616 - y - b) % 18446744073709551616:Nat):Int),.int .u64 ((if x < y + b then 1 else 0:Nat):Int)]) w := by
  have:b = 0 ∨ b = 1 := by omega
  rcases this with rfl | rfl <;> rfl
theorem Jmm {fn : Func} (h : fn.name = "math/bits.Sub64") (ho : fn.origin = "") : Extern.findNext fn = none ∧ Extern.find fn = some Jry := by
  constructor
  · unfold Extern.findNext
    rw [h,ho]
    kernel_rfl
  · unfold Extern.find
    rw [h,ho]
    kernel_rfl
theorem JjF {fid:FuncId} {vs:List SV} {n:Nat} {e:Eff} (hsb:JUx P fid = true) (h:JxS vs n = some e) (hn:∀ p ∈ e.needs,p) :
    ∃ v,e.val = some v ∧ e.ups = [] ∧ ∀ θ w,(callFunc fid (vs.map (SV.den θ)).toArray).run P w = .ok (.value (v.den θ)) w := by
  unfold JUx at hsb
  split at hsb
  case h_2 => cases hsb
  rename_i fn hfn
  split at hsb
  · cases hsb
  rename_i hbody
  simp only [Bool.and_eq_true,beq_iff_eq] at hsb
  obtain ⟨hname,horig⟩ := hsb
  obtain ⟨f1,f2⟩ := Jmm hname horig
  unfold JxS at h
  split at h
  case h_2 => cases h
  rename_i x y b
  cases h
  have hx:0 ≤ x.val := hn _ (by simp)
  have hy:0 ≤ y.val := hn _ (by simp)
  have hb:0 ≤ b.val ∧ b.val ≤ 1 := hn _ (by simp)
  refine ⟨_,rfl,rfl,fun θ w => ?_⟩
  rw [run_callFunc_extern hfn (by rw [hname]; decide) (by rw [hbody]; rfl) f1 f2]
  obtain ⟨i,hi⟩ := Int.eq_ofNat_of_zero_le hx
  obtain ⟨j,hj⟩ := Int.eq_ofNat_of_zero_le hy
  obtain ⟨k,hk⟩ := Int.eq_ofNat_of_zero_le hb.1
  have hval:∀ (s:Bool) (z:Int),(mkI s z).val = z := fun s z => by cases s <;> rfl
  have hk1:k ≤ 1 := by omega
  simp only [List.map_cons,List.map_nil,SV.den,SC.den,hi,hj,hk]
  have := JjW (P := P) i j k hk1 w
  rw [this]
  simp only [Result.andThen,QU,SC.den,List.map_cons,List.map_nil,hval,JJm,JEc,hi,hj,hk,Int.toNat_natCast,Bool.false_eq_true,if_false]
  try rfl
theorem Jui {c:Call} (hp:Zi P) (hce:WP P ce) (ho:o.op = .call c)
    (h:(match c.callee with
    | .value f => match Y6 env g f,args env g c.args.toList with
      | some (.one (.fn h)),some vs => Ju2 P ce mem n h vs
      | _,_ => none
    | _ => none) = some e) (hn:∀ p ∈ e.needs,p) (he:∀ p ∈ e.eqs,p.1 = p.2)
    (hs:∀ t ∈ Jg c.operands.toList,∀ y,JD env t = some y → Jz θ a t y) (hg:holds a g) (hids:∀ t y,JD env t = some y → ∀ id ∈ Zc y.val,id < n) (hwf:Z9 n mem)
    (hm:Jj θ (JJ mem e.rd) w) (hk:YF K o a n θ w (JJ mem e.touched) e):o.wp P a w K Q := by
  split at h
  · rename_i f hc
    split at h
    · rename_i fid vs h1 h2
      unfold Ju2 at h
      cases hsb:JUx P fid
      case true =>
        rw [hsb] at h
        simp only [cond_true] at h
        have hops:c.operands.toList = f :: c.args.toList := by simp [Call.operands,hc]
        rw [hops] at hs
        have hf := Jh h1 (fun t ht => hs t (by rw [Jq]; simp [ht])) hg
        have has := JCC h2 (fun t ht => hs t (by rw [Jq]; simp [ht])) hg
        have hmap:c.args.map a.eval = (vs.map (SV.den θ)).toArray := by
          apply Array.toList_inj.1
          simp [has]
        obtain ⟨v,hv,hne,hcall⟩ := JjF hsb h hn
        refine Q6 (v := SV.den θ v) (w' := w) ?_ (hk _ _ _ (EffRel.pure hv hne))
        have hcw := hcall θ w
        generalize SV.den θ v = z at hcw ⊢
        unfold execOp
        simp only [ho]
        simp only [resolve,hc,hf,SV.den,SC.den,Deferred.ofValue,Sem.run_bind,Sem.run_pure,Result.andThen_ok,hmap,invoke]
        simp [hcw]
      rw [hsb] at h
      simp only [cond_false] at h
      unfold Jwi at h
      cases hlt:Nat.blt fid 1000000
      · rw [hlt] at h; cases h
      rw [hlt] at h
      simp only [cond_true] at h
      have hlt:fid < 1000000 := by simpa using hlt
      split at h
      · rename_i r hr
        obtain ⟨rd,hrd⟩:∃ rd,rd = Ka mem 3 (Qj vs) := ⟨_,rfl⟩
        have hnd:e.needs = r.needs ∧ (∀ p ∈ r.eqs,p.1 = p.2) ∧ e.rd = rd ∧ e.val = some r.val ∧ ((e.touched = [] ∧ e.ups = [] ∧ (Jc2 (JJ mem rd) = true ∨ ∃ q,JFO r.mem (JJ mem rd) = some q ∧ ∀ p ∈ q,p.1 = p.2)) ∨ (e.touched = rd ∧ e.ups = r.mem)) := by
          cases hro:(Jc2 (JJ mem (Ka mem 3 (Qj vs))) && Jb5 (Ka mem 3 (Qj vs)) r.mem)
          · rw [hro] at h
            simp only [cond_false] at h
            split at h
            · rename_i q hq
              cases h
              unfold JuD at hq
              split at hq
              · cases hsd:Jb5 (Ka mem 3 (Qj vs)) r.mem
                · rw [hsd] at hq; cases hq
                · rw [hsd] at hq
                  exact ⟨rfl,fun p hp => he p (List.mem_append.2 (.inl hp)),hrd.symm,rfl,.inl ⟨rfl,rfl,.inr ⟨q,by rw [hrd]; exact hq,fun p hp => he p (List.mem_append.2 (.inr hp))⟩⟩⟩
              · cases hq
            · cases h; exact ⟨rfl,he,hrd.symm,rfl,.inr ⟨hrd.symm,rfl⟩⟩
          · rw [hro] at h; cases h
            simp only [Bool.and_eq_true] at hro
            exact ⟨rfl,he,hrd.symm,rfl,.inl ⟨rfl,rfl,.inl (by rw [hrd]; exact hro.1)⟩⟩
        clear h
        obtain ⟨e1,e2,e3,e4,e5⟩ := hnd
        rw [e1] at hn
        replace he := e2
        rw [e3] at hm
        rw [← hrd] at hr
        have hops:c.operands.toList = f :: c.args.toList := by simp [Call.operands,hc]
        rw [hops] at hs
        have hf := Jh h1 (fun t ht => hs t (by rw [Jq]; simp [ht])) hg
        have has := JCC h2 (fun t ht => hs t (by rw [Jq]; simp [ht])) hg
        have hwf':Z9 n (JJ mem rd) := fun id ob hl => by
          rw [Jr] at hl
          split at hl
          · exact hwf id ob hl
          · cases hl
        obtain ⟨h34,h5⟩ := hce fid vs _ n r hr hn he hwf' (JKJ h2 hids) θ w hm
        obtain ⟨fn,h3,h4⟩ := h34 hlt
        have h5 := h5.1 hlt
        have hmap:c.args.map a.eval = (vs.map (SV.den θ)).toArray := by
          apply Array.toList_inj.1
          simp [has]
        have hrun:(execOp a.eval o).run P w = .ok (.enter fid (vs.map (SV.den θ)).toArray) w := by
          unfold execOp
          simp only [ho]
          simp only [resolve,hc,hf,SV.den,SC.den,Deferred.ofValue,Sem.run_bind,Sem.run_pure,Result.andThen_ok,hmap,invoke,JOn hp h3 h4]
          simp
        unfold Oper.wp
        rw [hrun,Oper.upon_enter]
        refine h5.mono fun en w' hen => ?_
        obtain ⟨θ',rfl,h6,h7⟩ := hen
        rcases e5 with ⟨e5,e6,e7⟩ | ⟨e5,e6⟩
        · have hheap:∀ b,b < w.heap.size → w'.heap[b]? = w.heap[b]? := by
            rcases e7 with e7 | ⟨q,e7,e8⟩
            · exact fun b hb => h6.heap b hb fun id ob hl hbk => by
                obtain ⟨ty,es,rw',rfl⟩ := JWP e7 hl
                have := (hm.1 id _ hl).2.1
                rw [this] at hbk; cases hbk
            · exact Jjn e7 e8 hwf' hm h6 h7
          refine hk _ θ' w' ⟨by rw [e4],⟨h6.agree,h6.os,h6.tape,h6.output,h6.size,fun b hb _ => hheap b hb,fun id o b hl => (by rw [e6] at hl; cases hl),fun id o b hl => (by rw [e6] at hl; cases hl)⟩,by rw [e6]; exact JN5 _ _⟩
        · refine hk _ θ' w' ⟨by rw [e4],by rw [e5,e6]; exact h6,by rw [e6]; exact h7⟩
      · cases h
    · cases h
  · cases h
theorem JqC (vs:List Value):∀ (k off:Nat) (cells:Array Value),off + k + vs.length ≤ cells.size →
    ((vs.zipIdx k).foldl (fun cs (p:Value × Nat) => cs.setIfInBounds (off + p.2) p.1) cells).toList = Zb cells.toList (off + k) vs := by
  induction vs with
  | nil => intro k off cells h; rw [JCT _ _ _ (by simpa using h)]; simp
  | cons v r ih =>
    intro k off cells h
    simp only [List.zipIdx_cons,List.foldl_cons]
    rw [ih (k + 1) off _ (by simp at h ⊢; omega),JCT _ _ _ (by simp at h ⊢; omega),JCT _ _ _ (by simp at h ⊢; omega)]
    simp only [Array.toList_setIfInBounds,List.length_cons]
    have e1:off + (k + 1) = off + k + 1 := by omega
    have e2:off + k + 1 + r.length = off + k + (r.length + 1) := by omega
    rw [e1,e2]
    generalize off + k = q at *
    have hq:q < cells.toList.length := by simp at h ⊢; omega
    rw [List.take_set,List.drop_set,if_pos (by omega),List.take_succ_eq_append_getElem hq,List.set_append_right _ _ (by simp; omega)]
    have:q - (cells.toList.take q).length = 0 := by simp; omega
    rw [this]
    simp
theorem JHR {place:Nat → Option (Nat × Nat)}:∀ {ps:List (Nat × List SC)} {cells out:List SC} {vs:List (Nat × Value)},JLQ place cells ps = some out →
    vs.map (fun p => (p.1,p.2.cells.toList)) = ps.map (fun p => (p.1,JM θ p.2)) → Instr.fill place (JM θ cells).toArray vs = some (JM θ out).toArray
  | [],cells,out,vs,h,hv => by
    cases h
    cases vs with
    | nil => rfl
    | cons _ _ => simp at hv
  | (i,v) :: ps,cells,out,vs,h,hv => by
    cases vs with
    | nil => simp at hv
    | cons q vs =>
      obtain ⟨i',v'⟩ := q
      simp only [List.map_cons,List.cons.injEq,Prod.mk.injEq] at hv
      obtain ⟨⟨rfl,hv1⟩,hv2⟩ := hv
      simp only [JLQ] at h
      unfold Instr.fill
      split at h
      · cases h
      · rename_i off size hpl
        simp only [hpl]
        cases hq:(Nat.beq v.length size && Nat.ble (off + size) cells.length)
        · rw [hq] at h; cases h
        · rw [hq] at h
          simp only [Bool.and_eq_true] at hq
          have h1 := Nat.eq_of_beq_eq_true hq.1
          have h2 := Nat.le_of_ble_eq_true hq.2
          have hsz:v'.cells.size = v.length := by rw [← Array.length_toList,hv1]; simp [JM]
          have hc:¬ ((decide (v'.cells.size ≠ size) || decide (off + v'.cells.size > (JM θ cells).toArray.size)) = true) := by
            simp [hsz,h1,JM]; omega
          rw [if_neg hc]
          simp only [cond_true] at h
          have := JHR h hv2
          rw [← this]
          congr 1
          apply Array.toList_inj.1
          have e := JqC v'.cells.toList 0 off (JM θ cells).toArray (by simp only [Array.length_toList,hsz,JM,List.size_toArray,List.length_map]; omega)
          rw [← Array.foldl_toList,Array.toList_zipIdx]
          simp only [Nat.add_zero] at e
          rw [e,hv1]
          simp only [JM]
          rw [JCT _ _ _ (by simp; omega),JCT _ _ _ (by omega)]
          simp [List.map_take,List.map_drop]
theorem JMw:∀ {ps:List (Nat × Operand)} {vs:List (Nat × List SC)},JLP env g ps = some vs → (∀ t ∈ Jg (ps.map (·.2)),∀ e,JD env t = some e → Jz θ a t e) → holds a g →
    (ps.map (fun p => (p.1,a.eval p.2))).map (fun p => (p.1,p.2.cells.toList)) = vs.map (fun p => (p.1,JM θ p.2))
  | [],vs,h,_,_ => by cases h; rfl
  | (i,x) :: r,vs,h,hr,hg => by
    simp only [JLP] at h
    split at h
    · rename_i v vs' h1 h2
      cases h
      simp only [List.map_cons] at hr
      rw [Jq] at hr
      simp only [Option.bind_eq_some_iff] at h1
      obtain ⟨u,h3,h4⟩ := h1
      have h5 := Jh h3 (fun t ht => hr t (by simp [ht])) hg
      have h6 := SV.cells_den θ h4
      simp only [List.map_cons,List.cons.injEq,Prod.mk.injEq,true_and]
      exact ⟨by rw [h5,h6],by simpa using JMw h2 (fun t ht => hr t (by simp [ht])) hg⟩
    · cases h
theorem JfU (pl:List (Nat × Nat)):(fun i:Nat => pl[i]?) = (fun i:Nat => pl.toArray[i]?) := by funext i; simp
theorem JF9:∀ {fs:List Field} {pl:List (Nat × Nat)},kg P fs = some pl →
    (fs.mapM (fun f => (do pure (f.offset,← sizeOf f.type):Sem (Nat × Nat)))).run P w = .ok pl w
  | [],pl,h => by cases h; rfl
  | f :: r,pl,h => by
    simp only [kg] at h
    split at h
    · rename_i i ps h1 h2
      cases h
      have h3:(sizeOf f.type).run P w = .ok i.size w := by simp [sizeOf,typeInfo,go_sem,h1]
      simp only [List.mapM_cons,Sem.run_bind,h3,Result.andThen_ok,Sem.run_pure,JF9 h2]
    · cases h
theorem Jp0 {t:TypeId} {ps:Array (Nat × Operand)} (ho:o.op = .build t ps)
    (h:(match P.underlying t,(JEf P t).bind SV.cells,JLP env g ps.toList with
      | some (.struct fs),some z,some vs => match kg P fs.toList with
        | some pl => (JLQ (fun i => pl[i]?) z vs).map fun cs => Eff.pure n (.agg cs)
        | none => none
      | some (.array _ e),some z,some vs => match P.info? e with
        | some i => (JLQ (fun j => some (j * i.size,i.size)) z vs).map fun cs => Eff.pure n (.agg cs)
        | none => none
      | _,_,_ => none) = some e)
    (hs:∀ t ∈ Jg (ps.toList.map (·.2)),∀ y,JD env t = some y → Jz θ a t y) (hg:holds a g)
    (hk:YF K o a n θ w (JJ mem e.touched) e):o.wp P a w K Q := by
  have hparts:∀ vs,JLP env g ps.toList = some vs → (ps.map (fun (p:Nat × Operand) => (p.1,a.eval p.2))).toList.map (fun p => (p.1,p.2.cells.toList)) = vs.map (fun p => (p.1,JM θ p.2)) := by
    intro vs hv
    have := JMw (θ := θ) hv hs hg
    simpa using this
  have hzero:∀ z,(JEf P t).bind SV.cells = some z → ∃ zv,(zeroValue t).run P w = .ok zv w ∧ zv.cells = (JM θ z).toArray := by
    intro z hz
    simp only [Option.bind_eq_some_iff] at hz
    obtain ⟨v,h1,h2⟩ := hz
    obtain ⟨i,zv,h3,h4,h5,_⟩ := JA1 h1 θ
    exact ⟨zv,JDB h3 h4 w,by rw [← h5]; exact SV.cells_den θ h2⟩
  split at h
  · rename_i fs z vs hu hz hv
    obtain ⟨zv,h1,h2⟩ := hzero z hz
    split at h
    · rename_i pl hpl
      simp only [Option.map_eq_some_iff] at h
      obtain ⟨cs,h3,rfl⟩ := h
      refine Q6 (v := SV.den θ (.agg cs)) (w' := w) ?_ (hk _ _ _ (EffRel.pure (x := .agg cs) rfl rfl))
      unfold execOp
      simp only [ho]
      refine Xw ?_
      have hplaces:(fs.mapM (fun f => (do pure (f.offset,← sizeOf f.type):Sem (Nat × Nat)))).run P w = .ok pl.toArray w := by
        have := JF9 (w := w) hpl
        rw [← Array.toArray_toList (xs := fs),List.mapM_toArray]
        rw [Sem.run_map,this,Result.andThen_ok]
      have hfill := JHR (θ := θ) (vs := (ps.map (fun (p:Nat × Operand) => (p.1,a.eval p.2))).toList) h3 (hparts vs hv)
      rw [JfU] at hfill
      simp only [Instr.build,Sem.run_bind,h1,Result.andThen_ok,run_underlying hu,hplaces,h2,hfill,Sem.run_pure,SV.den]
    · cases h
  · rename_i e' z vs hu hz hv
    obtain ⟨zv,h1,h2⟩ := hzero z hz
    split at h
    · rename_i i hi
      simp only [Option.map_eq_some_iff] at h
      obtain ⟨cs,h3,rfl⟩ := h
      refine Q6 (v := SV.den θ (.agg cs)) (w' := w) ?_ (hk _ _ _ (EffRel.pure (x := .agg cs) rfl rfl))
      unfold execOp
      simp only [ho]
      refine Xw ?_
      have hfill := JHR (θ := θ) (vs := (ps.map (fun (p:Nat × Operand) => (p.1,a.eval p.2))).toList) h3 (hparts vs hv)
      have hsz:(sizeOf e').run P w = .ok i.size w := by simp [sizeOf,typeInfo,go_sem,hi]
      simp only [Instr.build,Sem.run_bind,h1,Result.andThen_ok,run_underlying hu,hsz,h2,hfill,Sem.run_pure,SV.den]
    · cases h
  · cases h
end each
open Go.RowKit
theorem JkV (c:Bool) (x y:SI):(Jl5 c x y).val = cond c x.val y.val := by
  cases x <;> cases y <;> try rfl
  rename_i a b
  simp only [Jl5]
  by_cases h:a = b
  · subst h; cases c <;> simp [SI.val]
  · simp [h,SI.val]
theorem JNQ (c:Bool) (x y:SB):(Jmr c x y).val = cond c x.val y.val := by
  cases c <;> rcases x with a | a <;> rcases y with b | b <;> cases a <;> cases b <;> rfl
theorem JHq (θ:Th) (c:Bool) {x y z:SC} (h:JYq c x y = some z):z.den θ = cond c (x.den θ) (y.den θ) ∧ ∀ id ∈ Wm z,id ∈ Wm x ∧ id ∈ Wm y := by
  cases x <;> cases y <;> simp only [JYq,reduceCtorEq] at h
  · rename_i k x j y
    cases hk:j6 k j
    · rw [hk] at h; cases h
    · rw [hk] at h; cases h
      have := Ye hk; subst this
      exact ⟨by simp only [SC.den,JkV]; cases c <;> rfl,by simp [Wm]⟩
  · cases h
    exact ⟨by simp only [SC.den,JNQ]; cases c <;> rfl,by simp [Wm]⟩
  · rename_i i o j p
    cases hk:(Nat.beq i j && Nat.beq o p)
    · rw [hk] at h; cases h
    · rw [hk] at h; cases h
      simp only [Bool.and_eq_true] at hk
      have h1 := Nat.eq_of_beq_eq_true hk.1
      have h2 := Nat.eq_of_beq_eq_true hk.2
      subst h1; subst h2
      exact ⟨by cases c <;> rfl,fun _ h => ⟨h,h⟩⟩
  · rename_i i j
    cases hk:Nat.beq i j
    · rw [hk] at h; cases h
    · rw [hk] at h; cases h
      have h1 := Nat.eq_of_beq_eq_true hk
      subst h1
      exact ⟨by cases c <;> rfl,fun _ h => ⟨h,h⟩⟩
  · cases h; exact ⟨by cases c <;> rfl,fun _ h => ⟨h,h⟩⟩
  · cases h; exact ⟨by cases c <;> rfl,fun _ h => ⟨h,h⟩⟩
  · rename_i f j
    cases hk:Nat.beq f j
    · rw [hk] at h; cases h
    · rw [hk] at h; cases h
      have h1 := Nat.eq_of_beq_eq_true hk
      subst h1
      exact ⟨by cases c <;> rfl,fun _ h => ⟨h,h⟩⟩
theorem kH (θ:Th) (c:Bool):∀ {x y z:List SC},JHG c x y = some z → JM θ z = cond c (JM θ x) (JM θ y) ∧ z.length = x.length ∧ z.length = y.length ∧ ∀ id ∈ Qu z,id ∈ Qu x ∧ id ∈ Qu y
  | [],[],z,h => by cases h; exact ⟨by cases c <;> rfl,rfl,rfl,fun _ h => ⟨h,h⟩⟩
  | [],_ :: _,_,h => by cases h
  | _ :: _,[],_,h => by cases h
  | x :: r,y :: s,z,h => by
    simp only [JHG] at h
    split at h
    · rename_i u t h1 h2
      cases h
      obtain ⟨h3,h4⟩ := JHq θ c h1
      obtain ⟨h5,h6,h7,h8⟩ := kH θ c h2
      refine ⟨?_,by simp [h6],by simp [h7],fun id hi => ?_⟩
      · simp only [JM,List.map_cons] at h5 ⊢
        rw [h3,h5]; cases c <;> rfl
      · simp only [ZH,Jt,List.mem_append] at hi ⊢
        rcases hi with hi | hi
        · exact ⟨.inl (h4 id hi).1,.inl (h4 id hi).2⟩
        · exact ⟨.inr (h8 id hi).1,.inr (h8 id hi).2⟩
    · cases h
theorem Yg (θ:Th) (b:Bool) (cs:List SC):QU θ (b,cs) = (match b,JM θ cs with | false,[v] => v | _,l => .agg l.toArray) := by
  cases b
  · match cs with
    | [] => rfl
    | [c] => rfl
    | c :: d :: r => rfl
  · simp [QU]
theorem JC0 (θ:Th) (c:Bool):∀ {x y z:List (Bool × List SC)},JIf c x y = some z → z.map (QU θ) = cond c (x.map (QU θ)) (y.map (QU θ)) ∧ ∀ id ∈ KZ z,id ∈ KZ x ∧ id ∈ KZ y
  | [],[],z,h => by cases h; exact ⟨by cases c <;> rfl,fun _ h => ⟨h,h⟩⟩
  | [],_ :: _,_,h => by cases h
  | _ :: _,[],_,h => by cases h
  | (p,x) :: r,(q,y) :: s,z,h => by
    simp only [JIf] at h
    cases hpq:(p == q)
    · rw [hpq] at h; cases h
    · rw [hpq] at h
      have := eq_of_beq hpq; subst this
      simp only [cond_true] at h
      split at h
      · rename_i u t h1 h2
        cases h
        obtain ⟨h3,_,_,h6⟩ := kH θ c h1
        obtain ⟨h4,h5⟩ := JC0 θ c h2
        refine ⟨?_,fun id hi => ?_⟩
        · simp only [List.map_cons,Yg,h3,h4]
          cases c <;> rfl
        · simp only [KZ,List.mem_append] at hi ⊢
          rcases hi with hi | hi
          · exact ⟨.inl (h6 id hi).1,.inl (h6 id hi).2⟩
          · exact ⟨.inr (h5 id hi).1,.inr (h5 id hi).2⟩
      · cases h
theorem JDI (θ:Th) (c:Bool) {x y z:SV} (h:JQA c x y = some z):z.den θ = cond c (x.den θ) (y.den θ) ∧ ∀ id ∈ Zc z,id ∈ Zc x ∧ id ∈ Zc y := by
  cases x <;> cases y <;> simp only [JQA,reduceCtorEq,Option.map_eq_some_iff] at h
  · obtain ⟨u,h1,rfl⟩ := h
    exact JHq θ c h1
  · obtain ⟨u,h1,rfl⟩ := h
    obtain ⟨h2,_,_,h3⟩ := kH θ c h1
    exact ⟨by simp only [SV.den,h2]; cases c <;> rfl,h3⟩
  · obtain ⟨u,h1,rfl⟩ := h
    obtain ⟨h2,h3⟩ := JC0 θ c h1
    exact ⟨by simp only [SV.den,h2]; cases c <;> rfl,h3⟩
theorem Jub {c:SC} {x:CK × Int} (h:Jpb c = some x):Wm c = [] := by
  cases c <;> first | rfl | (simp [Jpb] at h)
theorem JLG:∀ {cs:List SC} {l:List (CK × Int)},JCS cs = some l → Qu cs = []
  | [],_,_ => rfl
  | c :: r,l,h => by
    simp only [JCS] at h
    split at h
    · rename_i x xs h1 h2
      simp [ZH,Jt,Jub h1,JLG h2]
    · cases h
theorem ZZ:∀ (ks:List CK) (xs:List Int) (j:Nat),(Kz ks xs j).length = ks.length
  | [],_,_ => rfl
  | _ :: r,xs,j => by simp [Kz,ZZ r]
theorem WX:∀ (ks:List CK) (xs:List Int) (j:Nat),Qu (Kz ks xs j) = []
  | [],_,_ => rfl
  | k :: r,xs,j => by cases k <;> simp [Kz,ZH,Jt,WX r,CK.cell,Wm]
theorem Xn (r:RowC):(jj r).val = r.rows.length := by
  cases r <;> simp [jj,RowC.rows,SN.val]
theorem JWi (i:Nat):∀ {rows:List (List SC)} {k:Nat} {t:List SC},chain i rows k = some t → k ≤ i → i < k + rows.length →
    ∃ row,rows[i - k]? = some row ∧ t.length = row.length ∧ (∀ θ,JM θ t = JM θ row) ∧ ((∀ r ∈ rows,Qu r = []) → Qu t = [])
  | [],_,_,h,_,_ => by cases h
  | [r],k,t,h,h1,h2 => by
    simp only [chain,Option.some.injEq] at h
    subst h
    have:i - k = 0 := by simp at h2; omega
    exact ⟨r,by rw [this]; rfl,rfl,fun _ => rfl,fun h => h r (by simp)⟩
  | r :: s :: rest,k,t,h,h1,h2 => by
    simp only [chain] at h
    split at h
    · rename_i u hu
      have hm := fun θ => kH θ _ h
      have hid:Qu r = [] → Qu t = [] := fun hr => List.eq_nil_iff_forall_not_mem.2 fun x hx => by
        have := ((hm Th.none).2.2.2 x hx).1
        rw [hr] at this; cases this
      by_cases hik:i = k
      · subst hik
        refine ⟨r,by simp,(hm Th.none).2.1,fun θ => by rw [(hm θ).1]; simp,fun hids => hid (hids r (by simp))⟩
      · obtain ⟨row,h3,h4,h5,h6⟩ := JWi i hu (by omega) (by simp at h2 ⊢; omega)
        refine ⟨row,?_,by rw [(hm Th.none).2.2.1,h4],fun θ => ?_,fun hids => hid (hids r (by simp))⟩
        · rw [show i - k = (i - (k + 1)) + 1 from by omega]
          simpa using h3
        · rw [(hm θ).1,Xb hik]; exact h5 θ
    · cases h
theorem JbD {r:RowC} {i:SN} {cs:List SC} {q:List Prop} {esz:Nat} (h:JsT r i = some (cs,q)) (hq:∀ p ∈ q,p) (hok:Z8 esz r.rows) :
    ∃ row,r.rows[i.val]? = some row ∧ cs.length = row.length ∧ Qu cs = [] ∧ ∀ θ,JM θ cs = JM θ row := by
  unfold JsT at h
  split at h
  · rename_i tg rows k
    split at h
    · rename_i row hr
      cases h
      exact ⟨cs,hr,rfl,(hok.2 _ (List.mem_of_getElem? hr)).2,fun _ => rfl⟩
    · cases h
  · rename_i tg rows k
    split at h
    · rename_i t ht
      cases h
      have hlt:k < rows.length := hq _ (by simp)
      obtain ⟨row,h1,h2,h3,h4⟩ := JWi k ht (Nat.zero_le _) (by omega)
      exact ⟨row,h1,h2,h4 fun r hr => (hok.2 r hr).2,h3⟩
    · cases h
  · rename_i tag ks xs
    cases h
    have hlt:i.val < xs.length := hq _ (by simp)
    refine ⟨Qz ks xs[i.val],?_,?_,WX _ _ _,fun θ => ?_⟩
    · simp [RowC.rows,hlt]
    · simp [Qz,ZZ]
    · rw [List.getD_eq_getElem?_getD,List.getElem?_eq_getElem hlt]; rfl
theorem JTt {α:Type} {esz:Nat}:∀ {rows:List (List α)} {i:Nat} {row:List α} {k:Nat},(∀ r ∈ rows,r.length = esz) → rows[i]? = some row → k < esz → rows.flatten[i * esz + k]? = row[k]?
  | [],_,_,_,_,h,_ => by simp at h
  | r :: rs,0,row,k,hl,h,hk => by
    simp only [List.getElem?_cons_zero,Option.some.injEq] at h
    subst h
    have := hl r (by simp)
    simp only [List.flatten_cons,Nat.zero_mul,Nat.zero_add]
    rw [List.getElem?_append_left (by omega)]
  | r :: rs,i + 1,row,k,hl,h,hk => by
    have h1 := hl r (by simp)
    simp only [List.flatten_cons]
    rw [List.getElem?_append_right (by rw [h1,Nat.add_mul]; omega),h1,show (i + 1) * esz + k - esz = i * esz + k from by rw [Nat.add_mul]; omega]
    exact JTt (fun r hr => hl r (by simp [hr])) (by simpa using h) hk
theorem JCR {α:Type} {esz:Nat}:∀ {rows:List (List α)},(∀ r ∈ rows,r.length = esz) → rows.flatten.length = rows.length * esz
  | [],_ => by simp
  | r :: rs,h => by
    rw [List.flatten_cons,List.length_append,h r (by simp),JCR fun r hr => h r (by simp [hr]),List.length_cons,Nat.add_mul]
    omega
theorem JAD {θ:Th} {w:World} {id ty esz:Nat} {ro:Bool} {r:RowC} (h:QN θ w id (.row ro ty esz r)) :
    Z8 esz r.rows ∧ (θ id).len = r.rows.length ∧ r.rows.length ≤ (θ id).cap ∧ (r.rows ≠ [] → ∃ a,(θ id).ad = some a ∧ ∀ (j:Nat) (u:Value),(JM θ r.rows.flatten)[j]? = some u → w.cell? (a.add j) = some u) := by
  cases ro
  · obtain ⟨h0,h1,h2,h3⟩ := h
    refine ⟨h0,h1,?_,fun hne => ?_⟩
    · rcases h3.2 with ⟨_,hn⟩ | ⟨g,cap,cur,hv,_,_,h4,_⟩
      · omega
      · injection hv with _ _ hc
        omega
    · rcases h2 with ⟨_,_,h4,_⟩ | ⟨b,_,_,h4⟩
      · exfalso
        rcases h3.2 with ⟨_,hn⟩ | ⟨g,cap,cur,hv,_⟩
        · exact hne (List.eq_nil_of_length_eq_zero hn)
        · rw [h4] at hv; injection hv with hv; cases hv
      · exact ⟨⟨b,0,none⟩,h4,h3.cells (by rw [h4]; rfl)⟩
  · obtain ⟨h0,_,h1,h2,h3⟩ := h
    refine ⟨h0,h1,h2,fun hne => ?_⟩
    rcases h3 with ⟨_,_,hn⟩ | ⟨a,h4,_,_,h5⟩
    · exact absurd (List.eq_nil_of_length_eq_zero hn) hne
    · exact ⟨a,h4,h5⟩
theorem Jo8 {θ:Th} {w:World} {id ty esz:Nat} {ro:Bool} {r:RowC} (h:QN θ w id (.row ro ty esz r)) {i off:Nat} {row:List SC} (hi:r.rows[i]? = some row) :
    ∃ a,(θ id).ad = some a ∧ ∀ (j:Nat) (u:Value),((JM θ row).drop off)[j]? = some u → w.cell? (a.add (i * esz + off + j)) = some u := by
  obtain ⟨h0,_,_,h3⟩ := JAD h
  obtain ⟨a,h4,h5⟩ := h3 (fun e => by rw [e] at hi; simp at hi)
  refine ⟨a,h4,fun j u hu => h5 _ u ?_⟩
  rw [List.getElem?_drop] at hu
  have hlen := (h0.2 row (List.mem_of_getElem? hi)).1
  have hk:off + j < esz := by
    have := (List.getElem?_eq_some_iff.1 hu).1
    simp only [JM,List.length_map] at this
    omega
  have := JTt (fun r hr => (h0.2 r hr).1) hi hk
  simp only [JM,List.getElem?_map,Nat.add_assoc] at hu ⊢
  rw [this]
  exact hu
theorem JTs:∀ (ks:List CK) (L:List Int) (j i:Nat),(Kz ks L j)[i]? = (ks[i]?).map fun k => k.cell (L.getD (j + i) 0)
  | [],_,_,_ => by simp [Kz]
  | k :: r,L,j,0 => by simp [Kz]
  | k :: r,L,j,i + 1 => by
    simp only [Kz,List.getElem?_cons_succ]
    rw [JTs r L (j + 1) i,show j + 1 + i = j + (i + 1) from by omega]
theorem Jra {c:SC} {k j:CK} {x:Int} (h:Jpb c = some (j,x)) (hk:JX6 k j = true) (θ:Th):(k.cell x).den θ = c.den θ := by
  cases c <;> simp only [Jpb,reduceCtorEq,Option.some.injEq,Prod.mk.injEq] at h
  · obtain ⟨rfl,rfl⟩ := h
    cases k <;> simp only [JX6,Bool.false_eq_true] at hk
    rw [Ye hk]; rfl
  · rename_i b
    cases b with
    | c b =>
      simp only [Option.some.injEq,Prod.mk.injEq] at h
      obtain ⟨rfl,rfl⟩ := h
      cases k <;> simp only [JX6,Bool.false_eq_true] at hk
      cases b <;> rfl
    | v b =>
      simp only [Option.some.injEq,Prod.mk.injEq] at h
      obtain ⟨rfl,rfl⟩ := h
      cases k <;> simp only [JX6,Bool.false_eq_true] at hk
      cases b <;> rfl
theorem Jnx:∀ {ks:List CK} {cs:List SC} {l:List (CK × Int)} {xs L:List Int} {j:Nat},JCS cs = some l → Jhc ks l = some xs → (∀ i,L.getD (j + i) 0 = xs.getD i 0) →
    ks.length = cs.length ∧ xs.length = cs.length ∧ ∀ θ,JM θ (Kz ks L j) = JM θ cs
  | [],cs,l,xs,L,j,h,hf,_ => by
    cases l with
    | nil =>
      cases cs with
      | nil => simp only [Jhc,Option.some.injEq] at hf; subst hf; exact ⟨rfl,rfl,fun _ => rfl⟩
      | cons c r =>
        simp only [JCS] at h
        split at h <;> cases h
    | cons _ _ => cases hf
  | k :: ks,cs,l,xs,L,j,h,hf,hL => by
    cases l with
    | nil => cases hf
    | cons p l =>
      obtain ⟨kj,x⟩ := p
      simp only [Jhc] at hf
      cases hk:JX6 k kj
      · rw [hk] at hf; cases hf
      rw [hk] at hf
      simp only [cond_true,Option.map_eq_some_iff] at hf
      obtain ⟨ys,h1,rfl⟩ := hf
      cases cs with
      | nil => simp [JCS] at h
      | cons c r =>
        simp only [JCS] at h
        split at h
        · rename_i y yl h2 h3
          simp only [Option.some.injEq,List.cons.injEq] at h
          obtain ⟨rfl,rfl⟩ := h
          obtain ⟨h4,h5,h6⟩ := Jnx (L := L) (j := j + 1) h3 h1 fun i => by
            have := hL (i + 1)
            rw [show j + (i + 1) = j + 1 + i from by omega] at this
            simpa using this
          refine ⟨by simp [h4],by simp [h5],fun θ => ?_⟩
          simp only [Kz,JM,List.map_cons,List.cons.injEq]
          refine ⟨?_,h6 θ⟩
          have := hL 0
          simp only [Nat.add_zero,List.getD_cons_zero] at this
          rw [this]
          exact Jra h2 hk θ
        · cases h
theorem Jek {ks:List CK} {cs:List SC} {xs:List Int} (h:(JCS cs).bind (Jhc ks) = some xs):ks.length = cs.length ∧ xs.length = cs.length ∧ ∀ θ,JM θ (Qz ks xs) = JM θ cs := by
  simp only [Option.bind_eq_some_iff] at h
  obtain ⟨l,h1,h2⟩ := h
  exact Jnx h1 h2 fun i => by simp
theorem JSp {a b:CK} (h:JX6 a b = true):a = b := by
  cases a <;> cases b <;> simp only [JX6,Bool.false_eq_true] at h
  · rw [Ye h]
  · rfl
theorem K8:∀ {a b:List CK},WD a b = true → a = b
  | [],[],_ => rfl
  | [],_ :: _,h => by cases h
  | _ :: _,[],h => by cases h
  | a :: r,b :: s,h => by
    simp only [WD,Bool.and_eq_true] at h
    rw [JSp h.1,K8 h.2]
theorem Xz (θ:Th) (rows:List (List SC)):JM θ rows.flatten = (rows.map (JM θ)).flatten := by
  induction rows with
  | nil => rfl
  | cons r rs ih => simp only [List.flatten_cons,List.map_cons,← ih,JM,List.map_append]
theorem Ys {ks:List CK} {esz:Nat}:∀ {rows:List (List SC)} {xs:List (List Int)},qE ks rows = some xs → (∀ r ∈ rows,r.length = esz) →
    xs.length = rows.length ∧ (∀ r ∈ xs.map (Qz ks),r.length = esz ∧ Qu r = []) ∧ ∀ θ,(xs.map (Qz ks)).map (JM θ) = rows.map (JM θ)
  | [],xs,h,_ => by cases h; exact ⟨rfl,by simp,fun _ => rfl⟩
  | r :: rs,xs,h,hl => by
    simp only [qE] at h
    split at h
    · rename_i x ys h1 h2
      cases h
      obtain ⟨h3,h4,h5⟩ := Jek h1
      obtain ⟨h6,h7,h8⟩ := Ys h2 fun r hr => hl r (by simp [hr])
      refine ⟨by simp [h6],fun q hq => ?_,fun θ => ?_⟩
      · simp only [List.map_cons,List.mem_cons] at hq
        rcases hq with rfl | hq
        · exact ⟨by rw [Qz,ZZ,h3]; exact hl _ (by simp),WX _ _ _⟩
        · exact h7 q hq
      · simp only [List.map_cons,List.cons.injEq]
        exact ⟨h5 θ,h8 θ⟩
    · cases h
theorem Jbf {n esz:Nat} {r1 r2 r:RowC} (h:JXO n r1 r2 = some r) (h1:Z8 esz r1.rows) (h2:Z8 esz r2.rows) :
    Z8 esz r.rows ∧ r.rows.length = r1.rows.length + r2.rows.length ∧ ∀ θ,r.rows.map (JM θ) = r1.rows.map (JM θ) ++ r2.rows.map (JM θ) := by
  have both:∀ {a b c:List (List SC)},Z8 esz a → (∀ r ∈ b,r.length = esz ∧ Qu r = []) → c = a ++ b → Z8 esz c := fun ha hb hc => ⟨ha.1,fun r hr => by
    rw [hc,List.mem_append] at hr
    exact hr.elim (ha.2 r) (hb r)⟩
  cases r1 <;> cases r2 <;> simp only [JXO,Option.some.injEq,Option.map_eq_some_iff] at h
  · subst h
    exact ⟨both h1 h2.2 (by simp [RowC.rows]),by simp [RowC.rows],fun θ => by simp [RowC.rows]⟩
  · obtain ⟨xs,h3,rfl⟩ := h
    obtain ⟨h4,h5,h6⟩ := Ys h3 fun r hr => (h1.2 r hr).1
    refine ⟨⟨h1.1,fun r hr => ?_⟩,by simp [RowC.rows,h4],fun θ => ?_⟩
    · simp only [RowC.rows,List.map_append,List.mem_append] at hr
      exact hr.elim (h5 r) (h2.2 r)
    · have := h6 θ
      simp only [RowC.rows,List.map_append] at this ⊢
      rw [this]
  · obtain ⟨xs,h3,rfl⟩ := h
    obtain ⟨h4,h5,h6⟩ := Ys h3 fun r hr => (h2.2 r hr).1
    refine ⟨⟨h1.1,fun r hr => ?_⟩,by simp [RowC.rows,h4],fun θ => ?_⟩
    · simp only [RowC.rows,List.map_append,List.mem_append] at hr
      exact hr.elim (h1.2 r) (h5 r)
    · have := h6 θ
      simp only [RowC.rows,List.map_append] at this ⊢
      rw [this]
  · rename_i t1 ks xs t2 js ys
    cases hk:WD ks js
    · rw [hk] at h; cases h
    rw [hk] at h
    have := K8 hk; subst this
    cases h
    exact ⟨both h1 h2.2 (by simp [RowC.rows]),by simp [RowC.rows],fun θ => by simp [RowC.rows]⟩
theorem JOm {t:Nat} {r r':RowC} {o m:SN} (h:JVd t r o m = some r'):r'.rows = (r.rows.drop o.val).take m.val := by
  unfold JVd at h
  split at h
  · cases h; simp [RowC.rows,SN.val,List.map_take,List.map_drop]
  · cases h
  · cases h; simp [RowC.rows,List.map_take,List.map_drop]
theorem JIF {α:Type} {esz:Nat} {rows:List (List α)} (h:∀ r ∈ rows,r.length = esz) (o m:Nat):((rows.drop o).take m).flatten = (rows.flatten.drop (o * esz)).take (m * esz) := by
  have hd:∀ {rows:List (List α)} (o:Nat),(∀ r ∈ rows,r.length = esz) → (rows.drop o).flatten = rows.flatten.drop (o * esz) := by
    intro rows
    induction rows with
    | nil => intro o _; simp
    | cons r rs ih =>
      intro o h
      cases o with
      | zero => simp
      | succ o =>
        have := h r (by simp)
        have e1:r.drop ((o + 1) * esz) = [] := List.drop_eq_nil_of_le (by rw [this,Nat.add_mul]; omega)
        have e2:(o + 1) * esz - esz = o * esz := by rw [Nat.add_mul]; omega
        rw [List.drop_succ_cons,ih o fun r hr => h r (by simp [hr]),List.flatten_cons,List.drop_append,this,e1,e2,List.nil_append]
  have ht:∀ {rows:List (List α)} (m:Nat),(∀ r ∈ rows,r.length = esz) → (rows.take m).flatten = rows.flatten.take (m * esz) := by
    intro rows
    induction rows with
    | nil => intro m _; simp
    | cons r rs ih =>
      intro m h
      cases m with
      | zero => simp
      | succ m =>
        have := h r (by simp)
        have e1:r.take ((m + 1) * esz) = r := List.take_of_length_le (by rw [this,Nat.add_mul]; omega)
        have e2:(m + 1) * esz - esz = m * esz := by rw [Nat.add_mul]; omega
        rw [List.take_succ_cons,List.flatten_cons,ih m fun r hr => h r (by simp [hr]),List.flatten_cons,List.take_append,this,e1,e2]
  rw [ht m fun r hr => h r (List.mem_of_mem_drop hr),hd o h]
theorem JTe {α:Type} {esz:Nat}:∀ {rows:List (List α)} {i:Nat} {row row':List α},(∀ r ∈ rows,r.length = esz) → rows[i]? = some row → row'.length = esz →
    (rows.set i row').flatten = rows.flatten.take (i * esz) ++ row' ++ rows.flatten.drop (i * esz + esz)
  | [],_,_,_,_,h,_ => by simp at h
  | r :: rs,0,row,row',hl,h,h' => by
    have := hl r (by simp)
    simp only [List.set_cons_zero,List.flatten_cons,Nat.zero_mul,List.take_zero,List.nil_append,Nat.zero_add]
    rw [List.drop_append,this,List.drop_eq_nil_of_le (by omega)]
    simp
  | r :: rs,i + 1,row,row',hl,h,h' => by
    have h1 := hl r (by simp)
    simp only [List.set_cons_succ,List.flatten_cons]
    have e1:r.take ((i + 1) * esz) = r := List.take_of_length_le (by rw [h1,Nat.add_mul]; omega)
    have e2:r.drop ((i + 1) * esz + esz) = [] := List.drop_eq_nil_of_le (by rw [h1,Nat.add_mul]; omega)
    have e3:(i + 1) * esz - esz = i * esz := by rw [Nat.add_mul]; omega
    have e4:(i + 1) * esz + esz - esz = i * esz + esz := by rw [Nat.add_mul]; omega
    rw [JTe (esz := esz) (fun r hr => hl r (by simp [hr])) (by simpa using h) h',List.take_append,List.drop_append,h1,e1,e2,e3,e4]
    simp
theorem JcO (off:Nat) (ys row:List Int):∀ (m j i:Nat),i < m → (JM3 m j off ys row).getD i 0 = if off ≤ j + i ∧ j + i < off + ys.length then ys.getD (j + i - off) 0 else row.getD (j + i) 0
  | 0,_,_,h => by omega
  | m + 1,j,0,_ => by
    simp only [JM3,List.getD_cons_zero,Nat.add_zero]
    by_cases h:off ≤ j ∧ j < off + ys.length
    · rw [if_pos h]
      have:(Nat.ble off j && Nat.blt j (off + ys.length)) = true := by
        simp only [Bool.and_eq_true,Nat.blt_eq]
        exact ⟨Nat.ble_eq_true_of_le h.1,h.2⟩
      rw [this]; rfl
    · rw [if_neg h]
      have:(Nat.ble off j && Nat.blt j (off + ys.length)) = false := by
        rw [Bool.eq_false_iff]
        intro h'
        simp only [Bool.and_eq_true,Nat.blt_eq] at h'
        exact h ⟨Nat.le_of_ble_eq_true h'.1,h'.2⟩
      rw [this]; rfl
  | m + 1,j,i + 1,h => by
    simp only [JM3,List.getD_cons_succ]
    rw [JcO off ys row m (j + 1) i (by omega),show j + 1 + i = j + (i + 1) from by omega]
theorem Jgt {n esz off:Nat} {i:SN} {vs:List SC} {r r':RowC} {q:List Prop} (h:Jm7 n esz i off vs r = some (r',q)) (hq:∀ p ∈ q,p) (hok:Z8 esz r.rows) :
    ∃ row row',r.rows[i.val]? = some row ∧ off + vs.length ≤ esz ∧ r'.rows = r.rows.set i.val row' ∧ row'.length = esz ∧ Qu row' = [] ∧ ∀ θ,JM θ row' = (JM θ row).take off ++ JM θ vs ++ (JM θ row).drop (off + vs.length) := by
  unfold Jm7 at h
  split at h
  · rename_i tg rows
    split at h
    case h_2 => cases h
    rename_i k
    split at h
    case h_2 => cases h
    rename_i row hr
    cases hc:(Nat.ble (off + vs.length) row.length && (JCS vs).isSome)
    · rw [hc] at h; cases h
    rw [hc] at h; cases h
    simp only [Bool.and_eq_true] at hc
    have hfit := Nat.le_of_ble_eq_true hc.1
    have hids:Qu vs = [] := by
      obtain ⟨l,hl⟩ := Option.isSome_iff_exists.1 hc.2
      exact JLG hl
    obtain ⟨h1,h2⟩ := hok.2 _ (List.mem_of_getElem? hr)
    have hnew:Zb row off vs = row.take off ++ vs ++ row.drop (off + vs.length) := JCT _ _ _ hfit
    refine ⟨row,Zb row off vs,hr,by omega,rfl,?_,?_,fun θ => ?_⟩
    · rw [JOu,h1]
    · rw [hnew,Y0,Y0,hids]
      have hsub:∀ l:List SC,Qu l = [] → ∀ k,Qu (l.take k) = [] ∧ Qu (l.drop k) = [] := by
        intro l
        induction l with
        | nil => intro _ k; simp [ZH]
        | cons c r ih =>
          intro hl k
          simp only [Jt,List.append_eq_nil_iff] at hl
          cases k with
          | zero => simp [ZH,Jt,hl]
          | succ k => simp [Jt,hl.1,ih hl.2 k]
      rw [(hsub _ h2 off).1,(hsub _ h2 _).2]; rfl
    · rw [hnew]; simp [JM,List.map_take,List.map_drop]
  · rename_i tag ks xs
    split at h
    case h_2 => cases h
    rename_i ys hy
    cases hc:(Nat.beq ks.length esz && Nat.ble (off + vs.length) esz)
    · rw [hc] at h; cases h
    rw [hc] at h; cases h
    simp only [Bool.and_eq_true] at hc
    have hks := Nat.eq_of_beq_eq_true hc.1
    have hfit := Nat.le_of_ble_eq_true hc.2
    have hlt:i.val < xs.length := hq _ (by simp)
    obtain ⟨h3,h4,h5⟩ := Jek hy
    refine ⟨Qz ks xs[i.val],Qz ks (JM3 esz 0 off ys (xs.getD i.val [])),by simp [RowC.rows,hlt],hfit,by simp [RowC.rows,List.map_set],by rw [Qz,ZZ,hks],WX _ _ _,fun θ => ?_⟩
    rw [← h5 θ,List.getD_eq_getElem?_getD,List.getElem?_eq_getElem hlt,Option.getD_some]
    have hlen:(JM θ (Qz ks xs[i.val])).length = esz := by rw [JM,List.length_map,Qz,ZZ,hks]
    have hvl:(JM θ (Qz (Xo ks off vs.length) ys)).length = vs.length := by rw [h5 θ]; simp [JM]
    apply List.ext_getElem?
    intro j
    have hget:∀ (ks:List CK) (L:List Int) (j:Nat),(JM θ (Qz ks L))[j]? = (ks[j]?).map fun k => (k.cell (L.getD j 0)).den θ := by
      intro ks L j
      simp only [JM,Qz,List.getElem?_map,JTs,Nat.zero_add,Option.map_map]
      rfl
    by_cases hj:j < esz
    · rw [hget,JcO off ys _ esz 0 j hj]
      simp only [Nat.zero_add]
      have hkj:j < ks.length := by omega
      rw [List.getElem?_eq_getElem hkj]
      by_cases h6:j < off
      · rw [List.append_assoc,List.getElem?_append_left (by simp [hlen]; omega),List.getElem?_take,if_pos h6,hget,if_neg (by omega),List.getElem?_eq_getElem hkj]
      · by_cases h7:j < off + vs.length
        · rw [List.append_assoc,List.getElem?_append_right (by simp; omega),List.getElem?_append_left (by simp [hvl,hlen]; omega),hget,if_pos (by omega),JGx]
          have e1:j - (List.take off (JM θ (Qz ks xs[i.val]))).length = j - off := by simp [hlen]; omega
          rw [e1,List.getElem?_take,if_pos (by omega),List.getElem?_drop,show off + (j - off) = j from by omega,List.getElem?_eq_getElem hkj]
        · rw [List.getElem?_append_right (by simp [hvl,hlen]; omega),List.getElem?_drop,if_neg (by omega)]
          have e1:off + vs.length + (j - (List.take off (JM θ (Qz ks xs[i.val])) ++ JM θ (Qz (Xo ks off vs.length) ys)).length) = j := by
            simp only [List.length_append,List.length_take,hlen,hvl]; omega
          rw [e1,hget,List.getElem?_eq_getElem hkj]
    · rw [List.getElem?_eq_none (by rw [JM,List.length_map,Qz,ZZ]; omega),List.getElem?_eq_none (by simp only [List.length_append,List.length_take,List.length_drop,hlen,hvl]; omega)]
end
end Go.SX
