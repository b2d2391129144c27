/-
  Texts of one claim, laid together. Conditions: none.
-/
import Derived.WalkKit
import Derived.Orders
import Derived.Below
import Derived.OrdersIn
import Derived.RangeFuncIn
import Derived.Laws.AppendOwn
import Derived.Maps.AppendAt
import Derived.Laws.CopyRow
import Derived.Deep.MidRow
import Derived.Laws.Externs
import Derived.DataElems
set_option linter.all false
set_option maxRecDepth 1000000
namespace Go.SX
noncomputable section
inductive SI where
  | c (n:Int) | v (x:Int)
inductive SB where
  | c (b:Bool) | v (x:Bool)
inductive SN where
  | c (n:Nat) | v (x:Nat)
def SI.val:SI → Int | .c n => n | .v x => x
def SB.val:SB → Bool | .c n => n | .v x => x
def SN.val:SN → Nat | .c n => n | .v x => x
inductive SC where
  | int (k:IntKind) (n:SI)
  | bool (b:SB)
  | ptr (id off:Nat)
  | eptr (id esz:Nat) (i:SN) (off:Nat)
  | wh (id:Nat)
  | sl (id esz:Nat) (off len:SN)
  | nilp
  | nilsl
  | fn (f:FuncId)
  | clo (f:FuncId) (id:Nat)
  | nilf
  | yld (g id:Nat)
inductive SV where
  | one (c:SC)
  | agg (cs:List SC)
  | tup (vs:List (Bool × List SC))
inductive CK where
  | int (k:IntKind) | bool
inductive RowC where
  | lit (tag:Nat) (rows:List (List SC))
  | lst (tag:Nat) (ks:List CK) (xs:List (List Int))
inductive Obj where
  | blk (ty:TypeId) (cells:List (Nat × SC))
  | row (ro:Bool) (ty:TypeId) (esz:Nat) (r:RowC)
  | clo (caps:List SV)
  | raw (b:Nat) (rs:List Nat) (tag:Nat) (L:Bool → Go.Obj) (k:SB)
structure Ent where
  g:List (Nat × Bool)
  gx:List (Bool × Bool)
  tag:Nat
  val:SV
abbrev KP := List (Nat × Ent)
abbrev Jo := List (Nat × Obj)
def JC {α:Type} (l:List (Nat × α)) (t:Nat):Option α := List.rec (motive := fun _ => Option α) none (fun p _ ih => Bool.rec ih (some p.2) (Nat.beq p.1 t)) l
theorem Ju {α:Type} (t:Nat):JC ([]:List (Nat × α)) t = none := rfl
theorem JT {α:Type} (k:Nat) (x:α) (r:List (Nat × α)) (t:Nat):JC ((k,x) :: r) t = bif Nat.beq k t then some x else JC r t := by
  show (Bool.rec (JC r t) (some x) (Nat.beq k t):Option α) = _
  cases Nat.beq k t <;> rfl
def del {α:Type} (l:List (Nat × α)) (t:Nat):List (Nat × α) := List.rec (motive := fun _ => List (Nat × α)) [] (fun p _ ih => Bool.rec (p :: ih) ih (Nat.beq p.1 t)) l
theorem Jme {α:Type} (t:Nat):del ([]:List (Nat × α)) t = [] := rfl
theorem Ji0 {α:Type} (k:Nat) (x:α) (r:List (Nat × α)) (t:Nat):del ((k,x) :: r) t = bif Nat.beq k t then del r t else (k,x) :: del r t := by
  show (Bool.rec ((k,x) :: del r t) (del r t) (Nat.beq k t):List (Nat × α)) = _
  cases Nat.beq k t <;> rfl
def rem {α:Type} (l:List (Nat × α)) (t:Nat):List (Nat × α) := match JC l t with
  | none => l
  | some _ => del l t
def put {α:Type} (l:List (Nat × α)) (t:Nat) (x:α):List (Nat × α) := (t,x) :: rem l t
def JVV:Value → Option SC
  | .int k n => some (.int k (.c n))
  | .bool b => some (.bool (.c b))
  | .pointer none => some .nilp
  | .slice none 0 0 => some .nilsl
  | .nilFunc => some .nilf
  | .func (.func f) ⟨[]⟩ ⟨[]⟩ => some (.fn f)
  | _ => none
def cellsOf:List Value → Option (List SC)
  | [] => some []
  | v :: r => match JVV v,cellsOf r with
    | some c,some cs => some (c :: cs)
    | _,_ => none
def JUt:Value → Option SV
  | .agg cs => (cellsOf cs.toList).map .agg
  | v => (JVV v).map .one
def JqG (a:Nat × Bool) (l:List (Nat × Bool)):Bool := List.rec (motive := fun _ => Bool) false (fun b _ ih => (Nat.beq a.1 b.1 && (a.2 == b.2)) || ih) l
theorem JsP (a:Nat × Bool):JqG a [] = false := rfl
theorem Jpa (a b:Nat × Bool) (r:List (Nat × Bool)):JqG a (b :: r) = ((Nat.beq a.1 b.1 && (a.2 == b.2)) || JqG a r) := rfl
def JbF (g h:List (Nat × Bool)):Bool := List.rec (motive := fun _ => Bool) true (fun a _ ih => JqG a h && ih) g
theorem Ju4 (h:List (Nat × Bool)):JbF [] h = true := rfl
theorem Jow (a:Nat × Bool) (r h:List (Nat × Bool)):JbF (a :: r) h = (JqG a h && JbF r h) := rfl
def Y7 (env:KP) (g:List (Nat × Bool)):Operand → Option SV
  | .tmp t => match JC env t with
    | some e => bif JbF e.g g then some e.val else none
    | none => none
  | .const v => JUt v
  | .func f => some (.one (.fn f))
  | .global _ => none
def args (env:KP) (g:List (Nat × Bool)):List Operand → Option (List SV)
  | [] => some []
  | o :: r => match Y7 env g o,args env g r with
    | some v,some vs => some (v :: vs)
    | _,_ => none
def JAE:List (Bool × Bool) → Prop → Prop
  | [],p => p
  | (x,w) :: r,p => x = w → JAE r p
def Jj3 (c:Bool):SI → SI → SI
  | .c a,.c b => bif decide (a = b) then .c a else .v (cond c a b)
  | .c a,.v b => .v (cond c a b)
  | .v a,.c b => .v (cond c a b)
  | .v a,.v b => .v (cond c a b)
def Jm0 (c:Bool):SB → SB → SB
  | .c true,.c true => .c true
  | .c false,.c false => .c false
  | .c true,.c false => .v c
  | .c false,.c true => .v (!c)
  | .v a,.c false => .v (c && a)
  | .c true,.v b => .v (c || b)
  | .c a,.v b => .v (cond c a b)
  | .v a,.c b => .v (cond c a b)
  | .v a,.v b => .v (cond c a b)
def Wk:IntKind → IntKind → Bool
  | .i8,.i8 | .i16,.i16 | .i32,.i32 | .i64,.i64 | .u8,.u8 | .u16,.u16 | .u32,.u32 | .u64,.u64 => true
  | _,_ => false
def JaR (c:Bool):SC → SC → Option SC
  | .int k x,.int j y => bif Wk k j then some (.int k (Jj3 c x y)) else none
  | .bool x,.bool y => some (.bool (Jm0 c x y))
  | .ptr a o,.ptr b p => bif Nat.beq a b && Nat.beq o p then some (.ptr a o) else none
  | .wh a,.wh b => bif Nat.beq a b then some (.wh a) else none
  | .nilp,.nilp => some .nilp
  | .nilsl,.nilsl => some .nilsl
  | .fn f,.fn g => bif Nat.beq f g then some (.fn f) else none
  | _,_ => none
def JHh (c:Bool):List SC → List SC → Option (List SC)
  | [],[] => some []
  | x :: r,y :: s => match JaR c x y,JHh c r s with
    | some z,some t => some (z :: t)
    | _,_ => none
  | _,_ => none
def JIt (c:Bool):List (Bool × List SC) → List (Bool × List SC) → Option (List (Bool × List SC))
  | [],[] => some []
  | (a,x) :: r,(b,y) :: s => bif (a == b) then (match JHh c x y,JIt c r s with
    | some z,some t => some ((a,z) :: t)
    | _,_ => none) else none
  | _,_ => none
def JQn (c:Bool):SV → SV → Option SV
  | .one x,.one y => (JaR c x y).map .one
  | .agg x,.agg y => (JHh c x y).map .agg
  | .tup x,.tup y => (JIt c x y).map .tup
  | _,_ => none
def jS (n:Nat) (l:List SC):List (Nat × SC) := List.rec (motive := fun _ => Nat → List (Nat × SC)) (fun _ => []) (fun c _ ih n => (n,c) :: ih (n + 1)) l n
theorem Jk3 (n:Nat):jS n [] = [] := rfl
theorem Jhz (n:Nat) (c:SC) (r:List SC):jS n (c :: r) = (n,c) :: jS (n + 1) r := rfl
def QV (l:List (Nat × SC)):List SC := List.rec (motive := fun _ => List SC) [] (fun p _ ih => p.2 :: ih) l
theorem XG:QV [] = [] := rfl
theorem QK (p:Nat × SC) (r:List (Nat × SC)):QV (p :: r) = p.2 :: QV r := rfl
def CK.cell:CK → Int → SC
  | .int k,n => .int k (.v n)
  | .bool,n => .bool (.v (n != 0))
def Kz:List CK → List Int → Nat → List SC
  | [],_,_ => []
  | k :: r,xs,j => k.cell (xs.getD j 0) :: Kz r xs (j + 1)
def Qz (ks:List CK) (xs:List Int):List SC := Kz ks xs 0
def JpU:SC → Option (CK × Int)
  | .int k n => some (.int k,n.val)
  | .bool (.c b) => some (.bool,bif b then 1 else 0)
  | .bool (.v b) => some (.bool,bif b then 1 else 0)
  | _ => none
def JCd:List SC → Option (List (CK × Int))
  | [] => some []
  | c :: r => match JpU c,JCd r with
    | some x,some xs => some (x :: xs)
    | _,_ => none
def JX7:CK → CK → Bool
  | .int k,.int j => Wk k j
  | .bool,.bool => true
  | _,_ => false
def JgV:List CK → List (CK × Int) → Option (List Int)
  | [],[] => some []
  | k :: ks,(j,x) :: r => bif JX7 k j then (JgV ks r).map (x :: ·) else none
  | _,_ => none
def ji:RowC → SN
  | .lit _ rows => .c rows.length
  | .lst _ _ xs => .v xs.length
def chain (i:Nat):List (List SC) → Nat → Option (List SC)
  | [],_ => none
  | [r],_ => some r
  | r :: rest,k => match chain i rest (k + 1) with
    | some t => JHh (Nat.beq i k) r t
    | none => none
def Jth:RowC → SN → Option (List SC × List Prop)
  | .lit _ rows,.c i => match rows[i]? with
    | some r => some (r,[])
    | none => none
  | .lit _ rows,.v i => match chain i rows 0 with
    | some r => some (r,[i < rows.length])
    | none => none
  | .lst _ ks xs,i => some (Qz ks (xs.getD i.val []),[i.val < xs.length])
def qD (ks:List CK):List (List SC) → Option (List (List Int))
  | [] => some []
  | r :: rs => match (JCd r).bind (JgV ks),qD ks rs with
    | some x,some xs => some (x :: xs)
    | _,_ => none
def Jeq:List SC → Option (List CK)
  | [] => some []
  | c :: r => match JpU c,Jeq r with
    | some (k,_),some ks => some (k :: ks)
    | _,_ => none
def WC:List CK → List CK → Bool
  | [],[] => true
  | a :: r,b :: s => JX7 a b && WC r s
  | _,_ => false
def JWg (n:Nat):RowC → RowC → Option RowC
  | .lit _ a,.lit _ b => some (.lit n (a ++ b))
  | .lst _ ks xs,.lst _ js ys => bif WC ks js then some (.lst n ks (xs ++ ys)) else none
  | .lst _ ks xs,.lit _ b => (qD ks b).map fun ys => .lst n ks (xs ++ ys)
  | .lit _ a,.lst _ ks ys => (qD ks a).map fun xs => .lst n ks (xs ++ ys)
def JV6 (t:Nat):RowC → SN → SN → Option RowC
  | .lit _ rows,.c o,.c n => some (.lit t ((rows.drop o).take n))
  | .lit ..,_,_ => none
  | .lst _ ks xs,o,n => some (.lst t ks ((xs.drop o.val).take n.val))
def Jse:RowC → Option (List CK)
  | .lst _ ks _ => some ks
  | .lit _ (r :: _) => Jeq r
  | .lit _ [] => none
def JgA (ks:List CK):RowC → Option (List (List Int))
  | .lst _ js xs => bif WC ks js then some xs else none
  | .lit _ rows => qD ks rows
def kU:Nat → Nat → Nat → List Int → List Int → List Int
  | 0,_,_,_,_ => []
  | n + 1,j,off,ys,row => (bif Nat.ble off j && Nat.blt j (off + ys.length) then ys.getD (j - off) 0 else row.getD j 0) :: kU n (j + 1) off ys row
def JIN (esz:Nat):List (List SC) → Bool
  | [] => true
  | r :: rs => Nat.beq r.length esz && (JCd r).isSome && JIN esz rs
def jd (esz:Nat):Nat → List SC → List (List SC)
  | 0,_ => []
  | n + 1,cs => cs.take esz :: jd esz n (cs.drop esz)
def ltN:SN → SN → Option (List Prop)
  | .c a,.c b => bif Nat.blt a b then some [] else none
  | a,b => some [a.val < b.val]
def leN:SN → SN → Option (List Prop)
  | .c a,.c b => bif Nat.ble a b then some [] else none
  | a,b => some [a.val ≤ b.val]
def Jlv:SN → SN → SN
  | .c a,.c b => .c (a + b)
  | .c 0,b => b
  | a,b => .v (a.val + b.val)
def JsL:SN → SN → SN
  | .c a,.c b => .c (a - b)
  | a,b => .v (a.val - b.val)
def JZV:SI → Option (SN × List Prop)
  | .c n => bif decide (0 ≤ n) then some (.c n.toNat,[]) else none
  | .v n => some (.v n.toNat,[0 ≤ n])
def JZD:SN → SI
  | .c n => .c (Int.ofNat n)
  | .v n => .v (Int.ofNat n)
inductive EV where
  | v (x:SV) | l (x:List (List Int)) | o (b:Nat) (L:Bool → Go.Obj)
abbrev jv := List (EV × EV)
def JZF (x y:SC) (q:jv):jv := match x,y with
  | .wh a,.wh b => bif Nat.beq a b then q else (.v (.one (.wh a)),.v (.one (.wh b))) :: q
  | .ptr a o,.ptr b p => bif Nat.beq a b && Nat.beq o p then q else (.v (.one (.ptr a o)),.v (.one (.ptr b p))) :: q
  | x,y => (.v (.one x),.v (.one y)) :: q
def JrQ (x y:SV) (q:jv):jv := match x,y with
  | .one a,.one b => JZF a b q
  | x,y => (.v x,.v y) :: q
def JOq (c:Bool) (n:Nat):List (Nat × SC) → List (Nat × SC) → Option (List (Nat × SC) × jv × Nat)
  | [],[] => some ([],[],n)
  | (a,x) :: r,(b,y) :: s => bif Nat.beq a b then
      (match JOq c n r s with
      | some (t,e,n') => some ((a,x) :: t,JZF x y e,n')
      | none => none)
    else (match JaR c x y,JOq c (n + 1) r s with
      | some z,some (t,e,n') => some ((n,z) :: t,e,n')
      | _,_ => none)
  | _,_ => none
def qH (c:Bool) (n:Nat):KP → KP → KP × jv × Nat
  | [],_ => ([],[],n)
  | (t,e) :: r,s => match qH c n r s with
    | (r',q,m) => match JC s t with
      | none => (del r' t,q,m)
      | some f => match e.g,f.g with
        | [],[] => bif Nat.beq e.tag f.tag then ((t,⟨[],[],e.tag,e.val⟩) :: r',JrQ e.val f.val q,m)
            else (match JQn c e.val f.val with
              | some v => ((t,⟨[],[],m,v⟩) :: r',q,m + 1)
              | none => (del r' t,q,m))
        | _,_ => (del r' t,q,m)
def JKr (c:Bool):List (List SC) → List (List SC) → Option (List (List SC))
  | [],[] => some []
  | x :: r,y :: s => match JHh c x y,JKr c r s with
    | some z,some t => some (z :: t)
    | _,_ => none
  | _,_ => none
def JUO (rows:List (List SC)):SV := .tup (rows.map fun r => (true,r))
def JRX (c:Bool) (n:Nat) (x y:RowC):Option (RowC × jv × Nat) :=
  match (match x,y with
    | .lit t a,.lit u b => bif Nat.beq t u then some (.lit t a,[(.v (JUO a),.v (JUO b))],n) else (JKr c a b).map fun z => (RowC.lit n z,[],n + 1)
    | .lst t ks xs,.lst u js ys => bif Nat.beq t u && WC ks js then some (.lst t ks xs,[(.l xs,.l ys)],n) else none
    | _,_ => none) with
  | some r => some r
  | none => match (match Jse x with | some ks => some ks | none => Jse y) with
    | none => none
    | some ks => match JgA ks x,JgA ks y with
      | some xs,some ys => some (.lst n ks (bif c then xs else ys),[],n + 1)
      | _,_ => none
def JYD:List Nat → List Nat → Bool
  | [],[] => true
  | a :: r,b :: s => Nat.beq a b && JYD r s
  | _,_ => false
def JrN:SV → SV → Bool
  | .one (.ptr a o),.one (.ptr b p) => Nat.beq a b && Nat.beq o p
  | .one (.clo f a),.one (.clo g b) => Nat.beq f g && Nat.beq a b
  | .one (.fn f),.one (.fn g) => Nat.beq f g
  | _,_ => false
def JaF:List SV → List SV → Bool
  | [],[] => true
  | a :: r,b :: s => JrN a b && JaF r s
  | _,_ => false
def Ja2 (c:Bool) (n:Nat):Obj → Obj → Option (Obj × jv × Nat)
  | .blk t x,.blk u y => bif Nat.beq t u then (match JOq c n x y with
    | some (z,e,m) => some (.blk t z,e,m)
    | none => none) else none
  | .row p t m x,.row q u k y => bif (p == q) && (Nat.beq t u && Nat.beq m k) then (match JRX c n x y with
    | some (z,e,m') => some (.row p t m z,e,m')
    | none => none) else none
  | .raw b rs t L k,.raw b' rs' t' L' k' => bif JYD rs rs' then some (.raw b rs t L (Jm0 c k k'),[(.o b L,.o b' L')],n) else none
  | .clo x,.clo y => bif JaF x y then some (.clo x,[],n) else none
  | _,_ => none
def Jqc:SC → Bool
  | .wh _ => true
  | .sl .. => true
  | .nilsl => true
  | _ => false
def JmC:SC → SC → Bool
  | .wh a,.wh b => !(Nat.beq a b)
  | .nilsl,.nilsl => false
  | a,b => Jqc a || Jqc b
def JnS:List (Nat × SC) → List (Nat × SC) → Bool
  | (_,a) :: r,(_,b) :: s => JmC a b || JnS r s
  | _,_ => false
def JYm:KP → KP → Bool
  | [],_ => false
  | (t,e) :: r,s => (match JC s t with
    | some f => (match e.val,f.val with | .one a,.one b => JmC a b | _,_ => false)
    | none => false) || JYm r s
def Jac:Jo → Jo → Bool
  | [],_ => false
  | (t,o) :: r,s => (match o,JC s t with
    | .blk _ x,some (.blk _ y) => JnS x y
    | _,_ => false) || Jac r s
def YA (c:Bool) (n:Nat):Jo → Jo → Jo × jv × Nat
  | [],_ => ([],[],n)
  | (t,e) :: r,s => match YA c n r s with
    | (r',q,m) => match JC s t with
      | none => (del r' t,q,m)
      | some f => match Ja2 c m e f with
        | some (o,e',m') => ((t,o) :: r',e' ++ q,m')
        | none => (del r' t,q,m)
def isC:SI → SI → Bool
  | .c _,.c _ => true
  | _,_ => false
def mkI (st:Bool) (x:Int):SI := bif st then .c x else .v x
def mkB (st:Bool) (x:Bool):SB := bif st then .c x else .v x
def Zi (op:BinOp) (k:IntKind) (x y:Int):Int :=
  match op with
  | .and => k.wrap (BitVec.ofInt k.bits x &&& BitVec.ofInt k.bits y).toNat
  | .or => k.wrap (BitVec.ofInt k.bits x ||| BitVec.ofInt k.bits y).toNat
  | .xor => k.wrap (BitVec.ofInt k.bits x ^^^ BitVec.ofInt k.bits y).toNat
  | _ => k.wrap (BitVec.ofInt k.bits x &&& ~~~BitVec.ofInt k.bits y).toNat
def JU (op:BinOp) (k:IntKind) (x y:Int):Int :=
  match op with
  | .shl => k.wrap (x * 2 ^ min y.toNat k.bits)
  | _ => x.fdiv (2 ^ min y.toNat k.bits)
def nz:SI → Option (List Prop)
  | .c n => bif decide (n = 0) then none else some []
  | .v x => some [x ≠ 0]
def JeN:SI → Option (List Prop)
  | .c n => bif decide (0 ≤ n) then some [] else none
  | .v x => some [0 ≤ x]
def JtK (op:BinOp) (k:IntKind) (a b:SI):Option (SC × List Prop) :=
  let s := isC a b
  let x := a.val
  let y := b.val
  match op with
  | .add => some (.int k (mkI s (k.wrap (x + y))),[])
  | .sub => some (.int k (mkI s (k.wrap (x - y))),[])
  | .mul => some (.int k (mkI s (k.wrap (x * y))),[])
  | .quo => (nz b).map fun q => (.int k (mkI s (k.wrap (x.tdiv y))),q)
  | .rem => (nz b).map fun q => (.int k (mkI s (x.tmod y)),q)
  | .and => some (.int k (mkI s (Zi .and k x y)),[])
  | .or => some (.int k (mkI s (Zi .or k x y)),[])
  | .xor => some (.int k (mkI s (Zi .xor k x y)),[])
  | .andNot => some (.int k (mkI s (Zi .andNot k x y)),[])
  | .eql => some (.bool (mkB s (x == y)),[])
  | .neq => some (.bool (mkB s (x != y)),[])
  | .lss => some (.bool (mkB s (decide (x < y))),[])
  | .leq => some (.bool (mkB s (decide (x ≤ y))),[])
  | .gtr => some (.bool (mkB s (decide (x > y))),[])
  | .geq => some (.bool (mkB s (decide (x ≥ y))),[])
  | _ => none
def JwR:SB → SB → Bool
  | .c _,.c _ => true
  | _,_ => false
def eqC:SC → SC → Option SB
  | .int k x,.int j y => bif Wk k j then some (mkB (isC x y) (x.val == y.val)) else none
  | .bool x,.bool y => some (mkB (JwR x y) (x.val == y.val))
  | _,_ => none
def Jw7:SB → SB → SB
  | .c false,_ => .c false
  | .c true,b => b
  | .v _,.c false => .c false
  | .v x,.c true => .v x
  | .v x,.v y => .v (x && y)
def JUG:List SC → List SC → Option SB
  | [],[] => some (.c true)
  | x :: r,y :: s => match eqC x y,JUG r s with
    | some a,some b => some (Jw7 a b)
    | _,_ => none
  | _,_ => none
def Jwo:SB → SB
  | .c b => .c (!b)
  | .v b => .v (!b)
def k9 (P:Program):Nat → TypeId → List SC → Bool
  | 0,_,_ => false
  | d + 1,t,cs => match P.underlying t,P.info? t with
    | some (.struct fs),some i => !(P.stoodInHeld t) && flatFs P (k9 P d) fs.toList 0 i.size cs
    | some .bool,some i => Nat.beq i.size 1 && (match cs with | [.bool _] => true | _ => false)
    | some (.int _),some i => Nat.beq i.size 1 && (match cs with | [.int _ _] => true | _ => false)
    | _,_ => false
where flatFs (P:Program) (ft:TypeId → List SC → Bool):List Field → Nat → Nat → List SC → Bool
  | [],o,tot,_ => Nat.beq o tot
  | f :: r, o, tot, cs => (f.name != "_") && (Nat.beq f.offset o && (match P.info? f.type with
      | some i => ft f.type ((cs.drop o).take i.size) && flatFs P ft r (o + i.size) tot cs
      | none => false))
def Jn4 (P:Program) (op:BinOp) (t:TypeId):SV → SV → Option (SC × List Prop)
  | .one (.int k a),.one (.int j b) => match op with
    | .shl => (JeN b).map fun q => (.int k (mkI (isC a b) (JU .shl k a.val b.val)),q)
    | .shr => (JeN b).map fun q => (.int k (mkI (isC a b) (JU .shr k a.val b.val)),q)
    | op => bif Wk k j then JtK op k a b else none
  | .one (.bool a),.one (.bool b) => match P.underlying t with
    | some .bool => (match op with
      | .eql => some (.bool (mkB (JwR a b) (a.val == b.val)),[])
      | .neq => some (.bool (mkB (JwR a b) (!(a.val == b.val))),[])
      | _ => none)
    | _ => none
  | .agg x,.agg y => match P.underlying t,P.info? t with
    | some (.struct _),some i => bif k9 P 20 t x && (Nat.beq x.length i.size && Nat.beq y.length i.size) then (match op,JUG x y with
      | .eql,some b => some (.bool b,[])
      | .neq,some b => some (.bool (Jwo b),[])
      | _,_ => none) else none
    | _,_ => none
  | _,_ => none
def Jwn (op:UnOp):SV → Option SC
  | .one (.int k a) => match op,a with
    | .neg,.c n => some (.int k (.c (k.wrap (0 - n))))
    | .neg,.v n => some (.int k (.v (k.wrap (0 - n))))
    | _,_ => none
  | .one (.bool b) => match op with
    | .not => some (.bool (Jwo b))
    | _ => none
  | _ => none
structure Eff where
  val:Option SV
  rd:List Nat
  touched:List Nat
  ups:Jo
  needs:List Prop
  eqs:jv
  nx:Nat
def Eff.pure (n:Nat) (v:SV):Eff := ⟨some v,[],[],[],[],[],n⟩
def SV.cells:SV → Option (List SC)
  | .one c => some [c]
  | .agg cs => some cs
  | .tup _ => none
def Xp {α:Type}:List α → Nat → Nat → List α
  | l,0,n => l.take n
  | [],_,_ => []
  | _ :: r,o + 1,n => Xp r o n
def ZY {α:Type}:List α → Nat → List α → List α
  | l,0,[] => l
  | _ :: r,0,x :: xs => x :: ZY r 0 xs
  | [],_,_ => []
  | y :: r,o + 1,xs => y :: ZY r o xs
def JLL (place:Nat → Option (Nat × Nat)) (cells:List SC):List (Nat × List SC) → Option (List SC)
  | [] => some cells
  | (i,v) :: rest => match place i with
    | none => none
    | some (off,size) => bif Nat.beq v.length size && Nat.ble (off + size) cells.length then JLL place (ZY cells off v) rest else none
def JLE (env:KP) (g:List (Nat × Bool)):List (Nat × Operand) → Option (List (Nat × List SC))
  | [] => some []
  | (i,o) :: r => match (Y7 env g o).bind SV.cells,JLE env g r with
    | some v,some vs => some ((i,v) :: vs)
    | _,_ => none
def qI (P:Program):List Field → Option (List (Nat × Nat))
  | [] => some []
  | f :: r => match P.info? f.type,qI P r with
    | some i,some ps => some ((f.offset,i.size) :: ps)
    | _,_ => none
def JEa (P:Program) (t:TypeId):Option SV := ((P.info? t).bind (·.zero)).bind JUt
def JEU (P:Program) (t:TypeId):Option Bool := match P.underlying t with
  | some (.struct _) | some (.array _ _) => some true
  | some _ => some false
  | none => none
structure CRes where
  val:SV
  mem:Jo
  needs:List Prop
  eqs:jv
  nx:Nat
abbrev CE := FuncId → List SV → Jo → Nat → Option CRes
def Wx:SC → List Nat
  | .ptr id _ => [id]
  | .eptr id _ _ _ => [id]
  | .sl id _ _ _ => [id]
  | .wh id => [id]
  | .clo _ id => [id]
  | .yld _ id => [id]
  | _ => []
def Qw (l:List SC):List Nat := List.rec (motive := fun _ => List Nat) [] (fun c _ ih => Wx c ++ ih) l
theorem ZK:Qw [] = [] := rfl
theorem Jv (c:SC) (r:List SC):Qw (c :: r) = Wx c ++ Qw r := rfl
def KZ:List (Bool × List SC) → List Nat
  | [] => []
  | (_,cs) :: r => Qw cs ++ KZ r
def Ze:SV → List Nat
  | .one c => Wx c
  | .agg cs => Qw cs
  | .tup vs => KZ vs
def Qg:List SV → List Nat
  | [] => []
  | v :: r => Ze v ++ Qg r
def K6:Obj → List Nat
  | .blk _ cs => Qw (QV cs)
  | .row .. => []
  | .clo cs => Qg cs
  | .raw _ rs _ _ _ => rs
def has (l:List Nat) (n:Nat):Bool := List.rec (motive := fun _ => Bool) false (fun a _ ih => Nat.beq a n || ih) l
theorem JdH (n:Nat):has [] n = false := rfl
theorem JYB (a:Nat) (r:List Nat) (n:Nat):has (a :: r) n = (Nat.beq a n || has r n) := rfl
def Yb (acc l:List Nat):List Nat := List.rec (motive := fun _ => List Nat → List Nat) (fun acc => acc) (fun a _ ih acc => ih (Bool.rec (acc ++ [a]) acc (has acc a))) l acc
theorem JVp (acc:List Nat):Yb acc [] = acc := rfl
theorem JSz (acc:List Nat) (a:Nat) (r:List Nat):Yb acc (a :: r) = Yb (bif has acc a then acc else acc ++ [a]) r := by
  show Yb (Bool.rec (acc ++ [a]) acc (has acc a)) r = _
  cases has acc a <;> rfl
def YS:List Nat → List Nat → Bool
  | [],_ => false
  | a :: r,l => has l a || YS r l
def Kc (mem:Jo):Nat → List Nat → List Nat
  | 0,l => l
  | k + 1,l => Kc mem k (l.foldl (fun acc id => match JC mem id with | some o => Yb acc (K6 o) | none => acc) l)
def JG:Jo → List Nat → Jo
  | [],_ => []
  | (id,o) :: r,l => bif has l id then (id,o) :: JG r l else JG r l
def domain:Jo → List Nat
  | [] => []
  | (id,_) :: r => id :: domain r
def JSc:Option SV → Option (Nat × Nat × SN × Nat)
  | some (.one (.eptr id esz i off)) => some (id,esz,i,off)
  | _ => none
def Jt7:Option SV → Option (FuncId × Nat)
  | some (.one (.clo f id)) => some (f,id)
  | _ => none
def Ju6 (P:Program) (t:TypeId) (mem:Jo) (n id esz:Nat) (i:SN) (off:Nat):Option Eff :=
  match JEU P t,P.info? t,JC mem id with
  | some b,some inf,some (.row _ _ m r) => bif Nat.beq m esz then (match Jth r i with
    | some (cs,q) => bif b then (bif Nat.beq (Xp cs off inf.size).length inf.size then some ⟨some (.agg (Xp cs off inf.size)),[id],[],[],q,[],n⟩ else none)
        else (match Xp cs off 1 with
          | [c] => some ⟨some (.one c),[id],[],[],q,[],n⟩
          | _ => none)
    | none => none) else none
  | _,_,_ => none
def JkN (n esz:Nat) (i:SN) (off:Nat) (vs:List SC):RowC → Option (RowC × List Prop)
  | .lit _ rows => match i with
    | .c k => match rows[k]? with
      | some row => bif Nat.ble (off + vs.length) row.length && (JCd vs).isSome then some (.lit n (rows.set k (ZY row off vs)),[]) else none
      | none => none
    | .v _ => none
  | .lst _ ks xs => match (JCd vs).bind (JgV (Xp ks off vs.length)) with
    | some ys => bif Nat.beq ks.length esz && Nat.ble (off + vs.length) esz then some (.lst n ks (xs.set i.val (kU esz 0 off ys (xs.getD i.val []))),[i.val < xs.length]) else none
    | none => none
def Jka (P:Program) (t:TypeId) (mem:Jo) (n id esz:Nat) (i:SN) (off:Nat) (vs:List SC):Option Eff :=
  match P.info? t,JC mem id with
  | some inf,some (.row false ty m r) => bif Nat.beq m esz && Nat.beq vs.length inf.size then (match JkN n esz i off vs r with
    | some (r',q) => some ⟨none,[id],[id],[(id,.row false ty m r')],q,[],n + vs.length + 1⟩
    | none => none) else none
  | _,_ => none
def Jc3 (mem:Jo) (id:Nat) (i:SN):Option (List Prop) :=
  match JC mem id with
  | some (.row _ _ _ r) => ltN i (ji r)
  | _ => none
def Jld (P:Program) (t:TypeId) (f:Nat) (mem:Jo) (n id esz:Nat) (i:SN) (off:Nat):Option Eff :=
  match P.underlying t,Jc3 mem id i with
  | some (.struct fs),some q => match fs.toList[f]? with
    | some fd => (match P.info? fd.type with
      | some inf => bif Nat.beq inf.size 0 then none else some ⟨some (.one (.eptr id esz i (off + fd.offset))),[id],[],[],q,[],n⟩
      | none => none)
    | none => none
  | _,_ => none
def JjW (P:Program) (t:TypeId) (len:Nat) (ps:Option (List (Nat × List SC))) (n:Nat):Option Eff :=
  match P.underlying t,ps with
  | some (.slice e),some vs => match P.info? e,(JEa P e).bind SV.cells with
    | some inf,some z => bif Nat.blt 0 inf.size && (Nat.beq z.length inf.size && Nat.ble (len * inf.size) 16777216) then
        (match JLL (fun i => some (i * inf.size,inf.size)) ((List.range (len * inf.size)).map fun j => (z[j % z.length]?).getD .nilp) vs with
        | some cs => bif JIN inf.size (jd inf.size len cs) then some ⟨some (.one (.wh n)),[],[],[(n,.row false e inf.size (.lit (n + 1) (jd inf.size len cs)))],[],[],n + 2⟩ else none
        | none => none) else none
    | _,_ => none
  | _,_ => none
def Jk9 (P:Program) (t:TypeId) (x i:Option SV) (mem:Jo) (n:Nat):Option Eff :=
  match P.underlying t,x,i with
  | some (.slice e),some (.one (.wh id)),some (.one (.int _ iv)) => match P.info? e,JC mem id,JZV iv with
    | some inf,some (.row _ _ m r),some (k,q1) => bif Nat.beq inf.size m then (match ltN k (ji r) with
        | some q2 => some ⟨some (.one (.eptr id m k 0)),[id],[],[],q1 ++ q2,[],n⟩
        | none => none) else none
    | _,_,_ => none
  | some (.slice e),some (.one (.sl id esz off len)),some (.one (.int _ iv)) => match P.info? e,JC mem id,JZV iv with
    | some inf,some (.row _ _ m r),some (k,q1) => bif Nat.beq inf.size m && Nat.beq esz m then (match ltN k len,ltN (Jlv off k) (ji r) with
        | some q2,some q3 => some ⟨some (.one (.eptr id m (Jlv off k) 0)),[id],[],[],q1 ++ q2 ++ q3,[],n⟩
        | _,_ => none) else none
    | _,_,_ => none
  | some (.array len e),some (.one (.ptr id off)),some (.one (.int _ (.c j))) => match P.info? e,JC mem id with
    | some inf,some (.blk _ _) => bif decide (0 ≤ j) && decide (j < len) then some ⟨some (.one (.ptr id (off + j.toNat * inf.size))),[id],[],[],[],[],n⟩ else none
    | _,_ => none
  | _,_,_ => none
def Jjf (P:Program) (t:TypeId) (x i:Option SV) (n:Nat):Option Eff :=
  match P.underlying t,x,i with
  | some (.array len e),some (.agg cs),some (.one (.int _ (.c j))) => match JEU P e,P.info? e with
    | some b,some inf => bif decide (0 ≤ j) && decide (j < len) then
        (bif b then (bif Nat.beq (Xp cs (j.toNat * inf.size) inf.size).length inf.size then some (Eff.pure n (.agg (Xp cs (j.toNat * inf.size) inf.size))) else none)
        else (match Xp cs (j.toNat * inf.size) 1 with
          | [c] => some (Eff.pure n (.one c))
          | _ => none)) else none
    | _,_ => none
  | _,_,_ => none
def JEI (env:KP) (g:List (Nat × Bool)) (d:SN):Option Operand → Option (SN × List Prop)
  | none => some (d,[])
  | some o => match Y7 env g o with
    | some (.one (.int _ iv)) => JZV iv
    | _ => none
def JmH (P:Program) (t:TypeId) (x:Option SV) (lo hi:SN → Option (SN × List Prop)) (mem:Jo) (n:Nat):Option Eff :=
  match P.underlying t,x with
  | some (.slice e),some (.one (.wh id)) => match P.info? e,JC mem id with
    | some inf,some (.row _ _ m r) => bif Nat.beq inf.size m then (match lo (.c 0),hi (ji r) with
        | some (l,q1),some (h,q2) => (match leN l h,leN h (ji r) with
          | some q3,some q4 => some ⟨some (.one (.sl id m l (JsL h l))),[id],[],[],q1 ++ q2 ++ q3 ++ q4,[],n⟩
          | _,_ => none)
        | _,_ => none) else none
    | _,_ => none
  | _,_ => none
def Jwm (P:Program) (t:TypeId) (x:Option SV) (lo:Option Operand) (hi:Option (SN × List Prop)) (mem:Jo) (n:Nat):Option Eff :=
  match lo,hi with
  | none,some (h,q1) => match P.underlying t,x with
    | some (.slice e),some (.one (.wh id)) => match P.underlying e,P.info? e,JC mem id with
      | some (.int .u64),some inf,some (.row false ty m r) => bif Nat.beq inf.size m && Nat.beq ty e then (match JV6 (n + 1) r (.c 0) h,leN h (ji r) with
          | some r',some q2 => some ⟨some (.one (.wh n)),[id],[id],[(n,.row false ty m r')],q1 ++ q2,[],n + 2⟩
          | _,_ => none) else none
      | _,_,_ => none
    | _,_ => none
  | _,_ => none
def Jw0 (env:KP) (g:List (Nat × Bool)):Option Operand → Option (SN × List Prop)
  | none => none
  | some y => JEI env g (.c 0) (some y)
def JMa (P:Program) (t:TypeId) (x:Option SV) (env:KP) (g:List (Nat × Bool)) (lo hi:Option Operand) (mem:Jo) (n:Nat):Option Eff :=
  match Jwm P t x lo (Jw0 env g hi) mem n with
  | some e => some e
  | none => JmH P t x (fun d => JEI env g d lo) (fun d => JEI env g d hi) mem n
def Jde (mem:Jo) (n:Nat) (m:Nat):SC → Option (RowC × SN × List Nat × List Prop)
  | .nilsl => some (.lit 0 [],.c 0,[],[])
  | .wh id => match JC mem id with
    | some (.row _ _ k r) => bif Nat.beq k m then some (r,ji r,[id],[]) else none
    | _ => none
  | .sl id esz off len => match JC mem id with
    | some (.row _ _ k r) => bif Nat.beq k m && Nat.beq esz m then (match JV6 n r off len,leN (Jlv off len) (ji r) with
        | some r',some q => some (r',len,[id],q)
        | _,_ => none) else none
    | _ => none
  | _ => none
def JfM (bytes:Nat):SN → SN → Option (List Prop)
  | .c x,.c y => bif Nat.ble ((x + y) * bytes) 140737488355328 && Nat.ble (x + y) 9223372036854775807 then some [] else none
  | a,b => some [(a.val + b.val) * bytes ≤ 140737488355328,a.val + b.val ≤ 9223372036854775807]
def Jes:Operand → Operand → Bool
  | .tmp a,.tmp b => Nat.beq a b
  | _,_ => false
def Jsv (P:Program) (t:TypeId) (s:Bool) (x:Option SV) (n:Nat):Option Eff :=
  match P.underlying t,x with
  | some (.slice e),some (.one (.int _ l)) => match P.info? e,(JEa P e).bind SV.cells,JZV l with
    | some inf,some z,some (k,q1) => match Jeq z,JfM inf.bytes k (.c 0) with
      | some ks,some q2 => match (JCd z).bind (JgV ks) with
        | some zs => bif s && (Nat.blt 0 inf.size && Nat.beq z.length inf.size) then
          some ⟨some (.one (.wh n)),[],[],[(n,.row false e inf.size (.lst (n + 1) ks (List.replicate k.val zs)))],q1 ++ q2,[],n + 2⟩ else none
        | none => none
      | _,_ => none
    | _,_,_ => none
  | _,_ => none
def Jsk (mem:Jo) (e m:Nat):SC → Option (RowC × List Nat)
  | .nilsl => some (.lit 0 [],[])
  | .wh id => match JC mem id with
    | some (.row false ty k r) => bif Nat.beq k m && Nat.beq ty e then some (r,[id]) else none
    | _ => none
  | _ => none
def Jf1 (P:Program) (t:TypeId) (s x:Option SV) (mem:Jo) (n:Nat):Option Eff :=
  match P.underlying t,s,x with
  | some (.slice e),some (.one sc),some (.one xc) => match P.info? e,(JEa P e).bind SV.cells with
    | some inf,some z => bif Nat.blt 0 inf.size && Nat.beq z.length inf.size then
        (match Jsk mem e inf.size sc,Jde mem (n + 1) inf.size xc with
        | some (r1,t1),some (r2,l2,t2,q) => bif YS t1 t2 then none else (match JWg (n + 2) r1 r2,JfM inf.bytes (ji r1) l2 with
          | some r,some q2 => some ⟨some (.one (.wh n)),t1 ++ t2,t1,[(n,.row false e inf.size r)],q ++ q2,[],n + 3⟩
          | _,_ => none)
        | _,_ => none) else none
    | _,_ => none
  | _,_,_ => none
def JwV (P:Program) (t:TypeId) (x:Option SV) (mem:Jo) (n:Nat):Option Eff :=
  match P.underlying t,x with
  | some (.slice _),some (.one .nilsl) => some (Eff.pure n (.one (.int .i64 (.c 0))))
  | some (.slice _),some (.one (.wh id)) => match JC mem id with
    | some (.row _ _ _ r) => some ⟨some (.one (.int .i64 (JZD (ji r)))),[id],[],[],[],[],n⟩
    | _ => none
  | some (.slice _),some (.one (.sl _ _ _ len)) => some (Eff.pure n (.one (.int .i64 (JZD len))))
  | some (.array m _),some _ => some (Eff.pure n (.one (.int .i64 (.c (Int.ofNat m)))))
  | _,_ => none
def JwY:SI → SI → SI
  | .c x,.c y => .c (if y < x then y else x)
  | a,b => .v (if b.val < a.val then b.val else a.val)
def Jwd:SI → SI → SI
  | .c x,.c y => .c (if y > x then y else x)
  | a,b => .v (if b.val > a.val then b.val else a.val)
def Jmy (f:SI → SI → SI) (k:IntKind):SI → List SV → Option SI
  | a,[] => some a
  | a,.one (.int j b) :: r => bif Wk k j then Jmy f k (f a b) r else none
  | _,_ => none
def JUQ (f:SI → SI → SI) (n:Nat):Option (List SV) → Option Eff
  | some (.one (.int k a) :: r) => (Jmy f k a r).map fun x => Eff.pure n (.one (.int k x))
  | _ => none
def JWG (P:Program) (b:Builtin) (ts:List TypeId) (vs:Option (List SV)) (mem:Jo) (n:Nat):Option Eff :=
  match b,ts,vs with
  | .len,[t],some [x] => JwV P t (some x) mem n
  | .append,[t,u],some [s,x] => bif Nat.beq t u then Jf1 P t (some s) (some x) mem n else none
  | .min,_,vs => JUQ JwY n vs
  | .max,_,vs => JUQ Jwd n vs
  | _,_,_ => none
def JvV (n:Nat) (f:FuncId):List SV → Eff
  | [] => Eff.pure n (.one (.fn f))
  | vs => ⟨some (.one (.clo f n)),[],[],[(n,.clo vs)],[],[],n + 1⟩
def JT2 (mem:Jo):List Nat → Jo → Jo
  | [],m => m
  | id :: r,m => match JC mem id,JC m id with
    | some (.clo caps),none => (id,.clo caps) :: JT2 mem r m
    | _,_ => JT2 mem r m
def Jst (ce:CE) (mem:Jo) (n:Nat) (f:FuncId) (id:Nat) (vs:List SV):Option Eff :=
  match JC mem id with
  | some (.clo caps) => bif Nat.blt f 1000000 then (match ce f (vs ++ caps) (JG mem (Kc mem 3 (id :: Qg vs))) n with
    | some r => some ⟨some r.val,Kc mem 3 (id :: Qg vs),Kc mem 3 (id :: Qg vs),JT2 mem (Kc mem 3 (id :: Qg vs)) r.mem,r.needs,r.eqs,r.nx⟩
    | none => none) else none
  | _ => none
def Jw5 (ce:CE) (mem:Jo) (n y id:Nat) (vs:List SV):Option Eff :=
  bif Nat.ble 1000000 y then (match ce y (.one (.yld y id) :: vs) (JG mem (Kc mem 3 (id :: Qg vs))) n with
    | some r => some ⟨some r.val,Kc mem 3 (id :: Qg vs),Kc mem 3 (id :: Qg vs),r.mem,r.needs,r.eqs,r.nx⟩
    | none => none) else none
def JbU:Jo → Bool
  | [] => true
  | (_,.row true _ _ _) :: r => JbU r
  | _ => false
def JXz (l:List Nat):Jo → Bool
  | [] => true
  | (id,_) :: r => has l id && JXz l r
def JdU:SC → SC
  | .int k x => .int k (.v x.val)
  | .bool b => .bool (.v b.val)
  | c => c
def JMc:List (Nat × SC) → List (Nat × SC) → Option jv
  | [],[] => some []
  | (_,x) :: r,(_,y) :: s => (JMc r s).map (JZF (JdU x) (JdU y))
  | _,_ => none
def Jjc:Obj → Option Obj → Option jv
  | .row true _ _ _,_ => some []
  | .blk t x,some (.blk u y) => bif Nat.beq t u then JMc x y else none
  | _,_ => none
def JFz (res:Jo):Jo → Option jv
  | [] => some []
  | (id,o) :: r => match Jjc o (JC res id),JFz res r with
    | some a,some b => some (a ++ b)
    | _,_ => none
def JsR (ce:CE) (h:FuncId) (n:Nat) (rd:List Nat) (sub res:Jo):Option jv :=
  match ce (2000000 + h) [] [] n with
  | some _ => bif JXz rd res then JFz res sub else none
  | none => none
def Jvr (ce:CE) (mem:Jo) (n:Nat) (h:FuncId) (vs:List SV):Option Eff :=
  bif Nat.blt h 1000000 then (match ce h vs (JG mem (Kc mem 3 (Qg vs))) n with
    | some r => bif JbU (JG mem (Kc mem 3 (Qg vs))) && JXz (Kc mem 3 (Qg vs)) r.mem then some ⟨some r.val,Kc mem 3 (Qg vs),[],[],r.needs,r.eqs,r.nx⟩
      else match JsR ce h n (Kc mem 3 (Qg vs)) (JG mem (Kc mem 3 (Qg vs))) r.mem with
        | some q => some ⟨some r.val,Kc mem 3 (Qg vs),[],[],r.needs,r.eqs ++ q,r.nx⟩
        | none => some ⟨some r.val,Kc mem 3 (Qg vs),Kc mem 3 (Qg vs),r.mem,r.needs,r.eqs,r.nx⟩
    | none => none) else none
def Jrj:Option SV → Option (Nat × Nat)
  | some (.one (.yld g id)) => some (g,id)
  | _ => none
def JCb (s:ByteArray) (k:Nat):Int := match s[k]? with
  | some b => (b.toNat:Int)
  | none => 0
def JsZ:Operand → Option ByteArray
  | .const (.string s) => some s
  | _ => none
def JaU (P:Program) (t:TypeId) (s:ByteArray) (i:Option SV) (n:Nat):Option Eff :=
  match P.underlying t,i with
  | some .string,some (.one (.int _ iv)) => match JZV iv with
    | some (k,q) => some ⟨some (.one (.int .u8 (.v (JCb s k.val)))),[],[],[],q ++ [k.val < s.size],[],n⟩
    | none => none
  | _,_ => none
def JJC (x y b:Int):Int := (((x.toNat + 18446744073709551616 - y.toNat - b.toNat) % 18446744073709551616:Nat):Int)
def JEb (x y b:Int):Int := ((if x.toNat < y.toNat + b.toNat then 1 else 0:Nat):Int)
def JUf (P:Program) (h:FuncId):Bool := match P.funcs[h]? with
  | some fn => (match fn.body with
    | some _ => false
    | none => (fn.name == "math/bits.Sub64") && (fn.origin == ""))
  | none => false
def JwO (vs:List SV) (n:Nat):Option Eff := match vs with
  | [.one (.int .u64 x),.one (.int .u64 y),.one (.int .u64 b)] =>
    some ⟨some (.tup [(false,[.int .u64 (mkI (isC x y && isC x b) (JJC x.val y.val b.val))]),(false,[.int .u64 (mkI (isC x y && isC x b) (JEb x.val y.val b.val))])]),[],[],[],[0 ≤ x.val,0 ≤ y.val,0 ≤ b.val ∧ b.val ≤ 1],[],n⟩
  | _ => none
def Jqe (P:Program) (ce:CE) (mem:Jo) (n:Nat) (h:FuncId) (vs:List SV):Option Eff := bif JUf P h then JwO vs n else Jvr ce mem n h vs
def Jt5 (P:Program) (mem:Jo) (n:Nat) (op:BinOp) (t:TypeId):Option SV → Option SV → Option Eff
  | some (.one (.ptr id _)),some (.one .nilp) => match op,P.underlying t,JC mem id with
    | .eql,some (.pointer _),some (.blk _ _) => some ⟨some (.one (.bool (.c false))),[id],[],[],[],[],n⟩
    | .neq,some (.pointer _),some (.blk _ _) => some ⟨some (.one (.bool (.c true))),[id],[],[],[],[],n⟩
    | _,_,_ => none
  | some (.one (.wh id)),some (.one .nilsl) => match op,P.underlying t,JC mem id with
    | .eql,some (.slice _),some _ => (Jc3 mem id (.c 0)).map fun q => ⟨some (.one (.bool (.c false))),[id],[],[],q,[],n⟩
    | _,_,_ => none
  | some (.one .nilsl),some (.one .nilsl) => match op,P.underlying t with
    | .eql,some (.slice _) => some (Eff.pure n (.one (.bool (.c true))))
    | _,_ => none
  | _,_ => none
def Jtj (P:Program) (ce:CE) (o:Oper) (env:KP) (g:List (Nat × Bool)) (mem:Jo) (n:Nat):Option Eff :=
  match o.op with
  | .move x => (Y7 env g x).map (Eff.pure n)
  | .assign x => (Y7 env g x).map (Eff.pure n)
  | .alloc t => match JEa P t with
    | some v => match v.cells with
      | some cs => some ⟨some (.one (.ptr n 0)),[],[],[(n,.blk t (jS (n + 1) cs))],[],[],n + 1 + cs.length⟩
      | none => none
    | none => none
  | .box t x => match (Y7 env g x).bind SV.cells with
    | some cs => some ⟨some (.one (.ptr n 0)),[],[],[(n,.blk t (jS (n + 1) cs))],[],[],n + 1 + cs.length⟩
    | none => none
  | .build t ps => match P.underlying t,(JEa P t).bind SV.cells,JLE env g ps.toList with
    | some (.struct fs),some z,some vs => match qI P fs.toList with
      | some pl => (JLL (fun i => pl[i]?) z vs).map fun cs => Eff.pure n (.agg cs)
      | none => none
    | some (.array _ e),some z,some vs => match P.info? e with
      | some i => (JLL (fun j => some (j * i.size,i.size)) z vs).map fun cs => Eff.pure n (.agg cs)
      | none => none
    | _,_,_ => none
  | .load t x => match JSc (Y7 env g x) with
    | some (id,esz,i,off) => Ju6 P t mem n id esz i off
    | none => match Y7 env g x,JEU P t,P.info? t with
    | some (.one (.ptr id off)),some a,some i => match JC mem id with
      | some (.blk _ cs) => bif a then
          (let r := QV (Xp cs off i.size); bif Nat.beq r.length i.size then some ⟨some (.agg r),[id],[],[],[],[],n⟩ else none)
        else (match Xp cs off 1 with
          | [(_,c)] => some ⟨some (.one c),[id],[],[],[],[],n⟩
          | _ => none)
      | _ => none
    | _,_,_ => none
  | .store t x y => match JSc (Y7 env g x) with
    | some (id,esz,i,off) => (match (Y7 env g y).bind SV.cells with
      | some vs => Jka P t mem n id esz i off vs
      | none => none)
    | none => match Y7 env g x,(Y7 env g y).bind SV.cells,P.info? t with
    | some (.one (.ptr id off)),some vs,some i => match JC mem id with
      | some (.blk ty cs) => bif Nat.beq vs.length i.size && Nat.ble (off + vs.length) cs.length then
          some ⟨none,[id],[id],[(id,.blk ty (ZY cs off (jS n vs)))],[],[],n + vs.length⟩ else none
      | _ => none
    | _,_,_ => none
  | .nilCheck x => match JSc (Y7 env g x) with
    | some (id,esz,i,off) => (Jc3 mem id i).map fun q => ⟨some (.one (.eptr id esz i off)),[id],[],[],q,[],n⟩
    | none => match Y7 env g x with
    | some (.one (.ptr id off)) => match JC mem id with
      | some (.blk _ _) => some ⟨some (.one (.ptr id off)),[id],[],[],[],[],n⟩
      | _ => none
    | _ => none
  | .binOp op t x y _ => match Jt5 P mem n op t (Y7 env g x) (Y7 env g y) with
    | some e => some e
    | none => match Y7 env g x,Y7 env g y with
    | some a,some b => (Jn4 P op t a b).map fun (c,q) => ⟨some (.one c),[],[],[],q,[],n⟩
    | _,_ => none
  | .unOp op _ x => ((Y7 env g x).bind (Jwn op)).map fun c => Eff.pure n (.one c)
  | .convert s d x => match P.underlying s,P.underlying d,Y7 env g x with
    | some _,some (.int k),some (.one (.int _ (.c m))) => some (Eff.pure n (.one (.int k (.c (k.wrap m)))))
    | some _,some (.int k),some (.one (.int _ (.v m))) => some (Eff.pure n (.one (.int k (.v (k.wrap m)))))
    | _,_,_ => none
  | .fieldAddr t x f => match JSc (Y7 env g x) with
    | some (id,esz,i,off) => Jld P t f mem n id esz i off
    | none => match P.underlying t,Y7 env g x with
    | some (.struct fs),some (.one (.ptr id off)) => match fs.toList[f]? with
      | some fd => (match P.info? fd.type with
        | some i => (match JC mem id with
          | some (.blk _ _) => bif Nat.beq i.size 0 then none else some ⟨some (.one (.ptr id (off + fd.offset))),[id],[],[],[],[],n⟩
          | _ => none)
        | none => none)
      | none => none
    | _,_ => none
  | .field t x f => match P.underlying t,Y7 env g x with
    | some (.struct fs),some (.agg cs) => match fs.toList[f]? with
      | some fd => (match JEU P fd.type,P.info? fd.type with
        | some true,some i => (let r := Xp cs fd.offset i.size; bif Nat.beq r.length i.size then some (Eff.pure n (.agg r)) else none)
        | some false,some _ => (match Xp cs fd.offset 1 with
          | [c] => some (Eff.pure n (.one c))
          | _ => none)
        | _,_ => none)
      | none => none
    | _,_ => none
  | .extract x k => match Y7 env g x with
    | some (.tup vs) => match vs[k]? with
      | some (true,cs) => some (Eff.pure n (.agg cs))
      | some (false,[c]) => some (Eff.pure n (.one c))
      | _ => none
    | _ => none
  | .buildSlice t len ps => JjW P t len (JLE env g ps.toList) n
  | .indexAddr t x i => Jk9 P t (Y7 env g x) (Y7 env g i) mem n
  | .index t x i => match JsZ x with
    | some s => JaU P t s (Y7 env g i) n
    | none => Jjf P t (Y7 env g x) (Y7 env g i) n
  | .slice t x lo hi none => JMa P t (Y7 env g x) env g lo hi mem n
  | .makeSlice t x y => Jsv P t (Jes x y) (Y7 env g x) n
  | .makeFunc (.func f) ⟨[]⟩ caps => (args env g caps.toList).map (JvV n f)
  | .call c => match c.callee with
    | .builtin b => JWG P b c.argTypes.toList (args env g c.args.toList) mem n
    | .value f => match Jt7 (Y7 env g f) with
      | some (h,id) => (match args env g c.args.toList with
        | some vs => Jst ce mem n h id vs
        | none => none)
      | none => match Jrj (Y7 env g f) with
      | some (y,id) => (match args env g c.args.toList with
        | some vs => Jw5 ce mem n y id vs
        | none => none)
      | none => match Y7 env g f,args env g c.args.toList with
      | some (.one (.fn h)),some vs => Jqe P ce mem n h vs
      | _,_ => none
    | _ => none
  | _ => none
inductive Wt where
  | no | yes (g:List (Nat × Bool)) (gx:List (Bool × Bool)) | bad
def Jqw (ops:List Oper) (env:KP) (o:Oper):Wt :=
  match o.guard with
  | none => .yes [] []
  | some (j,w) => match (ops[j]?).bind (·.dst) with
    | none => .bad
    | some d => match JC env d with
      | none => .bad
      | some e => match e.val with
        | .one (.bool (.c b)) => bif (b == w) then .yes e.g e.gx else .no
        | .one (.bool (.v x)) => .yes ((d,w) :: e.g) ((x,w) :: e.gx)
        | _ => .bad
def JsW (env:KP) (g:List (Nat × Bool)) (c a b:Operand):Option SV :=
  match c with
  | .tmp d => match JC env d with
    | some e => bif JbF e.g g then (match e.val with
        | .one (.bool (.c x)) => bif x then Y7 env g a else Y7 env g b
        | .one (.bool (.v x)) => (match Y7 env ((d,true) :: g) a,Y7 env ((d,false) :: g) b with
          | some va,some vb => JQn x va vb
          | _,_ => none)
        | _ => none) else none
    | none => none
  | _ => none
def Jr6 (P:Program) (ce:CE) (o:Oper) (env:KP) (g:List (Nat × Bool)) (mem:Jo) (n:Nat):Option Eff :=
  match o.op with
  | .pick c a b => (JsW env g c a b).map (Eff.pure n)
  | _ => Jtj P ce o env g mem n
def Zv:Jo → List Nat → Jo
  | [],_ => []
  | (id,o) :: r,l => bif has l id then Zv r l else (id,o) :: Zv r l
def JJa (gx:List (Bool × Bool)):List Prop → List Prop
  | [] => []
  | p :: r => JAE gx p :: JJa gx r
def YR (n:Nat) (l:List Nat):Bool := List.rec (motive := fun _ => Bool) true (fun a _ ih => Nat.blt a n && ih) l
theorem JoJ (n:Nat):YR n [] = true := rfl
theorem JkO (n a:Nat) (r:List Nat):YR n (a :: r) = (Nat.blt a n && YR n r) := rfl
def JER (d:Nat) (l:List (Nat × Bool)):Bool := List.rec (motive := fun _ => Bool) true (fun p _ ih => !(Nat.beq p.1 d) && ih) l
theorem Jm1 (d:Nat):JER d [] = true := rfl
theorem Jgj (d:Nat) (p:Nat × Bool) (r:List (Nat × Bool)):JER d (p :: r) = (!(Nat.beq p.1 d) && JER d r) := rfl
def jn (d:Nat) (l:KP):Bool := List.rec (motive := fun _ => Bool) true (fun p _ ih => List.rec (motive := fun _ => Bool) ih (fun q r _ => Bool.rec false ih (JER d (q :: r))) p.2.g) l
theorem Jaq (d:Nat):jn d [] = true := rfl
theorem JaA (d k:Nat) (e:Ent) (r:KP):jn d ((k,e) :: r) = (JER d e.g && jn d r) := by
  obtain ⟨g,gx,tag,val⟩ := e
  cases g with
  | nil => rfl
  | cons q g =>
    show (Bool.rec false (jn d r) (JER d (q :: g)):Bool) = (JER d (q :: g) && jn d r)
    cases JER d (q :: g) <;> rfl
def W3:Jo → List Nat
  | [] => []
  | (id,o) :: r => id :: (K6 o ++ W3 r)
def JHt:List (Nat × Bool) → List Nat
  | [] => []
  | p :: r => p.1 :: JHt r
def Je:List Operand → List Nat
  | [] => []
  | .tmp t :: r => t :: Je r
  | _ :: r => Je r
def q0:List Nat → List Nat
  | [] => []
  | a :: r => 4 * a :: q0 r
def q1:List Nat → List Nat
  | [] => []
  | a :: r => (4 * a + 1) :: q1 r
def q2:List Nat → List Nat
  | [] => []
  | a :: r => (4 * a + 2) :: q2 r
def JL5 (n:Nat) (dom:List Nat) (l:List Nat):Bool := List.rec (motive := fun _ => Bool) true (fun a _ ih => (Nat.blt a n || has dom a) && ih) l
theorem Jpf (n:Nat) (dom:List Nat):JL5 n dom [] = true := rfl
theorem JkI (n:Nat) (dom:List Nat) (a:Nat) (r:List Nat):JL5 n dom (a :: r) = ((Nat.blt a n || has dom a) && JL5 n dom r) := rfl
def JpJ:Option SV → List Nat
  | some v => Ze v
  | none => []
structure FP where
  rs:List Nat
  ws:List Nat
  gs:List Nat
  ds:List Nat
structure RS where
  env:KP
  mem:Jo
  needs:List Prop
  eqs:jv
  n:Nat
  fps:List FP
def jR (ops:List Oper) (o:Oper):List Nat :=
  match o.guard with
  | none => []
  | some (j,_) => match (ops[j]?).bind (·.dst) with
    | some d => [d]
    | none => []
def JLb (ops:List Oper) (o:Oper) (g:List (Nat × Bool)) (e:Eff):List Nat := q0 (Je o.op.operands.toList ++ (jR ops o ++ JHt g)) ++ (q1 e.rd ++ q2 (JpJ e.val ++ W3 e.ups))
def JR9 (o:Oper):List Nat := match o.dst with | some d => [d] | none => []
def Jne (n:Nat) (l:List Nat):List Nat := List.rec (motive := fun _ => List Nat) [] (fun a _ ih => Bool.rec (a :: ih) ih (Nat.blt a n)) l
theorem Jbe {n id:Nat}:∀ {l:List Nat},id ∈ l → n ≤ id → id ∈ Jne n l
  | a :: r,h,hn => by
    show id ∈ (Bool.rec (a :: Jne n r) (Jne n r) (Nat.blt a n):List Nat)
    rcases List.mem_cons.1 h with rfl | h
    · have:Nat.blt id n = false := by
        cases hb:Nat.blt id n
        · rfl
        · rw [Nat.blt_eq] at hb; omega
      rw [this]; simp
    · have := Jbe h hn
      cases Nat.blt a n
      · exact List.mem_cons_of_mem _ this
      · exact this
def JHw (n:Nat) (o:Oper) (e:Eff):List Nat := q0 (JR9 o) ++ (q1 (e.touched ++ domain e.ups) ++ q2 (Jne n (domain e.ups)))
def Jso:RowC → RowC → Option jv
  | .lit _ a,.lit _ b => some [(.v (JUO a),.v (JUO b))]
  | .lst _ ks xs,.lst _ js ys => bif WC ks js then some [(.l xs,.l ys)] else none
  | .lit _ [],.lst _ _ ys => some [(.l [],.l ys)]
  | .lst _ _ xs,.lit _ [] => some [(.l xs,.l [])]
  | _,_ => none
def Jfl:Obj → Obj → Option jv
  | .blk t x,.blk u y => bif Nat.beq t u then JMc x y else none
  | .row p t m x,.row q u k y => bif (p == q) && (Nat.beq t u && Nat.beq m k) then Jso x y else none
  | _,_ => none
def JNh (mem ups:Jo):List Nat → Option jv
  | [] => some []
  | id :: r => match JC mem id,JC ups id with
    | some o,some o' => (match Jfl o o',JNh mem ups r with
      | some a,some b => some (a ++ b)
      | _,_ => none)
    | _,_ => none
def JmJ (g:List (Nat × Bool)) (n:Nat) (e:Eff) (mem:Jo):Option jv :=
  match g with
  | [] => some []
  | _ => bif (match e.val with | some v => YR n (Ze v) | none => false) then JNh mem e.ups e.touched else none
structure Fx where
  dst:Option Nat
  ent:Option Ent
  touched:List Nat
  ups:Jo
def Fx.env (x:Fx) (env:KP):KP :=
  match x.dst with
  | some d => (match x.ent with | some e => put env d e | none => rem env d)
  | none => env
def Fx.mem (x:Fx) (mem:Jo):Jo := x.ups ++ Zv mem (x.touched ++ domain x.ups)
def JbO (nt:Nat) (o:Oper) (env:KP):Bool := match o.dst with | some d => Nat.blt d nt && jn d env | none => true
def JUZ (o:Oper) (g:List (Nat × Bool)):Bool := match o.dst with | some d => JER d g | none => true
def JI7 (o:Oper) (g:List (Nat × Bool)) (gx:List (Bool × Bool)) (e:Eff) (mem:Jo):Fx :=
  match g with
  | [] => ⟨o.dst,e.val.map fun v => ⟨[],[],e.nx,v⟩,e.touched,e.ups⟩
  | _ => ⟨o.dst,e.val.map fun v => ⟨g,gx,e.nx,v⟩,e.touched,JG mem e.touched⟩
def JfO (P:Program) (ce:CE) (nt:Nat) (ops:List Oper) (o:Oper) (s:RS):Option RS :=
  bif JbO nt o s.env then
  (match Jqw ops s.env o with
  | .bad => none
  | .no => some { s with env := (Fx.mk o.dst none [] []).env s.env,fps := s.fps ++ [⟨q0 (jR ops o),q0 (JR9 o),[],JR9 o⟩] }
  | .yes g gx => match Jr6 P ce o s.env g s.mem s.n with
    | none => none
    | some e => match JmJ g s.n e s.mem with
      | none => none
      | some q => bif Nat.ble s.n e.nx && (JUZ o g && JL5 0 e.rd e.touched && (JL5 s.n (domain e.ups) (JpJ e.val ++ W3 e.ups) && YR e.nx (domain e.ups))) then
        some { env := (JI7 o g gx e s.mem).env s.env,mem := (JI7 o g gx e s.mem).mem s.mem,needs := s.needs ++ JJa gx e.needs,eqs := s.eqs ++ (e.eqs ++ q),n := e.nx + 1,
               fps := s.fps ++ [⟨JLb ops o g e,JHw s.n o e,JHt g,JR9 o⟩] }
      else none)
  else none
def JDV (P:Program) (ce:CE) (nt:Nat) (ops:List Oper):List Oper → RS → Option RS
  | [],s => some s
  | o :: r,s => match JfO P ce nt ops o s with
    | some s' => JDV P ce nt ops r s'
    | none => none
inductive SX where
  | normal | exit (id:Nat) | ret
def SX.eq:SX → SX → Bool
  | .normal,.normal => true
  | .ret,.ret => true
  | .exit a,.exit b => Nat.beq a b
  | _,_ => false
inductive Tree where
  | leaf (e:SX) (env:KP) (mem:Jo)
  | ite (c:Bool) (a b:Tree)
structure TR where
  t:Tree
  needs:List Prop
  eqs:jv
  n:Nat
def JlV:List Prop → Prop
  | [] => True
  | [p] => p
  | p :: r => p ∧ JlV r
def JHs (p:Prop):List Prop → List Prop
  | [] => []
  | q :: r => [p → JlV (q :: r)]
def JLP (k:KP → Jo → Nat → Option TR):Tree → Nat → Option TR
  | .leaf .normal env mem,n => k env mem n
  | .leaf e env mem,n => some ⟨.leaf e env mem,[],[],n⟩
  | .ite c a b,n => match JLP k a n with
    | none => none
    | some x => match JLP k b x.n with
      | none => none
      | some y => some ⟨.ite c x.t y.t,JHs (c = true) x.needs ++ JHs (c = false) y.needs,x.eqs ++ y.eqs,y.n⟩
def JuA (id:Nat):Tree → Tree
  | .leaf (.exit i) env mem => bif Nat.beq i id then .leaf .normal env mem else .leaf (.exit i) env mem
  | .leaf e env mem => .leaf e env mem
  | .ite c a b => .ite c (JuA id a) (JuA id b)
def KT:Tree → Nat → Tree × jv × Nat
  | .leaf e env mem,n => (.leaf e env mem,[],n)
  | .ite c a b,n => match KT a n with
    | (a',qa,n1) => match KT b n1 with
      | (b',qb,n2) => match a',b' with
        | .leaf e env mem,.leaf f env' mem' => bif SX.eq e f && !(JYm env env' || Jac mem mem') then
            (match qH c n2 env env' with
            | (v,q1,n3) => match YA c n3 mem mem' with
              | (m,q2,n4) => (.leaf e v m,qa ++ qb ++ q1 ++ q2,n4))
          else (.ite c a' b',qa ++ qb,n2)
        | _,_ => (.ite c a' b',qa ++ qb,n2)
def JEW (l:List Nat):Nat := List.rec (motive := fun _ => Nat) 0 (fun a _ ih => Nat.lor (2 ^ a) ih) l
theorem JtG:JEW [] = 0 := rfl
theorem JqB (a:Nat) (r:List Nat):JEW (a :: r) = Nat.lor (2 ^ a) (JEW r) := rfl
def JAw (keep:Nat):KP → KP
  | [] => []
  | (t,e) :: r => bif keep.testBit t then (match e.g with | [] => (t,e) :: JAw keep r | _ => del (JAw keep r) t) else del (JAw keep r) t
def JOk (acc:List Nat):List Edge → Nat
  | [] => 0
  | e :: r => bif Region.binds .any e then (2 ^ e.on ||| acc.getD e.on 0) ||| JOk acc r else JOk acc r
def Yr:List Oper → List Nat → List Nat
  | [],acc => acc
  | o :: r,acc => Yr r (acc ++ [JOk acc o.after.toList])
def JnH (n:Nat):List Edge → Bool
  | [] => true
  | e :: r => (!(Region.binds .any e) || Nat.blt e.on n) && JnH n r
def Jhn:Nat → List Oper → Bool
  | _,[] => true
  | n,o :: r => JnH n o.after.toList && Jhn (n + 1) r
def clash (a b:FP):Bool := YS a.ws b.rs || (YS a.ws b.ws || YS a.rs b.ws)
structure FM where
  rs:Nat
  ws:Nat
  gs:Nat
  ds:Nat
def fm (a:FP):FM := ⟨JEW a.rs,JEW a.ws,JEW a.gs,JEW a.ds⟩
def Jbh (a b:Nat):Bool := Nat.beq (Nat.land a b) 0
def JmB (a b:FM):Bool := !(Jbh a.ws (Nat.lor b.rs b.ws) && Jbh a.rs b.ws)
def JuR (b:FM) (m:Nat):List FM → Nat → Bool
  | [],_ => true
  | a :: r,i => (m.testBit i || !JmB a b) && (Jbh a.gs b.ds && JuR b m r (i + 1))
def JRs:List FM → List FM → List Nat → Bool
  | _,[],_ => true
  | done,b :: r,m :: ms => JuR b m done 0 && JRs (done ++ [b]) r ms
  | _,_ :: _,[] => false
abbrev QH := KP → Jo → Nat → Option TR
def JCl:Code → Option Nat
  | .region id _ _ => some id
  | .seq a b => match JCl a with | some i => some i | none => JCl b
  | .cond _ a b => match JCl a with | some i => some i | none => JCl b
  | .block _ b => JCl b
  | .loop b => JCl b
  | _ => none
def ZH:Code → List Code
  | .seq a b => ZH a ++ ZH b
  | .cond _ a b => ZH a ++ ZH b
  | .block _ b => ZH b
  | .loop b => b :: ZH b
  | _ => []
structure Cfg where
  keep:Nat
  nt:Nat
  fuel:Nat
  loops:Nat → Option QH
def Jsz (cfg:Cfg) (b:Code) (u:QH) (env:KP) (mem:Jo) (n:Nat):Option TR :=
  match (JCl b).bind cfg.loops with
  | some s => (match s env mem n with
    | some r => some r
    | none => u env mem n)
  | none => u env mem n
def Jej (P:Program) (ce:CE) (cfg:Cfg) (ops:List Oper) (draw:Bool) (env:KP) (mem:Jo) (n:Nat):Option TR :=
  match JDV P ce cfg.nt ops ops ⟨env,mem,[],[],n,[]⟩ with
  | some s => bif !draw || (Jhn 0 ops && (P.follows .mixedOrders && JRs [] (s.fps.map fm) (Yr ops []))) then some ⟨.leaf .normal (JAw cfg.keep s.env) s.mem,s.needs,s.eqs,s.n⟩ else none
  | none => none
def Jc9 (body:KP → Jo → Nat → Option TR):Nat → KP → Jo → Nat → Option TR
  | 0,_,_,_ => none
  | k + 1,env,mem,n => match body env mem n with
    | none => none
    | some x => match KT x.t x.n with
      | (t,q,n1) => match JLP (Jc9 body k) t n1 with
        | none => none
        | some y => some ⟨y.t,x.needs ++ y.needs,x.eqs ++ q ++ y.eqs,y.n⟩
def YH (P:Program) (ce:CE) (cfg:Cfg):Code → KP → Jo → Nat → Option TR
  | .skip,env,mem,n => some ⟨.leaf .normal env mem,[],[],n⟩
  | .region _ ops draw,env,mem,n => Jej P ce cfg ops.toList draw env mem n
  | .seq a b,env,mem,n => match YH P ce cfg a env mem n with
    | none => none
    | some x => match KT x.t x.n with
      | (t,q,n1) => match JLP (YH P ce cfg b) t n1 with
        | none => none
        | some y => some ⟨y.t,x.needs ++ y.needs,x.eqs ++ q ++ y.eqs,y.n⟩
  | .cond c a b,env,mem,n => match Y7 env [] c with
    | some (.one (.bool (.c x))) => bif x then YH P ce cfg a env mem n else YH P ce cfg b env mem n
    | some (.one (.bool (.v x))) => match YH P ce cfg a env mem n with
      | none => (match YH P ce cfg b env mem n with
        | none => none
        | some z => some { z with needs := (x = false) :: z.needs })
      | some y => match YH P ce cfg b env mem y.n with
        | none => some { y with needs := (x = true) :: y.needs }
        | some z => some ⟨.ite x y.t z.t,JHs (x = true) y.needs ++ JHs (x = false) z.needs,y.eqs ++ z.eqs,z.n⟩
    | _ => none
  | .block id b,env,mem,n => match YH P ce cfg b env mem n with
    | none => none
    | some x => some { x with t := JuA id x.t }
  | .exit id,env,mem,n => some ⟨.leaf (.exit id) env mem,[],[],n⟩
  | .ret,env,mem,n => some ⟨.leaf .ret env mem,[],[],n⟩
  | .loop b,env,mem,n => Jsz cfg b (Jc9 (YH P ce cfg b) cfg.fuel) env mem n
  | .rangeFunc ..,_,_,_ => none
  | .scope _,_,_,_ => none
  | .label _,_,_,_ => none
  | .goto _,_,_,_ => none
  | .refuse _,_,_,_ => none
def JU6:List Oper → List Nat → List Nat
  | [],_ => []
  | o :: r,d => (Je o.op.operands.toList).filter (fun t => !has d t) ++ JU6 r (match o.dst with | some t => t :: d | none => d)
def YM:Code → List Nat
  | .region _ ops _ => JU6 ops.toList []
  | .seq a b => YM a ++ YM b
  | .cond c a b => Je [c] ++ (YM a ++ YM b)
  | .block _ b => YM b
  | .loop b => YM b
  | _ => []
def JEu:List ResultVar → List Nat
  | [] => []
  | .tmp t :: r => t :: JEu r
  | .cell t _ :: r => t :: JEu r
def JVA (P:Program) (env:KP) (mem:Jo):ResultVar → Option (Bool × List SC)
  | .tmp t => match JC env t with
    | some e => match e.g,e.val with
      | [],.one c => some (false,[c])
      | [],.agg cs => some (true,cs)
      | _,_ => none
    | none => none
  | .cell t ty => match JC env t,JEU P ty,P.info? ty with
    | some e,some a,some i => match e.g,e.val with
      | [],.one (.ptr id off) => match JC mem id with
        | some (.blk _ cs) => bif a then (let r := QV (Xp cs off i.size); bif Nat.beq r.length i.size then some (true,r) else none)
            else (match Xp cs off 1 with | [(_,c)] => some (false,[c]) | _ => none)
        | _ => none
      | _,_ => none
    | _,_,_ => none
def JFu (P:Program) (env:KP) (mem:Jo):List ResultVar → Option (List (Bool × List SC))
  | [] => some []
  | r :: rs => match JVA P env mem r,JFu P env mem rs with
    | some x,some xs => some (x :: xs)
    | _,_ => none
def JiN:List (Bool × List SC) → Option SV
  | [(true,cs)] => some (.agg cs)
  | [(false,[c])] => some (.one c)
  | [_] => none
  | l => some (.tup l)
def JNu (mem:Jo) (n0:Nat):SC → Option (Option (Nat × Nat × Nat × RowC))
  | .nilsl => some none
  | .wh id => match JC mem id with
    | some (.row false ty m r) => bif Nat.ble n0 id then some (some (id,ty,m,r)) else none
    | _ => none
  | _ => none
structure Picked where
  ty:Nat
  esz:Nat
  r:RowC
  gone:List Nat
  eqs:jv
  n:Nat
def JUr (c:Bool) (n0 n:Nat) (m m':Jo) (x y:SC):Option Picked :=
  match JNu m n0 x,JNu m' n0 y with
  | some (some (i,ty,k,r)),some (some (j,ty',k',r')) => bif Nat.beq ty ty' && Nat.beq k k' then (JRX c n r r').map (fun (z,q,n') => ⟨ty,k,z,[i,j],q,n'⟩) else none
  | some (some (i,ty,k,r)),some none => bif Nat.blt 0 k then (JRX c n r (.lit n [])).map (fun (z,q,n') => ⟨ty,k,z,[i],q,n'⟩) else none
  | some none,some (some (j,ty,k,r)) => bif Nat.blt 0 k then (JRX c n (.lit n []) r).map (fun (z,q,n') => ⟨ty,k,z,[j],q,n'⟩) else none
  | _,_ => none
def Jla (c:Bool) (n0 n:Nat) (m m':Jo):SV → SV → Option (SV × Picked)
  | .one x,.one y => (JUr c n0 n m m' x y).map fun p => (.one (.wh p.n),p)
  | .tup ((false,[x]) :: r),.tup ((false,[y]) :: s) => match JUr c n0 n m m' x y,JIt c r s with
    | some p,some t => bif (KZ t).isEmpty then some (.tup ((false,[.wh p.n]) :: t),p) else none
    | _,_ => none
  | _,_ => none
def Ji1:List (Nat × SC) → List (Nat × SC) → Nat → Option Nat
  | (_,x) :: r,(_,y) :: s,j => bif JmC x y then some j else Ji1 r s (j + 1)
  | _,_,_ => none
def Jfw:Jo → Jo → Option (Nat × Nat)
  | [],_ => none
  | (b,o) :: r,s => match (match o,JC s b with
      | .blk _ x,some (.blk _ y) => Ji1 x y 0
      | _,_ => none) with
    | some j => some (b,j)
    | none => Jfw r s
def JtB (m:Jo) (b j:Nat):Option (Nat × Nat) :=
  match JC m b with
  | some (.blk _ cs) => match cs.drop j with
    | (_,.wh a) :: _ => match JC m a with
      | some (.row false ty k _) => some (ty,k)
      | _ => none
    | _ => none
  | _ => none
def JOy (m:Jo) (b j p e k:Nat):Option Jo :=
  match JC m b with
  | some (.blk ty cs) => match cs.drop j with
    | (_,x) :: r => match JNu m 0 x with
      | some none => some (put ((p,.row false e k (.lit (p + 1) [])) :: Zv m [p]) b (.blk ty (cs.take j ++ (p + 2,.wh p) :: r)))
      | some (some (i,e',k',z)) => bif Nat.beq e' e && Nat.beq k' k then some (put ((p,.row false e k z) :: Zv m [p,i]) b (.blk ty (cs.take j ++ (p + 2,.wh p) :: r))) else none
      | none => none
    | [] => none
  | _ => none
def Jd2 (mem:Jo):SC → Option (Option (Nat × Nat × Nat × Bool × RowC))
  | .nilsl => some none
  | .wh id => match JC mem id with
    | some (.row ro ty m r) => some (some (id,ty,m,ro,r))
    | _ => none
  | _ => none
def JV4 (m:Jo) (b j p e k:Nat):Option Jo :=
  match JC m b with
  | some (.blk ty cs) => match cs.drop j with
    | (_,x) :: r => match Jd2 m x with
      | some none => some (put ((p,.row true e k (.lit (p + 1) [])) :: Zv m [p]) b (.blk ty (cs.take j ++ (p + 2,.wh p) :: r)))
      | some (some (i,e',k',ro,z)) => bif Nat.beq e' e && Nat.beq k' k then some (put ((p,.row true e k z) :: Zv m (p :: bif ro then [] else [i])) b (.blk ty (cs.take j ++ (p + 2,.wh p) :: r))) else none
      | none => none
    | [] => none
  | _ => none
def JtI (m:Jo) (b j:Nat):Option (Nat × Nat) :=
  match JC m b with
  | some (.blk _ cs) => match cs.drop j with
    | (_,.wh a) :: _ => match JC m a with
      | some (.row true ty k _) => some (ty,k)
      | _ => none
    | _ => none
  | _ => none
def JQW (ro:Bool) (m:Jo) (b j p e k:Nat):Option Jo := bif ro then JV4 m b j p e k else JOy m b j p e k
def JrU (m m':Jo) (b j:Nat):Option (Bool × Nat × Nat) :=
  match JtI m b j,JtI m' b j with
  | some (e,k),_ => some (true,e,k)
  | none,some (e,k) => some (true,e,k)
  | none,none => match JtB m b j with
    | some (e,k) => some (false,e,k)
    | none => match JtB m' b j with
      | some (e,k) => some (false,e,k)
      | none => none
def JCg:Nat → Jo → Jo → Nat → Jo × Jo × Nat
  | 0,m,m',n => (m,m',n)
  | f + 1,m,m',n => match Jfw m m' with
    | none => (m,m',n)
    | some (b,j) => match JrU m m' b j with
      | none => (m,m',n)
      | some (ro,e,k) => bif Nat.blt 0 k then (match JQW ro m b j n e k,JQW ro m' b j n e k with
        | some m1,some m2 => JCg f m1 m2 (n + 3)
        | _,_ => (m,m',n)) else (m,m',n)
def JPF (v v':SV) (m m':Jo) (n:Nat):Jo × Jo × Nat := bif YR n (Ze v) && YR n (Ze v') then JCg 8 m m' n else (m,m',n)
def JwZ (c:Bool) (n0:Nat) (v v':SV):Nat := match JQn c v v' with
  | some _ => n0
  | none => 0
def JIO (P:Program) (n0:Nat) (rs:List ResultVar):Tree → Nat → Option (SV × Jo × jv × Nat)
  | .leaf (.exit _) _ _,_ => none
  | .leaf _ env mem,n => match (JFu P env mem rs).bind JiN with
    | some v => some (v,mem,[],n)
    | none => none
  | .ite c a b,n => match JIO P n0 rs a n with
    | none => none
    | some (v,m0,q,n1) => match JIO P n0 rs b n1 with
      | none => none
      | some (v',m0',q',n2') => match JPF v v' m0 m0' n2' with
      | (m,m',n2) => match Jla c (JwZ c n0 v v') n2 m m' v v' with
        | some (z,p) => (match YA c (p.n + 1) m m' with
          | (mm,q'',n3) => some (z,(p.n,.row false p.ty p.esz p.r) :: Zv mm (p.n :: p.gone),q ++ q' ++ p.eqs ++ q'',n3))
        | none => match JQn c v v' with
          | none => none
          | some z => match YA c n2 m m' with
            | (mm,q'',n3) => some (z,mm,q ++ q' ++ q'',n3)
def JH3:List SV → Nat → KP
  | [],_ => []
  | v :: r,t => (t,⟨[],[],2 * t,v⟩) :: JH3 r (t + 1)
def JcX (P:Program) (ce:CE) (fuel:Nat) (L:Nat → Option QH) (f:FuncId) (vs:List SV) (mem:Jo) (n:Nat):Option CRes :=
  bif Nat.ble 1000000 f then none else match P.funcs[f]? with
  | none => none
  | some fn => match fn.body with
    | none => none
    | some body => bif Nat.ble vs.length fn.ntmps then
      (match YH P ce ⟨JEW (YM body ++ JEu fn.results.toList),fn.ntmps,fuel,L⟩ body (JH3 vs 0) mem n with
      | none => none
      | some x => match JIO P n fn.results.toList x.t x.n with
        | none => none
        | some (v,m,q,n') => bif Nat.ble n n' then
            some ⟨v,JG m (Kc m 3 (Yb (domain mem) (Ze v))),x.needs,x.eqs ++ q,n'⟩ else none) else none
def Kb:List Nat → Nat → Nat → Nat
  | [],n,i => n + i
  | a :: _,_,0 => a
  | _ :: r,n,i + 1 => Kb r (n + 1) i
def KA (l:List Nat) (id k:Nat):Nat := List.rec (motive := fun _ => Nat → Nat) (fun _ => 0) (fun a _ ih k => Bool.rec (ih (k + 1)) k (Nat.beq a id)) l k
theorem Jc1 (id k:Nat):KA [] id k = 0 := rfl
theorem JZt (a:Nat) (r:List Nat) (id k:Nat):KA (a :: r) id k = bif Nat.beq a id then k else KA r id (k + 1) := by
  show (Bool.rec (KA r id (k + 1)) k (Nat.beq a id):Nat) = _
  cases Nat.beq a id <;> rfl
def SC.ren (f:Nat → Nat):SC → SC
  | .ptr id off => .ptr (f id) off
  | .eptr id esz i off => .eptr (f id) esz i off
  | .wh id => .wh (f id)
  | .sl id esz off len => .sl (f id) esz off len
  | .clo g id => .clo g (f id)
  | .int k n => .int k n
  | .bool b => .bool b
  | .nilp => .nilp
  | .nilsl => .nilsl
  | .fn g => .fn g
  | .yld g id => .yld g (f id)
  | .nilf => .nilf
def JxG (f:Nat → Nat) (c:SC) (l:List SC):List SC := match c with
  | .ptr id off => .ptr (f id) off :: l
  | .eptr id esz i off => .eptr (f id) esz i off :: l
  | .wh id => .wh (f id) :: l
  | .sl id esz off len => .sl (f id) esz off len :: l
  | .clo g id => .clo g (f id) :: l
  | .int k n => .int k n :: l
  | .bool b => .bool b :: l
  | .nilp => .nilp :: l
  | .nilsl => .nilsl :: l
  | .fn g => .fn g :: l
  | .yld g id => .yld g (f id) :: l
  | .nilf => .nilf :: l
def JSe (f:Nat → Nat) (l:List SC):List SC := List.rec (motive := fun _ => List SC) [] (fun c _ ih => JxG f c ih) l
theorem JSE (f:Nat → Nat):JSe f [] = [] := rfl
theorem JM5 (f:Nat → Nat) (c:SC) (r:List SC):JSe f (c :: r) = c.ren f :: JSe f r := by cases c <;> rfl
def JSW (f:Nat → Nat):List (Bool × List SC) → List (Bool × List SC)
  | [] => []
  | (b,cs) :: r => (b,JSe f cs) :: JSW f r
def SV.ren (f:Nat → Nat):SV → SV
  | .one c => .one (c.ren f)
  | .agg cs => .agg (JSe f cs)
  | .tup vs => .tup (JSW f vs)
def JUA (f:Nat → Nat):List SV → List SV
  | [] => []
  | v :: r => v.ren f :: JUA f r
def JxE (f:Nat → Nat) (t:Nat) (c:SC) (l:List (Nat × SC)):List (Nat × SC) := match c with
  | .ptr id off => (t,.ptr (f id) off) :: l
  | .eptr id esz i off => (t,.eptr (f id) esz i off) :: l
  | .wh id => (t,.wh (f id)) :: l
  | .sl id esz off len => (t,.sl (f id) esz off len) :: l
  | .clo g id => (t,.clo g (f id)) :: l
  | .int k n => (t,.int k n) :: l
  | .bool b => (t,.bool b) :: l
  | .nilp => (t,.nilp) :: l
  | .nilsl => (t,.nilsl) :: l
  | .fn g => (t,.fn g) :: l
  | .yld g id => (t,.yld g (f id)) :: l
  | .nilf => (t,.nilf) :: l
def JrA (f g:Nat → Nat) (l:List (Nat × SC)):List (Nat × SC) := List.rec (motive := fun _ => List (Nat × SC)) [] (fun p _ ih => JxE f (g p.1) p.2 ih) l
theorem Jr3 (f g:Nat → Nat):JrA f g [] = [] := rfl
theorem Joo (f g:Nat → Nat) (t:Nat) (c:SC) (r:List (Nat × SC)):JrA f g ((t,c) :: r) = (g t,c.ren f) :: JrA f g r := by cases c <;> rfl
def JxA (g:Nat → Nat):RowC → RowC
  | .lit t rows => .lit (g t) rows
  | .lst t ks xs => .lst (g t) ks xs
def Obj.ren (f g:Nat → Nat):Obj → Obj
  | .blk ty cs => .blk ty (JrA f g cs)
  | .row ro ty esz r => .row ro ty esz (JxA g r)
  | .clo cs => .clo (JUA f cs)
  | .raw b rs t L k => .raw b (rs.map f) (g t) L k
def JEc (f g:Nat → Nat):Jo → Jo
  | [] => []
  | (id,o) :: r => (f id,o.ren f g) :: JEc f g r
def Jvj:List (Nat × SC) → List Nat
  | [] => []
  | (t,_) :: r => t :: Jvj r
def Jwy:RowC → List Nat
  | .lit t _ => [t]
  | .lst t _ _ => [t]
def JxD:Obj → List Nat
  | .blk _ cs => Jvj cs
  | .row _ _ _ r => Jwy r
  | .clo _ => []
  | .raw _ _ t _ _ => [t]
def Jte:Jo → List Nat
  | [] => []
  | (_,o) :: r => JxD o ++ Jte r
def JMo:List Nat → Bool
  | [] => true
  | a :: r => !has r a && JMo r
def JKT (mem:Jo):List Nat → Jo
  | [] => []
  | id :: r => match JC mem id with
    | some o => (id,o) :: JKT mem r
    | none => JKT mem r
def JiC (g:List SV → Jo → Nat → Option CRes) (vs:List SV) (mem:Jo) (n:Nat):Option CRes :=
  let I := Yb (Yb [] (Qg vs)) (W3 mem)
  let M := JKT mem I
  let T := Yb [] (Jte M)
  let k := I.length
  let nc := k + T.length
  bif JMo I && YR n I then
    (match g (JUA (fun id => KA I id 0) vs) (JEc (fun id => KA I id 0) (fun t => KA T t k) M) nc with
    | some r => some ⟨r.val.ren (Kb I n),JEc (Kb I n) (fun t => bif Nat.blt t nc then (bif Nat.blt t k then n + t else Kb T n (t - k)) else n + t) r.mem,r.needs,r.eqs,n + r.nx⟩
    | none => none)
  else none
abbrev JW := List SV → Jo → Nat → Option CRes
def Jkd (s:Option JW) (g:JW) (vs:List SV) (mem:Jo) (n:Nat):Option CRes :=
  match s with
  | some s => (match s vs mem n with
    | some r => some r
    | none => g vs mem n)
  | none => g vs mem n
def Jbt (P:Program) (S:FuncId → Option JW) (L:FuncId → Nat → Option QH) (fuel:Nat):Nat → CE
  | 0 => fun _ _ _ _ => none
  | k + 1 => fun f => JiC (Jkd (S f) (JcX P (Jbt P S L fuel k) fuel (L f) f))
abbrev Sub := List (Nat × Option Nat)
structure MR where
  sub:Sub
  needs:List Prop
  eqs:jv
def JT3 (n0:Nat) (a:Nat) (b:Option Nat) (m:MR):Option MR :=
  bif Nat.blt a n0 then (match b with
    | some b => bif Nat.beq a b then some m else none
    | none => none)
  else match JC m.sub a with
    | none => some { m with sub := (a,b) :: m.sub }
    | some b' => (match b,b' with
      | some x,some y => bif Nat.beq x y then some m else none
      | none,none => some m
      | _,_ => none)
def Jn5 (same:Bool) (k:IntKind) (x y:SI) (m:MR):MR :=
  match x,y with
  | .c a,.c b => bif decide (a = b) then m else { m with needs := m.needs ++ [a = b] }
  | x,y => bif same then { m with eqs := m.eqs ++ [(.v (.one (.int k x)),.v (.one (.int k y)))] } else { m with needs := m.needs ++ [x.val = y.val] }
def Jnd (same:Bool) (x y:SB) (m:MR):MR :=
  match x,y with
  | .c a,.c b => bif (a == b) then m else { m with needs := m.needs ++ [a = b] }
  | x,y => bif same then { m with eqs := m.eqs ++ [(.v (.one (.bool x)),.v (.one (.bool y)))] } else { m with needs := m.needs ++ [x.val = y.val] }
def Jah (x y:SN) (m:MR):MR :=
  match x,y with
  | .c a,.c b => bif Nat.beq a b then m else { m with needs := m.needs ++ [a = b] }
  | x,y => { m with needs := m.needs ++ [x.val = y.val] }
def JOI (a b:Nat):Bool := Nat.beq a b && Nat.blt a 1000000000
def JYP (n0:Nat) (same:Bool) (x y:SC) (m:MR):Option MR :=
  match x,y with
  | .int k x,.int j y => bif Wk k j then some (Jn5 same k x y m) else none
  | .bool x,.bool y => some (Jnd same x y m)
  | .ptr a o,.ptr b p => bif Nat.beq o p then JT3 n0 a (some b) m else none
  | .wh a,.wh b => JT3 n0 a (some b) m
  | .wh a,.nilsl => JT3 n0 a none m
  | .sl a e o l,.sl b f p k => bif Nat.beq e f then JT3 n0 a (some b) (Jah l k (Jah o p m)) else none
  | .eptr a e i o,.eptr b f j p => bif Nat.beq e f && Nat.beq o p then JT3 n0 a (some b) (Jah i j m) else none
  | .clo f a,.clo h b => bif Nat.beq f h then JT3 n0 a (some b) m else none
  | .nilp,.nilp => some m
  | .nilsl,.nilsl => some m
  | .fn f,.fn h => bif Nat.beq f h then some m else none
  | _,_ => none
def JNF (n0:Nat) (same:Bool):List SC → List SC → MR → Option MR
  | [],[],m => some m
  | x :: r,y :: s,m => match JYP n0 same x y m with
    | some m' => JNF n0 same r s m'
    | none => none
  | _,_,_ => none
def Jct (n0:Nat) (same:Bool) (x y:SV) (m:MR):Option MR :=
  match x,y with
  | .one x,.one y => JYP n0 same x y m
  | .agg x,.agg y => JNF n0 same x y m
  | _,_ => none
def JUb (n0:Nat):List SV → List SV → MR → Option MR
  | [],[],m => some m
  | x :: r,y :: s,m => match Jct n0 false x y m with
    | some m' => JUb n0 r s m'
    | none => none
  | _,_,_ => none
def Jcz (n0:Nat):List (Nat × SC) → List (Nat × SC) → MR → Option MR
  | [],[],m => some m
  | (a,x) :: r,(b,y) :: s,m => match JYP n0 (JOI a b) x y m with
    | some m' => Jcz n0 r s m'
    | none => none
  | _,_,_ => none
def Jfc (n0:Nat):KP → KP → MR → Option MR
  | [],_,m => some m
  | (t,e) :: r,env,m => match JC env t with
    | none => none
    | some f => match e.g,f.g with
      | [],[] => (match Jct n0 (JOI e.tag f.tag) e.val f.val m with
        | some m' => Jfc n0 r env m'
        | none => none)
      | _,_ => none
def JKB (n0:Nat) (same:Bool):List (List SC) → List (List SC) → MR → Option MR
  | [],[],m => some m
  | x :: r,y :: s,m => match JCd x,JNF n0 same x y m with
    | some _,some m' => JKB n0 same r s m'
    | _,_ => none
  | _,_,_ => none
def JkD (n0:Nat) (x y:RowC) (m:MR):Option MR :=
  match x,y with
  | .lst t ks xs,.lst u js ys => bif WC ks js then (bif JOI t u then some { m with eqs := m.eqs ++ [(.l xs,.l ys)] } else some { m with needs := m.needs ++ [xs = ys] }) else none
  | .lst _ ks xs,.lit _ rows => match qD ks rows with
    | some ys => some { m with needs := m.needs ++ [xs = ys] }
    | none => none
  | .lit t a,.lit u b => JKB n0 (JOI t u) a b m
  | _,_ => none
def JiZ (n0:Nat) (x y:Obj) (m:MR):Option MR :=
  match x,y with
  | .blk t x,.blk u y => bif Nat.beq t u then Jcz n0 x y m else none
  | .row p t e x,.row q u f y => bif (p == q) && (Nat.beq t u && Nat.beq e f) then JkD n0 x y m else none
  | .clo x,.clo y => JUb n0 x y m
  | _,_ => none
def JWf (n0:Nat):Jo → Jo → MR → Option MR
  | [],_,m => some m
  | (id,o) :: r,mem,m => match (bif Nat.blt id n0 then some (some id) else JC m.sub id) with
    | none => none
    | some none => (match o with
      | .row false _ esz (.lst _ _ xs) => bif Nat.blt 0 esz then JWf n0 r mem { m with needs := m.needs ++ [xs = []] } else none
      | _ => none)
    | some (some b) => match JC mem b with
      | none => none
      | some p => match JiZ n0 o p m with
        | some m' => JWf n0 r mem m'
        | none => none
def jg:Sub → List Nat
  | [] => []
  | (_,some b) :: r => b :: jg r
  | (_,none) :: r => jg r
def Ja8:KP → Bool
  | [] => true
  | (_,e) :: r => (e.g.isEmpty && e.gx.isEmpty) && Ja8 r
def JZh:KP → List Nat
  | [] => []
  | (_,e) :: r => Ze e.val ++ JZh r
def JMk (n0:Nat):Jo → List Nat
  | [] => []
  | (id,_) :: r => bif Nat.blt id n0 then id :: JMk n0 r else JMk n0 r
def JYd (n0 N:Nat) (E:KP) (M:Jo) (env:KP) (mem:Jo):Option (List Prop × jv) :=
  bif Ja8 E && (YR N (JZh E) && YR N (W3 M)) then
    (match Jfc n0 E env ⟨[],[],[]⟩ with
    | none => none
    | some m => match JWf n0 M mem m with
      | none => none
      | some m' => bif JMo (jg m'.sub) && !(YS (jg m'.sub) (JMk n0 M)) then some (m'.needs,m'.eqs) else none)
  else none
def JPp (n0 N:Nat) (e:SX) (env:KP) (mem:Jo):Tree → Option (List Prop × jv)
  | .leaf f E M => bif SX.eq e f then JYd n0 N E M env mem else some ([False],[])
  | .ite c a b => match JPp n0 N e env mem a,JPp n0 N e env mem b with
    | some (p,q),some (p',q') => some (JHs (c = true) p ++ JHs (c = false) p',q ++ q')
    | _,_ => none
structure Fam (σ τ:Type) where
  k:Nat
  E:σ → KP
  M:σ → Jo
  out:τ → Tree
  fin:σ → τ
  next:σ → Nat → σ
  J:σ → Prop
  μ:σ → Nat
def JEL {σ τ:Type} (F:Fam σ τ) (n:Nat) (s:σ):Tree → Nat → Option (List Prop × jv × Nat)
  | .leaf .normal env mem,i => match JYd n (n + F.k) (F.E (F.next s i)) (F.M (F.next s i)) env mem with
    | some (p,q) => some (F.J (F.next s i) :: (F.μ (F.next s i) < F.μ s) :: (F.fin (F.next s i) = F.fin s) :: p,q,i + 1)
    | none => none
  | .leaf e env mem,i => match JPp n (n + F.k) e env mem (F.out (F.fin s)) with
    | some (p,q) => some (p,q,i + 1)
    | none => none
  | .ite c a b,i => match JEL F n s a i with
    | none => none
    | some (p,q,j) => match JEL F n s b j with
      | none => none
      | some (p',q',l) => some (JHs (c = true) p ++ JHs (c = false) p',q ++ q',l)
def XU {σ τ:Type} (F:Fam σ τ) (body:QH) (n:Nat) (s:σ):Option (List Prop × jv) :=
  match body (F.E s) (F.M s) (n + F.k) with
  | none => none
  | some x => match KT x.t x.n with
    | (t,q,_) => match JEL F n s t 0 with
      | some (p,q',_) => some (x.needs ++ p,x.eqs ++ q ++ q')
      | none => none
def jY {σ τ:Type} (F:Fam σ τ) (n0:Nat) (init:KP → Jo → Option σ):QH := fun env mem n =>
  bif Nat.beq n n0 then (match init env mem with
    | none => none
    | some s => match JYd n (n + F.k) (F.E s) (F.M s) env mem with
      | some (p,q) => some ⟨F.out (F.fin s),F.J s :: p,q,n + F.k⟩
      | none => none) else none
open Go.RowKit
structure Loc where
  blk:Option Nat
  eye:Option Nat
  ad:Option Addr
  len:Nat
  cap:Nat
  caps:Array Value
def Loc.none:Loc := ⟨.none,.none,.none,0,0,#[]⟩
def Loc.box (b:Nat):Loc := ⟨some b,some b,some ⟨b,0,.none⟩,0,0,#[]⟩
def Loc.row (b len cap:Nat):Loc := ⟨some b,some b,some ⟨b,0,.none⟩,len,cap,#[]⟩
def Loc.clo (caps:Array Value):Loc := ⟨.none,.none,.none,0,0,caps⟩
abbrev Th := Nat → Loc
def Th.none:Th := fun _ => Loc.none
def SC.den (θ:Th):SC → Value
  | .int k n => .int k n.val
  | .bool b => .bool b.val
  | .ptr id off => .pointer ((θ id).blk.map fun b => ⟨b,off,.none⟩)
  | .eptr id esz i off => .pointer ((θ id).ad.map fun a => a.add (i.val * esz + off))
  | .wh id => .slice (θ id).ad (θ id).len (θ id).cap
  | .sl id esz off len => .slice ((θ id).ad.map fun a => if (θ id).cap = off.val then a else a.add (off.val * esz)) len.val ((θ id).cap - off.val)
  | .nilp => .pointer .none
  | .nilsl => .slice .none 0 0
  | .fn f => .func (.func f) #[] #[]
  | .clo f id => .func (.func f) #[] (θ id).caps
  | .yld _ id => .func (.yield ((θ id).blk.getD 0)) #[] #[]
  | .nilf => .nilFunc
def JK (θ:Th) (cs:List SC):List Value := cs.map (SC.den θ)
def QT (θ:Th):Bool × List SC → Value
  | (false,[c]) => c.den θ
  | (_,cs) => .agg (JK θ cs).toArray
def SV.den (θ:Th):SV → Value
  | .one c => c.den θ
  | .agg cs => .agg (JK θ cs).toArray
  | .tup vs => .tuple (vs.map (QT θ)).toArray
theorem SC.den_one (θ:Th) (c:SC):(c.den θ).cells = #[c.den θ] := by cases c <;> rfl
def W9 (n:Nat) (θ θ':Th):Prop := ∀ id,id < n → θ' id = θ id
theorem W9.refl (n:Nat) (θ:Th):W9 n θ θ := fun _ _ => rfl
theorem W9.trans {n m:Nat} {a b c:Th} (h:W9 n a b) (k:W9 m b c) (hn:n ≤ m):W9 n a c := fun id hi => (k id (Nat.lt_of_lt_of_le hi hn)).trans (h id hi)
theorem W9.mono {n m:Nat} {a b:Th} (h:W9 m a b) (hn:n ≤ m):W9 n a b := fun id hi => h id (Nat.lt_of_lt_of_le hi hn)
theorem KB {n:Nat}:∀ {l:List Nat},YR n l = true → ∀ id ∈ l,id < n
  | [],_,_,h => by cases h
  | a :: r,h,id,hm => by
    simp only [JoJ,JkO,Bool.and_eq_true,Nat.blt_eq] at h
    rcases List.mem_cons.1 hm with rfl | hm
    · exact h.1
    · exact KB h.2 id hm
section agree
variable {n:Nat} {θ θ':Th} (ha:W9 n θ θ')
include ha
theorem SC.den_agree {c:SC} (h:∀ id ∈ Wx c,id < n):c.den θ' = c.den θ := by
  cases c <;> simp [SC.den,Wx] at h ⊢ <;> simp [ha _ h]
theorem jT:∀ {cs:List SC},(∀ id ∈ Qw cs,id < n) → JK θ' cs = JK θ cs
  | [],_ => rfl
  | c :: r,h => by
    simp only [JK,List.map_cons,List.cons.injEq]
    exact ⟨SC.den_agree ha fun id hi => h id (by simp [ZK,Jv,hi]),jT fun id hi => h id (by simp [ZK,Jv,hi])⟩
theorem Jb7 {x:Bool × List SC} (h:∀ id ∈ Qw x.2,id < n):QT θ' x = QT θ x := by
  obtain ⟨b,cs⟩ := x
  unfold QT
  split
  · rename_i c he; cases he; exact SC.den_agree ha fun id hi => h id (by simp [ZK,Jv,hi])
  · rename_i cs' _ he; cases he; rw [jT ha h]
theorem JSC:∀ {vs:List (Bool × List SC)},(∀ id ∈ KZ vs,id < n) → vs.map (QT θ') = vs.map (QT θ)
  | [],_ => rfl
  | (b,cs) :: r,h => by
    simp only [List.map_cons,List.cons.injEq]
    exact ⟨Jb7 ha fun id hi => h id (by simp [KZ,hi]),JSC fun id hi => h id (by simp [KZ,hi])⟩
theorem SV.den_agree {v:SV} (h:∀ id ∈ Ze v,id < n):v.den θ' = v.den θ := by
  cases v with
  | one c => exact SC.den_agree ha h
  | agg cs => simp only [SV.den]; rw [jT ha h]
  | tup vs => simp only [SV.den]; rw [JSC ha h]
theorem JKR:∀ {vs:List SV},(∀ id ∈ Qg vs,id < n) → vs.map (SV.den θ') = vs.map (SV.den θ)
  | [],_ => rfl
  | v :: r,h => by
    simp only [List.map_cons,List.cons.injEq]
    exact ⟨SV.den_agree ha fun id hi => h id (by simp [Qg,hi]),JKR fun id hi => h id (by simp [Qg,hi])⟩
end agree
def RowC.rows:RowC → List (List SC)
  | .lit _ rows => rows
  | .lst _ ks xs => xs.map (Qz ks)
def ZA (esz:Nat) (rows:List (List SC)):Prop := 0 < esz ∧ ∀ r ∈ rows,r.length = esz ∧ Qw r = []
def W2 (l:Loc) (w:World) (ty esz n:Nat) (cells:List Value):Prop := l.len = n ∧ (l.blk = none ∧ l.eye = none ∧ l.ad = none ∧ l.cap = 0 ∨ ∃ b,l.blk = some b ∧ l.eye = some b ∧ l.ad = some ⟨b,0,none⟩) ∧ w.ownsRow 0 ty esz (.slice l.ad l.len l.cap) n cells
def JRk (l:Loc) (w:World) (n:Nat) (cells:List Value):Prop := l.blk = none ∧ l.len = n ∧ n ≤ l.cap ∧ ((cells = [] ∧ l.eye = none ∧ n = 0) ∨ ∃ a,l.ad = some a ∧ l.eye = some a.block ∧ cells ≠ [] ∧ ∀ (j:Nat) (u:Value),cells[j]? = some u → w.cell? (a.add j) = some u)
def QD (θ:Th) (w:World) (id:Nat):Obj → Prop
  | .blk ty cells => ∃ b,θ id = Loc.box b ∧ w.heap[b]? = some (.cells (JK θ (QV cells)).toArray ty (0,0))
  | .row false ty esz r => ZA esz r.rows ∧ W2 (θ id) w ty esz r.rows.length (JK θ r.rows.flatten)
  | .row true _ esz r => ZA esz r.rows ∧ JRk (θ id) w r.rows.length (JK θ r.rows.flatten)
  | .clo caps => θ id = Loc.clo (caps.map (SV.den θ)).toArray
  | .raw b _ _ L k => θ id = Loc.box b ∧ w.heap[b]? = some (L k.val)
theorem Y6 (a b:List SC):Qw (a ++ b) = Qw a ++ Qw b := by
  induction a with
  | nil => rfl
  | cons c r ih => simp [ZK,Jv,ih]
theorem JEX:∀ {rows:List (List SC)},(∀ r ∈ rows,Qw r = []) → Qw rows.flatten = []
  | [],_ => rfl
  | r :: rs,h => by rw [List.flatten_cons,Y6,h r (by simp),JEX fun r hr => h r (by simp [hr])]; rfl
theorem ZA.ids {esz:Nat} {rows:List (List SC)} (h:ZA esz rows):Qw rows.flatten = [] := JEX fun r hr => (h.2 r hr).2
theorem ZP {θ θ':Th} {cs:List SC} (h:Qw cs = []):JK θ' cs = JK θ cs := by
  induction cs with
  | nil => rfl
  | cons c r ih =>
    simp only [ZK,Jv,List.append_eq_nil_iff] at h
    simp only [JK,List.map_cons,List.cons.injEq] at ih ⊢
    exact ⟨by cases c <;> simp [Wx] at h <;> rfl,ih h.2⟩
theorem JHN {l:Loc} {w:World} {ty esz n:Nat} {cells:List Value} (h:W2 l w ty esz n cells):l.blk = l.eye := by
  rcases h.2.1 with ⟨h1,h2,_⟩ | ⟨b,h1,h2,_⟩ <;> rw [h1,h2]
theorem jm {θ:Th} {w:World} {id b:Nat} {o:Obj} (h:QD θ w id o) (hb:(θ id).blk = some b):(θ id).eye = some b := by
  cases o with
  | blk ty cells => obtain ⟨b',h1,_⟩ := h; rw [h1] at hb ⊢; exact hb
  | row ro ty esz r =>
    cases ro
    · rw [← JHN h.2]; exact hb
    · rw [h.2.1] at hb; cases hb
  | clo caps => rw [show θ id = _ from h] at hb; cases hb
  | raw b0 rs t L k => rw [h.1] at hb ⊢; exact hb
theorem JoX {w w':World} {a:Addr} (j:Nat) (h:w'.heap[a.block]? = w.heap[a.block]?):w'.cell? (a.add j) = w.cell? (a.add j) :=
  World.cell?_of_block (by rw [show (a.add j).block = a.block from by unfold Addr.add; split <;> rfl]; exact h)
theorem JTF {l:Loc} {w w':World} {ty esz n:Nat} {cells:List Value} (hb:∀ b,l.eye = some b → w'.heap[b]? = w.heap[b]?) (h:W2 l w ty esz n cells):W2 l w' ty esz n cells := by
  refine ⟨h.1,h.2.1,h.2.2.1,?_⟩
  rcases h.2.2.2 with hn | ⟨g,cap,cur,h1,h2,h3,h4⟩
  · exact .inl hn
  · refine .inr ⟨g,cap,cur,h1,h2,?_,h4⟩
    rcases h.2.1 with ⟨_,_,h5,_⟩ | ⟨b,_,h5,h6⟩
    · rw [h5] at h1; cases h1
    · rw [h6] at h1
      have:b = g := by injection h1 with h1; injection h1 with h1; injection h1
      subst this
      rw [hb _ h5]; exact h3
theorem JU5 {l:Loc} {w w':World} {n:Nat} {cells:List Value} (hb:∀ b,l.eye = some b → w'.heap[b]? = w.heap[b]?) (h:JRk l w n cells):JRk l w' n cells := by
  refine ⟨h.1,h.2.1,h.2.2.1,h.2.2.2.imp (fun h => h) fun ⟨a,h1,h2,h3,h4⟩ => ⟨a,h1,h2,h3,fun j u hu => ?_⟩⟩
  rw [JoX j (hb _ h2)]
  exact h4 j u hu
theorem JId {n:Nat} {θ θ':Th} {w w':World} {id:Nat} {o:Obj} (ha:W9 n θ θ') (hid:id < n) (ho:∀ i ∈ K6 o,i < n)
    (hb:∀ b,(θ id).eye = some b → w'.heap[b]? = w.heap[b]?) (h:QD θ w id o):QD θ' w' id o := by
  have he := ha id hid
  cases o with
  | blk ty cells =>
    obtain ⟨b,h1,h2⟩ := h
    exact ⟨b,by rw [he,h1],by rw [hb b (by rw [h1]; rfl),h2,jT ha ho]⟩
  | row ro ty esz r =>
    cases ro
    · exact ⟨h.1,by rw [he,ZP (θ := θ) h.1.ids]; exact JTF hb h.2⟩
    · exact ⟨h.1,by rw [he,ZP (θ := θ) h.1.ids]; exact JU5 hb h.2⟩
  | clo caps => show θ' id = _; rw [he,show θ id = _ from h,JKR ha ho]
  | raw b rs t L k => exact ⟨he.trans h.1,(hb b (by rw [h.1]; rfl)).trans h.2⟩
theorem ju {α:Type} (l:List (Nat × α)) (t:Nat):JC (del l t) t = none := by
  induction l with
  | nil => rfl
  | cons p r ih =>
    obtain ⟨k,x⟩ := p
    simp only [Jme,Ji0]
    cases h:Nat.beq k t <;> simp [Ju,JT,h,ih]
theorem JE0 {α:Type} (l:List (Nat × α)) {t u:Nat} (h:t ≠ u):JC (del l t) u = JC l u := by
  induction l with
  | nil => rfl
  | cons p r ih =>
    obtain ⟨k,x⟩ := p
    simp only [Jme,Ji0]
    cases h1:Nat.beq k t
    · simp [Ju,JT,ih]
    · have:k = t := Nat.eq_of_beq_eq_true h1
      subst this
      simp only [cond_true,Ju,JT]
      have:Nat.beq k u = false := by
        cases h2:Nat.beq k u
        · rfl
        · exact absurd (Nat.eq_of_beq_eq_true h2) h
      simp [this,ih]
theorem jE (t:Nat):Nat.beq t t = true := by simp
theorem XX {t u:Nat} (h:t ≠ u):Nat.beq t u = false := by
  cases h2:Nat.beq t u
  · rfl
  · exact absurd (Nat.eq_of_beq_eq_true h2) h
theorem JES {α:Type} (l:List (Nat × α)) (t:Nat):JC (rem l t) t = none := by
  unfold rem
  split
  · assumption
  · exact ju l t
theorem JEQ {α:Type} (l:List (Nat × α)) {t u:Nat} (h:t ≠ u):JC (rem l t) u = JC l u := by
  unfold rem
  split
  · rfl
  · exact JE0 l h
theorem jt {α:Type} (l:List (Nat × α)) (t:Nat) (x:α):JC (put l t x) t = some x := by simp [put,Ju,JT]
theorem JE9 {α:Type} (l:List (Nat × α)) {t u:Nat} (x:α) (h:t ≠ u):JC (put l t x) u = JC l u := by
  simp [put,Ju,JT,XX h,JEQ l h]
theorem zg {α:Type} (a b:List (Nat × α)) (t:Nat):JC (a ++ b) t = match JC a t with | some x => some x | none => JC b t := by
  induction a with
  | nil => rfl
  | cons p r ih =>
    obtain ⟨k,x⟩ := p
    simp only [List.cons_append,Ju,JT]
    cases Nat.beq k t <;> simp [ih]
theorem JEN {l:List Nat} {n:Nat}:has l n = true ↔ n ∈ l := by
  induction l with
  | nil => simp [JdH,JYB]
  | cons a r ih => simp only [JdH,JYB,Bool.or_eq_true,ih,List.mem_cons]; exact ⟨fun h => h.imp (fun e => (Nat.eq_of_beq_eq_true e).symm) id,fun h => h.imp (fun e => by rw [e]; exact Nat.beq_refl a) id⟩
theorem Xc (mem:Jo) (l:List Nat) (t:Nat):JC (Zv mem l) t = if t ∈ l then none else JC mem t := by
  induction mem with
  | nil => simp [Zv,Ju,JT]
  | cons p r ih =>
    obtain ⟨k,x⟩ := p
    simp only [Zv]
    cases h:has l k
    · have hk:k ∉ l := fun hm => by rw [JEN.2 hm] at h; cases h
      simp only [cond_false,Ju,JT]
      cases h1:Nat.beq k t
      · simp [ih]
      · have := Nat.eq_of_beq_eq_true h1; subst this
        simp [hk]
    · have hk:k ∈ l := JEN.1 h
      simp only [cond_true,Ju,JT,ih]
      cases h1:Nat.beq k t
      · simp
      · have := Nat.eq_of_beq_eq_true h1; subst this
        simp [hk]
theorem Jt (mem:Jo) (l:List Nat) (t:Nat):JC (JG mem l) t = if t ∈ l then JC mem t else none := by
  induction mem with
  | nil => simp [JG,Ju,JT]
  | cons p r ih =>
    obtain ⟨k,x⟩ := p
    simp only [JG]
    cases h:has l k
    · have hk:k ∉ l := fun hm => by rw [JEN.2 hm] at h; cases h
      simp only [cond_false,Ju,JT,ih]
      cases h1:Nat.beq k t
      · simp
      · have := Nat.eq_of_beq_eq_true h1; subst this
        simp [hk]
    · have hk:k ∈ l := JEN.1 h
      simp only [cond_true,Ju,JT]
      cases h1:Nat.beq k t
      · simp [ih]
      · have := Nat.eq_of_beq_eq_true h1; subst this
        simp [hk]
theorem Zp {mem:Jo} {t:Nat}:t ∈ domain mem ↔ ∃ o,JC mem t = some o := by
  induction mem with
  | nil => simp [domain,Ju,JT]
  | cons p r ih =>
    obtain ⟨k,x⟩ := p
    simp only [domain,List.mem_cons,Ju,JT,ih]
    by_cases h:k = t
    · subst h; simp
    · simp [XX h,Ne.symm h]
theorem JJM {mem:Jo} {t:Nat} {o:Obj} (h:JC mem t = some o):t ∈ W3 mem ∧ ∀ i ∈ K6 o,i ∈ W3 mem := by
  induction mem with
  | nil => cases h
  | cons p r ih =>
    obtain ⟨k,x⟩ := p
    simp only [Ju,JT] at h
    cases h1:Nat.beq k t
    · rw [h1] at h
      obtain ⟨a,b⟩ := ih h
      exact ⟨by simp [W3,a],fun i hi => by simp [W3,b i hi]⟩
    · rw [h1] at h
      cases h
      have := Nat.eq_of_beq_eq_true h1; subst this
      exact ⟨by simp [W3],fun i hi => by simp [W3,hi]⟩
def Jf (θ:Th) (mem:Jo) (w:World):Prop := (∀ id o,JC mem id = some o → QD θ w id o) ∧ (∀ id id' o o' b,JC mem id = some o → JC mem id' = some o' → id ≠ id' → (θ id).blk = some b → (θ id').eye ≠ some b)
def Z2 (n:Nat) (mem:Jo):Prop := ∀ id o,JC mem id = some o → id < n ∧ ∀ i ∈ K6 o,i < n
theorem Z2.mono {n m:Nat} {mem:Jo} (h:Z2 n mem) (hn:n ≤ m):Z2 m mem :=
  fun id o hl => ⟨Nat.lt_of_lt_of_le (h id o hl).1 hn,fun i hi => Nat.lt_of_lt_of_le ((h id o hl).2 i hi) hn⟩
structure Grew (n:Nat) (θ:Th) (mem:Jo) (w:World) (θ':Th) (mem':Jo) (w':World):Prop where
  agree:W9 n θ θ'
  os:w'.os = w.os
  tape:w'.tape = w.tape
  output:w'.output = w.output
  size:w.heap.size ≤ w'.heap.size
  heap:∀ b,b < w.heap.size → (∀ id o,JC mem id = some o → (θ id).blk ≠ some b) → w'.heap[b]? = w.heap[b]?
  blks:∀ id o b,JC mem' id = some o → (θ' id).blk = some b → w.heap.size ≤ b ∨ ∃ id0 o0,JC mem id0 = some o0 ∧ (θ id0).blk = some b
  eyes:∀ id o b,JC mem' id = some o → (θ' id).eye = some b → w.heap.size ≤ b ∨ ∃ id0 o0,JC mem id0 = some o0 ∧ (θ id0).eye = some b
theorem Grew.refl (n:Nat) (θ:Th) (mem:Jo) (w:World):Grew n θ mem w θ mem w :=
  ⟨W9.refl _ _,rfl,rfl,rfl,Nat.le_refl _,fun _ _ _ => rfl,fun id o _ h hb => .inr ⟨id,o,h,hb⟩,fun id o _ h hb => .inr ⟨id,o,h,hb⟩⟩
theorem Grew.trans {n m:Nat} {θ₁ θ₂ θ₃:Th} {m₁ m₂ m₃:Jo} {w₁ w₂ w₃:World} (h:Grew n θ₁ m₁ w₁ θ₂ m₂ w₂) (k:Grew m θ₂ m₂ w₂ θ₃ m₃ w₃) (hn:n ≤ m) :
    Grew n θ₁ m₁ w₁ θ₃ m₃ w₃ where
  agree := h.agree.trans k.agree hn
  os := k.os.trans h.os
  tape := k.tape.trans h.tape
  output := k.output.trans h.output
  size := Nat.le_trans h.size k.size
  heap b hb hno := by
    rw [k.heap b (Nat.lt_of_lt_of_le hb h.size) fun id o hl he => ?_,h.heap b hb hno]
    rcases h.blks id o b hl he with h1 | ⟨id0,o0,h1,h2⟩
    · omega
    · exact hno id0 o0 h1 h2
  blks id o b hl he := by
    rcases k.blks id o b hl he with h1 | ⟨id0,o0,h1,h2⟩
    · exact .inl (Nat.le_trans h.size h1)
    · exact h.blks id0 o0 b h1 h2
  eyes id o b hl he := by
    rcases k.eyes id o b hl he with h1 | ⟨id0,o0,h1,h2⟩
    · exact .inl (Nat.le_trans h.size h1)
    · exact h.eyes id0 o0 b h1 h2
theorem Grew.mono {n m:Nat} {θ θ':Th} {mem mem':Jo} {w w':World} (h:Grew m θ mem w θ' mem' w') (hn:n ≤ m):Grew n θ mem w θ' mem' w' :=
  { h with agree := h.agree.mono hn }
theorem Grew.sub {n:Nat} {θ θ':Th} {mem mem' mem'':Jo} {w w':World} (h:Grew n θ mem w θ' mem' w') (hs:∀ id o,JC mem'' id = some o → ∃ o',JC mem' id = some o'):Grew n θ mem w θ' mem'' w' :=
  { h with blks := fun id o b hl he => by obtain ⟨o',h'⟩ := hs id o hl; exact h.blks id o' b h' he,eyes := fun id o b hl he => by obtain ⟨o',h'⟩ := hs id o hl; exact h.eyes id o' b h' he }
theorem JKg {θ:Th} {w:World} {id:Nat} {o:Obj} {b:Nat} (h:QD θ w id o) (hb:(θ id).eye = some b):b < w.heap.size := by
  have key:∀ x,w.heap[b]? = some x → b < w.heap.size := fun x hx => by
    rcases Nat.lt_or_ge b w.heap.size with h' | h'
    · exact h'
    · simp [h'] at hx
  cases o with
  | blk ty cells => obtain ⟨b',h1,h2⟩ := h; rw [h1] at hb; cases hb; exact key _ h2
  | row ro ty esz r =>
    cases ro
    · rcases h.2.2.1 with ⟨_,h1,_⟩ | ⟨b',_,h1,h2⟩
      · rw [h1] at hb; cases hb
      · rw [h1] at hb; cases hb
        exact (h.2.2.2.lt b (by rw [h2]; rfl)).2
    · rcases h.2.2.2.2 with ⟨_,h1,_⟩ | ⟨a,_,h1,h2,h3⟩
      · rw [h1] at hb; cases hb
      · rw [h1] at hb; cases hb
        cases hc:JK θ r.rows.flatten with
        | nil => exact absurd hc h2
        | cons u l =>
          have := World.block_lt_of_cell? w _ (h3 0 u (by rw [hc]; rfl))
          simpa [Addr.add] using this
  | clo caps => rw [show θ id = _ from h] at hb; cases hb
  | raw b0 rs t L k => rw [h.1] at hb; cases hb; exact key _ h.2
theorem JfG {n:Nat} {θ θ':Th} {mem sub ups:Jo} {w w':World} {touched:List Nat} (hwf:Z2 n mem) (hm:Jf θ mem w)
    (hsub:∀ id o,JC sub id = some o → JC mem id = some o) (htouch:∀ id o,JC sub id = some o → id ∈ touched)
    (hg:Grew n θ sub w θ' ups w') (hu:Jf θ' ups w') :
    Jf θ' (ups ++ Zv mem (touched ++ domain ups)) w' ∧ Grew n θ mem w θ' (ups ++ Zv mem (touched ++ domain ups)) w' := by
  have hlook:∀ id o,JC (ups ++ Zv mem (touched ++ domain ups)) id = some o → JC ups id = some o ∨ (JC mem id = some o ∧ id ∉ touched ∧ JC ups id = none) := by
    intro id o h
    rw [zg] at h
    cases h1:JC ups id with
    | some x => rw [h1] at h; exact .inl h
    | none =>
      rw [h1] at h
      simp only [Xc] at h
      split at h
      · cases h
      · rename_i hno
        exact .inr ⟨h,fun ht => hno (by simp [ht]),rfl⟩
  have old:∀ id o b,JC mem id = some o → id ∉ touched → (θ id).eye = some b → b < w.heap.size ∧ (∀ i x,JC sub i = some x → (θ i).blk ≠ some b) := by
    intro id o b hl hn hb
    refine ⟨JKg (hm.1 id o hl) hb,fun i x hi he => ?_⟩
    have hne:i ≠ id := fun e => hn (e ▸ htouch i x hi)
    exact hm.2 i id x o b (hsub i x hi) hl hne he hb
  have keep:∀ id o,JC mem id = some o → id ∉ touched → QD θ' w' id o := by
    intro id o hl hn
    refine JId hg.agree (hwf id o hl).1 (hwf id o hl).2 (fun b hb => ?_) (hm.1 id o hl)
    obtain ⟨h1,h2⟩ := old id o b hl hn hb
    exact hg.heap b h1 h2
  have part:∀ id id' o o' b,JC ups id = some o → JC mem id' = some o' → id' ∉ touched → (θ' id).blk = some b → (θ' id').eye ≠ some b := by
    intro id id' o o' b h1 h2 h3 h4 h5
    rw [hg.agree id' (hwf id' o' h2).1] at h5
    obtain ⟨h6,h7⟩ := old id' o' b h2 h3 h5
    rcases hg.blks id o b h1 h4 with h8 | ⟨i,x,h8,h9⟩
    · omega
    · exact h7 i x h8 h9
  have part':∀ id id' o o' b,JC ups id = some o → JC mem id' = some o' → id' ∉ touched → (θ' id').blk = some b → (θ' id).eye ≠ some b := by
    intro id id' o o' b h1 h2 h3 h4 h5
    rw [hg.agree id' (hwf id' o' h2).1] at h4
    have h6 := JKg (hm.1 id' o' h2) (jm (hm.1 id' o' h2) h4)
    rcases hg.eyes id o b h1 h5 with h8 | ⟨i,x,h8,h9⟩
    · omega
    · exact hm.2 id' i o' x b h2 (hsub i x h8) (fun e => h3 (e ▸ htouch i x h8)) h4 h9
  refine ⟨⟨fun id o h => ?_,fun id id' o o' b h h' hne hb hb' => ?_⟩,?_⟩
  · rcases hlook id o h with h | ⟨h,hn,_⟩
    · exact hu.1 id o h
    · exact keep id o h hn
  · rcases hlook id o h with h | ⟨h,hn,_⟩ <;> rcases hlook id' o' h' with h' | ⟨h',hn',_⟩
    · exact hu.2 id id' o o' b h h' hne hb hb'
    · exact part id id' o o' b h h' hn' hb hb'
    · exact part' id' id o' o b h' h hn hb hb'
    · rw [hg.agree id (hwf id o h).1] at hb
      rw [hg.agree id' (hwf id' o' h').1] at hb'
      exact hm.2 id id' o o' b h h' hne hb hb'
  · refine { hg with heap := fun b hb hno => hg.heap b hb fun id o hl => hno id o (hsub id o hl),blks := fun id o b hl he => ?_,eyes := fun id o b hl he => ?_ }
    · rcases hlook id o hl with h | ⟨h,hn,_⟩
      · rcases hg.blks id o b h he with h8 | ⟨i,x,h8,h9⟩
        · exact .inl h8
        · exact .inr ⟨i,x,hsub i x h8,h9⟩
      · rw [hg.agree id (hwf id o h).1] at he
        exact .inr ⟨id,o,h,he⟩
    · rcases hlook id o hl with h | ⟨h,hn,_⟩
      · rcases hg.eyes id o b h he with h8 | ⟨i,x,h8,h9⟩
        · exact .inl h8
        · exact .inr ⟨i,x,hsub i x h8,h9⟩
      · rw [hg.agree id (hwf id o h).1] at he
        exact .inr ⟨id,o,h,he⟩
theorem JMU {mem m:Jo} {i:Nat} {o:Obj}:∀ {l:List Nat},JC (JT2 mem l m) i = some o → JC m i = some o ∨ (i ∈ l ∧ JC mem i = some o ∧ ∃ caps,o = .clo caps)
  | [],h => .inl h
  | id :: r,h => by
    unfold JT2 at h
    split at h
    · rename_i caps h1 h2
      rw [JT] at h
      cases hb:Nat.beq id i
      · rw [hb] at h
        rcases JMU h with g | ⟨g1,g2⟩
        · exact .inl g
        · exact .inr ⟨List.mem_cons_of_mem _ g1,g2⟩
      · rw [hb] at h
        have := Nat.eq_of_beq_eq_true hb
        subst this
        cases h
        exact .inr ⟨List.mem_cons_self,h1,caps,rfl⟩
    · rcases JMU h with g | ⟨g1,g2⟩
      · exact .inl g
      · exact .inr ⟨List.mem_cons_of_mem _ g1,g2⟩
theorem JoY {n:Nat} {θ θ':Th} {mem m:Jo} {l:List Nat} {w w':World} (hwf:Z2 n mem) (hm:Jf θ (JG mem l) w) (hg:Grew n θ (JG mem l) w θ' m w') (hm':Jf θ' m w') :
    Grew n θ (JG mem l) w θ' (JT2 mem l m) w' ∧ Jf θ' (JT2 mem l m) w' := by
  have key:∀ {i o},JC (JT2 mem l m) i = some o → JC m i = some o ∨ (QD θ' w' i o ∧ (θ' i).blk = none ∧ (θ' i).eye = none) := fun {i o} h => by
    rcases JMU h with g | ⟨g1,g2,caps,rfl⟩
    · exact .inl g
    · right
      have h1:θ i = Loc.clo (caps.map (SV.den θ)).toArray := hm.1 i (.clo caps) (by rw [Jt,if_pos g1,g2])
      have h2 := hg.agree i (hwf i _ g2).1
      have h3:caps.map (SV.den θ') = caps.map (SV.den θ) := JKR hg.agree fun j hj => (hwf i _ g2).2 j hj
      refine ⟨?_,by rw [h2,h1]; rfl,by rw [h2,h1]; rfl⟩
      show θ' i = Loc.clo (caps.map (SV.den θ')).toArray
      rw [h3,h2,h1]
  refine ⟨{ hg with blks := fun id o b h hb => ?_,eyes := fun id o b h hb => ?_ },fun id o h => ?_,fun id id' o o' b h h' hne hb => ?_⟩
  · rcases key h with g | ⟨_,g,_⟩
    · exact hg.blks id o b g hb
    · rw [g] at hb; cases hb
  · rcases key h with g | ⟨_,_,g⟩
    · exact hg.eyes id o b g hb
    · rw [g] at hb; cases hb
  · rcases key h with g | ⟨g,_⟩
    · exact hm'.1 id o g
    · exact g
  · rcases key h with g | ⟨_,g,_⟩
    · rcases key h' with g' | ⟨_,_,g'⟩
      · exact hm'.2 id id' o o' b g g' hne hb
      · rw [g']; intro hh; cases hh
    · rw [g] at hb; cases hb
open Go.RowKit
def holds (a:Act) (g:List (Nat × Bool)):Prop := ∀ p ∈ g,a.tmps[p.1]? = some (.bool p.2)
def gxs (gx:List (Bool × Bool)):Prop := ∀ p ∈ gx,p.1 = p.2
def Jx (θ:Th) (a:Act) (t:Nat) (e:Ent):Prop := (holds a e.g → a.tmps[t]? = some (e.val.den θ) ∧ gxs e.gx) ∧ (¬ holds a e.g → a.tmps[t]? = some undef)
theorem Jab (θ:Th):∀ {v:Value} {c:SC},JVV v = some c → c.den θ = v ∧ Wx c = [] := by
  intro v c h
  unfold JVV at h
  split at h <;> first | (cases h; exact ⟨rfl,rfl⟩) | (cases h)
theorem JTD (θ:Th):∀ {l:List Value} {cs:List SC},cellsOf l = some cs → JK θ cs = l ∧ Qw cs = []
  | [],cs,h => by cases h; exact ⟨rfl,rfl⟩
  | v :: r,cs,h => by
    simp only [cellsOf] at h
    split at h
    · rename_i c cs' h1 h2
      cases h
      obtain ⟨h3,h4⟩ := Jab θ h1
      obtain ⟨h5,h6⟩ := JTD θ h2
      exact ⟨by simp only [JK,List.map_cons,h3] at h5 ⊢; rw [h5],by simp [ZK,Jv,h4,h6]⟩
    · cases h
theorem JJR (θ:Th) {v:Value} {x:SV} (h:JUt v = some x):x.den θ = v ∧ Ze x = [] := by
  unfold JUt at h
  split at h
  · rename_i cs
    cases h1:cellsOf cs.toList with
    | none => rw [h1] at h; cases h
    | some l =>
      rw [h1] at h; cases h
      obtain ⟨h2,h3⟩ := JTD θ h1
      exact ⟨by simp [SV.den,h2],h3⟩
  · cases h1:JVV v with
    | none => rw [h1] at h; cases h
    | some c =>
      rw [h1] at h; cases h
      exact Jab θ h1
theorem JcL {x:Nat × Bool}:∀ {l:List (Nat × Bool)},JqG x l = true → x ∈ l
  | [],h => by cases h
  | b :: r,h => by
    simp only [JsP,Jpa,Bool.or_eq_true,Bool.and_eq_true,beq_iff_eq] at h
    rcases h with ⟨h1,h2⟩ | h
    · have := Nat.eq_of_beq_eq_true h1
      exact List.mem_cons.2 (.inl (Prod.ext this h2))
    · exact List.mem_cons_of_mem _ (JcL h)
theorem Jcd:∀ {g h:List (Nat × Bool)},JbF g h = true → ∀ p ∈ g,p ∈ h
  | [],_,_,_,hp => by cases hp
  | a :: r,h,hs,p,hp => by
    simp only [Ju4,Jow,Bool.and_eq_true] at hs
    rcases List.mem_cons.1 hp with rfl | hp
    · exact JcL hs.1
    · exact Jcd hs.2 p hp
theorem JcT {a:Act} {g h:List (Nat × Bool)} (hs:JbF g h = true) (hh:holds a h):holds a g := fun p hp => hh p (Jcd hs p hp)
section ops
variable {P:Program} {θ:Th} {a:Act} {env:KP} {g:List (Nat × Bool)} {n:Nat}
theorem Jh {x:Operand} {v:SV} (h:Y7 env g x = some v) (hr:∀ t ∈ Je [x],∀ e,JC env t = some e → Jx θ a t e) (hg:holds a g):a.eval x = v.den θ := by
  cases x with
  | tmp t =>
    simp only [Y7] at h
    split at h
    · rename_i e he
      cases hs:JbF e.g g
      · rw [hs] at h; cases h
      · rw [hs] at h; cases h
        have := ((hr t (by simp [Je]) e he).1 (JcT hs hg)).1
        simp [Act.eval,this]
    · cases h
  | const v' => exact ((JJR θ h).1).symm
  | func f => cases h; rfl
  | global _ => cases h
theorem Jdz {x:Operand} {v:SV} (h:Y7 env g x = some v) (hw:∀ t e,JC env t = some e → ∀ id ∈ Ze e.val,id < n):∀ id ∈ Ze v,id < n := by
  cases x with
  | tmp t =>
    simp only [Y7] at h
    split at h
    · rename_i e he
      cases hs:JbF e.g g
      · rw [hs] at h; cases h
      · rw [hs] at h; cases h
        exact hw t e he
    · cases h
  | const v' => rw [(JJR Th.none h).2]; simp
  | func f => cases h; simp [Ze,Wx]
  | global _ => cases h
theorem Jr (x:Operand) (r:List Operand):Je (x :: r) = Je [x] ++ Je r := by cases x <;> rfl
theorem JC8:∀ {xs:List Operand} {vs:List SV},args env g xs = some vs → (∀ t ∈ Je xs,∀ e,JC env t = some e → Jx θ a t e) → holds a g → xs.map a.eval = vs.map (SV.den θ)
  | [],vs,h,_,_ => by cases h; rfl
  | x :: r,vs,h,hr,hg => by
    simp only [args] at h
    split at h
    · rename_i v vs' h1 h2
      cases h
      rw [Jr] at hr
      simp only [List.map_cons,Jh h1 (fun t ht => hr t (by simp [ht])) hg,JC8 h2 (fun t ht => hr t (by simp [ht])) hg]
    · cases h
theorem JIQ:∀ {xs:List Operand} {vs:List SV},args env g xs = some vs → (∀ t e,JC env t = some e → ∀ id ∈ Ze e.val,id < n) → ∀ id ∈ Qg vs,id < n
  | [],vs,h,_ => by cases h; simp [Qg]
  | x :: r,vs,h,hw => by
    simp only [args] at h
    split at h
    · rename_i v vs' h1 h2
      cases h
      intro id hid
      simp only [Qg,List.mem_append] at hid
      exact hid.elim (Jdz h1 hw id) (JIQ h2 hw id)
    · cases h
end ops
structure EffRel (n:Nat) (θ:Th) (w:World) (sub:Jo) (e:Eff) (v:Value) (θ':Th) (w':World):Prop where
  val:v = match e.val with | some x => x.den θ' | none => undef
  grew:Grew n θ sub w θ' e.ups w'
  mem:Jf θ' e.ups w'
def JM2 (P:Program) (f:FuncId) (vs:Array Value) (w:World) (R:Ending → World → Prop):Prop := (f < 1000000 → Calls P f vs w R) ∧ (1000000 ≤ f → ∃ l as,vs = #[.func (.yield l) #[] #[]] ++ as ∧ ∃ fn tmps assign body,(Instr.yield l as).run P w = .ok (.round l fn tmps assign body) w ∧ RoundIn Fence.wide 0 P l fn tmps assign body w R)
theorem JM2.mono {P:Program} {f:FuncId} {vs:Array Value} {w:World} {R R':Ending → World → Prop} (h:JM2 P f vs w R) (hr:∀ e w,R e w → R' e w):JM2 P f vs w R' :=
  ⟨fun hf => (h.1 hf).mono hr,fun hf => by
    obtain ⟨l,as,h1,fn,tmps,assign,body,h2,h3⟩ := h.2 hf
    exact ⟨l,as,h1,fn,tmps,assign,body,h2,h3.mono hr⟩⟩
theorem JM2.of {P:Program} {f:FuncId} {vs:Array Value} {w:World} {R:Ending → World → Prop} (hf:f < 1000000) (h:Calls P f vs w R):JM2 P f vs w R :=
  ⟨fun _ => h,fun h' => absurd hf (Nat.not_lt.2 h')⟩
def WO (P:Program) (ce:CE):Prop := ∀ f vs mem n r,ce f vs mem n = some r → (∀ p ∈ r.needs,p) → (∀ p ∈ r.eqs,p.1 = p.2) → Z2 n mem → (∀ id ∈ Qg vs,id < n) → ∀ θ w,Jf θ mem w → (f < 1000000 → ∃ fn,P.funcs[f]? = some fn ∧ fn.body.isSome = true) ∧ JM2 P f (vs.map (SV.den θ)).toArray w fun e w' => ∃ θ',e = .returned (r.val.den θ') ∧ Grew n θ mem w θ' r.mem w' ∧ Jf θ' r.mem w'
def Zl (P : Program) : Prop := ∀ (f : Nat) (fn : Func), P.funcs[f]? = some fn → (fn.name == "runtime.NumGoroutine") = false
theorem JOY {P:Program} (hp:Zl P) {f:Nat} {fn:Func} (hf:P.funcs[f]? = some fn) (hb:fn.body.isSome = true) (as:Array Value) (w:World) :
    (callFunc f as).run P w = .ok (.enter f as) w := by
  have h1 := hp f fn hf
  have h2:fn.body.isNone = false := by cases h:fn.body <;> simp_all
  unfold callFunc
  simp only [Sem.run_bind,run_program,Result.andThen_ok,hf,h1,h2,Bool.false_eq_true,if_false,Sem.run_pure]
theorem JMl (θ:Th) (w:World):Jf θ [] w := ⟨fun _ _ h => (by cases h),fun _ _ _ _ _ h => (by cases h)⟩
theorem Grew.none (n:Nat) (θ:Th) (mem:Jo) (w:World):Grew n θ mem w θ [] w := (Grew.refl n θ mem w).sub fun _ _ h => by cases h
theorem EffRel.pure {n:Nat} {θ:Th} {w:World} {sub:Jo} {e:Eff} {x:SV} (h1:e.val = some x) (h2:e.ups = []):EffRel n θ w sub e (x.den θ) θ w :=
  ⟨by rw [h1],by rw [h2]; exact Grew.none _ _ _ _,by rw [h2]; exact JMl _ _⟩
abbrev YE (K:Act → World → Prop) (o:Oper) (a:Act) (n:Nat) (θ:Th) (w:World) (sub:Jo) (e:Eff):Prop := ∀ v θ' w',EffRel n θ w sub e v θ' w' → K (a.put o.dst v) w'
theorem Q6 {P:Program} {o:Oper} {a:Act} {w w':World} {v:Value} {K:Act → World → Prop} {Q:Exit → Act → World → Prop}
    (h:(execOp a.eval o).run P w = .ok (.value v) w') (hk:K (a.put o.dst v) w'):o.wp P a w K Q := by
  unfold Oper.wp; rw [h]; exact hk
theorem JhL {P:Program} {o:Oper} {a:Act} {w w':World} {K:Act → World → Prop} {Q:Exit → Act → World → Prop}
    (h:(execOp a.eval o).run P w = .ok .skip w') (hk:K (a.put o.dst undef) w'):o.wp P a w K Q := by
  unfold Oper.wp; rw [h]; exact hk
theorem K5 {P:Program} {s:Sem Value} {v:Value} {w w':World} (h:s.run P w = .ok v w'):(do pure (Next.value (← s)):Sem Next).run P w = .ok (.value v) w' := by
  simp only [Sem.run_bind,h,Result.andThen_ok,Sem.run_pure]
theorem JvU {P:Program} {s:Sem Unit} {w w':World} (h:s.run P w = .ok () w'):(do s; pure Next.skip:Sem Next).run P w = .ok .skip w' := by
  simp only [Sem.run_bind,h,Result.andThen_ok,Sem.run_pure]
theorem JNQ (cs:List SC):∀ n,QV (jS n cs) = cs := by
  induction cs with
  | nil => intro n; rfl
  | cons c r ih => intro n; simp [Jk3,Jhz,XG,QK,ih]
theorem SV.cells_den (θ:Th) {v:SV} {cs:List SC} (h:v.cells = some cs):(v.den θ).cells = (JK θ cs).toArray := by
  cases v with
  | one c => cases h; simp [SV.den,SC.den_one,JK]
  | agg l => cases h; rfl
  | tup l => cases h
theorem SV.cells_ids {v:SV} {cs:List SC} (h:v.cells = some cs):Qw cs = Ze v := by
  cases v with
  | one c => cases h; simp [ZK,Jv,Ze]
  | agg l => cases h; rfl
  | tup l => cases h
def Th.set (θ:Th) (n:Nat) (l:Loc):Th := fun id => if id = n then l else θ id
theorem Th.set_agree (θ:Th) (n:Nat) (l:Loc):W9 n θ (θ.set n l) := fun id hi => by simp [Th.set,Nat.ne_of_lt hi]
theorem Th.set_same (θ:Th) (n:Nat) (l:Loc):θ.set n l n = l := by simp [Th.set]
theorem Z6 {α:Type} {n id:Nat} {x y:α} (h:JC [(n,x)] id = some y):id = n ∧ y = x := by
  simp only [Ju,JT] at h
  cases hq:Nat.beq n id
  · rw [hq] at h; cases h
  · rw [hq] at h; cases h
    exact ⟨(Nat.eq_of_beq_eq_true hq).symm,rfl⟩
theorem JUR {n:Nat} {θ:Th} {w w':World} {sub:Jo} (l:Loc) (ob:Obj) {e:Eff} {x:SV} {v:Value} (h1:e.val = some x) (h2:e.ups = [(n,ob)]) (hv:v = x.den (θ.set n l))
    (ho:QD (θ.set n l) w' n ob) (hos:w'.os = w.os) (htape:w'.tape = w.tape) (hout:w'.output = w.output) (hsz:w.heap.size ≤ w'.heap.size) (hheap:∀ b,b < w.heap.size → w'.heap[b]? = w.heap[b]?)
    (hl:∀ b,l.eye = some b → w.heap.size ≤ b):EffRel n θ w sub e v (θ.set n l) w' := by
  refine ⟨by rw [h1]; exact hv,⟨Th.set_agree _ _ _,hos,htape,hout,hsz,fun b hb _ => hheap b hb,?_,?_⟩,?_,?_⟩
  · rw [h2]
    intro id o b hl' hb
    obtain ⟨rfl,rfl⟩ := Z6 hl'
    have := jm ho hb
    rw [Th.set_same] at this
    exact .inl (hl b this)
  · rw [h2]
    intro id o b hl' hb
    obtain ⟨rfl,rfl⟩ := Z6 hl'
    rw [Th.set_same] at hb
    exact .inl (hl b hb)
  · rw [h2]
    intro id o hl'
    obtain ⟨rfl,rfl⟩ := Z6 hl'
    exact ho
  · rw [h2]
    intro id id' o o' b hl1 hl2 hne
    obtain ⟨rfl,rfl⟩ := Z6 hl1
    obtain ⟨rfl,rfl⟩ := Z6 hl2
    exact absurd rfl hne
theorem Jbx {n:Nat} {θ:Th} {w:World} {sub:Jo} (t:TypeId) (cs:List SC) (hids:∀ id ∈ Qw cs,id < n) {e:Eff}
    (h1:e.val = some (.one (.ptr n 0))) (h2:e.ups = [(n,.blk t (jS (n + 1) cs))]) :
    EffRel n θ w sub e (.pointer (some ⟨w.heap.size,0,none⟩)) (θ.set n (Loc.box w.heap.size)) (w.alloc (.cells (JK θ cs).toArray t)) := by
  refine JUR (Loc.box w.heap.size) _ h1 h2 ?_ ⟨w.heap.size,Th.set_same _ _ _,?_⟩ rfl rfl rfl (by simp) (fun b hb => Below.heap_alloc _ _ _ hb) (fun b hb => ?_)
  · simp [SV.den,SC.den,Th.set_same,Loc.box]
  · rw [JNQ,jT (Th.set_agree _ _ _) hids]
    show (w.heap.push _)[w.heap.size]? = _
    simp
  · cases hb; exact Nat.le_refl _
section each
variable {P:Program} {ce:CE} {o:Oper} {env:KP} {g:List (Nat × Bool)} {mem:Jo} {n:Nat} {e:Eff} {θ:Th} {a:Act} {w:World} {K:Act → World → Prop} {Q:Exit → Act → World → Prop}
theorem Jgi {x:Operand} (ho:o.op = .move x ∨ o.op = .assign x) (h:(Y7 env g x).map (Eff.pure n) = some e)
    (hs:∀ t ∈ Je [x],∀ y,JC env t = some y → Jx θ a t y) (hg:holds a g) (hk:YE K o a n θ w (JG mem e.touched) e):o.wp P a w K Q := by
  cases h1:Y7 env g x with
  | none => rw [h1] at h; cases h
  | some v =>
    rw [h1] at h; cases h
    refine Q6 (v := v.den θ) (w' := w) ?_ (hk _ _ _ (EffRel.pure rfl rfl))
    unfold execOp
    rcases ho with ho | ho <;> simp only [ho,Sem.run_pure,Jh h1 hs hg]
theorem JD5 {t:TypeId} {i:TypeInfo} {v:Value} (h:P.info? t = some i) (hz:i.zero = some v) (w:World):(zeroValue t).run P w = .ok v w := by
  simp [zeroValue,typeInfo,go_sem,h,hz]
theorem JU3 (t:TypeId) (v:Value) (w:World):(newVar t v).run P w = .ok ⟨w.heap.size,0,none⟩ (w.alloc (.cells v.cells t)) := by
  rfl
theorem zd {t:TypeId} {v:SV} (h:JEa P t = some v) (θ:Th):∃ i z,P.info? t = some i ∧ i.zero = some z ∧ v.den θ = z ∧ Ze v = [] := by
  unfold JEa at h
  cases h1:P.info? t with
  | none => rw [h1] at h; cases h
  | some i =>
    cases h2:i.zero with
    | none => rw [h1] at h; simp [h2] at h
    | some z =>
      rw [h1] at h; simp only [Option.bind_some,h2] at h
      obtain ⟨h3,h4⟩ := JJR θ h
      exact ⟨i,z,rfl,h2,h3,h4⟩
theorem Jnq {t:TypeId} (ho:o.op = .alloc t)
    (h:(match JEa P t with
      | some v => match v.cells with
        | some cs => some (⟨some (.one (.ptr n 0)),[],[],[(n,.blk t (jS (n + 1) cs))],[],[],n + 1 + cs.length⟩:Eff)
        | none => none
      | none => none) = some e)
    (hk:YE K o a n θ w (JG mem e.touched) e):o.wp P a w K Q := by
  split at h
  · rename_i v hv
    split at h
    · rename_i cs hc
      cases h
      obtain ⟨i,z,h1,h2,h3,h4⟩ := zd hv θ
      have hcells := SV.cells_den θ hc
      rw [h3] at hcells
      refine Q6 (v := .pointer (some ⟨w.heap.size,0,none⟩)) (w' := w.alloc (.cells (JK θ cs).toArray t)) ?_ (hk _ _ _ (Jbx t cs (by rw [SV.cells_ids hc,h4]; simp) rfl rfl))
      unfold execOp
      simp only [ho]
      refine K5 ?_
      unfold Instr.alloc
      rw [Sem.run_bind,JD5 h1 h2]
      simp only [Result.andThen_ok,Sem.run_bind,JU3,Sem.run_pure,hcells]
    · cases h
  · cases h
theorem Juo {t:TypeId} {x:Operand} (ho:o.op = .box t x)
    (h:(match (Y7 env g x).bind SV.cells with
      | some cs => some (⟨some (.one (.ptr n 0)),[],[],[(n,.blk t (jS (n + 1) cs))],[],[],n + 1 + cs.length⟩:Eff)
      | none => none) = some e)
    (hs:∀ t ∈ Je [x],∀ y,JC env t = some y → Jx θ a t y) (hg:holds a g) (hids:∀ t y,JC env t = some y → ∀ id ∈ Ze y.val,id < n)
    (hk:YE K o a n θ w (JG mem e.touched) e):o.wp P a w K Q := by
  split at h
  · rename_i cs hc
    cases h
    cases h1:Y7 env g x with
    | none => rw [h1] at hc; cases hc
    | some v =>
      rw [h1] at hc; simp only [Option.bind_some] at hc
      have hcells := SV.cells_den θ hc
      refine Q6 (v := .pointer (some ⟨w.heap.size,0,none⟩)) (w' := w.alloc (.cells (JK θ cs).toArray t)) ?_ (hk _ _ _ (Jbx t cs (by rw [SV.cells_ids hc]; exact Jdz h1 hids) rfl rfl))
      unfold execOp
      simp only [ho]
      refine K5 ?_
      simp only [Instr.box,Sem.run_bind,JU3,Sem.run_pure,Result.andThen_ok,Jh h1 hs hg,hcells]
  · cases h
theorem JKl (cs:List (Nat × SC)):∀ (off m:Nat),QV (Xp cs off m) = Xp (QV cs) off m := by
  have ht:∀ (l:List (Nat × SC)) m,QV (l.take m) = (QV l).take m := by
    intro l
    induction l with
    | nil => intro m; simp [XG,QK]
    | cons p r ih => intro m; cases m with
      | zero => rfl
      | succ m => simp [XG,QK,ih]
  induction cs with
  | nil => intro off m; cases off <;> simp [Xp,XG,QK]
  | cons p r ih =>
    intro off m
    cases off with
    | zero => exact ht _ _
    | succ off => simp only [Xp,XG,QK]; exact ih off m
theorem JGq {α:Type} (l:List α):∀ (off m:Nat),Xp l off m = (l.drop off).take m := by
  induction l with
  | nil => intro off m; cases off <;> simp [Xp]
  | cons x r ih =>
    intro off m
    cases off with
    | zero => rfl
    | succ off => simp only [Xp,List.drop_succ_cons]; exact ih off m
theorem JYR (θ:Th) (cs:List SC) (off m:Nat):JK θ (Xp cs off m) = ((JK θ cs).drop off).take m := by
  rw [JGq]; simp [JK,List.map_take,List.map_drop]
theorem WZ {t:TypeId} {b:Bool} (h:JEU P t = some b):∃ d,P.underlying t = some d ∧ d.isRow = b := by
  unfold JEU at h
  cases hu:P.underlying t with
  | none => rw [hu] at h; cases h
  | some d =>
    rw [hu] at h
    refine ⟨d,rfl,?_⟩
    cases d <;> simp at h <;> subst h <;> rfl
theorem Yf {id:Nat} {ty:TypeId} {cs:List (Nat × SC)} (h:QD θ w id (.blk ty cs)) :
    ∃ b,(θ id).blk = some b ∧ w.heap[b]? = some (.cells (JK θ (QV cs)).toArray ty (0,0)) := by
  obtain ⟨b,h1,h2⟩ := h
  exact ⟨b,by rw [h1]; rfl,h2⟩
theorem Wu {t:TypeId} {d:TypeDesc} (hu:P.underlying t = some d) (hd:d.isRow = false) {ad:Addr} {v:Value} (hc:w.cell? ad = some v):(loadVar t ad).run P w = .ok v w := by
  have hagg:(isAgg t).run P w = .ok false w := by
    unfold isAgg
    rw [Sem.run_bind,run_underlying hu w]
    cases d <;> simp_all
  simp [loadVar,Sem.run_bind,hagg,go_sem,hc]
theorem Jtp {t:TypeId} {x:Operand} (ho:o.op = .load t x)
    (h:(match Y7 env g x,JEU P t,P.info? t with
      | some (.one (.ptr id off)),some b,some i => match JC mem id with
        | some (.blk _ cs) => bif b then
            (let r := QV (Xp cs off i.size); bif Nat.beq r.length i.size then some (⟨some (.agg r),[id],[],[],[],[],n⟩:Eff) else none)
          else (match Xp cs off 1 with
            | [(_,c)] => some ⟨some (.one c),[id],[],[],[],[],n⟩
            | _ => none)
        | _ => none
      | _,_,_ => none) = some e)
    (hs:∀ t ∈ Je [x],∀ y,JC env t = some y → Jx θ a t y) (hg:holds a g) (hm:Jf θ (JG mem e.rd) w)
    (hk:YE K o a n θ w (JG mem e.touched) e):o.wp P a w K Q := by
  split at h
  · rename_i id off b i h1 h2 h3
    obtain ⟨d,hu,hd⟩ := WZ h2
    have ha := Jh h1 hs hg
    split at h
    · rename_i ty cs hl
      cases b
      · simp only [cond_false] at h
        split at h
        · rename_i tg c hc
          cases h
          obtain ⟨bl,hb,hh⟩ := Yf (hm.1 id (.blk ty cs) (by rw [Jt]; simp [hl]))
          have hcell:w.cell? ⟨bl,off,none⟩ = some (c.den θ) := by
            have h6 := JKl cs off 1
            rw [hc,JGq] at h6
            have h7:(QV cs)[off]? = some c := by
              have := congrArg (fun l:List SC => l[0]?) h6
              simp only [XG,QK,List.getElem?_take,List.getElem?_drop] at this
              simpa using this.symm
            simp [World.cell?,hh,JK,h7]
          refine Q6 (v := c.den θ) (w' := w) ?_ (hk _ _ _ (EffRel.pure (x := .one c) rfl rfl))
          unfold execOp
          simp only [ho]
          refine K5 ?_
          simp only [Instr.loadAt,ha,SV.den,SC.den,hb,Option.map_some,Instr.sureAddr,Sem.run_bind,Sem.run_pure,Result.andThen_ok,Wu hu hd hcell]
        · cases h
      · simp only [cond_true] at h
        cases hq:Nat.beq (QV (Xp cs off i.size)).length i.size
        · rw [hq] at h; cases h
        · rw [hq] at h; cases h
          have hlen := Nat.eq_of_beq_eq_true hq
          obtain ⟨bl,hb,hh⟩ := Yf (hm.1 id (.blk ty cs) (by rw [Jt]; simp [hl]))
          have hrange:w.rangeAt bl off (JK θ (QV (Xp cs off i.size))) := by
            intro j v hv
            rw [JKl,JYR] at hv
            have hv':(JK θ (QV cs))[off + j]? = some v := by
              rw [List.getElem?_take] at hv
              split at hv
              · rw [List.getElem?_drop] at hv; exact hv
              · cases hv
            simp [World.cell?,hh,hv']
          refine Q6 (v := .agg (JK θ (QV (Xp cs off i.size))).toArray) (w' := w) ?_ (hk _ _ _ (EffRel.pure (x := .agg _) rfl rfl))
          unfold execOp
          simp only [ho]
          refine K5 ?_
          simp only [ha,SV.den,SC.den,hb,Option.map_some]
          exact run_loadAt_mid w bl off t _ d hrange hu hd (by rw [h3]; simp [JK,hlen])
    · cases h
  · cases h
theorem JOr {α:Type} (l:List α):∀ (off:Nat) (xs:List α),(ZY l off xs).length = l.length := by
  induction l with
  | nil => intro off xs; cases off <;> cases xs <;> rfl
  | cons y r ih => intro off xs; cases off <;> cases xs <;> simp [ZY,ih]
theorem JDB {α:Type} (l:List α):∀ (off:Nat) (xs:List α),off + xs.length ≤ l.length → ZY l off xs = l.take off ++ xs ++ l.drop (off + xs.length) := by
  induction l with
  | nil => intro off xs h; cases xs <;> simp at h; subst h; rfl
  | cons y r ih =>
    intro off xs h
    cases off with
    | zero => cases xs with
      | nil => rfl
      | cons x xs => simp only [ZY]; rw [ih 0 xs (by simp at h ⊢; omega)]; simp
    | succ off => simp only [ZY]; rw [ih off xs (by simp at h ⊢; omega)]; simp [Nat.add_right_comm]
theorem Jhd (cs:List (Nat × SC)):∀ (off:Nat) (xs:List (Nat × SC)),QV (ZY cs off xs) = ZY (QV cs) off (QV xs) := by
  induction cs with
  | nil => intro off xs; cases off <;> cases xs <;> rfl
  | cons p r ih => intro off xs; cases off <;> cases xs <;> simp [ZY,XG,QK,ih]
theorem JOD (cs:List (Nat × SC)):(QV cs).length = cs.length := by
  induction cs with
  | nil => rfl
  | cons p r ih => simp [XG,QK,ih]
theorem SC.den_oneCell (θ:Th) (c:SC):(c.den θ).oneCell' = true := by cases c <;> rfl
theorem JpQ {t:TypeId} {x y:Operand} (ho:o.op = .store t x y)
    (h:(match Y7 env g x,(Y7 env g y).bind SV.cells,P.info? t with
      | some (.one (.ptr id off)),some vs,some i => match JC mem id with
        | some (.blk ty cs) => bif Nat.beq vs.length i.size && Nat.ble (off + vs.length) cs.length then
            some (⟨none,[id],[id],[(id,.blk ty (ZY cs off (jS n vs)))],[],[],n + vs.length⟩:Eff) else none
        | _ => none
      | _,_,_ => none) = some e)
    (hs:∀ t ∈ Je [x,y],∀ y,JC env t = some y → Jx θ a t y) (hg:holds a g) (hm:Jf θ (JG mem e.rd) w)
    (hk:YE K o a n θ w (JG mem e.touched) e):o.wp P a w K Q := by
  split at h
  · rename_i id off vs i h1 h2 h3
    have ha := Jh h1 (fun t ht => hs t (by rw [Jr]; simp [ht])) hg
    cases h4:Y7 env g y with
    | none => rw [h4] at h2; cases h2
    | some v =>
      rw [h4] at h2; simp only [Option.bind_some] at h2
      have hb := Jh h4 (fun t ht => hs t (by rw [Jr]; simp [ht])) hg
      have hcells := SV.cells_den θ h2
      split at h
      · rename_i ty cs hl
        cases hq:(Nat.beq vs.length i.size && Nat.ble (off + vs.length) cs.length)
        · rw [hq] at h; cases h
        · rw [hq] at h; cases h
          simp only [Bool.and_eq_true] at hq
          have hlen := Nat.eq_of_beq_eq_true hq.1
          have hfit := Nat.le_of_ble_eq_true hq.2
          have hlr:JC (JG mem [id]) id = some (.blk ty cs) := by rw [Jt]; simp [hl]
          obtain ⟨bl,hbox,hh⟩:∃ b,θ id = Loc.box b ∧ w.heap[b]? = some (.cells (JK θ (QV cs)).toArray ty (0,0)) := hm.1 id (.blk ty cs) hlr
          have hbl:(θ id).blk = some bl := by rw [hbox]; rfl
          have hst := run_storeCells_at P bl off ty (JK θ vs) 0 (JK θ (QV cs)).toArray w hh (by simp [JK,JOD]; omega) (by
            intro v hv
            simp only [JK,List.mem_map] at hv
            obtain ⟨c,_,rfl⟩ := hv
            exact SC.den_oneCell θ c)
          have hnew:(List.take (off + 0) (JK θ (QV cs)) ++ JK θ vs ++ List.drop (off + 0 + (JK θ vs).length) (JK θ (QV cs))) = JK θ (QV (ZY cs off (jS n vs))) := by
            rw [Jhd,JNQ,JDB _ _ _ (by rw [JOD]; exact hfit)]
            simp [JK,List.map_take,List.map_drop]
          simp only at hst
          rw [hnew] at hst
          refine JhL (w' := w.setRow bl (JK θ (QV (ZY cs off (jS n vs)))).toArray) ?_ (hk _ _ _ ⟨rfl,⟨W9.refl _ _,rfl,rfl,rfl,?_,?_,?_,?_⟩,?_,?_⟩)
          · unfold execOp
            simp only [ho]
            refine JvU ?_
            have hsz:(v.den θ).cells.size = i.size := by rw [hcells]; simp [JK,hlen]
            rw [hb]
            generalize v.den θ = vd at hcells hsz
            simp only [Instr.storeAt,ha,SV.den,SC.den,hbl,Option.map_some,Instr.sureAddr,Sem.run_bind,Sem.run_pure,Result.andThen_ok,storeVar,sizeOf,typeInfo,run_program,h3,hsz,ne_eq,not_true_eq_false,if_false]
            rw [hcells]
            exact hst
          · simp [World.setRow]
          · intro b hb' hno
            have hne:bl ≠ b := fun e => hno id _ hlr (e ▸ hbl)
            simp [World.setRow,Array.getElem?_modify,hne]
          · intro i' o' b hl' hb'
            obtain ⟨rfl,rfl⟩ := Z6 hl'
            exact .inr ⟨_,_,hlr,hb'⟩
          · intro i' o' b hl' hb'
            obtain ⟨rfl,rfl⟩ := Z6 hl'
            exact .inr ⟨_,_,hlr,hb'⟩
          · intro i' o' hl'
            obtain ⟨rfl,rfl⟩ := Z6 hl'
            exact ⟨bl,hbox,setRow_heap w bl _ _ ty _ hh⟩
          · intro i1 i2 o1 o2 b hl1 hl2 hne
            obtain ⟨rfl,rfl⟩ := Z6 hl1
            obtain ⟨rfl,rfl⟩ := Z6 hl2
            exact absurd rfl hne
      · cases h
  · cases h
theorem Ye {k j:IntKind} (h:Wk k j = true):k = j := by cases k <;> cases j <;> first | rfl | cases h
theorem JP0 (s x:Bool):(mkB s x).val = x := by cases s <;> rfl
theorem JOE (s:Bool) (x:Int):(mkI s x).val = x := by cases s <;> rfl
theorem JNX (x y:SB):(Jw7 x y).val = (x.val && y.val) := by
  rcases x with b | b <;> rcases y with c | c <;> cases b <;> cases c <;> rfl
theorem Ji4 (x:SB):(Jwo x).val = !x.val := by cases x <;> rfl
theorem JTG:∀ {a c b d:List SC} {x:SB},a.length = c.length → JUG (a ++ b) (c ++ d) = some x → ∃ y z,JUG a c = some y ∧ JUG b d = some z ∧ x.val = (y.val && z.val)
  | [],[],b,d,x,_,h => ⟨.c true,x,rfl,h,by simp [SB.val]⟩
  | [],_ :: _,_,_,_,h,_ => by simp at h
  | _ :: _,[],_,_,_,h,_ => by simp at h
  | p :: a,q :: c,b,d,x,hl,h => by
    simp only [List.cons_append,JUG] at h
    split at h
    · rename_i u v h1 h2
      cases h
      obtain ⟨y,z,h3,h4,h5⟩ := JTG (by simpa using hl) h2
      exact ⟨Jw7 u y,z,by simp [JUG,h1,h3],h4,by rw [JNX,JNX,h5,Bool.and_assoc]⟩
    · cases h
def JU1 (P:Program) (θ:Th) (t:TypeId) (cs:List SC):Value :=
  match P.underlying t with
  | some (.struct _) => .agg (JK θ cs).toArray
  | some (.array _ _) => .agg (JK θ cs).toArray
  | _ => match cs with
    | [c] => c.den θ
    | _ => undef
theorem JhJ {t:TypeId} {i:TypeInfo} (hi:P.info? t = some i) {d:TypeDesc} (hu:P.underlying t = some d) (h1:d.isRow = false → i.size = 1) (cs:List SC) (o:Nat) (hlen:o + i.size ≤ cs.length) :
    (part t (JK θ cs).toArray o).run P w = .ok (JU1 P θ t ((cs.drop o).take i.size)) w := by
  have hagg:(isAgg t).run P w = .ok d.isRow w := by
    unfold isAgg
    rw [Sem.run_bind,run_underlying hu w]
    cases d <;> rfl
  have hsz:(sizeOf t).run P w = .ok i.size w := by simp [sizeOf,typeInfo,go_sem,hi]
  unfold part JU1
  rw [Sem.run_bind,hagg,hu]
  cases hd:d.isRow
  · have h2 := h1 hd
    have h3:o < cs.length := by omega
    have h4:(cs.drop o).take i.size = [cs[o]] := by rw [h2,List.drop_eq_getElem_cons h3]; rfl
    rw [h4]
    have h5:(JK θ cs).toArray[o]? = some (cs[o].den θ) := by simp [JK,h3]
    simp only [Result.andThen_ok,Bool.false_eq_true,if_false,h5,Sem.run_pure]
    cases d <;> simp at hd <;> rfl
  · simp only [Result.andThen_ok,if_true,Sem.run_bind,hsz,Sem.run_pure]
    have h5:(JK θ cs).toArray.extract o (o + i.size) = (JK θ ((cs.drop o).take i.size)).toArray := by
      simp [JK,List.map_take,List.map_drop]
    rw [h5]
    cases d <;> simp at hd <;> rfl
theorem Jlz:∀ {d:Nat} {t:TypeId} {cs:List SC},k9 P d t cs = true → ∃ de i,P.underlying t = some de ∧ P.info? t = some i ∧ (de.isRow = false → i.size = 1)
  | 0,_,_,h => by cases h
  | d + 1,t,cs,h => by
    unfold k9 at h
    split at h
    · rename_i fs i h1 h2; exact ⟨_,i,h1,h2,fun h => by cases h⟩
    · rename_i i h1 h2; simp only [Bool.and_eq_true] at h; exact ⟨_,i,h1,h2,fun _ => Nat.eq_of_beq_eq_true h.1⟩
    · rename_i i h1 h2; simp only [Bool.and_eq_true] at h; exact ⟨_,i,h1,h2,fun _ => Nat.eq_of_beq_eq_true h.1⟩
    · cases h
theorem JcD {ft:TypeId → List SC → Bool} {cs:List SC} {tot:Nat}:∀ {L:List Field} {o:Nat},k9.flatFs P ft L o tot cs = true → o ≤ tot
  | [],_,h => Nat.le_of_eq (Nat.eq_of_beq_eq_true h)
  | f :: L,o,h => by
    simp only [k9.flatFs,Bool.and_eq_true] at h
    obtain ⟨_,_,h⟩ := h
    split at h
    · simp only [Bool.and_eq_true] at h
      exact Nat.le_trans (Nat.le_add_right _ _) (JcD h.2)
    · cases h
theorem JGH:∀ {d:Nat} {t:TypeId} {i:TypeInfo} {cs ds:List SC} {b:SB},k9 P d t cs = true → P.info? t = some i → cs.length = i.size → ds.length = i.size → JUG cs ds = some b →
    ∀ D,d ≤ D → (Op.equalIn D t (JU1 P θ t cs) (JU1 P θ t ds)).run P w = .ok b.val w
  | 0,_,_,_,_,_,h,_,_,_,_ => by cases h
  | d + 1,t,i,cs,ds,b,h,hi,hc,hd,he => by
    intro D hD
    obtain ⟨D,rfl⟩:∃ D',D = D' + 1 := ⟨D - 1,by omega⟩
    unfold k9 at h
    split at h
    ·
      rename_i fs i' hu hi'
      rw [hi] at hi'; cases hi'
      simp only [Bool.and_eq_true,Bool.not_eq_true'] at h
      obtain ⟨hstood,hfs⟩ := h
      unfold JU1
      simp only [hu]
      unfold Op.equalIn
      simp only [Sem.run_bind,run_underlying hu,Result.andThen_ok,run_program,hstood,Bool.false_eq_true,if_false]
      rw [← Array.forIn_toList]
      have key:∀ (L:List Field) (o:Nat) (b:SB),k9.flatFs P (k9 P d) L o i.size cs = true → JUG (cs.drop o) (ds.drop o) = some b →
          (forIn L ((none : Option Bool), ()) (fun (f : Field) _ => if f.name ≠ "_" then do
                let x ← part f.type (JK θ cs).toArray f.offset
                let y ← part f.type (JK θ ds).toArray f.offset
                let z ← Op.equalIn D f.type x y
                if (!z) = true then pure (ForInStep.done (some false,())) else pure (ForInStep.yield (none,()))
              else pure (ForInStep.yield (none,()))):Sem (Option Bool × Unit)).run P w = .ok ((if b.val then none else some false),()) w := by
        intro L
        induction L with
        | nil =>
          intro o b h1 h2
          have h3:o = i.size := Nat.eq_of_beq_eq_true h1
          subst h3
          rw [List.drop_eq_nil_of_le (by omega),List.drop_eq_nil_of_le (by omega)] at h2
          cases h2
          simp [SB.val]
        | cons f L ih =>
          intro o b h1 h2
          simp only [k9.flatFs,Bool.and_eq_true,bne_iff_ne,ne_eq] at h1
          obtain ⟨hn,ho,hr⟩ := h1
          have ho := Nat.eq_of_beq_eq_true ho
          split at hr
          · rename_i j hj
            simp only [Bool.and_eq_true] at hr
            obtain ⟨hft,hr⟩ := hr
            obtain ⟨de,j',hu',hj',hsz⟩ := Jlz hft
            rw [hj] at hj'; cases hj'
            have hle' := JcD hr
            have hsplit:∀ l:List SC,l.drop o = (l.drop o).take j.size ++ l.drop (o + j.size) := fun l => by
              rw [← List.drop_drop,List.take_append_drop]
            rw [hsplit cs,hsplit ds] at h2
            obtain ⟨y,z,h3,h4,h5⟩ := JTG (by simp; omega) h2
            have p1 := JhJ (θ := θ) (w := w) hj hu' hsz cs o (by omega)
            have p2 := JhJ (θ := θ) (w := w) hj hu' hsz ds o (by omega)
            have p3 := JGH hft hj (by simp; omega) (by simp; omega) h3 D (by omega)
            simp only [List.forIn_cons,Sem.run_bind,hn,ne_eq,not_false_eq_true,if_true,Result.andThen_ok,ho,p1,p2,p3]
            cases hy:y.val
            · simp [h5,hy]
            · simp only [Bool.not_true,Bool.false_eq_true,if_false,Sem.run_pure,Result.andThen_ok]
              have := ih (o + j.size) z hr h4
              simp only [h5,hy,Bool.true_and]
              exact this
          · cases hr
      have := key fs.toList 0 b hfs (by simpa using he)
      simp only [ne_eq] at this ⊢
      rw [this]
      cases hb:b.val <;> simp
    · rename_i i' hu hi'
      simp only [Bool.and_eq_true] at h
      obtain ⟨h1,h2⟩ := h
      split at h2
      · rename_i x
        rw [hi] at hi'; cases hi'
        match ds,hd.trans (Nat.eq_of_beq_eq_true h1) with
        | [e],_ =>
          simp only [JUG] at he
          cases e <;> simp only [eqC] at he <;> cases he
          unfold JU1
          simp only [hu]
          unfold Op.equalIn
          simp only [Sem.run_bind,run_underlying hu,Result.andThen_ok,SC.den,Sem.run_pure,JNX,JP0]
          simp [SB.val]
      · cases h2
    · rename_i i' hu hi'
      simp only [Bool.and_eq_true] at h
      obtain ⟨h1,h2⟩ := h
      split at h2
      · rename_i k x
        rw [hi] at hi'; cases hi'
        match ds,hd.trans (Nat.eq_of_beq_eq_true h1) with
        | [e],_ =>
          simp only [JUG] at he
          obtain ⟨j,y,rfl⟩:∃ j y,e = .int j y := by
            cases e <;> simp only [eqC] at he <;> first | exact ⟨_,_,rfl⟩ | cases he
          simp only [eqC] at he
          cases hk:Wk k j
          · rw [hk] at he; cases he
          · rw [hk] at he; cases he
            have := Ye hk; subst this
            unfold JU1
            simp only [hu]
            unfold Op.equalIn
            simp only [Sem.run_bind,run_underlying hu,Result.andThen_ok,SC.den,if_true,Sem.run_pure,JNX,JP0]
            simp [SB.val]
      · cases h2
    · cases h
theorem JEh:∀ {d:Nat} {t:TypeId} {cs:List SC},k9 P d t cs = true → ∀ D,d ≤ D → P.eqGuardType D t = false
  | 0,_,_,h,_,_ => by cases h
  | d + 1,t,cs,h,D,hD => by
    obtain ⟨D,rfl⟩:∃ D',D = D' + 1 := ⟨D - 1,by omega⟩
    unfold k9 at h
    split at h
    · rename_i fs i hu hi
      simp only [Bool.and_eq_true] at h
      unfold Program.eqGuardType
      simp only [hu]
      rw [← Array.any_toList]
      have key : ∀ (L : List Field) (o : Nat), k9.flatFs P (k9 P d) L o i.size cs = true → L.any (fun f => f.name != "_" && P.eqGuardType D f.type) = false := by
        intro L
        induction L with
        | nil => intro o _; rfl
        | cons f L ih =>
          intro o h1
          simp only [k9.flatFs,Bool.and_eq_true] at h1
          obtain ⟨_,_,hr⟩ := h1
          split at hr
          · simp only [Bool.and_eq_true] at hr
            rw [List.any_cons,JEh hr.1 D (by omega),ih _ hr.2]
            simp
          · cases hr
      exact key _ _ h.2
    · rename_i i hu hi; unfold Program.eqGuardType; simp [hu]
    · rename_i i hu hi; unfold Program.eqGuardType; simp [hu]
    · cases h
end each
open Go.RowKit
section each
variable {P:Program} {ce:CE} {o:Oper} {env:KP} {g:List (Nat × Bool)} {mem:Jo} {n:Nat} {e:Eff} {θ:Th} {a:Act} {w:World} {K:Act → World → Prop} {Q:Exit → Act → World → Prop}
theorem Jv8 {b:SI} {q:List Prop} (h:nz b = some q) (hq:∀ p ∈ q,p):b.val ≠ 0 := by
  cases b with
  | c m =>
    simp only [nz] at h
    by_cases hm:m = 0
    · simp [hm] at h
    · exact hm
  | v x => cases h; exact (show x ≠ 0 from hq _ (by simp))
theorem JTI {b:SI} {q:List Prop} (h:JeN b = some q) (hq:∀ p ∈ q,p):0 ≤ b.val := by
  cases b with
  | c m =>
    simp only [JeN] at h
    by_cases hm:0 ≤ m
    · exact hm
    · simp [hm] at h
  | v x => cases h; exact (show 0 ≤ x from hq _ (by simp))
theorem JsN {op:BinOp} {t:TypeId} {k:IntKind} {x y:SI} {c:SC} {q:List Prop} (h:JtK op k x y = some (c,q)) (hq:∀ p ∈ q,p) :
    (Go.binOp op t (.int k x.val) (.int k y.val)).run P w = .ok (c.den θ) w := by
  have hshl:op ≠ .shl := by rintro rfl; simp [JtK] at h
  have hshr:op ≠ .shr := by rintro rfl; simp [JtK] at h
  cases op <;> simp only [JtK,Option.some.injEq,Prod.mk.injEq,Option.map_eq_some_iff,reduceCtorEq] at h <;> try contradiction
  all_goals first
    | (obtain ⟨rfl,rfl⟩ := h
       simp [Go.binOp,Op.intArith,Op.intCmp,SC.den,JOE,JP0,Sem.run_pure]
       done)
    | (obtain ⟨rfl,rfl⟩ := h
       simp [Go.binOp,Op.intBits,SC.den,JOE,Zi,Sem.run_pure]
       done)
    | (obtain ⟨q',h1,rfl,rfl⟩ := h
       have := Jv8 h1 hq
       simp [Go.binOp,Op.intDiv,SC.den,JOE,Sem.run_pure,this])
theorem JUE (op:BinOp) (t:TypeId) (x y:Operand) (k:IntKind) (m:Int) (v:Value):(eqGuard op t x y (.int k m) v).run P w = .ok () w := by
  unfold eqGuard
  cases op <;> simp [Sem.run_pure]
theorem JQg (op:BinOp) (t:TypeId) (x y:Operand) (m:Bool) (v:Value):(eqGuard op t x y (.bool m) v).run P w = .ok () w := by
  unfold eqGuard
  cases op <;> simp [Sem.run_pure]
theorem JUJ (op:BinOp) (t:TypeId) (x y:Operand) (u v:Array Value) (h:P.eqGuardType P.depth t = false):(eqGuard op t x y (.agg u) (.agg v)).run P w = .ok () w := by
  unfold eqGuard
  cases op <;> simp [Sem.run_pure,Sem.run_bind,run_program,h]
theorem Jq7 {op:BinOp} {t:TypeId} {x y:SV} {c:SC} {q:List Prop} (h:SX.Jn4 P op t x y = some (c,q)) (hq:∀ p ∈ q,p) (ox oy:Operand) :
    (do eqGuard op t ox oy (x.den θ) (y.den θ); Go.binOp op t (x.den θ) (y.den θ):Sem Value).run P w = .ok (c.den θ) w := by
  unfold SX.Jn4 at h
  split at h
  · rename_i k x j y
    rw [Sem.run_bind]
    simp only [SV.den,SC.den,JUE,Result.andThen_ok]
    split at h
    · simp only [Option.map_eq_some_iff,Prod.mk.injEq] at h
      obtain ⟨q',h1,rfl,rfl⟩ := h
      have h2 := JTI h1 hq
      have h3:¬ y.val < 0 := by omega
      simp [Go.binOp,Op.shift,JOE,JU,Sem.run_pure,h3]
    · simp only [Option.map_eq_some_iff,Prod.mk.injEq] at h
      obtain ⟨q',h1,rfl,rfl⟩ := h
      have h2 := JTI h1 hq
      have h3:¬ y.val < 0 := by omega
      simp [Go.binOp,Op.shift,JOE,JU,Sem.run_pure,h3]
    · cases hk:Wk k j
      · rw [hk] at h; cases h
      · rw [hk] at h
        have := Ye hk; subst this
        exact JsN h hq
  · rename_i x y
    rw [Sem.run_bind]
    simp only [SV.den,SC.den,JQg,Result.andThen_ok]
    split at h
    · rename_i hu
      have he:∀ d,(Op.equalIn (d + 1) t (.bool x.val) (.bool y.val)).run P w = .ok (x.val == y.val) w := fun d => by
        unfold Op.equalIn
        simp [run_underlying hu]
      split at h
      · cases h
        simp [Go.binOp,Op.equal,Op.maxDepth,he 9999,JP0]
      · cases h
        simp [Go.binOp,Op.equal,Op.maxDepth,he 9999,JP0]
      · cases h
    · cases h
  · rename_i cs ds
    split at h
    · rename_i fs i hu hi
      cases hc:(k9 P 20 t cs && (Nat.beq cs.length i.size && Nat.beq ds.length i.size))
      · rw [hc] at h; cases h
      · rw [hc] at h
        simp only [Bool.and_eq_true] at hc
        obtain ⟨hf,h1,h2⟩ := hc
        have h1 := Nat.eq_of_beq_eq_true h1
        have h2 := Nat.eq_of_beq_eq_true h2
        have hdep:20 ≤ P.depth := by unfold Program.depth Made.depth; omega
        rw [Sem.run_bind]
        simp only [SV.den,JUJ _ _ _ _ _ _ (JEh hf _ hdep),Result.andThen_ok]
        have key:∀ b,JUG cs ds = some b → (Op.equal t (.agg (JK θ cs).toArray) (.agg (JK θ ds).toArray)).run P w = .ok b.val w := by
          intro b hb
          have := JGH (θ := θ) (w := w) hf hi h1 h2 hb 10000 (by omega)
          unfold JU1 at this
          rw [hu] at this
          exact this
        simp only [cond_true] at h
        split at h
        · rename_i b hb
          cases h
          simp [Go.binOp,key b hb,SC.den]
        · rename_i b hb
          cases h
          simp [Go.binOp,key b hb,SC.den,Ji4]
        · cases h
    · cases h
  · cases h
theorem Jpo {op:BinOp} {t yt:TypeId} {x y:Operand} (ho:o.op = .binOp op t x y yt)
    (h:(match Y7 env g x,Y7 env g y with
      | some a,some b => (SX.Jn4 P op t a b).map fun (c,q) => (⟨some (.one c),[],[],[],q,[],n⟩:Eff)
      | _,_ => none) = some e) (hn:∀ p ∈ e.needs,p)
    (hs:∀ t ∈ Je [x,y],∀ y,JC env t = some y → Jx θ a t y) (hg:holds a g)
    (hk:YE K o a n θ w (JG mem e.touched) e):o.wp P a w K Q := by
  split at h
  · rename_i u v h1 h2
    simp only [Option.map_eq_some_iff,Prod.exists] at h
    obtain ⟨c,q,h3,rfl⟩ := h
    have ha := Jh h1 (fun t ht => hs t (by rw [Jr]; simp [ht])) hg
    have hb := Jh h2 (fun t ht => hs t (by rw [Jr]; simp [ht])) hg
    refine Q6 (v := c.den θ) (w' := w) ?_ (hk _ _ _ (EffRel.pure (x := .one c) rfl rfl))
    unfold execOp
    simp only [ho]
    refine K5 ?_
    rw [ha,hb]
    exact Jq7 h3 hn x y
  · cases h
theorem JqU {op:UnOp} {t:TypeId} {x:Operand} (ho:o.op = .unOp op t x)
    (h:((Y7 env g x).bind (Jwn op)).map (fun c => Eff.pure n (.one c)) = some e)
    (hs:∀ t ∈ Je [x],∀ y,JC env t = some y → Jx θ a t y) (hg:holds a g)
    (hk:YE K o a n θ w (JG mem e.touched) e):o.wp P a w K Q := by
  simp only [Option.map_eq_some_iff,Option.bind_eq_some_iff] at h
  obtain ⟨c,⟨v,h1,h2⟩,rfl⟩ := h
  have ha := Jh h1 hs hg
  refine Q6 (v := c.den θ) (w' := w) ?_ (hk _ _ _ (EffRel.pure (x := .one c) rfl rfl))
  unfold execOp
  simp only [ho]
  refine K5 ?_
  rw [ha]
  unfold Jwn at h2
  split at h2
  · rename_i k m
    cases op <;> cases m <;> simp only [reduceCtorEq,Option.some.injEq] at h2 <;> subst h2 <;> simp [SV.den,SC.den,Op.unary,Op.intArith,SI.val]
  · rename_i b
    cases op <;> simp only [reduceCtorEq,Option.some.injEq] at h2
    subst h2
    simp [SV.den,SC.den,Op.unary,Ji4]
  · cases h2
theorem JgY {s d:TypeId} {x:Operand} (ho:o.op = .convert s d x)
    (h:(match P.underlying s,P.underlying d,Y7 env g x with
      | some _,some (.int k),some (.one (.int _ (.c m))) => some (Eff.pure n (.one (.int k (.c (k.wrap m)))))
      | some _,some (.int k),some (.one (.int _ (.v m))) => some (Eff.pure n (.one (.int k (.v (k.wrap m)))))
      | _,_,_ => none) = some e)
    (hs:∀ t ∈ Je [x],∀ y,JC env t = some y → Jx θ a t y) (hg:holds a g)
    (hk:YE K o a n θ w (JG mem e.touched) e):o.wp P a w K Q := by
  have key:∀ (ds:TypeDesc) (k j:IntKind) (m:Int),P.underlying s = some ds → P.underlying d = some (.int k) → (Go.convert s d (.int j m)).run P w = .ok (.int k (k.wrap m)) w := by
    intro ds k j m h1 h2
    unfold Go.convert
    rw [Sem.run_bind,run_underlying h1,Result.andThen_ok,Sem.run_bind,run_underlying h2,Result.andThen_ok]
    simp [Conv.intToInt]
  split at h
  · rename_i ds k j m h1 h2 h3
    cases h
    have ha := Jh h3 hs hg
    refine Q6 (v := .int k (k.wrap m)) (w' := w) ?_ (hk _ _ _ (EffRel.pure (x := .one (.int k (.c (k.wrap m)))) rfl rfl))
    unfold execOp
    simp only [ho]
    refine K5 ?_
    rw [ha]
    exact key ds k j m h1 h2
  · rename_i ds k j m h1 h2 h3
    cases h
    have ha := Jh h3 hs hg
    refine Q6 (v := .int k (k.wrap m)) (w' := w) ?_ (hk _ _ _ (EffRel.pure (x := .one (.int k (.v (k.wrap m)))) rfl rfl))
    unfold execOp
    simp only [ho]
    refine K5 ?_
    rw [ha]
    exact key ds k j m h1 h2
  · cases h
theorem Jek {x:Operand} (ho:o.op = .nilCheck x)
    (h:(match Y7 env g x with
      | some (.one (.ptr id off)) => match JC mem id with
        | some (.blk _ _) => some (⟨some (.one (.ptr id off)),[id],[],[],[],[],n⟩:Eff)
        | _ => none
      | _ => none) = some e) (hm:Jf θ (JG mem e.rd) w)
    (hs:∀ t ∈ Je [x],∀ y,JC env t = some y → Jx θ a t y) (hg:holds a g)
    (hk:YE K o a n θ w (JG mem e.touched) e):o.wp P a w K Q := by
  split at h
  · rename_i id off h1
    split at h
    case h_2 => cases h
    rename_i ty cs hl
    cases h
    have ha := Jh h1 hs hg
    obtain ⟨b,hb,_⟩ := Yf (hm.1 id (.blk ty cs) (by rw [Jt]; simp [hl]))
    refine Q6 (v := SV.den θ (.one (.ptr id off))) (w' := w) ?_ (hk _ _ _ (EffRel.pure (x := .one (.ptr id off)) rfl rfl))
    unfold execOp
    simp only [ho,ha,SV.den,SC.den,hb,Option.map_some,Sem.run_pure]
  · cases h
theorem JLs {α:Type} (fs:Array α) (f:Nat):fs.toList[f]? = fs[f]? := by simp
theorem Jb8 {t:TypeId} {x:Operand} {f:Nat} (ho:o.op = .fieldAddr t x f)
    (h:(match P.underlying t,Y7 env g x with
      | some (.struct fs),some (.one (.ptr id off)) => match fs.toList[f]? with
        | some fd => (match P.info? fd.type with
          | some i => (match JC mem id with
            | some (.blk _ _) => bif Nat.beq i.size 0 then none else some (⟨some (.one (.ptr id (off + fd.offset))),[id],[],[],[],[],n⟩:Eff)
            | _ => none)
          | none => none)
        | none => none
      | _,_ => none) = some e) (hm:Jf θ (JG mem e.rd) w)
    (hs:∀ t ∈ Je [x],∀ y,JC env t = some y → Jx θ a t y) (hg:holds a g)
    (hk:YE K o a n θ w (JG mem e.touched) e):o.wp P a w K Q := by
  split at h
  · rename_i fs id off hu h1
    have ha := Jh h1 hs hg
    split at h
    · rename_i fd hf
      split at h
      · rename_i i hi
        split at h
        case h_2 => cases h
        rename_i ty cs hl
        cases hq:Nat.beq i.size 0
        · rw [hq] at h; cases h
          obtain ⟨b,hb,_⟩ := Yf (hm.1 id (.blk ty cs) (by rw [Jt]; simp [hl]))
          have hne:i.size ≠ 0 := fun hz => by rw [hz] at hq; cases hq
          refine Q6 (v := SV.den θ (.one (.ptr id (off + fd.offset)))) (w' := w) ?_ (hk _ _ _ (EffRel.pure (x := .one (.ptr id (off + fd.offset))) rfl rfl))
          unfold execOp
          simp only [ho]
          refine K5 ?_
          rw [JLs] at hf
          simp only [ha,SV.den,SC.den,hb,Option.map_some,Instr.fieldAt,Sem.run_bind,run_underlying hu,Result.andThen_ok,hf,Instr.sureAddr,Sem.run_pure,fieldPlace,sizeOf,typeInfo,run_program,hi,hne,if_false,Addr.add_mid]
        · rw [hq] at h; cases h
      · cases h
    · cases h
  · cases h
theorem Jpy {t:TypeId} {x:Operand} {f:Nat} (ho:o.op = .field t x f)
    (h:(match P.underlying t,Y7 env g x with
      | some (.struct fs),some (.agg cs) => match fs.toList[f]? with
        | some fd => (match JEU P fd.type,P.info? fd.type with
          | some true,some i => (let r := Xp cs fd.offset i.size; bif Nat.beq r.length i.size then some (Eff.pure n (.agg r)) else none)
          | some false,some _ => (match Xp cs fd.offset 1 with
            | [c] => some (Eff.pure n (.one c))
            | _ => none)
          | _,_ => none)
        | none => none
      | _,_ => none) = some e)
    (hs:∀ t ∈ Je [x],∀ y,JC env t = some y → Jx θ a t y) (hg:holds a g)
    (hk:YE K o a n θ w (JG mem e.touched) e):o.wp P a w K Q := by
  split at h
  · rename_i fs cs hu h1
    have ha := Jh h1 hs hg
    split at h
    · rename_i fd hf
      rw [JLs] at hf
      split at h
      · rename_i i h2 hi
        obtain ⟨d,hd,hrow⟩ := WZ h2
        simp only at h
        cases hq:Nat.beq (Xp cs fd.offset i.size).length i.size
        · rw [hq] at h; cases h
        · rw [hq] at h; cases h
          have hagg:(isAgg fd.type).run P w = .ok true w := by
            unfold isAgg
            rw [Sem.run_bind,run_underlying hd w]
            cases d <;> simp_all
          refine Q6 (v := SV.den θ (.agg (Xp cs fd.offset i.size))) (w' := w) ?_ (hk _ _ _ (EffRel.pure (x := .agg _) rfl rfl))
          unfold execOp
          simp only [ho]
          refine K5 ?_
          simp only [ha,SV.den,Instr.field,Sem.run_bind,run_underlying hu,Result.andThen_ok,hf,asAgg,Sem.run_pure,part,hagg,if_true,sizeOf,typeInfo,run_program,hi]
          congr 2
          simp [JK,JGq,List.map_take,List.map_drop]
      · rename_i i h2 hi
        obtain ⟨d,hd,hrow⟩ := WZ h2
        split at h
        · rename_i c hc
          cases h
          have hagg:(isAgg fd.type).run P w = .ok false w := by
            unfold isAgg
            rw [Sem.run_bind,run_underlying hd w]
            cases d <;> simp_all
          have h7:cs[fd.offset]? = some c := by
            rw [JGq] at hc
            have := congrArg (fun l:List SC => l[0]?) hc
            simp only [List.getElem?_take,List.getElem?_drop] at this
            simpa using this
          refine Q6 (v := SV.den θ (.one c)) (w' := w) ?_ (hk _ _ _ (EffRel.pure (x := .one c) rfl rfl))
          unfold execOp
          simp only [ho]
          refine K5 ?_
          have h8:(JK θ cs).toArray[fd.offset]? = some (c.den θ) := by simp [JK,h7]
          simp only [ha,SV.den,Instr.field,Sem.run_bind,run_underlying hu,Result.andThen_ok,hf,asAgg,Sem.run_pure,part,hagg,Bool.false_eq_true,if_false,h8]
        · cases h
      · cases h
    · cases h
  · cases h
theorem JgP {x:Operand} {k:Nat} (ho:o.op = .extract x k)
    (h:(match Y7 env g x with
      | some (.tup vs) => match vs[k]? with
        | some (true,cs) => some (Eff.pure n (.agg cs))
        | some (false,[c]) => some (Eff.pure n (.one c))
        | _ => none
      | _ => none) = some e)
    (hs:∀ t ∈ Je [x],∀ y,JC env t = some y → Jx θ a t y) (hg:holds a g)
    (hk:YE K o a n θ w (JG mem e.touched) e):o.wp P a w K Q := by
  split at h
  · rename_i vs h1
    have ha := Jh h1 hs hg
    have key:∀ p,vs[k]? = some p → (Instr.extract (.tuple (vs.map (QT θ)).toArray) k).run P w = .ok (QT θ p) w := by
      intro p hp
      have:(vs.map (QT θ)).toArray[k]? = some (QT θ p) := by simp [hp]
      simp [Instr.extract,this]
    split at h
    · rename_i cs hv
      cases h
      refine Q6 (v := SV.den θ (.agg cs)) (w' := w) ?_ (hk _ _ _ (EffRel.pure (x := .agg cs) rfl rfl))
      unfold execOp
      simp only [ho]
      refine K5 ?_
      rw [ha]
      exact (key _ hv).trans (by cases cs with
        | nil => rfl
        | cons c r => rfl)
    · rename_i c hv
      cases h
      refine Q6 (v := SV.den θ (.one c)) (w' := w) ?_ (hk _ _ _ (EffRel.pure (x := .one c) rfl rfl))
      unfold execOp
      simp only [ho]
      refine K5 ?_
      rw [ha]
      exact key _ hv
    · cases h
  · cases h
theorem JY0:∀ {m:Jo},JbU m = true → ∀ {id:Nat} {o:Obj},JC m id = some o → ∃ ty esz r,o = .row true ty esz r
  | [],_,id,o,h => by cases h
  | (i,x) :: r,hr,id,o,h => by
    unfold JbU at hr
    split at hr
    · rename_i heq; cases heq
    · rename_i i' ty esz rr rest heq
      cases heq
      rw [JT] at h
      cases hb:Nat.beq i id
      · rw [hb] at h; exact JY0 hr h
      · rw [hb] at h; cases h; exact ⟨_,_,_,rfl⟩
    · cases hr
theorem JP5 {x y:SV} (h:EV.v x = EV.v y):x = y := by injection h
theorem JIJ {x y:SC} {q:jv} (h:∀ p ∈ JZF x y q,p.1 = p.2):x = y ∧ ∀ p ∈ q,p.1 = p.2 := by
  have gen:∀ {x y:SC} {q:jv},(∀ p ∈ ((EV.v (.one x),EV.v (.one y)) :: q:jv),p.1 = p.2) → x = y ∧ ∀ p ∈ q,p.1 = p.2 := fun {x y q} h => by
    have heq:SV.one x = SV.one y := JP5 (h (.v (.one x),.v (.one y)) (by simp))
    exact ⟨by injection heq,fun p hp => h p (by simp [hp])⟩
  unfold JZF at h
  split at h
  · rename_i a b
    cases hb:Nat.beq a b
    · rw [hb] at h; exact gen h
    · rw [hb] at h
      have := Nat.eq_of_beq_eq_true hb; subst this
      exact ⟨rfl,h⟩
  · rename_i a o b p
    cases hb:(Nat.beq a b && Nat.beq o p)
    · rw [hb] at h; exact gen h
    · rw [hb] at h
      simp only [Bool.and_eq_true] at hb
      have := Nat.eq_of_beq_eq_true hb.1; subst this
      have := Nat.eq_of_beq_eq_true hb.2; subst this
      exact ⟨rfl,h⟩
  · exact gen h
theorem JHB (θ:Th) (c:SC):(JdU c).den θ = c.den θ ∧ Wx (JdU c) = Wx c := by cases c <;> exact ⟨rfl,rfl⟩
theorem JJr:∀ {x y:List (Nat × SC)} {q:jv},JMc x y = some q → (∀ p ∈ q,p.1 = p.2) → (∀ θ,JK θ (QV x) = JK θ (QV y)) ∧ Qw (QV x) = Qw (QV y)
  | [],[],_,_,_ => ⟨fun _ => rfl,rfl⟩
  | (a,x) :: r,(b,y) :: s,q,h,hq => by
    simp only [JMc,Option.map_eq_some_iff] at h
    obtain ⟨q',h1,rfl⟩ := h
    obtain ⟨h2,hq'⟩ := JIJ hq
    obtain ⟨h3,h4⟩ := JJr h1 hq'
    refine ⟨fun θ => ?_,?_⟩
    · have := h3 θ
      simp only [QK,JK,List.map_cons] at this ⊢
      rw [this,← (JHB θ x).1,h2,(JHB θ y).1]
    · rw [QK,QK,Jv,Jv,h4,← (JHB Th.none x).2,h2,(JHB Th.none y).2]
  | [],_ :: _,_,h,_ => by simp [JMc] at h
  | _ :: _,[],_,h,_ => by simp [JMc] at h
theorem JhU {x:Obj} {y:Option Obj} {q:jv} (h:Jjc x y = some q) (hq:∀ p ∈ q,p.1 = p.2) :
    (∃ ty esz r,x = .row true ty esz r) ∨ ∃ t a b,x = .blk t a ∧ y = some (.blk t b) ∧ ∀ θ,JK θ (QV a) = JK θ (QV b) := by
  unfold Jjc at h
  split at h
  · exact .inl ⟨_,_,_,rfl⟩
  · rename_i t a u b
    cases hb:Nat.beq t u
    · rw [hb] at h; cases h
    · rw [hb] at h
      have := Nat.eq_of_beq_eq_true hb; subst this
      exact .inr ⟨t,a,b,rfl,rfl,(JJr h hq).1⟩
  · cases h
theorem JLk {res:Jo}:∀ {m:Jo} {q:jv},JFz res m = some q → (∀ p ∈ q,p.1 = p.2) → ∀ {id:Nat} {x:Obj},JC m id = some x →
    (∃ ty esz r,x = .row true ty esz r) ∨ ∃ t a b,x = .blk t a ∧ JC res id = some (.blk t b) ∧ ∀ θ,JK θ (QV a) = JK θ (QV b)
  | [],_,_,_,id,x,h => by cases h
  | (i,o) :: r,q,hs,hq,id,x,h => by
    simp only [JFz] at hs
    split at hs
    · rename_i a b h1 h2
      cases hs
      rw [JT] at h
      cases hb:Nat.beq i id
      · rw [hb] at h
        exact JLk h2 (fun p hp => hq p (List.mem_append.2 (.inr hp))) h
      · rw [hb] at h; cases h
        have := Nat.eq_of_beq_eq_true hb; subst this
        exact JhU h1 fun p hp => hq p (List.mem_append.2 (.inl hp))
    · cases hs
theorem Jm3 {n:Nat} {θ θ':Th} {sub res:Jo} {w w':World} {q:jv} (hs:JFz res sub = some q) (hq:∀ p ∈ q,p.1 = p.2) (hwf:Z2 n sub) (hm:Jf θ sub w)
    (hg:Grew n θ sub w θ' res w') (hu:Jf θ' res w') (b:Nat) (hb:b < w.heap.size):w'.heap[b]? = w.heap[b]? := by
  by_cases hno:∀ id o,JC sub id = some o → (θ id).blk ≠ some b
  · exact hg.heap b hb hno
  · obtain ⟨id,hno⟩ := Classical.not_forall.1 hno
    obtain ⟨o,hno⟩ := Classical.not_forall.1 hno
    simp only [Classical.not_imp,ne_eq,Classical.not_not] at hno
    obtain ⟨hl,hblk⟩ := hno
    rcases JLk hs hq hl with ⟨ty,es,r,rfl⟩ | ⟨t,x,y,rfl,hr,hxy⟩
    · have := (hm.1 id _ hl).2.1
      rw [this] at hblk; cases hblk
    · obtain ⟨b1,h1,h2⟩ := hm.1 id _ hl
      obtain ⟨b2,h3,h4⟩ := hu.1 id _ hr
      have ha := hg.agree id (hwf id _ hl).1
      rw [ha,h1] at h3
      have e1:b1 = b2 := by injection h3 with h3; injection h3
      subst e1
      rw [h1] at hblk
      have e2:b1 = b := by injection hblk
      subst e2
      rw [h2,h4,← hxy,jT hg.agree (hwf id _ hl).2]
def JsK:Array Value → Sem Value := fun args => do
  let (x, y, b) ← Extern.MathBitsCarry.three "Sub64" args
  pure (Extern.MathBitsCarry.pair ((x + Extern.MathBitsCarry.m64 - y - b) % Extern.MathBitsCarry.m64) (if x < y + b then 1 else 0))
theorem Jiz (x y b:Nat) (hb:b ≤ 1) (w:World) :
    (JsK #[.int .u64 x,.int .u64 y,.int .u64 b]).run P w =
      .ok (.tuple #[.int .u64 (((x + 18446744073709551616 - y - b) % 18446744073709551616:Nat):Int),.int .u64 ((if x < y + b then 1 else 0:Nat):Int)]) w := by
  have:b = 0 ∨ b = 1 := by omega
  rcases this with rfl | rfl <;> rfl
theorem JkM {fn : Func} (h : fn.name = "math/bits.Sub64") (ho : fn.origin = "") : Extern.findNext fn = none ∧ Extern.find fn = some JsK := by
  constructor
  · unfold Extern.findNext
    rw [h,ho]
    kernel_rfl
  · unfold Extern.find
    rw [h,ho]
    kernel_rfl
theorem Jiu {fid:FuncId} {vs:List SV} {n:Nat} {e:Eff} (hsb:JUf P fid = true) (h:JwO vs n = some e) (hn:∀ p ∈ e.needs,p) :
    ∃ v,e.val = some v ∧ e.ups = [] ∧ ∀ θ w,(callFunc fid (vs.map (SV.den θ)).toArray).run P w = .ok (.value (v.den θ)) w := by
  unfold JUf at hsb
  split at hsb
  case h_2 => cases hsb
  rename_i fn hfn
  split at hsb
  · cases hsb
  rename_i hbody
  simp only [Bool.and_eq_true,beq_iff_eq] at hsb
  obtain ⟨hname,horig⟩ := hsb
  obtain ⟨f1,f2⟩ := JkM hname horig
  unfold JwO at h
  split at h
  case h_2 => cases h
  rename_i x y b
  cases h
  have hx:0 ≤ x.val := hn _ (by simp)
  have hy:0 ≤ y.val := hn _ (by simp)
  have hb:0 ≤ b.val ∧ b.val ≤ 1 := hn _ (by simp)
  refine ⟨_,rfl,rfl,fun θ w => ?_⟩
  rw [run_callFunc_extern hfn (by rw [hname]; decide) (by rw [hbody]; rfl) f1 f2]
  obtain ⟨i,hi⟩ := Int.eq_ofNat_of_zero_le hx
  obtain ⟨j,hj⟩ := Int.eq_ofNat_of_zero_le hy
  obtain ⟨k,hk⟩ := Int.eq_ofNat_of_zero_le hb.1
  have hval:∀ (s:Bool) (z:Int),(mkI s z).val = z := fun s z => by cases s <;> rfl
  have hk1:k ≤ 1 := by omega
  simp only [List.map_cons,List.map_nil,SV.den,SC.den,hi,hj,hk]
  have := Jiz (P := P) i j k hk1 w
  rw [this]
  simp only [Result.andThen,QT,SC.den,List.map_cons,List.map_nil,hval,JJC,JEb,hi,hj,hk,Int.toNat_natCast,Bool.false_eq_true,if_false]
  try rfl
theorem JrD {c:Call} (hp:Zl P) (hce:WO P ce) (ho:o.op = .call c)
    (h:(match c.callee with
    | .value f => match Y7 env g f,args env g c.args.toList with
      | some (.one (.fn h)),some vs => Jqe P ce mem n h vs
      | _,_ => none
    | _ => none) = some e) (hn:∀ p ∈ e.needs,p) (he:∀ p ∈ e.eqs,p.1 = p.2)
    (hs:∀ t ∈ Je c.operands.toList,∀ y,JC env t = some y → Jx θ a t y) (hg:holds a g) (hids:∀ t y,JC env t = some y → ∀ id ∈ Ze y.val,id < n) (hwf:Z2 n mem)
    (hm:Jf θ (JG mem e.rd) w) (hk:YE K o a n θ w (JG mem e.touched) e):o.wp P a w K Q := by
  split at h
  · rename_i f hc
    split at h
    · rename_i fid vs h1 h2
      unfold Jqe at h
      cases hsb:JUf P fid
      case true =>
        rw [hsb] at h
        simp only [cond_true] at h
        have hops:c.operands.toList = f :: c.args.toList := by simp [Call.operands,hc]
        rw [hops] at hs
        have hf := Jh h1 (fun t ht => hs t (by rw [Jr]; simp [ht])) hg
        have has := JC8 h2 (fun t ht => hs t (by rw [Jr]; simp [ht])) hg
        have hmap:c.args.map a.eval = (vs.map (SV.den θ)).toArray := by
          apply Array.toList_inj.1
          simp [has]
        obtain ⟨v,hv,hne,hcall⟩ := Jiu hsb h hn
        refine Q6 (v := SV.den θ v) (w' := w) ?_ (hk _ _ _ (EffRel.pure hv hne))
        have hcw := hcall θ w
        generalize SV.den θ v = z at hcw ⊢
        unfold execOp
        simp only [ho]
        simp only [resolve,hc,hf,SV.den,SC.den,Deferred.ofValue,Sem.run_bind,Sem.run_pure,Result.andThen_ok,hmap,invoke]
        simp [hcw]
      rw [hsb] at h
      simp only [cond_false] at h
      unfold Jvr at h
      cases hlt:Nat.blt fid 1000000
      · rw [hlt] at h; cases h
      rw [hlt] at h
      simp only [cond_true] at h
      have hlt:fid < 1000000 := by simpa using hlt
      split at h
      · rename_i r hr
        obtain ⟨rd,hrd⟩:∃ rd,rd = Kc mem 3 (Qg vs) := ⟨_,rfl⟩
        have hnd:e.needs = r.needs ∧ (∀ p ∈ r.eqs,p.1 = p.2) ∧ e.rd = rd ∧ e.val = some r.val ∧ ((e.touched = [] ∧ e.ups = [] ∧ (JbU (JG mem rd) = true ∨ ∃ q,JFz r.mem (JG mem rd) = some q ∧ ∀ p ∈ q,p.1 = p.2)) ∨ (e.touched = rd ∧ e.ups = r.mem)) := by
          cases hro:(JbU (JG mem (Kc mem 3 (Qg vs))) && JXz (Kc mem 3 (Qg vs)) r.mem)
          · rw [hro] at h
            simp only [cond_false] at h
            split at h
            · rename_i q hq
              cases h
              unfold JsR at hq
              split at hq
              · cases hsd:JXz (Kc mem 3 (Qg vs)) r.mem
                · rw [hsd] at hq; cases hq
                · rw [hsd] at hq
                  exact ⟨rfl,fun p hp => he p (List.mem_append.2 (.inl hp)),hrd.symm,rfl,.inl ⟨rfl,rfl,.inr ⟨q,by rw [hrd]; exact hq,fun p hp => he p (List.mem_append.2 (.inr hp))⟩⟩⟩
              · cases hq
            · cases h; exact ⟨rfl,he,hrd.symm,rfl,.inr ⟨hrd.symm,rfl⟩⟩
          · rw [hro] at h; cases h
            simp only [Bool.and_eq_true] at hro
            exact ⟨rfl,he,hrd.symm,rfl,.inl ⟨rfl,rfl,.inl (by rw [hrd]; exact hro.1)⟩⟩
        clear h
        obtain ⟨e1,e2,e3,e4,e5⟩ := hnd
        rw [e1] at hn
        replace he := e2
        rw [e3] at hm
        rw [← hrd] at hr
        have hops:c.operands.toList = f :: c.args.toList := by simp [Call.operands,hc]
        rw [hops] at hs
        have hf := Jh h1 (fun t ht => hs t (by rw [Jr]; simp [ht])) hg
        have has := JC8 h2 (fun t ht => hs t (by rw [Jr]; simp [ht])) hg
        have hwf':Z2 n (JG mem rd) := fun id ob hl => by
          rw [Jt] at hl
          split at hl
          · exact hwf id ob hl
          · cases hl
        obtain ⟨h34,h5⟩ := hce fid vs _ n r hr hn he hwf' (JIQ h2 hids) θ w hm
        obtain ⟨fn,h3,h4⟩ := h34 hlt
        have h5 := h5.1 hlt
        have hmap:c.args.map a.eval = (vs.map (SV.den θ)).toArray := by
          apply Array.toList_inj.1
          simp [has]
        have hrun:(execOp a.eval o).run P w = .ok (.enter fid (vs.map (SV.den θ)).toArray) w := by
          unfold execOp
          simp only [ho]
          simp only [resolve,hc,hf,SV.den,SC.den,Deferred.ofValue,Sem.run_bind,Sem.run_pure,Result.andThen_ok,hmap,invoke,JOY hp h3 h4]
          simp
        unfold Oper.wp
        rw [hrun,Oper.upon_enter]
        refine h5.mono fun en w' hen => ?_
        obtain ⟨θ',rfl,h6,h7⟩ := hen
        rcases e5 with ⟨e5,e6,e7⟩ | ⟨e5,e6⟩
        · have hheap:∀ b,b < w.heap.size → w'.heap[b]? = w.heap[b]? := by
            rcases e7 with e7 | ⟨q,e7,e8⟩
            · exact fun b hb => h6.heap b hb fun id ob hl hbk => by
                obtain ⟨ty,es,rw',rfl⟩ := JY0 e7 hl
                have := (hm.1 id _ hl).2.1
                rw [this] at hbk; cases hbk
            · exact Jm3 e7 e8 hwf' hm h6 h7
          refine hk _ θ' w' ⟨by rw [e4],⟨h6.agree,h6.os,h6.tape,h6.output,h6.size,fun b hb _ => hheap b hb,fun id o b hl => (by rw [e6] at hl; cases hl),fun id o b hl => (by rw [e6] at hl; cases hl)⟩,by rw [e6]; exact JMl _ _⟩
        · refine hk _ θ' w' ⟨by rw [e4],by rw [e5,e6]; exact h6,by rw [e6]; exact h7⟩
      · cases h
    · cases h
  · cases h
theorem Jnn (vs:List Value):∀ (k off:Nat) (cells:Array Value),off + k + vs.length ≤ cells.size →
    ((vs.zipIdx k).foldl (fun cs (p:Value × Nat) => cs.setIfInBounds (off + p.2) p.1) cells).toList = ZY cells.toList (off + k) vs := by
  induction vs with
  | nil => intro k off cells h; rw [JDB _ _ _ (by simpa using h)]; simp
  | cons v r ih =>
    intro k off cells h
    simp only [List.zipIdx_cons,List.foldl_cons]
    rw [ih (k + 1) off _ (by simp at h ⊢; omega),JDB _ _ _ (by simp at h ⊢; omega),JDB _ _ _ (by simp at h ⊢; omega)]
    simp only [Array.toList_setIfInBounds,List.length_cons]
    have e1:off + (k + 1) = off + k + 1 := by omega
    have e2:off + k + 1 + r.length = off + k + (r.length + 1) := by omega
    rw [e1,e2]
    generalize off + k = q at *
    have hq:q < cells.toList.length := by simp at h ⊢; omega
    rw [List.take_set,List.drop_set,if_pos (by omega),List.take_succ_eq_append_getElem hq,List.set_append_right _ _ (by simp; omega)]
    have:q - (cells.toList.take q).length = 0 := by simp; omega
    rw [this]
    simp
theorem JHD {place:Nat → Option (Nat × Nat)}:∀ {ps:List (Nat × List SC)} {cells out:List SC} {vs:List (Nat × Value)},JLL place cells ps = some out →
    vs.map (fun p => (p.1,p.2.cells.toList)) = ps.map (fun p => (p.1,JK θ p.2)) → Instr.fill place (JK θ cells).toArray vs = some (JK θ out).toArray
  | [],cells,out,vs,h,hv => by
    cases h
    cases vs with
    | nil => rfl
    | cons _ _ => simp at hv
  | (i,v) :: ps,cells,out,vs,h,hv => by
    cases vs with
    | nil => simp at hv
    | cons q vs =>
      obtain ⟨i',v'⟩ := q
      simp only [List.map_cons,List.cons.injEq,Prod.mk.injEq] at hv
      obtain ⟨⟨rfl,hv1⟩,hv2⟩ := hv
      simp only [JLL] at h
      unfold Instr.fill
      split at h
      · cases h
      · rename_i off size hpl
        simp only [hpl]
        cases hq:(Nat.beq v.length size && Nat.ble (off + size) cells.length)
        · rw [hq] at h; cases h
        · rw [hq] at h
          simp only [Bool.and_eq_true] at hq
          have h1 := Nat.eq_of_beq_eq_true hq.1
          have h2 := Nat.le_of_ble_eq_true hq.2
          have hsz:v'.cells.size = v.length := by rw [← Array.length_toList,hv1]; simp [JK]
          have hc:¬ ((decide (v'.cells.size ≠ size) || decide (off + v'.cells.size > (JK θ cells).toArray.size)) = true) := by
            simp [hsz,h1,JK]; omega
          rw [if_neg hc]
          simp only [cond_true] at h
          have := JHD h hv2
          rw [← this]
          congr 1
          apply Array.toList_inj.1
          have e := Jnn v'.cells.toList 0 off (JK θ cells).toArray (by simp only [Array.length_toList,hsz,JK,List.size_toArray,List.length_map]; omega)
          rw [← Array.foldl_toList,Array.toList_zipIdx]
          simp only [Nat.add_zero] at e
          rw [e,hv1]
          simp only [JK]
          rw [JDB _ _ _ (by simp; omega),JDB _ _ _ (by omega)]
          simp [List.map_take,List.map_drop]
theorem JMW:∀ {ps:List (Nat × Operand)} {vs:List (Nat × List SC)},JLE env g ps = some vs → (∀ t ∈ Je (ps.map (·.2)),∀ e,JC env t = some e → Jx θ a t e) → holds a g →
    (ps.map (fun p => (p.1,a.eval p.2))).map (fun p => (p.1,p.2.cells.toList)) = vs.map (fun p => (p.1,JK θ p.2))
  | [],vs,h,_,_ => by cases h; rfl
  | (i,x) :: r,vs,h,hr,hg => by
    simp only [JLE] at h
    split at h
    · rename_i v vs' h1 h2
      cases h
      simp only [List.map_cons] at hr
      rw [Jr] at hr
      simp only [Option.bind_eq_some_iff] at h1
      obtain ⟨u,h3,h4⟩ := h1
      have h5 := Jh h3 (fun t ht => hr t (by simp [ht])) hg
      have h6 := SV.cells_den θ h4
      simp only [List.map_cons,List.cons.injEq,Prod.mk.injEq,true_and]
      exact ⟨by rw [h5,h6],by simpa using JMW h2 (fun t ht => hr t (by simp [ht])) hg⟩
    · cases h
theorem Je5 (pl:List (Nat × Nat)):(fun i:Nat => pl[i]?) = (fun i:Nat => pl.toArray[i]?) := by funext i; simp
theorem JFI:∀ {fs:List Field} {pl:List (Nat × Nat)},qI P fs = some pl →
    (fs.mapM (fun f => (do pure (f.offset,← sizeOf f.type):Sem (Nat × Nat)))).run P w = .ok pl w
  | [],pl,h => by cases h; rfl
  | f :: r,pl,h => by
    simp only [qI] at h
    split at h
    · rename_i i ps h1 h2
      cases h
      have h3:(sizeOf f.type).run P w = .ok i.size w := by simp [sizeOf,typeInfo,go_sem,h1]
      simp only [List.mapM_cons,Sem.run_bind,h3,Result.andThen_ok,Sem.run_pure,JFI h2]
    · cases h
theorem JpI {t:TypeId} {ps:Array (Nat × Operand)} (ho:o.op = .build t ps)
    (h:(match P.underlying t,(JEa P t).bind SV.cells,JLE env g ps.toList with
      | some (.struct fs),some z,some vs => match qI P fs.toList with
        | some pl => (JLL (fun i => pl[i]?) z vs).map fun cs => Eff.pure n (.agg cs)
        | none => none
      | some (.array _ e),some z,some vs => match P.info? e with
        | some i => (JLL (fun j => some (j * i.size,i.size)) z vs).map fun cs => Eff.pure n (.agg cs)
        | none => none
      | _,_,_ => none) = some e)
    (hs:∀ t ∈ Je (ps.toList.map (·.2)),∀ y,JC env t = some y → Jx θ a t y) (hg:holds a g)
    (hk:YE K o a n θ w (JG mem e.touched) e):o.wp P a w K Q := by
  have hparts:∀ vs,JLE env g ps.toList = some vs → (ps.map (fun (p:Nat × Operand) => (p.1,a.eval p.2))).toList.map (fun p => (p.1,p.2.cells.toList)) = vs.map (fun p => (p.1,JK θ p.2)) := by
    intro vs hv
    have := JMW (θ := θ) hv hs hg
    simpa using this
  have hzero:∀ z,(JEa P t).bind SV.cells = some z → ∃ zv,(zeroValue t).run P w = .ok zv w ∧ zv.cells = (JK θ z).toArray := by
    intro z hz
    simp only [Option.bind_eq_some_iff] at hz
    obtain ⟨v,h1,h2⟩ := hz
    obtain ⟨i,zv,h3,h4,h5,_⟩ := zd h1 θ
    exact ⟨zv,JD5 h3 h4 w,by rw [← h5]; exact SV.cells_den θ h2⟩
  split at h
  · rename_i fs z vs hu hz hv
    obtain ⟨zv,h1,h2⟩ := hzero z hz
    split at h
    · rename_i pl hpl
      simp only [Option.map_eq_some_iff] at h
      obtain ⟨cs,h3,rfl⟩ := h
      refine Q6 (v := SV.den θ (.agg cs)) (w' := w) ?_ (hk _ _ _ (EffRel.pure (x := .agg cs) rfl rfl))
      unfold execOp
      simp only [ho]
      refine K5 ?_
      have hplaces:(fs.mapM (fun f => (do pure (f.offset,← sizeOf f.type):Sem (Nat × Nat)))).run P w = .ok pl.toArray w := by
        have := JFI (w := w) hpl
        rw [← Array.toArray_toList (xs := fs),List.mapM_toArray]
        rw [Sem.run_map,this,Result.andThen_ok]
      have hfill := JHD (θ := θ) (vs := (ps.map (fun (p:Nat × Operand) => (p.1,a.eval p.2))).toList) h3 (hparts vs hv)
      rw [Je5] at hfill
      simp only [Instr.build,Sem.run_bind,h1,Result.andThen_ok,run_underlying hu,hplaces,h2,hfill,Sem.run_pure,SV.den]
    · cases h
  · rename_i e' z vs hu hz hv
    obtain ⟨zv,h1,h2⟩ := hzero z hz
    split at h
    · rename_i i hi
      simp only [Option.map_eq_some_iff] at h
      obtain ⟨cs,h3,rfl⟩ := h
      refine Q6 (v := SV.den θ (.agg cs)) (w' := w) ?_ (hk _ _ _ (EffRel.pure (x := .agg cs) rfl rfl))
      unfold execOp
      simp only [ho]
      refine K5 ?_
      have hfill := JHD (θ := θ) (vs := (ps.map (fun (p:Nat × Operand) => (p.1,a.eval p.2))).toList) h3 (hparts vs hv)
      have hsz:(sizeOf e').run P w = .ok i.size w := by simp [sizeOf,typeInfo,go_sem,hi]
      simp only [Instr.build,Sem.run_bind,h1,Result.andThen_ok,run_underlying hu,hsz,h2,hfill,Sem.run_pure,SV.den]
    · cases h
  · cases h
end each
open Go.RowKit
theorem JlP (c:Bool) (x y:SI):(Jj3 c x y).val = cond c x.val y.val := by
  cases x <;> cases y <;> try rfl
  rename_i a b
  simp only [Jj3]
  by_cases h:a = b
  · subst h; cases c <;> simp [SI.val]
  · simp [h,SI.val]
theorem JME (c:Bool) (x y:SB):(Jm0 c x y).val = cond c x.val y.val := by
  cases c <;> rcases x with a | a <;> rcases y with b | b <;> cases a <;> cases b <;> rfl
theorem JH1 (θ:Th) (c:Bool) {x y z:SC} (h:JaR c x y = some z):z.den θ = cond c (x.den θ) (y.den θ) ∧ ∀ id ∈ Wx z,id ∈ Wx x ∧ id ∈ Wx y := by
  cases x <;> cases y <;> simp only [JaR,reduceCtorEq] at h
  · rename_i k x j y
    cases hk:Wk k j
    · rw [hk] at h; cases h
    · rw [hk] at h; cases h
      have := Ye hk; subst this
      exact ⟨by simp only [SC.den,JlP]; cases c <;> rfl,by simp [Wx]⟩
  · cases h
    exact ⟨by simp only [SC.den,JME]; cases c <;> rfl,by simp [Wx]⟩
  · rename_i i o j p
    cases hk:(Nat.beq i j && Nat.beq o p)
    · rw [hk] at h; cases h
    · rw [hk] at h; cases h
      simp only [Bool.and_eq_true] at hk
      have h1 := Nat.eq_of_beq_eq_true hk.1
      have h2 := Nat.eq_of_beq_eq_true hk.2
      subst h1; subst h2
      exact ⟨by cases c <;> rfl,fun _ h => ⟨h,h⟩⟩
  · rename_i i j
    cases hk:Nat.beq i j
    · rw [hk] at h; cases h
    · rw [hk] at h; cases h
      have h1 := Nat.eq_of_beq_eq_true hk
      subst h1
      exact ⟨by cases c <;> rfl,fun _ h => ⟨h,h⟩⟩
  · cases h; exact ⟨by cases c <;> rfl,fun _ h => ⟨h,h⟩⟩
  · cases h; exact ⟨by cases c <;> rfl,fun _ h => ⟨h,h⟩⟩
  · rename_i f j
    cases hk:Nat.beq f j
    · rw [hk] at h; cases h
    · rw [hk] at h; cases h
      have h1 := Nat.eq_of_beq_eq_true hk
      subst h1
      exact ⟨by cases c <;> rfl,fun _ h => ⟨h,h⟩⟩
theorem kz (θ:Th) (c:Bool):∀ {x y z:List SC},JHh c x y = some z → JK θ z = cond c (JK θ x) (JK θ y) ∧ z.length = x.length ∧ z.length = y.length ∧ ∀ id ∈ Qw z,id ∈ Qw x ∧ id ∈ Qw y
  | [],[],z,h => by cases h; exact ⟨by cases c <;> rfl,rfl,rfl,fun _ h => ⟨h,h⟩⟩
  | [],_ :: _,_,h => by cases h
  | _ :: _,[],_,h => by cases h
  | x :: r,y :: s,z,h => by
    simp only [JHh] at h
    split at h
    · rename_i u t h1 h2
      cases h
      obtain ⟨h3,h4⟩ := JH1 θ c h1
      obtain ⟨h5,h6,h7,h8⟩ := kz θ c h2
      refine ⟨?_,by simp [h6],by simp [h7],fun id hi => ?_⟩
      · simp only [JK,List.map_cons] at h5 ⊢
        rw [h3,h5]; cases c <;> rfl
      · simp only [ZK,Jv,List.mem_append] at hi ⊢
        rcases hi with hi | hi
        · exact ⟨.inl (h4 id hi).1,.inl (h4 id hi).2⟩
        · exact ⟨.inr (h8 id hi).1,.inr (h8 id hi).2⟩
    · cases h
theorem Yd (θ:Th) (b:Bool) (cs:List SC):QT θ (b,cs) = (match b,JK θ cs with | false,[v] => v | _,l => .agg l.toArray) := by
  cases b
  · match cs with
    | [] => rfl
    | [c] => rfl
    | c :: d :: r => rfl
  · simp [QT]
theorem JB7 (θ:Th) (c:Bool):∀ {x y z:List (Bool × List SC)},JIt c x y = some z → z.map (QT θ) = cond c (x.map (QT θ)) (y.map (QT θ)) ∧ ∀ id ∈ KZ z,id ∈ KZ x ∧ id ∈ KZ y
  | [],[],z,h => by cases h; exact ⟨by cases c <;> rfl,fun _ h => ⟨h,h⟩⟩
  | [],_ :: _,_,h => by cases h
  | _ :: _,[],_,h => by cases h
  | (p,x) :: r,(q,y) :: s,z,h => by
    simp only [JIt] at h
    cases hpq:(p == q)
    · rw [hpq] at h; cases h
    · rw [hpq] at h
      have := eq_of_beq hpq; subst this
      simp only [cond_true] at h
      split at h
      · rename_i u t h1 h2
        cases h
        obtain ⟨h3,_,_,h6⟩ := kz θ c h1
        obtain ⟨h4,h5⟩ := JB7 θ c h2
        refine ⟨?_,fun id hi => ?_⟩
        · simp only [List.map_cons,Yd,h3,h4]
          cases c <;> rfl
        · simp only [KZ,List.mem_append] at hi ⊢
          rcases hi with hi | hi
          · exact ⟨.inl (h6 id hi).1,.inl (h6 id hi).2⟩
          · exact ⟨.inr (h5 id hi).1,.inr (h5 id hi).2⟩
      · cases h
theorem JCT (θ:Th) (c:Bool) {x y z:SV} (h:JQn c x y = some z):z.den θ = cond c (x.den θ) (y.den θ) ∧ ∀ id ∈ Ze z,id ∈ Ze x ∧ id ∈ Ze y := by
  cases x <;> cases y <;> simp only [JQn,reduceCtorEq,Option.map_eq_some_iff] at h
  · obtain ⟨u,h1,rfl⟩ := h
    exact JH1 θ c h1
  · obtain ⟨u,h1,rfl⟩ := h
    obtain ⟨h2,_,_,h3⟩ := kz θ c h1
    exact ⟨by simp only [SV.den,h2]; cases c <;> rfl,h3⟩
  · obtain ⟨u,h1,rfl⟩ := h
    obtain ⟨h2,h3⟩ := JB7 θ c h1
    exact ⟨by simp only [SV.den,h2]; cases c <;> rfl,h3⟩
theorem JtS {c:SC} {x:CK × Int} (h:JpU c = some x):Wx c = [] := by
  cases c <;> first | rfl | (simp [JpU] at h)
theorem JKZ:∀ {cs:List SC} {l:List (CK × Int)},JCd cs = some l → Qw cs = []
  | [],_,_ => rfl
  | c :: r,l,h => by
    simp only [JCd] at h
    split at h
    · rename_i x xs h1 h2
      simp [ZK,Jv,JtS h1,JKZ h2]
    · cases h
theorem ZZ:∀ (ks:List CK) (xs:List Int) (j:Nat),(Kz ks xs j).length = ks.length
  | [],_,_ => rfl
  | _ :: r,xs,j => by simp [Kz,ZZ r]
theorem We:∀ (ks:List CK) (xs:List Int) (j:Nat),Qw (Kz ks xs j) = []
  | [],_,_ => rfl
  | k :: r,xs,j => by cases k <;> simp [Kz,ZK,Jv,We r,CK.cell,Wx]
theorem Xo (r:RowC):(ji r).val = r.rows.length := by
  cases r <;> simp [ji,RowC.rows,SN.val]
theorem JVM (i:Nat):∀ {rows:List (List SC)} {k:Nat} {t:List SC},chain i rows k = some t → k ≤ i → i < k + rows.length →
    ∃ row,rows[i - k]? = some row ∧ t.length = row.length ∧ (∀ θ,JK θ t = JK θ row) ∧ ((∀ r ∈ rows,Qw r = []) → Qw t = [])
  | [],_,_,h,_,_ => by cases h
  | [r],k,t,h,h1,h2 => by
    simp only [chain,Option.some.injEq] at h
    subst h
    have:i - k = 0 := by simp at h2; omega
    exact ⟨r,by rw [this]; rfl,rfl,fun _ => rfl,fun h => h r (by simp)⟩
  | r :: s :: rest,k,t,h,h1,h2 => by
    simp only [chain] at h
    split at h
    · rename_i u hu
      have hm := fun θ => kz θ _ h
      have hid:Qw r = [] → Qw t = [] := fun hr => List.eq_nil_iff_forall_not_mem.2 fun x hx => by
        have := ((hm Th.none).2.2.2 x hx).1
        rw [hr] at this; cases this
      by_cases hik:i = k
      · subst hik
        refine ⟨r,by simp,(hm Th.none).2.1,fun θ => by rw [(hm θ).1]; simp,fun hids => hid (hids r (by simp))⟩
      · obtain ⟨row,h3,h4,h5,h6⟩ := JVM i hu (by omega) (by simp at h2 ⊢; omega)
        refine ⟨row,?_,by rw [(hm Th.none).2.2.1,h4],fun θ => ?_,fun hids => hid (hids r (by simp))⟩
        · rw [show i - k = (i - (k + 1)) + 1 from by omega]
          simpa using h3
        · rw [(hm θ).1,XX hik]; exact h5 θ
    · cases h
theorem JZe {r:RowC} {i:SN} {cs:List SC} {q:List Prop} {esz:Nat} (h:Jth r i = some (cs,q)) (hq:∀ p ∈ q,p) (hok:ZA esz r.rows) :
    ∃ row,r.rows[i.val]? = some row ∧ cs.length = row.length ∧ Qw cs = [] ∧ ∀ θ,JK θ cs = JK θ row := by
  unfold Jth at h
  split at h
  · rename_i tg rows k
    split at h
    · rename_i row hr
      cases h
      exact ⟨cs,hr,rfl,(hok.2 _ (List.mem_of_getElem? hr)).2,fun _ => rfl⟩
    · cases h
  · rename_i tg rows k
    split at h
    · rename_i t ht
      cases h
      have hlt:k < rows.length := hq _ (by simp)
      obtain ⟨row,h1,h2,h3,h4⟩ := JVM k ht (Nat.zero_le _) (by omega)
      exact ⟨row,h1,h2,h4 fun r hr => (hok.2 r hr).2,h3⟩
    · cases h
  · rename_i tag ks xs
    cases h
    have hlt:i.val < xs.length := hq _ (by simp)
    refine ⟨Qz ks xs[i.val],?_,?_,We _ _ _,fun θ => ?_⟩
    · simp [RowC.rows,hlt]
    · simp [Qz,ZZ]
    · rw [List.getD_eq_getElem?_getD,List.getElem?_eq_getElem hlt]; rfl
theorem JU2 {α:Type} {esz:Nat}:∀ {rows:List (List α)} {i:Nat} {row:List α} {k:Nat},(∀ r ∈ rows,r.length = esz) → rows[i]? = some row → k < esz → rows.flatten[i * esz + k]? = row[k]?
  | [],_,_,_,_,h,_ => by simp at h
  | r :: rs,0,row,k,hl,h,hk => by
    simp only [List.getElem?_cons_zero,Option.some.injEq] at h
    subst h
    have := hl r (by simp)
    simp only [List.flatten_cons,Nat.zero_mul,Nat.zero_add]
    rw [List.getElem?_append_left (by omega)]
  | r :: rs,i + 1,row,k,hl,h,hk => by
    have h1 := hl r (by simp)
    simp only [List.flatten_cons]
    rw [List.getElem?_append_right (by rw [h1,Nat.add_mul]; omega),h1,show (i + 1) * esz + k - esz = i * esz + k from by rw [Nat.add_mul]; omega]
    exact JU2 (fun r hr => hl r (by simp [hr])) (by simpa using h) hk
theorem JDN {α:Type} {esz:Nat}:∀ {rows:List (List α)},(∀ r ∈ rows,r.length = esz) → rows.flatten.length = rows.length * esz
  | [],_ => by simp
  | r :: rs,h => by
    rw [List.flatten_cons,List.length_append,h r (by simp),JDN fun r hr => h r (by simp [hr]),List.length_cons,Nat.add_mul]
    omega
theorem JAA {θ:Th} {w:World} {id ty esz:Nat} {ro:Bool} {r:RowC} (h:QD θ w id (.row ro ty esz r)) :
    ZA esz r.rows ∧ (θ id).len = r.rows.length ∧ r.rows.length ≤ (θ id).cap ∧ (r.rows ≠ [] → ∃ a,(θ id).ad = some a ∧ ∀ (j:Nat) (u:Value),(JK θ r.rows.flatten)[j]? = some u → w.cell? (a.add j) = some u) := by
  cases ro
  · obtain ⟨h0,h1,h2,h3⟩ := h
    refine ⟨h0,h1,?_,fun hne => ?_⟩
    · rcases h3.2 with ⟨_,hn⟩ | ⟨g,cap,cur,hv,_,_,h4,_⟩
      · omega
      · injection hv with _ _ hc
        omega
    · rcases h2 with ⟨_,_,h4,_⟩ | ⟨b,_,_,h4⟩
      · exfalso
        rcases h3.2 with ⟨_,hn⟩ | ⟨g,cap,cur,hv,_⟩
        · exact hne (List.eq_nil_of_length_eq_zero hn)
        · rw [h4] at hv; injection hv with hv; cases hv
      · exact ⟨⟨b,0,none⟩,h4,h3.cells (by rw [h4]; rfl)⟩
  · obtain ⟨h0,_,h1,h2,h3⟩ := h
    refine ⟨h0,h1,h2,fun hne => ?_⟩
    rcases h3 with ⟨_,_,hn⟩ | ⟨a,h4,_,_,h5⟩
    · exact absurd (List.eq_nil_of_length_eq_zero hn) hne
    · exact ⟨a,h4,h5⟩
theorem JnK {θ:Th} {w:World} {id ty esz:Nat} {ro:Bool} {r:RowC} (h:QD θ w id (.row ro ty esz r)) {i off:Nat} {row:List SC} (hi:r.rows[i]? = some row) :
    ∃ a,(θ id).ad = some a ∧ ∀ (j:Nat) (u:Value),((JK θ row).drop off)[j]? = some u → w.cell? (a.add (i * esz + off + j)) = some u := by
  obtain ⟨h0,_,_,h3⟩ := JAA h
  obtain ⟨a,h4,h5⟩ := h3 (fun e => by rw [e] at hi; simp at hi)
  refine ⟨a,h4,fun j u hu => h5 _ u ?_⟩
  rw [List.getElem?_drop] at hu
  have hlen := (h0.2 row (List.mem_of_getElem? hi)).1
  have hk:off + j < esz := by
    have := (List.getElem?_eq_some_iff.1 hu).1
    simp only [JK,List.length_map] at this
    omega
  have := JU2 (fun r hr => (h0.2 r hr).1) hi hk
  simp only [JK,List.getElem?_map,Nat.add_assoc] at hu ⊢
  rw [this]
  exact hu
theorem JTg:∀ (ks:List CK) (L:List Int) (j i:Nat),(Kz ks L j)[i]? = (ks[i]?).map fun k => k.cell (L.getD (j + i) 0)
  | [],_,_,_ => by simp [Kz]
  | k :: r,L,j,0 => by simp [Kz]
  | k :: r,L,j,i + 1 => by
    simp only [Kz,List.getElem?_cons_succ]
    rw [JTg r L (j + 1) i,show j + 1 + i = j + (i + 1) from by omega]
theorem Jqz {c:SC} {k j:CK} {x:Int} (h:JpU c = some (j,x)) (hk:JX7 k j = true) (θ:Th):(k.cell x).den θ = c.den θ := by
  cases c <;> simp only [JpU,reduceCtorEq,Option.some.injEq,Prod.mk.injEq] at h
  · obtain ⟨rfl,rfl⟩ := h
    cases k <;> simp only [JX7,Bool.false_eq_true] at hk
    rw [Ye hk]; rfl
  · rename_i b
    cases b with
    | c b =>
      simp only [Option.some.injEq,Prod.mk.injEq] at h
      obtain ⟨rfl,rfl⟩ := h
      cases k <;> simp only [JX7,Bool.false_eq_true] at hk
      cases b <;> rfl
    | v b =>
      simp only [Option.some.injEq,Prod.mk.injEq] at h
      obtain ⟨rfl,rfl⟩ := h
      cases k <;> simp only [JX7,Bool.false_eq_true] at hk
      cases b <;> rfl
theorem Jmz:∀ {ks:List CK} {cs:List SC} {l:List (CK × Int)} {xs L:List Int} {j:Nat},JCd cs = some l → JgV ks l = some xs → (∀ i,L.getD (j + i) 0 = xs.getD i 0) →
    ks.length = cs.length ∧ xs.length = cs.length ∧ ∀ θ,JK θ (Kz ks L j) = JK θ cs
  | [],cs,l,xs,L,j,h,hf,_ => by
    cases l with
    | nil =>
      cases cs with
      | nil => simp only [JgV,Option.some.injEq] at hf; subst hf; exact ⟨rfl,rfl,fun _ => rfl⟩
      | cons c r =>
        simp only [JCd] at h
        split at h <;> cases h
    | cons _ _ => cases hf
  | k :: ks,cs,l,xs,L,j,h,hf,hL => by
    cases l with
    | nil => cases hf
    | cons p l =>
      obtain ⟨kj,x⟩ := p
      simp only [JgV] at hf
      cases hk:JX7 k kj
      · rw [hk] at hf; cases hf
      rw [hk] at hf
      simp only [cond_true,Option.map_eq_some_iff] at hf
      obtain ⟨ys,h1,rfl⟩ := hf
      cases cs with
      | nil => simp [JCd] at h
      | cons c r =>
        simp only [JCd] at h
        split at h
        · rename_i y yl h2 h3
          simp only [Option.some.injEq,List.cons.injEq] at h
          obtain ⟨rfl,rfl⟩ := h
          obtain ⟨h4,h5,h6⟩ := Jmz (L := L) (j := j + 1) h3 h1 fun i => by
            have := hL (i + 1)
            rw [show j + (i + 1) = j + 1 + i from by omega] at this
            simpa using this
          refine ⟨by simp [h4],by simp [h5],fun θ => ?_⟩
          simp only [Kz,JK,List.map_cons,List.cons.injEq]
          refine ⟨?_,h6 θ⟩
          have := hL 0
          simp only [Nat.add_zero,List.getD_cons_zero] at this
          rw [this]
          exact Jqz h2 hk θ
        · cases h
theorem JeY {ks:List CK} {cs:List SC} {xs:List Int} (h:(JCd cs).bind (JgV ks) = some xs):ks.length = cs.length ∧ xs.length = cs.length ∧ ∀ θ,JK θ (Qz ks xs) = JK θ cs := by
  simp only [Option.bind_eq_some_iff] at h
  obtain ⟨l,h1,h2⟩ := h
  exact Jmz h1 h2 fun i => by simp
theorem JQU {a b:CK} (h:JX7 a b = true):a = b := by
  cases a <;> cases b <;> simp only [JX7,Bool.false_eq_true] at h
  · rw [Ye h]
  · rfl
theorem KH:∀ {a b:List CK},WC a b = true → a = b
  | [],[],_ => rfl
  | [],_ :: _,h => by cases h
  | _ :: _,[],h => by cases h
  | a :: r,b :: s,h => by
    simp only [WC,Bool.and_eq_true] at h
    rw [JQU h.1,KH h.2]
theorem K2 (θ:Th) (rows:List (List SC)):JK θ rows.flatten = (rows.map (JK θ)).flatten := by
  induction rows with
  | nil => rfl
  | cons r rs ih => simp only [List.flatten_cons,List.map_cons,← ih,JK,List.map_append]
theorem Yq {ks:List CK} {esz:Nat}:∀ {rows:List (List SC)} {xs:List (List Int)},qD ks rows = some xs → (∀ r ∈ rows,r.length = esz) →
    xs.length = rows.length ∧ (∀ r ∈ xs.map (Qz ks),r.length = esz ∧ Qw r = []) ∧ ∀ θ,(xs.map (Qz ks)).map (JK θ) = rows.map (JK θ)
  | [],xs,h,_ => by cases h; exact ⟨rfl,by simp,fun _ => rfl⟩
  | r :: rs,xs,h,hl => by
    simp only [qD] at h
    split at h
    · rename_i x ys h1 h2
      cases h
      obtain ⟨h3,h4,h5⟩ := JeY h1
      obtain ⟨h6,h7,h8⟩ := Yq h2 fun r hr => hl r (by simp [hr])
      refine ⟨by simp [h6],fun q hq => ?_,fun θ => ?_⟩
      · simp only [List.map_cons,List.mem_cons] at hq
        rcases hq with rfl | hq
        · exact ⟨by rw [Qz,ZZ,h3]; exact hl _ (by simp),We _ _ _⟩
        · exact h7 q hq
      · simp only [List.map_cons,List.cons.injEq]
        exact ⟨h5 θ,h8 θ⟩
    · cases h
theorem Jav {n esz:Nat} {r1 r2 r:RowC} (h:JWg n r1 r2 = some r) (h1:ZA esz r1.rows) (h2:ZA esz r2.rows) :
    ZA esz r.rows ∧ r.rows.length = r1.rows.length + r2.rows.length ∧ ∀ θ,r.rows.map (JK θ) = r1.rows.map (JK θ) ++ r2.rows.map (JK θ) := by
  have both:∀ {a b c:List (List SC)},ZA esz a → (∀ r ∈ b,r.length = esz ∧ Qw r = []) → c = a ++ b → ZA esz c := fun ha hb hc => ⟨ha.1,fun r hr => by
    rw [hc,List.mem_append] at hr
    exact hr.elim (ha.2 r) (hb r)⟩
  cases r1 <;> cases r2 <;> simp only [JWg,Option.some.injEq,Option.map_eq_some_iff] at h
  · subst h
    exact ⟨both h1 h2.2 (by simp [RowC.rows]),by simp [RowC.rows],fun θ => by simp [RowC.rows]⟩
  · obtain ⟨xs,h3,rfl⟩ := h
    obtain ⟨h4,h5,h6⟩ := Yq h3 fun r hr => (h1.2 r hr).1
    refine ⟨⟨h1.1,fun r hr => ?_⟩,by simp [RowC.rows,h4],fun θ => ?_⟩
    · simp only [RowC.rows,List.map_append,List.mem_append] at hr
      exact hr.elim (h5 r) (h2.2 r)
    · have := h6 θ
      simp only [RowC.rows,List.map_append] at this ⊢
      rw [this]
  · obtain ⟨xs,h3,rfl⟩ := h
    obtain ⟨h4,h5,h6⟩ := Yq h3 fun r hr => (h2.2 r hr).1
    refine ⟨⟨h1.1,fun r hr => ?_⟩,by simp [RowC.rows,h4],fun θ => ?_⟩
    · simp only [RowC.rows,List.map_append,List.mem_append] at hr
      exact hr.elim (h1.2 r) (h5 r)
    · have := h6 θ
      simp only [RowC.rows,List.map_append] at this ⊢
      rw [this]
  · rename_i t1 ks xs t2 js ys
    cases hk:WC ks js
    · rw [hk] at h; cases h
    rw [hk] at h
    have := KH hk; subst this
    cases h
    exact ⟨both h1 h2.2 (by simp [RowC.rows]),by simp [RowC.rows],fun θ => by simp [RowC.rows]⟩
theorem JNc {t:Nat} {r r':RowC} {o m:SN} (h:JV6 t r o m = some r'):r'.rows = (r.rows.drop o.val).take m.val := by
  unfold JV6 at h
  split at h
  · cases h; simp [RowC.rows,SN.val,List.map_take,List.map_drop]
  · cases h
  · cases h; simp [RowC.rows,List.map_take,List.map_drop]
theorem JHA {α:Type} {esz:Nat} {rows:List (List α)} (h:∀ r ∈ rows,r.length = esz) (o m:Nat):((rows.drop o).take m).flatten = (rows.flatten.drop (o * esz)).take (m * esz) := by
  have hd:∀ {rows:List (List α)} (o:Nat),(∀ r ∈ rows,r.length = esz) → (rows.drop o).flatten = rows.flatten.drop (o * esz) := by
    intro rows
    induction rows with
    | nil => intro o _; simp
    | cons r rs ih =>
      intro o h
      cases o with
      | zero => simp
      | succ o =>
        have := h r (by simp)
        have e1:r.drop ((o + 1) * esz) = [] := List.drop_eq_nil_of_le (by rw [this,Nat.add_mul]; omega)
        have e2:(o + 1) * esz - esz = o * esz := by rw [Nat.add_mul]; omega
        rw [List.drop_succ_cons,ih o fun r hr => h r (by simp [hr]),List.flatten_cons,List.drop_append,this,e1,e2,List.nil_append]
  have ht:∀ {rows:List (List α)} (m:Nat),(∀ r ∈ rows,r.length = esz) → (rows.take m).flatten = rows.flatten.take (m * esz) := by
    intro rows
    induction rows with
    | nil => intro m _; simp
    | cons r rs ih =>
      intro m h
      cases m with
      | zero => simp
      | succ m =>
        have := h r (by simp)
        have e1:r.take ((m + 1) * esz) = r := List.take_of_length_le (by rw [this,Nat.add_mul]; omega)
        have e2:(m + 1) * esz - esz = m * esz := by rw [Nat.add_mul]; omega
        rw [List.take_succ_cons,List.flatten_cons,ih m fun r hr => h r (by simp [hr]),List.flatten_cons,List.take_append,this,e1,e2]
  rw [ht m fun r hr => h r (List.mem_of_mem_drop hr),hd o h]
theorem JTT {α:Type} {esz:Nat}:∀ {rows:List (List α)} {i:Nat} {row row':List α},(∀ r ∈ rows,r.length = esz) → rows[i]? = some row → row'.length = esz →
    (rows.set i row').flatten = rows.flatten.take (i * esz) ++ row' ++ rows.flatten.drop (i * esz + esz)
  | [],_,_,_,_,h,_ => by simp at h
  | r :: rs,0,row,row',hl,h,h' => by
    have := hl r (by simp)
    simp only [List.set_cons_zero,List.flatten_cons,Nat.zero_mul,List.take_zero,List.nil_append,Nat.zero_add]
    rw [List.drop_append,this,List.drop_eq_nil_of_le (by omega)]
    simp
  | r :: rs,i + 1,row,row',hl,h,h' => by
    have h1 := hl r (by simp)
    simp only [List.set_cons_succ,List.flatten_cons]
    have e1:r.take ((i + 1) * esz) = r := List.take_of_length_le (by rw [h1,Nat.add_mul]; omega)
    have e2:r.drop ((i + 1) * esz + esz) = [] := List.drop_eq_nil_of_le (by rw [h1,Nat.add_mul]; omega)
    have e3:(i + 1) * esz - esz = i * esz := by rw [Nat.add_mul]; omega
    have e4:(i + 1) * esz + esz - esz = i * esz + esz := by rw [Nat.add_mul]; omega
    rw [JTT (esz := esz) (fun r hr => hl r (by simp [hr])) (by simpa using h) h',List.take_append,List.drop_append,h1,e1,e2,e3,e4]
    simp
theorem Jc7 (off:Nat) (ys row:List Int):∀ (m j i:Nat),i < m → (kU m j off ys row).getD i 0 = if off ≤ j + i ∧ j + i < off + ys.length then ys.getD (j + i - off) 0 else row.getD (j + i) 0
  | 0,_,_,h => by omega
  | m + 1,j,0,_ => by
    simp only [kU,List.getD_cons_zero,Nat.add_zero]
    by_cases h:off ≤ j ∧ j < off + ys.length
    · rw [if_pos h]
      have:(Nat.ble off j && Nat.blt j (off + ys.length)) = true := by
        simp only [Bool.and_eq_true,Nat.blt_eq]
        exact ⟨Nat.ble_eq_true_of_le h.1,h.2⟩
      rw [this]; rfl
    · rw [if_neg h]
      have:(Nat.ble off j && Nat.blt j (off + ys.length)) = false := by
        rw [Bool.eq_false_iff]
        intro h'
        simp only [Bool.and_eq_true,Nat.blt_eq] at h'
        exact h ⟨Nat.le_of_ble_eq_true h'.1,h'.2⟩
      rw [this]; rfl
  | m + 1,j,i + 1,h => by
    simp only [kU,List.getD_cons_succ]
    rw [Jc7 off ys row m (j + 1) i (by omega),show j + 1 + i = j + (i + 1) from by omega]
theorem JgN {n esz off:Nat} {i:SN} {vs:List SC} {r r':RowC} {q:List Prop} (h:JkN n esz i off vs r = some (r',q)) (hq:∀ p ∈ q,p) (hok:ZA esz r.rows) :
    ∃ row row',r.rows[i.val]? = some row ∧ off + vs.length ≤ esz ∧ r'.rows = r.rows.set i.val row' ∧ row'.length = esz ∧ Qw row' = [] ∧ ∀ θ,JK θ row' = (JK θ row).take off ++ JK θ vs ++ (JK θ row).drop (off + vs.length) := by
  unfold JkN at h
  split at h
  · rename_i tg rows
    split at h
    case h_2 => cases h
    rename_i k
    split at h
    case h_2 => cases h
    rename_i row hr
    cases hc:(Nat.ble (off + vs.length) row.length && (JCd vs).isSome)
    · rw [hc] at h; cases h
    rw [hc] at h; cases h
    simp only [Bool.and_eq_true] at hc
    have hfit := Nat.le_of_ble_eq_true hc.1
    have hids:Qw vs = [] := by
      obtain ⟨l,hl⟩ := Option.isSome_iff_exists.1 hc.2
      exact JKZ hl
    obtain ⟨h1,h2⟩ := hok.2 _ (List.mem_of_getElem? hr)
    have hnew:ZY row off vs = row.take off ++ vs ++ row.drop (off + vs.length) := JDB _ _ _ hfit
    refine ⟨row,ZY row off vs,hr,by omega,rfl,?_,?_,fun θ => ?_⟩
    · rw [JOr,h1]
    · rw [hnew,Y6,Y6,hids]
      have hsub:∀ l:List SC,Qw l = [] → ∀ k,Qw (l.take k) = [] ∧ Qw (l.drop k) = [] := by
        intro l
        induction l with
        | nil => intro _ k; simp [ZK]
        | cons c r ih =>
          intro hl k
          simp only [Jv,List.append_eq_nil_iff] at hl
          cases k with
          | zero => simp [ZK,Jv,hl]
          | succ k => simp [Jv,hl.1,ih hl.2 k]
      rw [(hsub _ h2 off).1,(hsub _ h2 _).2]; rfl
    · rw [hnew]; simp [JK,List.map_take,List.map_drop]
  · rename_i tag ks xs
    split at h
    case h_2 => cases h
    rename_i ys hy
    cases hc:(Nat.beq ks.length esz && Nat.ble (off + vs.length) esz)
    · rw [hc] at h; cases h
    rw [hc] at h; cases h
    simp only [Bool.and_eq_true] at hc
    have hks := Nat.eq_of_beq_eq_true hc.1
    have hfit := Nat.le_of_ble_eq_true hc.2
    have hlt:i.val < xs.length := hq _ (by simp)
    obtain ⟨h3,h4,h5⟩ := JeY hy
    refine ⟨Qz ks xs[i.val],Qz ks (kU esz 0 off ys (xs.getD i.val [])),by simp [RowC.rows,hlt],hfit,by simp [RowC.rows,List.map_set],by rw [Qz,ZZ,hks],We _ _ _,fun θ => ?_⟩
    rw [← h5 θ,List.getD_eq_getElem?_getD,List.getElem?_eq_getElem hlt,Option.getD_some]
    have hlen:(JK θ (Qz ks xs[i.val])).length = esz := by rw [JK,List.length_map,Qz,ZZ,hks]
    have hvl:(JK θ (Qz (Xp ks off vs.length) ys)).length = vs.length := by rw [h5 θ]; simp [JK]
    apply List.ext_getElem?
    intro j
    have hget:∀ (ks:List CK) (L:List Int) (j:Nat),(JK θ (Qz ks L))[j]? = (ks[j]?).map fun k => (k.cell (L.getD j 0)).den θ := by
      intro ks L j
      simp only [JK,Qz,List.getElem?_map,JTg,Nat.zero_add,Option.map_map]
      rfl
    by_cases hj:j < esz
    · rw [hget,Jc7 off ys _ esz 0 j hj]
      simp only [Nat.zero_add]
      have hkj:j < ks.length := by omega
      rw [List.getElem?_eq_getElem hkj]
      by_cases h6:j < off
      · rw [List.append_assoc,List.getElem?_append_left (by simp [hlen]; omega),List.getElem?_take,if_pos h6,hget,if_neg (by omega),List.getElem?_eq_getElem hkj]
      · by_cases h7:j < off + vs.length
        · rw [List.append_assoc,List.getElem?_append_right (by simp; omega),List.getElem?_append_left (by simp [hvl,hlen]; omega),hget,if_pos (by omega),JGq]
          have e1:j - (List.take off (JK θ (Qz ks xs[i.val]))).length = j - off := by simp [hlen]; omega
          rw [e1,List.getElem?_take,if_pos (by omega),List.getElem?_drop,show off + (j - off) = j from by omega,List.getElem?_eq_getElem hkj]
        · rw [List.getElem?_append_right (by simp [hvl,hlen]; omega),List.getElem?_drop,if_neg (by omega)]
          have e1:off + vs.length + (j - (List.take off (JK θ (Qz ks xs[i.val])) ++ JK θ (Qz (Xp ks off vs.length) ys)).length) = j := by
            simp only [List.length_append,List.length_take,hlen,hvl]; omega
          rw [e1,hget,List.getElem?_eq_getElem hkj]
    · rw [List.getElem?_eq_none (by rw [JK,List.length_map,Qz,ZZ]; omega),List.getElem?_eq_none (by simp only [List.length_append,List.length_take,List.length_drop,hlen,hvl]; omega)]
open Go.RowKit
section each
variable {P:Program} {ce:CE} {o:Oper} {env:KP} {g:List (Nat × Bool)} {mem:Jo} {n:Nat} {e:Eff} {θ:Th} {a:Act} {w:World} {K:Act → World → Prop} {Q:Exit → Act → World → Prop}
theorem JDg {v:Option SV} {id esz off:Nat} {i:SN} (h:JSc v = some (id,esz,i,off)):v = some (.one (.eptr id esz i off)) := by
  unfold JSc at h
  split at h
  · cases h; rfl
  · cases h
theorem JlW {v:Option SV} {f id:Nat} (h:Jt7 v = some (f,id)):v = some (.one (.clo f id)) := by
  unfold Jt7 at h
  split at h
  · cases h; rfl
  · cases h
theorem JZu {t:TypeId} {d:TypeDesc} {i:TypeInfo} {cs:List Value} {ad:Addr} (hu:P.underlying t = some d) (hd:d.isRow = true) (hi:P.info? t = some i) (hl:cs.length = i.size) (hc:∀ j v,cs[j]? = some v → w.cell? (ad.add j) = some v) :
    (loadVar t ad).run P w = .ok (.agg cs.toArray) w := by
  have hl':(loadCells ad cs.length).run P w = .ok cs.toArray w := run_loadCells_list (P := P) w ad cs hc
  have hagg:(isAgg t).run P w = .ok true w := by
    unfold isAgg
    rw [Sem.run_bind,run_underlying hu w]
    cases d <;> simp_all
  simp [loadVar,Sem.run_bind,hagg,sizeOf,typeInfo,hi,← hl,hl']
theorem Xh {id:Nat} {ob:Obj} (hl:JC mem id = some ob) {rd:List Nat} (h:id ∈ rd):JC (JG mem rd) id = some ob := by rw [Jt,if_pos h,hl]
theorem JpY {t:TypeId} {x:Operand} {id esz off:Nat} {i:SN} (ho:o.op = .load t x) (hx:Y7 env g x = some (.one (.eptr id esz i off))) (h:Ju6 P t mem n id esz i off = some e) (hn:∀ p ∈ e.needs,p)
    (hs:∀ t ∈ Je [x],∀ y,JC env t = some y → Jx θ a t y) (hg:holds a g) (hm:Jf θ (JG mem e.rd) w)
    (hk:YE K o a n θ w (JG mem e.touched) e):o.wp P a w K Q := by
  have ha := Jh hx hs hg
  unfold Ju6 at h
  split at h
  case h_2 => cases h
  rename_i b inf ro ty m r h2 h3 hl
  obtain ⟨d,hu,hd⟩ := WZ h2
  cases hme:Nat.beq m esz
  · rw [hme] at h; cases h
  rw [hme] at h
  have := Nat.eq_of_beq_eq_true hme; subst this
  simp only [cond_true] at h
  split at h
  case h_2 => cases h
  rename_i cs q hr
  have run:∀ v,(∀ ad,(θ id).ad = some ad → (loadVar t (ad.add (i.val * m + off))).run P w = .ok v w) → (∃ ad,(θ id).ad = some ad) → (execOp a.eval o).run P w = .ok (.value v) w := by
    intro v h1 ⟨ad,h2⟩
    unfold execOp
    simp only [ho]
    refine K5 ?_
    simp only [Instr.loadAt,ha,SV.den,SC.den,h2,Option.map_some,Instr.sureAddr,Sem.run_bind,Sem.run_pure,Result.andThen_ok,h1 ad h2]
  cases b
  · simp only [cond_false] at h
    split at h
    case h_2 => cases h
    rename_i c hc
    cases h
    have hob := hm.1 id _ (Xh hl (by simp))
    obtain ⟨row,h4,h5,h6,h7⟩ := JZe hr hn (JAA hob).1
    obtain ⟨ad,h8,h9⟩ := JnK hob (off := off) h4
    refine Q6 (v := c.den θ) (w' := w) (run _ (fun ad' had => ?_) ⟨ad,h8⟩) (hk _ _ _ (EffRel.pure (x := .one c) rfl rfl))
    rw [h8] at had; cases had
    refine Wu hu hd ?_
    have := h9 0 (c.den θ) ?_
    · simpa using this
    · rw [← h7 θ]
      rw [JGq] at hc
      have := congrArg (fun l:List SC => l[0]?) hc
      simp only [List.getElem?_take,List.getElem?_drop] at this
      simp only [JK,List.getElem?_drop,List.getElem?_map]
      simp at this
      simp [this]
  · simp only [cond_true] at h
    cases hq:Nat.beq (Xp cs off inf.size).length inf.size
    · rw [hq] at h; cases h
    rw [hq] at h; cases h
    have hlen := Nat.eq_of_beq_eq_true hq
    have hob := hm.1 id _ (Xh hl (by simp))
    obtain ⟨row,h4,h5,h6,h7⟩ := JZe hr hn (JAA hob).1
    obtain ⟨ad,h8,h9⟩ := JnK hob (off := off) h4
    refine Q6 (v := .agg (JK θ (Xp cs off inf.size)).toArray) (w' := w) (run _ (fun ad' had => ?_) ⟨ad,h8⟩) (hk _ _ _ (EffRel.pure (x := .agg _) rfl rfl))
    rw [h8] at had; cases had
    refine JZu hu hd h3 (by simp [JK,hlen]) fun j u hu' => ?_
    rw [Addr.add_add]
    refine h9 j u ?_
    rw [JYR,List.getElem?_take] at hu'
    split at hu'
    · rw [← h7 θ]; exact hu'
    · cases hu'
theorem JOl {x y:SN} {q:List Prop} (h:ltN x y = some q) (hq:∀ p ∈ q,p):x.val < y.val := by
  unfold ltN at h
  split at h
  · rename_i p r
    cases hb:Nat.blt p r
    · rw [hb] at h; cases h
    · exact Nat.le_of_ble_eq_true hb
  · cases h; exact hq _ (by simp)
theorem JOn {x y:SN} {q:List Prop} (h:leN x y = some q) (hq:∀ p ∈ q,p):x.val ≤ y.val := by
  unfold leN at h
  split at h
  · rename_i p r
    cases hb:Nat.ble p r
    · rw [hb] at h; cases h
    · exact Nat.le_of_ble_eq_true hb
  · cases h; exact hq _ (by simp)
theorem JaN (x y:SN):(Jlv x y).val = x.val + y.val := by
  unfold Jlv
  split
  · rfl
  · simp [SN.val]
  · rfl
theorem JsM (x y:SN):(JsL x y).val = x.val - y.val := by
  unfold JsL
  split <;> rfl
theorem JD0 {x:SI} {k:SN} {q:List Prop} (h:JZV x = some (k,q)) (hq:∀ p ∈ q,p):0 ≤ x.val ∧ x.val.toNat = k.val := by
  cases x with
  | c m =>
    simp only [JZV] at h
    by_cases hm:0 ≤ m
    · simp only [hm,decide_true,cond_true,Option.some.injEq,Prod.mk.injEq] at h
      obtain ⟨rfl,_⟩ := h
      exact ⟨hm,rfl⟩
    · simp [hm] at h
  | v m =>
    cases h
    exact ⟨hq (0 ≤ m) (by simp),rfl⟩
theorem JM4 {id:Nat} {i:SN} {q:List Prop} (h:Jc3 mem id i = some q) (hq:∀ p ∈ q,p) (hm:Jf θ (JG mem [id]) w):∃ ad,(θ id).ad = some ad := by
  unfold Jc3 at h
  split at h
  · rename_i ro ty esz r hl
    have hob := hm.1 id _ (Xh hl (by simp))
    have hlt := JOl h hq
    rw [Xo] at hlt
    obtain ⟨_,_,_,h3⟩ := JAA hob
    obtain ⟨ad,h4,_⟩ := h3 (fun e => by rw [e] at hlt; simp at hlt)
    exact ⟨ad,h4⟩
  · cases h
theorem Kl (op:BinOp) (t:TypeId) (x y:Operand) (u v:Value) (h1:u ≠ .nilIface) (h2:∀ xs,u ≠ .agg xs):(eqGuard op t x y u v).run P w = .ok () w := by
  unfold eqGuard
  cases op <;> simp [Sem.run_pure]
  all_goals (split <;> first | rfl | (exfalso; exact h1 rfl) | (exfalso; exact h2 _ rfl) | simp [Sem.run_pure])
theorem Jq4 {op:BinOp} {t yt:TypeId} {x y:Operand} (ho:o.op = .binOp op t x y yt) (h:Jt5 P mem n op t (Y7 env g x) (Y7 env g y) = some e) (hn:∀ p ∈ e.needs,p)
    (hm:Jf θ (JG mem e.rd) w) (hs:∀ t ∈ Je [x,y],∀ y,JC env t = some y → Jx θ a t y) (hg:holds a g)
    (hk:YE K o a n θ w (JG mem e.touched) e):o.wp P a w K Q := by
  have hsx:∀ t ∈ Je [x],∀ y,JC env t = some y → Jx θ a t y := fun t ht => hs t (by rw [Jr]; simp [ht])
  have hsy:∀ t ∈ Je [y],∀ y,JC env t = some y → Jx θ a t y := fun t ht => hs t (by rw [Jr]; simp [ht])
  have fin:∀ (b:Bool),e = ⟨some (.one (.bool (.c b))),e.rd,e.touched,[],e.needs,e.eqs,n⟩ → ((do eqGuard op t x y (a.eval x) (a.eval y); Go.binOp op t (a.eval x) (a.eval y):Sem Value).run P w = .ok (.bool b) w) → o.wp P a w K Q := fun b he hr => by
    refine Q6 (v := SV.den θ (.one (.bool (.c b)))) (w' := w) ?_ (hk _ _ _ (EffRel.pure (x := .one (.bool (.c b))) (by rw [he]) (by rw [he])))
    unfold execOp
    simp only [ho]
    exact K5 hr
  have eqn:∀ (u v:Value) (b:Bool),u ≠ .nilIface → (∀ xs,u ≠ .agg xs) → (∀ d,(Op.equalIn (d + 1) t u v).run P w = .ok b w) → ((do eqGuard .eql t x y u v; Op.equal t u v:Sem Bool).run P w = .ok b w) := fun u v b h1 h2 h3 => by
    rw [Sem.run_bind,Kl _ _ _ _ _ _ h1 h2]
    simp only [Result.andThen_ok,Op.equal,Op.maxDepth,h3 9999]
  unfold Jt5 at h
  split at h
  · rename_i id off hx hy
    have hax := Jh hx hsx hg
    have hay := Jh hy hsy hg
    split at h
    · rename_i el ty cs hu hl
      cases h
      obtain ⟨b,hb,_⟩ := Yf (hm.1 id (.blk ty cs) (by rw [Jt]; simp [hl]))
      refine fin false rfl ?_
      have h3:∀ d,(Op.equalIn (d + 1) t (.pointer (some ⟨b,off,.none⟩)) (.pointer none)).run P w = .ok false w := fun d => by
        unfold Op.equalIn
        simp [run_underlying hu]
      rw [hax,hay]
      simp only [SV.den,SC.den,hb,Option.map_some]
      rw [Sem.run_bind,Kl _ _ _ _ _ _ (by simp) (by simp)]
      simp [Go.binOp,Op.equal,Op.maxDepth,h3 9999]
    · rename_i el ty cs hu hl
      cases h
      obtain ⟨b,hb,_⟩ := Yf (hm.1 id (.blk ty cs) (by rw [Jt]; simp [hl]))
      refine fin true rfl ?_
      have h3:∀ d,(Op.equalIn (d + 1) t (.pointer (some ⟨b,off,.none⟩)) (.pointer none)).run P w = .ok false w := fun d => by
        unfold Op.equalIn
        simp [run_underlying hu]
      rw [hax,hay]
      simp only [SV.den,SC.den,hb,Option.map_some]
      rw [Sem.run_bind,Kl _ _ _ _ _ _ (by simp) (by simp)]
      simp [Go.binOp,Op.equal,Op.maxDepth,h3 9999]
    · cases h
  · rename_i id hx hy
    have hax := Jh hx hsx hg
    have hay := Jh hy hsy hg
    split at h
    · rename_i el ob hu hl
      simp only [Option.map_eq_some_iff] at h
      obtain ⟨q,hq,rfl⟩ := h
      obtain ⟨ad,had⟩ := JM4 hq hn hm
      refine fin false rfl ?_
      have h3:∀ d,(Op.equalIn (d + 1) t (.slice (some ad) (θ id).len (θ id).cap) (.slice none 0 0)).run P w = .ok false w := fun d => by
        unfold Op.equalIn
        simp [run_underlying hu]
      rw [hax,hay]
      simp only [SV.den,SC.den,had]
      rw [Sem.run_bind,Kl _ _ _ _ _ _ (by simp) (by simp)]
      simp [Go.binOp,Op.equal,Op.maxDepth,h3 9999]
    · cases h
  · rename_i hx hy
    have hax := Jh hx hsx hg
    have hay := Jh hy hsy hg
    split at h
    · rename_i el hu
      cases h
      refine fin true rfl ?_
      have h3:∀ d,(Op.equalIn (d + 1) t (.slice none 0 0) (.slice none 0 0)).run P w = .ok true w := fun d => by
        unfold Op.equalIn
        simp [run_underlying hu]
      rw [hax,hay]
      simp only [SV.den,SC.den]
      rw [Sem.run_bind,Kl _ _ _ _ _ _ (by simp) (by simp)]
      simp [Go.binOp,Op.equal,Op.maxDepth,h3 9999]
    · cases h
  · cases h
theorem JqY {x:Operand} {id esz off:Nat} {i:SN} (ho:o.op = .nilCheck x) (hx:Y7 env g x = some (.one (.eptr id esz i off)))
    (h:(Jc3 mem id i).map (fun q => (⟨some (.one (.eptr id esz i off)),[id],[],[],q,[],n⟩:Eff)) = some e) (hn:∀ p ∈ e.needs,p) (hm:Jf θ (JG mem e.rd) w)
    (hs:∀ t ∈ Je [x],∀ y,JC env t = some y → Jx θ a t y) (hg:holds a g)
    (hk:YE K o a n θ w (JG mem e.touched) e):o.wp P a w K Q := by
  have ha := Jh hx hs hg
  simp only [Option.map_eq_some_iff] at h
  obtain ⟨q,h1,rfl⟩ := h
  obtain ⟨ad,h2⟩ := JM4 h1 hn hm
  refine Q6 (v := SV.den θ (.one (.eptr id esz i off))) (w' := w) ?_ (hk _ _ _ (EffRel.pure (x := .one (.eptr id esz i off)) rfl rfl))
  unfold execOp
  simp only [ho,ha,SV.den,SC.den,h2,Option.map_some,Sem.run_pure]
theorem Jit {t:TypeId} {x:Operand} {f id esz off:Nat} {i:SN} (ho:o.op = .fieldAddr t x f) (hx:Y7 env g x = some (.one (.eptr id esz i off)))
    (h:Jld P t f mem n id esz i off = some e) (hn:∀ p ∈ e.needs,p) (hm:Jf θ (JG mem e.rd) w)
    (hs:∀ t ∈ Je [x],∀ y,JC env t = some y → Jx θ a t y) (hg:holds a g)
    (hk:YE K o a n θ w (JG mem e.touched) e):o.wp P a w K Q := by
  have ha := Jh hx hs hg
  unfold Jld at h
  split at h
  case h_2 => cases h
  rename_i fs q hu h1
  split at h
  case h_2 => cases h
  rename_i fd hf
  split at h
  case h_2 => cases h
  rename_i inf hi
  cases hz:Nat.beq inf.size 0
  · rw [hz] at h
    cases h
    obtain ⟨ad,h2⟩ := JM4 h1 hn hm
    have hne:inf.size ≠ 0 := fun he => by rw [he] at hz; cases hz
    refine Q6 (v := SV.den θ (.one (.eptr id esz i (off + fd.offset)))) (w' := w) ?_ (hk _ _ _ (EffRel.pure (x := .one (.eptr id esz i (off + fd.offset))) rfl rfl))
    unfold execOp
    simp only [ho]
    refine K5 ?_
    rw [JLs] at hf
    simp only [ha,SV.den,SC.den,h2,Option.map_some,Instr.fieldAt,Sem.run_bind,run_underlying hu,Result.andThen_ok,hf,Instr.sureAddr,Sem.run_pure,fieldPlace,sizeOf,typeInfo,run_program,hi,hne,if_false,Addr.add_add,Nat.add_assoc]
  · rw [hz] at h; cases h
theorem Jqx {x y:Operand} (hs:∀ t ∈ Je [x,y],∀ u,JC env t = some u → Jx θ a t u):(∀ t ∈ Je [x],∀ u,JC env t = some u → Jx θ a t u) ∧ ∀ t ∈ Je [y],∀ u,JC env t = some u → Jx θ a t u :=
  ⟨fun t ht => hs t (by rw [Jr]; simp [ht]),fun t ht => hs t (by rw [Jr]; simp [ht])⟩
theorem Jm6 {t:TypeId} {x y:Operand} (ho:o.op = .indexAddr t x y) (h:Jk9 P t (Y7 env g x) (Y7 env g y) mem n = some e) (hn:∀ p ∈ e.needs,p) (hm:Jf θ (JG mem e.rd) w)
    (hs:∀ t ∈ Je [x,y],∀ u,JC env t = some u → Jx θ a t u) (hg:holds a g)
    (hk:YE K o a n θ w (JG mem e.touched) e):o.wp P a w K Q := by
  obtain ⟨hsx,hsy⟩ := Jqx hs
  unfold Jk9 at h
  split at h
  · rename_i el id k iv hu hx hy
    have ha := Jh hx hsx hg
    have hb := Jh hy hsy hg
    split at h
    case h_2 => cases h
    rename_i inf ro ty m r kk q1 hi hl h1
    cases hsz:Nat.beq inf.size m
    · rw [hsz] at h; cases h
    rw [hsz] at h
    have hsz := Nat.eq_of_beq_eq_true hsz
    simp only [cond_true] at h
    split at h
    case h_2 => cases h
    rename_i q2 h2
    cases h
    simp only [List.mem_append] at hn
    obtain ⟨h3,h4⟩ := JD0 h1 fun p hp => hn p (.inl hp)
    have h5 := JOl h2 fun p hp => hn p (.inr hp)
    rw [Xo] at h5
    obtain ⟨_,h6,_,h7⟩ := JAA (hm.1 id _ (Xh hl (by simp)))
    obtain ⟨ad,h8,_⟩ := h7 (fun e => by rw [e] at h5; simp at h5)
    refine Q6 (v := SV.den θ (.one (.eptr id m kk 0))) (w' := w) ?_ (hk _ _ _ (EffRel.pure (x := .one (.eptr id m kk 0)) rfl rfl))
    unfold execOp
    simp only [ho]
    refine K5 ?_
    have hrange:0 ≤ iv.val ∧ iv.val < ((θ id).len:Int) := ⟨h3,by rw [h6]; omega⟩
    simp only [ha,hb,SV.den,SC.den,h8,Option.map_some,Instr.indexAt,asIntOf,Sem.run_bind,Sem.run_pure,Result.andThen_ok,run_underlying hu,hrange,and_self,if_true,sizeOf,typeInfo,run_program,hi,h4,hsz,Nat.add_zero]
  · rename_i el id esz off len k iv hu hx hy
    have ha := Jh hx hsx hg
    have hb := Jh hy hsy hg
    split at h
    case h_2 => cases h
    rename_i inf ro ty m r kk q1 hi hl h1
    cases hsz:(Nat.beq inf.size m && Nat.beq esz m)
    · rw [hsz] at h; cases h
    rw [hsz] at h
    simp only [Bool.and_eq_true] at hsz
    have hes := Nat.eq_of_beq_eq_true hsz.2
    have hsz := Nat.eq_of_beq_eq_true hsz.1
    subst hes
    simp only [cond_true] at h
    split at h
    case h_2 => cases h
    rename_i q2 q3 h2 h2'
    cases h
    simp only [List.mem_append] at hn
    obtain ⟨h3,h4⟩ := JD0 h1 fun p hp => hn p (.inl (.inl hp))
    have h5 := JOl h2 fun p hp => hn p (.inl (.inr hp))
    have h5' := JOl h2' fun p hp => hn p (.inr hp)
    rw [Xo,JaN] at h5'
    obtain ⟨_,h6,hcap,h7⟩ := JAA (hm.1 id _ (Xh hl (by simp)))
    obtain ⟨ad,h8,_⟩ := h7 (fun e => by rw [e] at h5'; simp at h5')
    refine Q6 (v := SV.den θ (.one (.eptr id esz (Jlv off kk) 0))) (w' := w) ?_ (hk _ _ _ (EffRel.pure (x := .one (.eptr id esz (Jlv off kk) 0)) rfl rfl))
    unfold execOp
    simp only [ho]
    refine K5 ?_
    have hrange:0 ≤ iv.val ∧ iv.val < (len.val:Int) := ⟨h3,by omega⟩
    have hne:(θ id).cap ≠ off.val := by omega
    simp only [ha,hb,SV.den,SC.den,h8,Option.map_some,Instr.indexAt,asIntOf,Sem.run_bind,Sem.run_pure,Result.andThen_ok,run_underlying hu,hrange,and_self,if_true,sizeOf,typeInfo,run_program,hi,h4,hsz,Nat.add_zero,hne,if_false,Addr.add_add,JaN,Nat.add_mul]
  · rename_i len el id off k j hu hx hy
    have ha := Jh hx hsx hg
    have hb := Jh hy hsy hg
    split at h
    case h_2 => cases h
    rename_i inf ty cs hi hl
    cases hr:(decide (0 ≤ j) && decide (j < (len:Int)))
    · rw [hr] at h; cases h
    rw [hr] at h; cases h
    simp only [Bool.and_eq_true,decide_eq_true_eq] at hr
    obtain ⟨b,hb',_⟩ := Yf (hm.1 id (.blk ty cs) (Xh hl (by simp)))
    refine Q6 (v := SV.den θ (.one (.ptr id (off + j.toNat * inf.size)))) (w' := w) ?_ (hk _ _ _ (EffRel.pure (x := .one (.ptr id (off + j.toNat * inf.size))) rfl rfl))
    unfold execOp
    simp only [ho]
    refine K5 ?_
    simp only [ha,hb,SV.den,SC.den,SI.val,hb',Option.map_some,Instr.indexAt,asIntOf,Sem.run_bind,Sem.run_pure,Result.andThen_ok,run_underlying hu,hr,and_self,if_true,sizeOf,typeInfo,run_program,hi,Instr.sureAddr,Addr.add_mid]
  · cases h
theorem Jke {t:TypeId} {x y:Operand} (ho:o.op = .index t x y) (h:Jjf P t (Y7 env g x) (Y7 env g y) n = some e)
    (hs:∀ t ∈ Je [x,y],∀ u,JC env t = some u → Jx θ a t u) (hg:holds a g)
    (hk:YE K o a n θ w (JG mem e.touched) e):o.wp P a w K Q := by
  obtain ⟨hsx,hsy⟩ := Jqx hs
  unfold Jjf at h
  split at h
  case h_2 => cases h
  rename_i len el cs k j hu hx hy
  have ha := Jh hx hsx hg
  have hb := Jh hy hsy hg
  split at h
  case h_2 => cases h
  rename_i b inf h2 hi
  obtain ⟨d,hd,hrow⟩ := WZ h2
  have hagg:(isAgg el).run P w = .ok b w := by
    unfold isAgg
    rw [Sem.run_bind,run_underlying hd w]
    cases d <;> simp_all
  cases hr:(decide (0 ≤ j) && decide (j < (len:Int)))
  · rw [hr] at h; cases h
  rw [hr] at h
  simp only [Bool.and_eq_true,decide_eq_true_eq] at hr
  simp only [cond_true] at h
  cases b
  · simp only [cond_false] at h
    split at h
    case h_2 => cases h
    rename_i c hc
    cases h
    have h7:cs[j.toNat * inf.size]? = some c := by
      rw [JGq] at hc
      have := congrArg (fun l:List SC => l[0]?) hc
      simp only [List.getElem?_take,List.getElem?_drop] at this
      simpa using this
    have h8:(JK θ cs).toArray[j.toNat * inf.size]? = some (c.den θ) := by simp [JK,h7]
    refine Q6 (v := SV.den θ (.one c)) (w' := w) ?_ (hk _ _ _ (EffRel.pure (x := .one c) rfl rfl))
    unfold execOp
    simp only [ho]
    refine K5 ?_
    simp only [ha,hb,SV.den,SC.den,SI.val,Instr.index,asIntOf,Sem.run_bind,Sem.run_pure,Result.andThen_ok,run_underlying hu,hr,and_self,if_true,sizeOf,typeInfo,run_program,hi,part,hagg,Bool.false_eq_true,if_false,h8]
  · simp only [cond_true] at h
    cases hq:Nat.beq (Xp cs (j.toNat * inf.size) inf.size).length inf.size
    · rw [hq] at h; cases h
    rw [hq] at h; cases h
    refine Q6 (v := SV.den θ (.agg (Xp cs (j.toNat * inf.size) inf.size))) (w' := w) ?_ (hk _ _ _ (EffRel.pure (x := .agg _) rfl rfl))
    unfold execOp
    simp only [ho]
    refine K5 ?_
    simp only [ha,hb,SV.den,SC.den,SI.val,Instr.index,asIntOf,Sem.run_bind,Sem.run_pure,Result.andThen_ok,run_underlying hu,hr,and_self,if_true,sizeOf,typeInfo,run_program,hi,part,hagg]
    congr 2
    simp [JK,JGq,List.map_take,List.map_drop]
theorem Jkj {x:Operand} {s:ByteArray} (h:JsZ x = some s):x = .const (.string s) := by
  unfold JsZ at h
  split at h
  · cases h; rfl
  · cases h
theorem Jez {t:TypeId} {x y:Operand} {s:ByteArray} (ho:o.op = .index t x y) (hx:x = .const (.string s)) (h:JaU P t s (Y7 env g y) n = some e) (hn:∀ p ∈ e.needs,p)
    (hs:∀ t ∈ Je [x,y],∀ u,JC env t = some u → Jx θ a t u) (hg:holds a g)
    (hk:YE K o a n θ w (JG mem e.touched) e):o.wp P a w K Q := by
  obtain ⟨hsx,hsy⟩ := Jqx hs
  unfold JaU at h
  split at h
  case h_2 => cases h
  rename_i kd iv hu hy
  have hb := Jh hy hsy hg
  split at h
  case h_2 => cases h
  rename_i k q hq
  cases h
  obtain ⟨h1,h2⟩ := JD0 hq (fun p hp => hn p (by simp [hp]))
  have h3:k.val < s.size := hn _ (by simp)
  refine Q6 (v := .int .u8 (JCb s k.val)) (w' := w) ?_ (hk _ _ _ (EffRel.pure (x := .one (.int .u8 (.v (JCb s k.val)))) rfl rfl))
  unfold execOp
  simp only [ho]
  refine K5 ?_
  have hxe:a.eval x = .string s := by rw [hx]; rfl
  have hs1:s[k.val]? = some s[k.val] := by simp [h3]
  have hs2:JCb s k.val = (s[k.val].toNat:Int) := by unfold JCb; rw [hs1]
  rw [hs2]
  simp only [hxe,hb,SV.den,SC.den,Instr.index,asIntOf,Sem.run_bind,Sem.run_pure,Result.andThen_ok,run_underlying hu,h1,if_true,h2,hs1]
theorem JHG {d:SN} {p:SN × List Prop} (h:JEI env g d none = some p):p = (d,[]) := by cases h; rfl
theorem JB1 {d k:SN} {q:List Prop} {x:Operand} (h:JEI env g d (some x) = some (k,q)) (hq:∀ p ∈ q,p) (hs:∀ t ∈ Je [x],∀ u,JC env t = some u → Jx θ a t u) (hg:holds a g) :
    ∃ j i,a.eval x = .int j i ∧ 0 ≤ i ∧ i.toNat = k.val := by
  simp only [JEI] at h
  split at h
  · rename_i j iv hx
    have ha := Jh (a := a) (θ := θ) hx hs hg
    obtain ⟨h1,h2⟩ := JD0 h hq
    exact ⟨j,iv.val,ha,h1,h2⟩
  · cases h
theorem SN.val_c (k:Nat):(SN.c k).val = k := rfl
theorem JTs {t:TypeId} {lo hi:Option Operand} {x:Operand}:(∀ y,lo = some y → ∀ t' ∈ Je [y],t' ∈ Je (Op.slice t x lo hi none).operands.toList) ∧ (∀ y,hi = some y → ∀ t' ∈ Je [y],t' ∈ Je (Op.slice t x lo hi none).operands.toList) ∧ ∀ t' ∈ Je [x],t' ∈ Je (Op.slice t x lo hi none).operands.toList := by
  have e:(Op.slice t x lo hi none).operands.toList = x :: (lo.toList ++ hi.toList) := by
    simp [Op.operands]
  rw [e]
  refine ⟨?_,?_,?_⟩
  · rintro y rfl t' ht
    simp only [Option.toList_some,List.cons_append,List.nil_append]
    rw [Jr,Jr y]
    simp [ht]
  · rintro y rfl t' ht
    rw [Jr]
    cases lo with
    | none => simp [ht]
    | some z =>
      simp only [Option.toList_some,List.cons_append,List.nil_append]
      rw [Jr z]
      simp [ht]
  · intro t' ht
    rw [Jr]
    simp [ht]
theorem JkJ {t:TypeId} {x:Operand} {lo hi:Option Operand} (ho:o.op = .slice t x lo hi none) (h:JmH P t (Y7 env g x) (fun d => JEI env g d lo) (fun d => JEI env g d hi) mem n = some e) (hn:∀ p ∈ e.needs,p) (hm:Jf θ (JG mem e.rd) w)
    (hs:∀ t' ∈ Je (Op.slice t x lo hi none).operands.toList,∀ u,JC env t' = some u → Jx θ a t' u) (hg:holds a g)
    (hk:YE K o a n θ w (JG mem e.touched) e):o.wp P a w K Q := by
  obtain ⟨hlo,hhi,hx⟩ := JTs (t := t) (lo := lo) (hi := hi) (x := x)
  unfold JmH at h
  split at h
  case h_2 => cases h
  rename_i el id hu h1
  have ha := Jh h1 (fun t ht => hs t (hx t ht)) hg
  split at h
  case h_2 => cases h
  rename_i inf ro ty m r hi' hl
  cases hsz:Nat.beq inf.size m
  · rw [hsz] at h; cases h
  rw [hsz] at h
  have hsz := Nat.eq_of_beq_eq_true hsz
  simp only [cond_true] at h
  split at h
  case h_2 => cases h
  rename_i l q1 hh q2 h2 h3
  split at h
  case h_2 => cases h
  rename_i q3 q4 h4 h5
  cases h
  simp only [List.mem_append] at hn
  have h4 := JOn h4 fun p hp => hn p (.inl (.inr hp))
  have h5 := JOn h5 fun p hp => hn p (.inr hp)
  rw [Xo] at h5
  obtain ⟨_,h6,hcap,_⟩ := JAA (hm.1 id _ (Xh hl (by simp)))
  refine Q6 (v := SV.den θ (.one (.sl id m l (JsL hh l)))) (w' := w) ?_ (hk _ _ _ (EffRel.pure (x := .one (.sl id m l (JsL hh l))) rfl rfl))
  unfold execOp
  simp only [ho]
  refine K5 ?_
  have hbounds:(Instr.sliceBounds true (θ id).len (θ id).cap (lo.map a.eval) (hi.map a.eval) none).run P w = .ok (l.val,hh.val,(θ id).cap) w := by
    have bnd:∀ (j:IntKind) (i:Int) (y k:Nat) (c:BoundsCode),0 ≤ i → i.toNat = k → k ≤ y → (Instr.sliceBound (.int j i) y c).run P w = .ok k w := by
      intro j i y k c h0 h1 h2
      rw [run_sliceBound w j i y c h0 (by omega),h1]
    cases lo with
    | none =>
      cases JHG h2
      cases hi with
      | none =>
        cases JHG h3
        simp [Instr.sliceBounds,SN.val_c,Xo,h6]
      | some y =>
        obtain ⟨j,i,e1,e2,e3⟩ := JB1 h3 (fun p hp => hn p (.inl (.inl (.inr hp)))) (fun t ht => hs t (hhi y rfl t ht)) hg
        simp [Instr.sliceBounds,SN.val_c,e1,bnd j i _ _ _ e2 e3 (Nat.le_trans h5 hcap)]
    | some z =>
      obtain ⟨j,i,e1,e2,e3⟩ := JB1 h2 (fun p hp => hn p (.inl (.inl (.inl hp)))) (fun t ht => hs t (hlo z rfl t ht)) hg
      cases hi with
      | none =>
        cases JHG h3
        rw [Xo] at h4
        simp [Instr.sliceBounds,e1,h6,bnd j i r.rows.length _ _ e2 e3 h4,Xo]
      | some y =>
        obtain ⟨j',i',e1',e2',e3'⟩ := JB1 h3 (fun p hp => hn p (.inl (.inl (.inr hp)))) (fun t ht => hs t (hhi y rfl t ht)) hg
        simp [Instr.sliceBounds,e1,e1',bnd j i _ _ _ e2 e3 h4,bnd j' i' _ _ _ e2' e3' (Nat.le_trans h5 hcap)]
  simp only [ha,SV.den,SC.den,Instr.sliceAt,Sem.run_bind,run_underlying hu,Result.andThen_ok,Instr.slice,Option.map_none,hbounds,sizeOf,typeInfo,run_program,hi',Sem.run_pure,hsz,JsM]
  congr 2
  split
  · cases (θ id).ad <;> rfl
  · rfl
theorem JJk {c:Call} {b:Builtin} (hc:c.callee = .builtin b) (ho:o.op = .call c) {v:Value} {w':World}
    (h:(Go.builtin b c.argTypes o.type (c.args.map fun | .const _ => true | _ => false) (c.args.map a.eval)).run P w = .ok (.value v) w'):(execOp a.eval o).run P w = .ok (.value v) w' := by
  unfold execOp
  simp only [ho,resolve,hc,Sem.run_bind,Sem.run_pure,Result.andThen_ok,invoke]
  exact h
theorem JOx {xs:Array Operand} {vs:List SV} (h:args env g xs.toList = some vs) (hr:∀ t ∈ Je xs.toList,∀ e,JC env t = some e → Jx θ a t e) (hg:holds a g):xs.map a.eval = (vs.map (SV.den θ)).toArray := by
  apply Array.toList_inj.1
  simp [JC8 (θ := θ) h hr hg]
theorem JeC {ts:Array TypeId} {t:TypeId} (h:ts.toList = [t]):ts = #[t] := by
  apply Array.toList_inj.1; simpa using h
theorem JdT {ts:Array TypeId} {t u:TypeId} (h:ts.toList = [t,u]):ts = #[t,u] := by
  apply Array.toList_inj.1; simpa using h
theorem JYc (x:SN):(JZD x).val = Int.ofNat x.val := by cases x <;> rfl
theorem JtC {c:Call} {t:TypeId} {x:SV} (ho:o.op = .call c) (hc:c.callee = .builtin .len) (ht:c.argTypes.toList = [t]) (hx:args env g c.args.toList = some [x]) (h:JwV P t (some x) mem n = some e) (hm:Jf θ (JG mem e.rd) w)
    (hs:∀ t ∈ Je c.args.toList,∀ u,JC env t = some u → Jx θ a t u) (hg:holds a g)
    (hk:YE K o a n θ w (JG mem e.touched) e):o.wp P a w K Q := by
  have ha := JOx (θ := θ) hx hs hg
  have ht := JeC ht
  have fin:∀ (y:SI),e.val = some (.one (.int .i64 y)) → e.ups = [] → (Builtin.len_ #[t] o.type #[x.den θ]).run P w = .ok (.int .i64 y.val) w → o.wp P a w K Q := by
    intro y h1 h2 h3
    refine Q6 (v := SV.den θ (.one (.int .i64 y))) (w' := w) ?_ (hk _ _ _ (EffRel.pure h1 h2))
    refine JJk hc ho ?_
    rw [ha,ht]
    unfold Go.builtin
    simp only [List.map_cons,List.map_nil]
    exact K5 h3
  unfold JwV at h
  split at h
  · rename_i el hu hv
    cases hv; cases h
    refine fin (.c 0) rfl rfl ?_
    simp [Builtin.len_,run_underlying hu,SV.den,SC.den,SI.val,goInt]
  · rename_i el id hu hv
    cases hv
    split at h
    case h_2 => cases h
    rename_i ro ty m r hl
    cases h
    refine fin (JZD (ji r)) rfl rfl ?_
    have := (JAA (hm.1 id _ (Xh hl (by simp)))).2.1
    simp [Builtin.len_,run_underlying hu,SV.den,SC.den,JYc,Xo,this,goInt]
  · rename_i el id esz off len hu hv
    cases hv; cases h
    refine fin (JZD len) rfl rfl ?_
    simp [Builtin.len_,run_underlying hu,SV.den,SC.den,JYc,goInt]
  · rename_i m el v hu hv
    cases hv; cases h
    refine fin (.c (Int.ofNat m)) rfl rfl ?_
    simp [Builtin.len_,run_underlying hu,SI.val,goInt]
  · cases h
theorem Js8 (x y:SI):(JwY x y).val = if y.val < x.val then y.val else x.val := by
  unfold JwY; split <;> rfl
theorem Jrz (x y:SI):(Jwd x y).val = if y.val > x.val then y.val else x.val := by
  unfold Jwd; split <;> rfl
theorem Jbo {f:SI → SI → SI} {m2:Value → Value → Sem Value} (hf:∀ k j x y,(m2 (.int k x.val) (.int j y.val)).run P w = .ok (.int k (f x y).val) w) (k:IntKind):∀ {vs:List SV} {x y:SI},Jmy f k x vs = some y →
    ((vs.map (SV.den θ)).foldlM m2 (.int k x.val)).run P w = .ok (.int k y.val) w
  | [],x,y,h => by cases h; rfl
  | v :: r,x,y,h => by
    unfold Jmy at h
    split at h
    · rename_i heq; cases heq
    · rename_i j b r' heq
      cases heq
      cases hk:Wk k j
      · rw [hk] at h; cases h
      rw [hk] at h
      simp only [List.map_cons,List.foldlM_cons,Sem.run_bind,SV.den,SC.den,hf,Result.andThen_ok]
      exact Jbo hf k h
    · cases h
theorem JZ1 {c:Call} {b:Builtin} {f:SI → SI → SI} {m2:Value → Value → Sem Value} (ho:o.op = .call c) (hc:c.callee = .builtin b)
    (hb:∀ x r,(Go.builtin b c.argTypes o.type (c.args.map fun | .const _ => true | _ => false) (x :: r).toArray).run P w = (do pure (Next.value (← r.foldlM m2 x)):Sem Next).run P w)
    (hf:∀ k j x y,(m2 (.int k x.val) (.int j y.val)).run P w = .ok (.int k (f x y).val) w) (h:JUQ f n (args env g c.args.toList) = some e)
    (hs:∀ t ∈ Je c.args.toList,∀ u,JC env t = some u → Jx θ a t u) (hg:holds a g)
    (hk:YE K o a n θ w (JG mem e.touched) e):o.wp P a w K Q := by
  unfold JUQ at h
  split at h
  case h_2 => cases h
  rename_i k x r hx
  simp only [Option.map_eq_some_iff] at h
  obtain ⟨y,h1,rfl⟩ := h
  have ha := JOx (θ := θ) hx hs hg
  refine Q6 (v := SV.den θ (.one (.int k y))) (w' := w) ?_ (hk _ _ _ (EffRel.pure (x := .one (.int k y)) rfl rfl))
  refine JJk hc ho ?_
  rw [ha,List.map_cons,hb]
  exact K5 (Jbo hf k h1)
theorem Jnp {f:FuncId} {caps:Array Operand} (ho:o.op = .makeFunc (.func f) #[] caps) (h:(args env g caps.toList).map (JvV n f) = some e)
    (hs:∀ t ∈ Je caps.toList,∀ u,JC env t = some u → Jx θ a t u) (hg:holds a g) (hids:∀ t y,JC env t = some y → ∀ id ∈ Ze y.val,id < n)
    (hk:YE K o a n θ w (JG mem e.touched) e):o.wp P a w K Q := by
  simp only [Option.map_eq_some_iff] at h
  obtain ⟨vs,h1,rfl⟩ := h
  have ha := JOx (θ := θ) h1 hs hg
  have hrun:(execOp a.eval o).run P w = .ok (.value (.func (.func f) #[] (vs.map (SV.den θ)).toArray)) w := by
    unfold execOp
    simp only [ho]
    refine K5 ?_
    simp [Instr.makeFunc,ha]
  cases vs with
  | nil =>
    exact Q6 hrun (hk _ _ _ (EffRel.pure (x := .one (.fn f)) rfl rfl))
  | cons v r =>
    refine Q6 hrun (hk _ _ _ (JUR (Loc.clo (((v :: r).map (SV.den θ)).toArray)) _ rfl rfl ?_ ?_ rfl rfl rfl (Nat.le_refl _) (fun _ _ => rfl) (fun b hb => by cases hb)))
    · simp [SV.den,SC.den,Th.set_same,Loc.clo]
    · show Th.set θ n _ n = _
      rw [Th.set_same,JKR (Th.set_agree θ n _) (JIQ h1 hids)]
theorem JHg:∀ {l acc:List Nat} {x:Nat},x ∈ acc → x ∈ Yb acc l
  | [],_,_,h => h
  | a :: r,acc,x,h => by
    simp only [JVp,JSz]
    refine JHg ?_
    cases has acc a <;> simp [h]
theorem JFb (mem:Jo):∀ (l acc:List Nat) {x:Nat},x ∈ acc → x ∈ l.foldl (fun acc id => match JC mem id with | some o => Yb acc (K6 o) | none => acc) acc
  | [],_,_,h => h
  | a :: r,acc,x,h => by
    simp only [List.foldl_cons]
    refine JFb mem r _ ?_
    split
    · exact JHg h
    · exact h
theorem Jbb (mem:Jo):∀ (k:Nat) {l:List Nat} {x:Nat},x ∈ l → x ∈ Kc mem k l
  | 0,_,_,h => h
  | k + 1,l,x,h => by
    simp only [Kc]
    exact Jbb mem k (JFb mem l l h)
theorem JpD {c:Call} {f:Operand} {fid id:Nat} {vs:List SV} (hp:Zl P) (hce:WO P ce) (ho:o.op = .call c) (hc:c.callee = .value f) (h1:Y7 env g f = some (.one (.clo fid id))) (h2:args env g c.args.toList = some vs)
    (h:Jst ce mem n fid id vs = some e) (hn:∀ p ∈ e.needs,p) (he:∀ p ∈ e.eqs,p.1 = p.2)
    (hs:∀ t ∈ Je c.operands.toList,∀ y,JC env t = some y → Jx θ a t y) (hg:holds a g) (hids:∀ t y,JC env t = some y → ∀ id ∈ Ze y.val,id < n) (hwf:Z2 n mem)
    (hm:Jf θ (JG mem e.rd) w) (hk:YE K o a n θ w (JG mem e.touched) e):o.wp P a w K Q := by
  unfold Jst at h
  split at h
  case h_2 => cases h
  rename_i caps hl
  cases hlt:Nat.blt fid 1000000
  · rw [hlt] at h; cases h
  rw [hlt] at h
  simp only [cond_true] at h
  have hlt:fid < 1000000 := by simpa using hlt
  split at h
  case h_2 => cases h
  rename_i r hr
  cases h
  have hops:c.operands.toList = f :: c.args.toList := by simp [Call.operands,hc]
  rw [hops] at hs
  have hf := Jh h1 (fun t ht => hs t (by rw [Jr]; simp [ht])) hg
  have has := JC8 (θ := θ) h2 (fun t ht => hs t (by rw [Jr]; simp [ht])) hg
  have hclo:θ id = Loc.clo (caps.map (SV.den θ)).toArray := hm.1 id _ (Xh hl (Jbb _ _ (by simp)))
  have hwf':Z2 n (JG mem (Kc mem 3 (id :: Qg vs))) := fun id ob hl => by
    rw [Jt] at hl
    split at hl
    · exact hwf id ob hl
    · cases hl
  have happ:∀ a b:List SV,Qg (a ++ b) = Qg a ++ Qg b := by
    intro a b
    induction a with
    | nil => rfl
    | cons v r ih => simp [Qg,ih]
  obtain ⟨h34,h5⟩ := hce fid (vs ++ caps) _ n r hr hn he hwf' (fun i hi => by
    rw [happ,List.mem_append] at hi
    exact hi.elim (JIQ h2 hids i) ((hwf id _ hl).2 i)) θ w hm
  obtain ⟨fn,h3,h4⟩ := h34 hlt
  have h5 := h5.1 hlt
  have hmap:c.args.map a.eval ++ (caps.map (SV.den θ)).toArray = ((vs ++ caps).map (SV.den θ)).toArray := by
    apply Array.toList_inj.1
    simp [has]
  have hrun:(execOp a.eval o).run P w = .ok (.enter fid ((vs ++ caps).map (SV.den θ)).toArray) w := by
    unfold execOp
    simp only [ho]
    simp only [resolve,hc,hf,SV.den,SC.den,hclo,Loc.clo,Deferred.ofValue,Sem.run_bind,Sem.run_pure,Result.andThen_ok,invoke,Array.empty_append,hmap,JOY hp h3 h4]
  unfold Oper.wp
  rw [hrun,Oper.upon_enter]
  refine h5.mono fun en w' hen => ?_
  obtain ⟨θ',rfl,h6,h7⟩ := hen
  obtain ⟨h8,h9⟩ := JoY hwf hm h6 h7
  exact hk _ _ _ ⟨rfl,h8,h9⟩
theorem Jkg {v:Option SV} {y id:Nat} (h:Jrj v = some (y,id)):v = some (.one (.yld y id)) := by
  unfold Jrj at h
  split at h
  · cases h; rfl
  · cases h
theorem JqN {c:Call} {f:Operand} {y id:Nat} {vs:List SV} (hce:WO P ce) (ho:o.op = .call c) (hc:c.callee = .value f) (h1:Y7 env g f = some (.one (.yld y id))) (h2:args env g c.args.toList = some vs)
    (h:Jw5 ce mem n y id vs = some e) (hn:∀ p ∈ e.needs,p) (he:∀ p ∈ e.eqs,p.1 = p.2)
    (hs:∀ t ∈ Je c.operands.toList,∀ y,JC env t = some y → Jx θ a t y) (hg:holds a g) (hids:∀ t y,JC env t = some y → ∀ id ∈ Ze y.val,id < n) (hwf:Z2 n mem)
    (hm:Jf θ (JG mem e.rd) w) (hk:YE K o a n θ w (JG mem e.touched) e):o.wpIn Fence.wide 0 P a w K Q := by
  unfold Jw5 at h
  cases hle:Nat.ble 1000000 y
  · rw [hle] at h; cases h
  rw [hle] at h
  simp only [cond_true] at h
  have hle := Nat.le_of_ble_eq_true hle
  split at h
  case h_2 => cases h
  rename_i r hr
  cases h
  have hops:c.operands.toList = f :: c.args.toList := by simp [Call.operands,hc]
  rw [hops] at hs
  have hf := Jh h1 (fun t ht => hs t (by rw [Jr]; simp [ht])) hg
  have has := JC8 (θ := θ) h2 (fun t ht => hs t (by rw [Jr]; simp [ht])) hg
  have hwf':Z2 n (JG mem (Kc mem 3 (id :: Qg vs))) := fun id ob hl => by
    rw [Jt] at hl
    split at hl
    · exact hwf id ob hl
    · cases hl
  obtain ⟨_,h5⟩ := hce y (.one (.yld y id) :: vs) _ n r hr hn he hwf' (fun i hi => by
    simp only [Qg,List.mem_append] at hi
    exact hi.elim (Jdz h1 hids i) (JIQ h2 hids i)) θ w hm
  obtain ⟨l,as,h6,fn,tmps,assign,body,h7,h8⟩ := h5.2 hle
  have hmap:(c.args.map a.eval) = (vs.map (SV.den θ)).toArray := by
    apply Array.toList_inj.1
    simp [has]
  have hl:(.func (.yield ((θ id).blk.getD 0)) #[] #[]:Value) = .func (.yield l) #[] #[] ∧ (vs.map (SV.den θ)).toArray = as := by
    have := congrArg Array.toList h6
    simp only [List.map_cons,Array.toList_append,List.cons_append,List.nil_append,List.cons.injEq] at this
    exact ⟨this.1,Array.toList_inj.1 (by simpa using this.2)⟩
  have hrun:(execOp a.eval o).run P w = .ok (.round l fn tmps assign body) w := by
    unfold execOp
    simp only [ho]
    simp only [resolve,hc,hf,SV.den,SC.den,hl.1,Deferred.ofValue,Sem.run_bind,Sem.run_pure,Result.andThen_ok,invoke,Array.empty_append,hmap,hl.2]
    exact h7
  refine ⟨fun _ _ => trivial,?_⟩
  rw [show Fence.wide.round = none from rfl,Oper.semAt_none,hrun,Oper.uponIn_round]
  refine ⟨fun h => (by cases h),h8.mono fun en w' hen => ?_⟩
  obtain ⟨θ',rfl,h9,h10⟩ := hen
  exact hk _ _ _ ⟨rfl,h9,h10⟩
end each
end
end Go.SX
