/-
  Texts of one claim, laid together. Conditions: none.
-/
import Derived.Test.YtmbfbhimdkjkoaaGreatMc200a9d0
import Derived.Test.YtmbfbhimdkjkoaaGreatRows
set_option linter.all false
set_option maxRecDepth 1000000
namespace Go.SX
noncomputable section
open Go.RowKit
universe u
theorem YK {α:Type u} (l:List α) (x:α):x ∈ l ++ [x] := List.mem_append.2 (.inr (List.mem_cons_self ..))
structure Ext (m m':MR):Prop where
  sub:∀ a b,JC m.sub a = some b → JC m'.sub a = some b
  needs:∀ p ∈ m.needs,p ∈ m'.needs
  eqs:∀ p ∈ m.eqs,p ∈ m'.eqs
theorem Ext.refl (m:MR):Ext m m := ⟨fun _ _ h => h,fun _ h => h,fun _ h => h⟩
theorem Ext.trans {a b c:MR} (h:Ext a b) (k:Ext b c):Ext a c := ⟨fun x y q => k.sub x y (h.sub x y q),fun p q => k.needs p (h.needs p q),fun p q => k.eqs p (h.eqs p q)⟩
structure Good (m:MR):Prop where
  needs:∀ p ∈ m.needs,p
  eqs:∀ p ∈ m.eqs,p.1 = p.2
def W1 (n0:Nat) (θ:Th) (sub:Sub):Th := fun i => if i < n0 then θ i else match JC sub i with | some (some b) => θ b | _ => Loc.none
def JHz (n0:Nat) (sub:Sub) (a:Nat) (b:Option Nat):Prop := (a < n0 ∧ b = some a) ∨ (n0 ≤ a ∧ JC sub a = some b)
theorem WX {n0:Nat} {θ:Th} {sub:Sub} {a b:Nat} (h:JHz n0 sub a (some b)):W1 n0 θ sub a = θ b := by
  unfold W1
  rcases h with ⟨h1,h2⟩ | ⟨h1,h2⟩
  · cases h2; rw [if_pos h1]
  · rw [if_neg (by omega),h2]
theorem JM0 {n0:Nat} {θ:Th} {sub:Sub} {a:Nat} (h:JHz n0 sub a none):W1 n0 θ sub a = Loc.none := by
  unfold W1
  rcases h with ⟨_,h2⟩ | ⟨h1,h2⟩
  · cases h2
  · rw [if_neg (by omega),h2]
theorem JHz.ext {n0:Nat} {m m':MR} {a:Nat} {b:Option Nat} (h:JHz n0 m.sub a b) (he:Ext m m'):JHz n0 m'.sub a b :=
  h.imp (fun h => h) fun ⟨h1,h2⟩ => ⟨h1,he.sub a b h2⟩
theorem jV {n0 a:Nat} {b:Option Nat} {m m':MR} (h:JT3 n0 a b m = some m'):Ext m m' ∧ JHz n0 m'.sub a b := by
  unfold JT3 at h
  cases hlt:Nat.blt a n0
  · rw [hlt] at h
    have hge:n0 ≤ a := by
      rcases Nat.lt_or_ge a n0 with h' | h'
      · have:Nat.blt a n0 = true := Nat.blt_eq.mpr h'
        rw [this] at hlt; cases hlt
      · exact h'
    simp only [cond_false] at h
    split at h
    · rename_i hno
      have ext:∀ (m2:MR),m2 = { m with sub := (a,b) :: m.sub } → Ext m m2 ∧ JHz n0 m2.sub a b := by
        rintro m2 rfl
        refine ⟨⟨fun x y hxy => ?_,fun _ h => h,fun _ h => h⟩,.inr ⟨hge,by simp [Ju,JT]⟩⟩
        have hne:a ≠ x := fun e => by rw [e,hxy] at hno; cases hno
        simp only [Ju,JT,XX hne,cond_false]; exact hxy
      cases h; exact ext _ rfl
    · rename_i b' hl
      split at h
      · rename_i x y
        cases hxy:Nat.beq x y
        · rw [hxy] at h; cases h
        · rw [hxy] at h; cases h
          have := Nat.eq_of_beq_eq_true hxy; subst this
          exact ⟨Ext.refl _,.inr ⟨hge,hl⟩⟩
      · cases h; exact ⟨Ext.refl _,.inr ⟨hge,hl⟩⟩
      · cases h
  · rw [hlt] at h
    simp only [cond_true] at h
    have hlt':a < n0 := Nat.blt_eq.mp hlt
    split at h
    · rename_i b'
      cases hb:Nat.beq a b'
      · rw [hb] at h; cases h
      · rw [hb] at h; cases h
        have := Nat.eq_of_beq_eq_true hb; subst this
        exact ⟨Ext.refl _,.inl ⟨hlt',rfl⟩⟩
    · cases h
theorem Yp (m:MR) (p:Prop):Ext m { m with needs := m.needs ++ [p] } := ⟨fun _ _ h => h,fun q hq => by simp [hq],fun _ h => h⟩
theorem Jeu (m:MR) (p:EV × EV):Ext m { m with eqs := m.eqs ++ [p] } := ⟨fun _ _ h => h,fun _ h => h,fun q hq => by simp [hq]⟩
theorem JkB (same:Bool) (k:IntKind) (x y:SI) (m:MR):Ext m (Jn5 same k x y m) ∧ ∀ mf,Ext (Jn5 same k x y m) mf → Good mf → x.val = y.val := by
  unfold Jn5
  split
  · rename_i a b
    by_cases h:a = b
    · rw [show decide (a = b) = true from decide_eq_true h]
      exact ⟨Ext.refl _,fun _ _ _ => h⟩
    · rw [show decide (a = b) = false from decide_eq_false h]
      exact ⟨Yp _ _,fun mf he hg => hg.needs _ (he.needs _ (YK _ _))⟩
  · cases same
    · exact ⟨Yp _ _,fun mf he hg => hg.needs _ (he.needs _ (YK _ _))⟩
    · refine ⟨Jeu _ _,fun mf he hg => ?_⟩
      have := JP5 (hg.eqs (.v (.one (.int k x)),.v (.one (.int k y))) (he.eqs _ (YK _ _)))
      injection this with this
      injection this with _ this
      rw [this]
theorem JjF (same:Bool) (x y:SB) (m:MR):Ext m (Jnd same x y m) ∧ ∀ mf,Ext (Jnd same x y m) mf → Good mf → x.val = y.val := by
  unfold Jnd
  split
  · rename_i a b
    cases h:(a == b)
    · exact ⟨Yp _ _,fun mf he hg => hg.needs _ (he.needs _ (YK _ _))⟩
    · exact ⟨Ext.refl _,fun _ _ _ => eq_of_beq h⟩
  · cases same
    · exact ⟨Yp _ _,fun mf he hg => hg.needs _ (he.needs _ (YK _ _))⟩
    · refine ⟨Jeu _ _,fun mf he hg => ?_⟩
      have := JP5 (hg.eqs (.v (.one (.bool x)),.v (.one (.bool y))) (he.eqs _ (YK _ _)))
      injection this with this
      injection this with this
      rw [this]
theorem JMt (x y:SN) (m:MR):Ext m (Jah x y m) ∧ ∀ mf,Ext (Jah x y m) mf → Good mf → x.val = y.val := by
  unfold Jah
  split
  · rename_i a b
    cases h:Nat.beq a b
    · exact ⟨Yp _ _,fun mf he hg => hg.needs _ (he.needs _ (YK _ _))⟩
    · exact ⟨Ext.refl _,fun _ _ _ => Nat.eq_of_beq_eq_true h⟩
  · exact ⟨Yp _ _,fun mf he hg => hg.needs _ (he.needs _ (YK _ _))⟩
section spec
variable {n0:Nat} {θ:Th}
theorem JIV {same:Bool} {x y:SC} {m m':MR} (h:JYP n0 same x y m = some m'):Ext m m' ∧ ∀ mf,Ext m' mf → Good mf → x.den (W1 n0 θ mf.sub) = y.den θ := by
  unfold JYP at h
  split at h
  · rename_i k x j y
    cases hk:Wk k j
    · rw [hk] at h; cases h
    · rw [hk] at h; cases h
      have := Ye hk; subst this
      obtain ⟨h1,h2⟩ := JkB same k x y m
      exact ⟨h1,fun mf he hg => by simp only [SC.den,h2 mf he hg]⟩
  · rename_i x y
    cases h
    obtain ⟨h1,h2⟩ := JjF same x y m
    exact ⟨h1,fun mf he hg => by simp only [SC.den,h2 mf he hg]⟩
  · rename_i a o b p
    cases hk:Nat.beq o p
    · rw [hk] at h; cases h
    · rw [hk] at h
      simp only [cond_true] at h
      have := Nat.eq_of_beq_eq_true hk; subst this
      obtain ⟨h1,h2⟩ := jV h
      exact ⟨h1,fun mf he _ => by simp only [SC.den,WX (θ := θ) (h2.ext he)]⟩
  · obtain ⟨h1,h2⟩ := jV h
    exact ⟨h1,fun mf he _ => by simp only [SC.den,WX (θ := θ) (h2.ext he)]⟩
  · obtain ⟨h1,h2⟩ := jV h
    exact ⟨h1,fun mf he _ => by simp only [SC.den,JM0 (θ := θ) (h2.ext he),Loc.none]⟩
  · rename_i a e o l b f p k
    cases hk:Nat.beq e f
    · rw [hk] at h; cases h
    · rw [hk] at h
      simp only [cond_true] at h
      have := Nat.eq_of_beq_eq_true hk; subst this
      obtain ⟨h1,h2⟩ := jV h
      obtain ⟨h3,h4⟩ := JMt o p m
      obtain ⟨h5,h6⟩ := JMt l k (Jah o p m)
      exact ⟨(h3.trans h5).trans h1,fun mf he hg => by simp only [SC.den,WX (θ := θ) (h2.ext he),h4 mf ((h5.trans h1).trans he) hg,h6 mf (h1.trans he) hg]⟩
  · rename_i a e i o b f j p
    cases hk:(Nat.beq e f && Nat.beq o p)
    · rw [hk] at h; cases h
    · rw [hk] at h
      simp only [cond_true] at h
      simp only [Bool.and_eq_true] at hk
      have e1 := Nat.eq_of_beq_eq_true hk.1
      have e2 := Nat.eq_of_beq_eq_true hk.2
      subst e1; subst e2
      obtain ⟨h1,h2⟩ := jV h
      obtain ⟨h3,h4⟩ := JMt i j m
      exact ⟨h3.trans h1,fun mf he hg => by simp only [SC.den,WX (θ := θ) (h2.ext he),h4 mf (h1.trans he) hg]⟩
  · rename_i f a g b
    cases hk:Nat.beq f g
    · rw [hk] at h; cases h
    · rw [hk] at h
      simp only [cond_true] at h
      have := Nat.eq_of_beq_eq_true hk; subst this
      obtain ⟨h1,h2⟩ := jV h
      exact ⟨h1,fun mf he _ => by simp only [SC.den,WX (θ := θ) (h2.ext he)]⟩
  · cases h; exact ⟨Ext.refl _,fun _ _ _ => rfl⟩
  · cases h; exact ⟨Ext.refl _,fun _ _ _ => rfl⟩
  · rename_i f g
    cases hk:Nat.beq f g
    · rw [hk] at h; cases h
    · rw [hk] at h; cases h
      have := Nat.eq_of_beq_eq_true hk; subst this
      exact ⟨Ext.refl _,fun _ _ _ => rfl⟩
  · cases h
theorem JHm {same:Bool}:∀ {x y:List SC} {m m':MR},JNF n0 same x y m = some m' → Ext m m' ∧ ∀ mf,Ext m' mf → Good mf → JK (W1 n0 θ mf.sub) x = JK θ y
  | [],[],m,m',h => by cases h; exact ⟨Ext.refl _,fun _ _ _ => rfl⟩
  | [],_ :: _,_,_,h => by cases h
  | _ :: _,[],_,_,h => by cases h
  | x :: r,y :: s,m,m',h => by
    simp only [JNF] at h
    split at h
    · rename_i m1 h1
      obtain ⟨h2,h3⟩ := JIV (θ := θ) h1
      obtain ⟨h4,h5⟩ := JHm h
      refine ⟨h2.trans h4,fun mf he hg => ?_⟩
      have := h5 mf he hg
      simp only [JK,List.map_cons] at this ⊢
      rw [h3 mf (h4.trans he) hg,this]
    · cases h
theorem JSi {same:Bool} {x y:SV} {m m':MR} (h:Jct n0 same x y m = some m'):Ext m m' ∧ ∀ mf,Ext m' mf → Good mf → x.den (W1 n0 θ mf.sub) = y.den θ := by
  unfold Jct at h
  split at h
  · exact JIV h
  · obtain ⟨h1,h2⟩ := JHm (θ := θ) h
    exact ⟨h1,fun mf he hg => by simp only [SV.den,h2 mf he hg]⟩
  · cases h
theorem JPG:∀ {x y:List SV} {m m':MR},JUb n0 x y m = some m' → Ext m m' ∧ ∀ mf,Ext m' mf → Good mf → x.map (SV.den (W1 n0 θ mf.sub)) = y.map (SV.den θ)
  | [],[],m,m',h => by cases h; exact ⟨Ext.refl _,fun _ _ _ => rfl⟩
  | [],_ :: _,_,_,h => by cases h
  | _ :: _,[],_,_,h => by cases h
  | x :: r,y :: s,m,m',h => by
    simp only [JUb] at h
    split at h
    · rename_i m1 h1
      obtain ⟨h2,h3⟩ := JSi (θ := θ) h1
      obtain ⟨h4,h5⟩ := JPG h
      refine ⟨h2.trans h4,fun mf he hg => ?_⟩
      simp only [List.map_cons]
      rw [h3 mf (h4.trans he) hg,h5 mf he hg]
    · cases h
theorem JSj:∀ {x y:List (Nat × SC)} {m m':MR},Jcz n0 x y m = some m' → Ext m m' ∧ ∀ mf,Ext m' mf → Good mf → JK (W1 n0 θ mf.sub) (QV x) = JK θ (QV y)
  | [],[],m,m',h => by cases h; exact ⟨Ext.refl _,fun _ _ _ => rfl⟩
  | [],_ :: _,_,_,h => by cases h
  | _ :: _,[],_,_,h => by cases h
  | (a,x) :: r,(b,y) :: s,m,m',h => by
    simp only [Jcz] at h
    split at h
    · rename_i m1 h1
      obtain ⟨h2,h3⟩ := JIV (θ := θ) h1
      obtain ⟨h4,h5⟩ := JSj h
      refine ⟨h2.trans h4,fun mf he hg => ?_⟩
      have := h5 mf he hg
      simp only [JK,XG,QK,List.map_cons] at this ⊢
      rw [h3 mf (h4.trans he) hg,this]
    · cases h
theorem JSw:∀ {E env:KP} {m m':MR},Jfc n0 E env m = some m' → Ext m m' ∧ ∀ t e,(t,e) ∈ E → ∃ f,JC env t = some f ∧ f.g = [] ∧ e.g = [] ∧ ∀ mf,Ext m' mf → Good mf → e.val.den (W1 n0 θ mf.sub) = f.val.den θ
  | [],env,m,m',h => by cases h; exact ⟨Ext.refl _,fun _ _ h => by cases h⟩
  | (t,e) :: r,env,m,m',h => by
    simp only [Jfc] at h
    split at h
    · cases h
    · rename_i f hf
      split at h
      · rename_i hg1 hg2
        split at h
        · rename_i m1 h1
          obtain ⟨h2,h3⟩ := JSi (θ := θ) h1
          obtain ⟨h4,h5⟩ := JSw h
          refine ⟨h2.trans h4,fun t' e' hm => ?_⟩
          rcases List.mem_cons.1 hm with hm | hm
          · cases hm
            exact ⟨f,hf,hg2,hg1,fun mf he hg => h3 mf (h4.trans he) hg⟩
          · exact h5 t' e' hm
        · cases h
      · cases h
theorem JIR {same:Bool}:∀ {x y:List (List SC)} {m m':MR},JKB n0 same x y m = some m' → Ext m m' ∧ x.length = y.length ∧ (∀ r ∈ x,Qw r = []) ∧ ∀ mf,Ext m' mf → Good mf → x.map (JK (W1 n0 θ mf.sub)) = y.map (JK θ)
  | [],[],m,m',h => by cases h; exact ⟨Ext.refl _,rfl,by simp,fun _ _ _ => rfl⟩
  | [],_ :: _,_,_,h => by cases h
  | _ :: _,[],_,_,h => by cases h
  | x :: r,y :: s,m,m',h => by
    simp only [JKB] at h
    split at h
    · rename_i _ _ l m1 hl h1
      obtain ⟨h2,h3⟩ := JHm (θ := θ) h1
      obtain ⟨h4,h5,h6,h7⟩ := JIR h
      refine ⟨h2.trans h4,by simp [h5],fun q hq => ?_,fun mf he hg => ?_⟩
      · rcases List.mem_cons.1 hq with rfl | hq
        · exact JKZ hl
        · exact h6 q hq
      · simp only [List.map_cons,List.cons.injEq]
        exact ⟨h3 mf (h4.trans he) hg,h7 mf he hg⟩
    · cases h
theorem JhK {x y:RowC} {m m':MR} (h:JkD n0 x y m = some m'):Ext m m' ∧ ∀ mf,Ext m' mf → Good mf → ∀ esz,ZA esz y.rows → ZA esz x.rows ∧ x.rows.length = y.rows.length ∧ ∀ φ,x.rows.map (JK φ) = y.rows.map (JK φ) := by
  unfold JkD at h
  split at h
  · rename_i t ks xs u js ys
    cases hk:WC ks js
    · rw [hk] at h; cases h
    · rw [hk] at h
      have := KH hk; subst this
      cases htu:JOI t u
      · rw [htu] at h; cases h
        refine ⟨Yp _ _,fun mf he hg esz hok => ?_⟩
        have:xs = ys := hg.needs _ (he.needs _ (YK _ _))
        subst this
        exact ⟨hok,rfl,fun _ => rfl⟩
      · rw [htu] at h; cases h
        refine ⟨Jeu _ _,fun mf he hg esz hok => ?_⟩
        have:xs = ys := JmT (hg.eqs (.l xs,.l ys) (he.eqs _ (YK _ _)))
        subst this
        exact ⟨hok,rfl,fun _ => rfl⟩
  · rename_i t ks xs tg rows
    split at h
    · rename_i ys hy
      cases h
      refine ⟨Yp _ _,fun mf he hg esz hok => ?_⟩
      have:xs = ys := hg.needs _ (he.needs _ (YK _ _))
      subst this
      obtain ⟨h1,h2,h3⟩ := Yq hy fun r hr => (hok.2 r hr).1
      exact ⟨⟨hok.1,h2⟩,by simp [RowC.rows,h1],h3⟩
    · cases h
  · rename_i t a u b
    obtain ⟨h1,h2,hx,h4⟩ := JIR (θ := Th.none) h
    refine ⟨h1,fun mf he hg esz hok => ?_⟩
    have h5 := h4 mf he hg
    have h6:∀ φ,a.map (JK φ) = b.map (JK φ) := fun φ => by
      have e1:a.map (JK φ) = a.map (JK (W1 n0 Th.none mf.sub)) := List.map_congr_left fun r hr => ZP (hx r hr)
      have e2:b.map (JK φ) = b.map (JK Th.none) := List.map_congr_left fun r hr => ZP (hok.2 r hr).2
      rw [e1,e2,h5]
    refine ⟨⟨hok.1,fun r hr => ⟨?_,hx r hr⟩⟩,h2,h6⟩
    obtain ⟨i,hi⟩ := List.getElem?_of_mem (show r ∈ a from hr)
    have h7 := congrArg (fun l:List (List Value) => l[i]?) (h6 Th.none)
    simp only [List.getElem?_map] at h7
    rw [hi] at h7
    cases hb:b[i]? with
    | none => rw [hb] at h7; cases h7
    | some rb =>
      rw [hb] at h7
      simp only [Option.map_some,Option.some.injEq] at h7
      have h8 := congrArg List.length h7
      simp only [JK,List.length_map] at h8
      rw [h8]
      exact (hok.2 rb (List.mem_of_getElem? hb)).1
  · cases h
theorem JgB {o p:Obj} {m m':MR} (h:JiZ n0 o p m = some m'):Ext m m' ∧ ∀ mf,Ext m' mf → Good mf → ∀ w id b,W1 n0 θ mf.sub id = θ b → QD θ w b p → QD (W1 n0 θ mf.sub) w id o := by
  unfold JiZ at h
  split at h
  · rename_i t x u y
    cases hk:Nat.beq t u
    · rw [hk] at h; cases h
    · rw [hk] at h
      have := Nat.eq_of_beq_eq_true hk; subst this
      obtain ⟨h1,h2⟩ := JSj (θ := θ) h
      refine ⟨h1,fun mf he hg w id b hid ⟨c,h3,h4⟩ => ⟨c,by rw [hid,h3],by rw [h4,h2 mf he hg]⟩⟩
  · rename_i p t e x q u f y
    cases hk:((p == q) && (Nat.beq t u && Nat.beq e f))
    · rw [hk] at h; cases h
    · rw [hk] at h
      simp only [Bool.and_eq_true] at hk
      have e1 := eq_of_beq hk.1
      have e2 := Nat.eq_of_beq_eq_true hk.2.1
      have e3 := Nat.eq_of_beq_eq_true hk.2.2
      subst e1; subst e2; subst e3
      obtain ⟨h1,h2⟩ := JhK h
      refine ⟨h1,fun mf he hg w id b hid ho => ?_⟩
      have h3 := JGb (h2 mf he hg e) ho
      have hrow:ZA e x.rows := by cases p <;> exact h3.1
      cases p
      · refine ⟨hrow,?_⟩; rw [hid,ZP (θ := θ) hrow.ids]; exact h3.2
      · refine ⟨hrow,?_⟩; rw [hid,ZP (θ := θ) hrow.ids]; exact h3.2
  · obtain ⟨h1,h2⟩ := JPG (θ := θ) h
    exact ⟨h1,fun mf he hg w id b hid ho => by show _ = _; rw [hid,show θ b = _ from ho,h2 mf he hg]⟩
  · cases h
theorem JIG:∀ {M mem:Jo} {m m':MR},JWf n0 M mem m = some m' → Ext m m' ∧ ∀ id o,(id,o) ∈ M → (∃ b p,JHz n0 m'.sub id (some b) ∧ JC mem b = some p ∧ ∀ mf,Ext m' mf → Good mf → ∀ w,QD θ w b p → QD (W1 n0 θ mf.sub) w id o) ∨
      (JHz n0 m'.sub id none ∧ ∀ mf,Ext m' mf → Good mf → ∀ w,QD (W1 n0 θ mf.sub) w id o)
  | [],mem,m,m',h => by cases h; exact ⟨Ext.refl _,fun _ _ h => by cases h⟩
  | (id,o) :: r,mem,m,m',h => by
    simp only [JWf] at h
    split at h
    · cases h
    · rename_i hb
      split at h
      · rename_i ty esz tag ks xs
        cases hpos:Nat.blt 0 esz
        · rw [hpos] at h; cases h
        rw [hpos] at h
        have hpos:0 < esz := Nat.blt_eq.mp hpos
        simp only [cond_true] at h
        obtain ⟨h1,h2⟩ := JIG h
        have hbind:JHz n0 m.sub id none := by
          cases hlt:Nat.blt id n0
          · rw [hlt] at hb
            refine .inr ⟨?_,hb⟩
            rcases Nat.lt_or_ge id n0 with h' | h'
            · have:Nat.blt id n0 = true := Nat.blt_eq.mpr h'
              rw [this] at hlt; cases hlt
            · exact h'
          · rw [hlt] at hb; cases hb
        have he1 := (Yp m (xs = [])).trans h1
        refine ⟨he1,fun id' o' hm => ?_⟩
        rcases List.mem_cons.1 hm with hm | hm
        · cases hm
          refine .inr ⟨hbind.ext he1,fun mf he hg w => ?_⟩
          have hx:xs = [] := hg.needs _ (he.needs _ (h1.needs _ (YK _ _)))
          subst hx
          refine ⟨⟨hpos,fun r hr => by cases hr⟩,?_⟩
          rw [JM0 (θ := θ) ((hbind.ext he1).ext he)]
          exact ⟨rfl,.inl ⟨rfl,rfl,rfl,rfl⟩,World.ownsRow_nil _ _ _ _⟩
        · exact h2 id' o' hm
      · cases h
    · rename_i b hb
      have hbind:JHz n0 m.sub id (some b) := by
        cases hlt:Nat.blt id n0
        · rw [hlt] at hb
          refine .inr ⟨?_,hb⟩
          rcases Nat.lt_or_ge id n0 with h' | h'
          · have:Nat.blt id n0 = true := Nat.blt_eq.mpr h'
            rw [this] at hlt; cases hlt
          · exact h'
        · rw [hlt] at hb
          simp only [cond_true,Option.some.injEq] at hb
          exact .inl ⟨Nat.blt_eq.mp hlt,by rw [hb]⟩
      split at h
      · cases h
      · rename_i p hp
        split at h
        · rename_i m1 h1
          obtain ⟨h2,h3⟩ := JgB (θ := θ) h1
          obtain ⟨h4,h5⟩ := JIG h
          refine ⟨h2.trans h4,fun id' o' hm => ?_⟩
          rcases List.mem_cons.1 hm with hm | hm
          · cases hm
            refine .inl ⟨b,p,hbind.ext (h2.trans h4),hp,fun mf he hg w ho => h3 mf (h4.trans he) hg w id b (WX (hbind.ext ((h2.trans h4).trans he))) ho⟩
          · exact h5 id' o' hm
        · cases h
end spec
theorem JJo:∀ {E:KP} {t:Nat} {e:Ent},Ja8 E = true → JC E t = some e → e.g = [] ∧ e.gx = []
  | [],_,_,_,h => by cases h
  | (k,x) :: r,t,e,hp,h => by
    simp only [Ja8,Bool.and_eq_true] at hp
    simp only [Ju,JT] at h
    cases hk:Nat.beq k t
    · rw [hk] at h; exact JJo hp.2 h
    · rw [hk] at h; cases h
      exact ⟨List.isEmpty_iff.1 hp.1.1,List.isEmpty_iff.1 hp.1.2⟩
theorem JO9 {α:Type}:∀ {l:List (Nat × α)} {t:Nat} {x:α},JC l t = some x → (t,x) ∈ l
  | [],_,_,h => by cases h
  | (k,y) :: r,t,x,h => by
    simp only [Ju,JT] at h
    cases hk:Nat.beq k t
    · rw [hk] at h; exact List.mem_cons_of_mem _ (JO9 h)
    · rw [hk] at h; cases h
      have := Nat.eq_of_beq_eq_true hk; subst this
      exact List.mem_cons_self ..
theorem JY3:∀ {E:KP} {t:Nat} {e:Ent},(t,e) ∈ E → ∀ id ∈ Ze e.val,id ∈ JZh E
  | (k,x) :: r,t,e,h,id,hid => by
    simp only [JZh,List.mem_append]
    rcases List.mem_cons.1 h with h | h
    · cases h; exact .inl hid
    · exact .inr (JY3 h id hid)
theorem jo:∀ {sub:Sub} {a b:Nat},JC sub a = some (some b) → b ∈ jg sub
  | (k,some x) :: r,a,b,h => by
    simp only [Ju,JT] at h
    cases hk:Nat.beq k a
    · rw [hk] at h; simp [jg,jo h]
    · rw [hk] at h; cases h; simp [jg]
  | (k,none) :: r,a,b,h => by
    simp only [Ju,JT] at h
    cases hk:Nat.beq k a
    · rw [hk] at h; simp [jg,jo h]
    · rw [hk] at h; cases h
theorem JLl:∀ {sub:Sub} {a a' b:Nat},(jg sub).Nodup → JC sub a = some (some b) → JC sub a' = some (some b) → a = a'
  | [],_,_,_,_,h,_ => by cases h
  | (k,none) :: r,a,a',b,hn,h,h' => by
    simp only [Ju,JT] at h h'
    cases hk:Nat.beq k a
    · rw [hk] at h
      cases hk':Nat.beq k a'
      · rw [hk'] at h'; simp only [cond_false] at h h'; exact JLl (sub := r) hn h h'
      · rw [hk'] at h'; cases h'
    · rw [hk] at h; cases h
  | (k,some x) :: r,a,a',b,hn,h,h' => by
    simp only [jg,List.nodup_cons] at hn
    simp only [Ju,JT] at h h'
    cases hk:Nat.beq k a
    · rw [hk] at h
      cases hk':Nat.beq k a'
      · rw [hk'] at h'; simp only [cond_false] at h h'; exact JLl hn.2 h h'
      · rw [hk'] at h'; simp only [cond_false] at h; cases h'; exact absurd (jo h) hn.1
    · rw [hk] at h; cases h
      cases hk':Nat.beq k a'
      · rw [hk'] at h'; simp only [cond_false] at h'; exact absurd (jo h') hn.1
      · rw [← Nat.eq_of_beq_eq_true hk,← Nat.eq_of_beq_eq_true hk']
theorem JH6 {n0 id:Nat}:∀ {M:Jo},id ∈ domain M → id < n0 → id ∈ JMk n0 M
  | [],h,_ => by cases h
  | (k,o) :: r,h,hlt => by
    simp only [domain,List.mem_cons] at h
    simp only [JMk]
    cases hk:Nat.blt k n0
    · rcases h with rfl | h
      · rw [Nat.blt_eq.mpr hlt] at hk; cases hk
      · exact JH6 h hlt
    · rcases h with rfl | h
      · simp
      · simp [JH6 h hlt]
theorem JPr {nt m n0 N:Nat} {θ0:Th} {m0:Jo} {w0:World} {E env:KP} {M mem:Jo} {p:List Prop} {q:jv} (h:JYd n0 N E M env mem = some (p,q)) (hp:∀ x ∈ p,x) (hq:∀ x ∈ q,x.1 = x.2) {a:Act} {w:World}
    (hL:Yh nt m n0 θ0 m0 w0 env mem a w):Yh nt N n0 θ0 m0 w0 E M a w := by
  unfold JYd at h
  cases hc:(Ja8 E && (YR N (JZh E) && YR N (W3 M)))
  · rw [hc] at h; cases h
  rw [hc] at h
  simp only [Bool.and_eq_true] at hc
  obtain ⟨hpl,hE,hM⟩ := hc
  have hE := KB hE
  have hM := KB hM
  simp only [cond_true] at h
  split at h
  · cases h
  rename_i m1 h1
  split at h
  · cases h
  rename_i m2 h2
  cases hn:(JMo (jg m2.sub) && !(YS (jg m2.sub) (JMk n0 M)))
  · rw [hn] at h; cases h
  rw [hn] at h
  simp only [cond_true,Option.some.injEq,Prod.mk.injEq] at h
  obtain ⟨rfl,rfl⟩ := h
  simp only [Bool.and_eq_true,Bool.not_eq_true'] at hn
  have hnd := JIY hn.1
  have hlow:∀ x,x ∈ jg m2.sub → x ∈ JMk n0 M → False := fun x h1 h2 => by
    have := Wc.2 ⟨x,h1,h2⟩
    rw [hn.2] at this; cases this
  have hg:Good m2 := ⟨hp,hq⟩
  obtain ⟨θ,R,pl,G⟩ := hL
  obtain ⟨e1,e2⟩ := JSw (θ := θ) h1
  obtain ⟨e3,e4⟩ := JIG (θ := θ) h2
  have obj:∀ id o,JC M id = some o → QD (W1 n0 θ m2.sub) w id o ∧ ((∃ b p,JHz n0 m2.sub id (some b) ∧ JC mem b = some p ∧ W1 n0 θ m2.sub id = θ b) ∨ W1 n0 θ m2.sub id = Loc.none) := by
    intro id o hl
    rcases e4 id o (JO9 hl) with ⟨b,p,h3,h4,h5⟩ | ⟨h3,h5⟩
    · exact ⟨h5 m2 (Ext.refl _) hg w (R.mem.1 b p h4),.inl ⟨b,p,h3,h4,WX h3⟩⟩
    · exact ⟨h5 m2 (Ext.refl _) hg w,.inr (JM0 h3)⟩
  refine ⟨W1 n0 θ m2.sub,⟨R.size,R.defers,fun t e hl id hid => hE id (JY3 (JO9 hl) id hid),fun id o hl => ⟨hM id (JJM hl).1,fun i hi => hM i ((JJM hl).2 i hi)⟩,fun t e hl => ?_,fun id o hl => (obj id o hl).1,fun id id' o o' b hl hl' hne hb hb' => ?_⟩,fun t e hl => (JJo hpl hl).1,?_⟩
  · obtain ⟨f,h3,h4,h5,h6⟩ := e2 t e (JO9 hl)
    have h7 := Yt (R.env t f h3) h4
    have h8 := h6 m2 e3 hg
    have h9:a.tmps[t]? = some (e.val.den (W1 n0 θ m2.sub)) := by rw [h7,h8]
    obtain ⟨hg1,hg2⟩ := JJo hpl hl
    obtain ⟨g,gx,tag,v⟩ := e
    simp only at hg1 hg2
    subst hg1; subst hg2
    exact JL1 h9
  · rcases (obj id o hl).2 with ⟨c,p,h3,h4,h5⟩ | h5
    · rcases (obj id' o' hl').2 with ⟨c',p',h3',h4',h5'⟩ | h5'
      · rw [h5] at hb
        rw [h5'] at hb'
        refine R.mem.2 c c' p p' b h4 h4' (fun hcc => ?_) hb hb'
        subst hcc
        rcases h3 with ⟨h6,h7⟩ | ⟨h6,h7⟩ <;> rcases h3' with ⟨h6',h7'⟩ | ⟨h6',h7'⟩
        · cases h7; cases h7'; exact hne rfl
        · cases h7; exact hlow _ (jo h7') (JH6 (Zp.2 ⟨o,hl⟩) h6)
        · cases h7'; exact hlow _ (jo h7) (JH6 (Zp.2 ⟨o',hl'⟩) h6')
        · exact hne (JLl hnd h7 h7')
      · rw [h5'] at hb'; cases hb'
    · rw [h5] at hb; cases hb
  · refine { agree := G.agree.trans (fun id hid => by unfold W1; rw [if_pos hid]) (Nat.le_refl _),os := G.os,tape := G.tape,output := G.output,size := G.size,heap := G.heap,blks := fun id o b hl hb => ?_,eyes := fun id o b hl hb => ?_ }
    · rcases (obj id o hl).2 with ⟨c,p,_,h4,h5⟩ | h5
      · rw [h5] at hb; exact G.blks c p b h4 hb
      · rw [h5] at hb; cases hb
    · rcases (obj id o hl).2 with ⟨c,p,_,h4,h5⟩ | h5
      · rw [h5] at hb; exact G.eyes c p b h4 hb
      · rw [h5] at hb; cases hb
theorem JK4 {nt m n0 N:Nat} {θ0:Th} {m0:Jo} {w0:World} {e:SX} {env:KP} {mem:Jo}:∀ {t:Tree} {p:List Prop} {q:jv},JPp n0 N e env mem t = some (p,q) → (∀ x ∈ p,x) → (∀ x ∈ q,x.1 = x.2) → ∀ {a:Act} {w:World},
    Yh nt m n0 θ0 m0 w0 env mem a w → t.sat (Yh nt N n0 θ0 m0 w0) e.toExit a w
  | .leaf f E M,p,q,h,hp,hq,a,w,hL => by
    simp only [JPp] at h
    cases hef:SX.eq e f
    · rw [hef] at h; cases h
      exact absurd (hp False (by simp)) id
    · rw [hef] at h
      have := Jcc hef; subst this
      exact ⟨rfl,JPr h hp hq hL⟩
  | .ite c s t,p,q,h,hp,hq,a,w,hL => by
    simp only [JPp] at h
    split at h
    · rename_i p1 q1 p2 q2 h1 h2
      cases h
      exact ⟨fun hc => JK4 h1 (Kx hc fun x hx => hp x (List.mem_append.2 (.inl hx))) (fun x hx => hq x (List.mem_append.2 (.inl hx))) hL,
        fun hc => JK4 h2 (Kx hc fun x hx => hp x (List.mem_append.2 (.inr hx))) (fun x hx => hq x (List.mem_append.2 (.inr hx))) hL⟩
    · cases h
section loop
variable {P:Program} {σ τ:Type} {F:Fam σ τ}
theorem Jiv {nt m n:Nat} {θ0:Th} {m0:Jo} {w0:World} {s:σ}:∀ {t:Tree} {i j:Nat} {p:List Prop} {q:jv},JEL F n s t i = some (p,q,j) → (∀ x ∈ p,x) → (∀ x ∈ q,x.1 = x.2) → ∀ {x:Exit} {a:Act} {w:World},
    t.sat (Yh nt m n θ0 m0 w0) x a w → (x = .normal ∧ ∃ s',F.J s' ∧ F.μ s' < F.μ s ∧ F.fin s' = F.fin s ∧ Yh nt (n + F.k) n θ0 m0 w0 (F.E s') (F.M s') a w) ∨ ((∀ K Q,Exit.then K Q x a w = Q x a w) ∧ (F.out (F.fin s)).sat (Yh nt (n + F.k) n θ0 m0 w0) x a w) := by
  intro t
  induction t with
  | leaf e env mem =>
    intro i j p q h hp hq x a w hs
    obtain ⟨rfl,hL⟩ := hs
    cases e with
    | normal =>
      simp only [JEL] at h
      split at h
      · rename_i p' q' h1
        cases h
        exact .inl ⟨rfl,F.next s i,hp _ (by simp),hp _ (by simp),hp _ (by simp),JPr h1 (fun x hx => hp x (by simp [hx])) hq hL⟩
      · cases h
    | exit id =>
      simp only [JEL] at h
      split at h
      · rename_i p' q' h1
        cases h
        exact .inr ⟨fun _ _ => rfl,JK4 h1 hp hq hL⟩
      · cases h
    | ret =>
      simp only [JEL] at h
      split at h
      · rename_i p' q' h1
        cases h
        exact .inr ⟨fun _ _ => rfl,JK4 h1 hp hq hL⟩
      · cases h
  | ite c s1 s2 ih1 ih2 =>
    intro i j p q h hp hq x a w hs
    simp only [JEL] at h
    split at h
    · cases h
    rename_i p1 q1 j1 h1
    split at h
    · cases h
    rename_i p2 q2 j2 h2
    cases h
    cases c
    · exact ih2 h2 (Kx (p := false = false) rfl fun x hx => hp x (List.mem_append.2 (.inr hx))) (fun x hx => hq x (List.mem_append.2 (.inr hx))) (hs.2 rfl)
    · exact ih1 h1 (Kx (p := true = true) rfl fun x hx => hp x (List.mem_append.2 (.inl hx))) (fun x hx => hq x (List.mem_append.2 (.inl hx))) (hs.1 rfl)
def Qv (F:Fam σ τ) (body:QH) (n:Nat):Prop := ∀ s,F.J s → ∃ p q,XU F body n s = some (p,q) ∧ (∀ x ∈ p,x) ∧ ∀ x ∈ q,x.1 = x.2
theorem JaP {nt n:Nat} {b:Code} {body:QH} (hb:YQ P nt b body) (hr:Qv F body n) {θ0:Th} {m0:Jo} {w0:World}:∀ (m:Nat) (s:σ),F.μ s < m → F.J s → ∀ a w,Yh nt (n + F.k) n θ0 m0 w0 (F.E s) (F.M s) a w →
    Code.rounds P b ((F.out (F.fin s)).sat (Yh nt (n + F.k) n θ0 m0 w0)) m a w
  | 0,_,h,_,_,_,_ => by omega
  | m + 1,s,hm,hJ,a,w,hL => by
    obtain ⟨p,q,h,hp,hq⟩ := hr s hJ
    unfold XU at h
    split at h
    · cases h
    rename_i x hx
    obtain ⟨t,qc,n1,hc⟩:∃ t qc n1,KT x.t x.n = (t,qc,n1) := ⟨_,_,_,rfl⟩
    simp only [hc] at h
    split at h
    case h_2 => cases h
    rename_i p' q' j hl
    cases h
    obtain ⟨θ,R,pl,G⟩ := hL
    obtain ⟨hle,hbody⟩ := hb (F.E s) (F.M s) (n + F.k) x hx fun y hy => hq y (by simp [hy])
    have h2 := hbody (fun y hy => hp y (by simp [hy])) θ a w R pl
    rw [rounds_succ]
    refine wp_mono h2 fun ex a' w' hs => ?_
    have h3 := (KF (nt := nt) (k := n + F.k) (θ0 := θ) (m0 := F.M s) (w0 := w) hc fun y hy => hq y (by simp [hy])).2 hs
    have h4 := Tree.sat_mono (L' := Yh nt n1 n θ0 m0 w0) (fun _ _ _ _ h => JYQ G (Nat.le_add_right _ _) h) h3
    rcases Jiv hl (fun y hy => hp y (by simp [hy])) (fun y hy => hq y (by simp [hy])) h4 with ⟨rfl,s',h5,h6,h7,h8⟩ | ⟨h5,h6⟩
    · have := JaP hb hr m s' (by omega) h5 a' w' h8
      rw [h7] at this
      exact this
    · rw [h5]; exact h6
theorem XF {nt n0:Nat} {b:Code} {body:QH} {init:KP → Jo → Option σ} (hb:YQ P nt b body) (hr:Qv F body n0):YQ P nt (.loop b) (jY F n0 init) := by
  intro env mem n r h he
  unfold jY at h
  cases hn:Nat.beq n n0
  · rw [hn] at h; cases h
  rw [hn] at h
  have := Nat.eq_of_beq_eq_true hn; subst this
  simp only [cond_true] at h
  split at h
  · cases h
  rename_i s hs
  split at h
  · rename_i p q hm
    cases h
    refine ⟨Nat.le_add_right _ _,fun hne θ a w R pl => ?_⟩
    have hL:Yh nt n n θ mem w env mem a w := ⟨θ,R,pl,Grew.refl _ _ _ _⟩
    have hL' := JPr hm (fun x hx => hne x (List.mem_cons_of_mem _ hx)) he hL
    exact wp_loop_rounds (F.μ s + 1) (JaP hb hr (F.μ s + 1) s (Nat.lt_succ_self _) (hne _ (List.mem_cons_self ..)) a w hL')
  · cases h
end loop
open Go.RowKit
structure Runs (g:JW) (vs:List SV) (mem:Jo) (n:Nat) (v:SV) (m:Jo):Prop where
  run:∃ r,g vs mem n = some r ∧ (∀ p ∈ r.needs,p) ∧ (∀ p ∈ r.eqs,p.1 = p.2) ∧ r.val = v ∧ r.mem = m
theorem Runs.of {g:JW} {vs:List SV} {mem:Jo} {n:Nat} {v:SV} {m:Jo} {ps:List Prop} (h1:(g vs mem n).map (fun r => (r.val,r.mem,r.needs)) = some (v,m,ps))
    (h2:(g vs mem n).map (fun r => r.eqs.map (·.1)) = (g vs mem n).map (fun r => r.eqs.map (·.2))) (h3:∀ p ∈ ps,p):Runs g vs mem n v m := by
  cases h:g vs mem n with
  | none => rw [h] at h1; cases h1
  | some r =>
    rw [h] at h1 h2
    simp only [Option.map_some,Option.some.injEq,Prod.mk.injEq] at h1 h2
    obtain ⟨rfl,rfl,rfl⟩ := h1
    refine ⟨r,h,h3,fun p hp => ?_,rfl,rfl⟩
    obtain ⟨i,hi⟩ := List.getElem?_of_mem hp
    have := congrArg (fun l:List EV => l[i]?) h2
    simp only [List.getElem?_map,hi,Option.map_some,Option.some.injEq] at this
    exact this
def JIU:Nat → Nat | 0 => 0 | n + 1 => n + 1
def Jtw:SI → SI | .c x => .c x | .v x => .v x
def JrJ:SB → SB | .c x => .c x | .v x => .v x
def Ja7:SC → SC
  | .int k n => .int k (Jtw n)
  | .bool b => .bool (JrJ b)
  | .wh a => .wh (JIU a)
  | .ptr a o => .ptr (JIU a) (JIU o)
  | c => c
def JNr:List SC → List SC
  | [] => []
  | c :: r => Ja7 c :: JNr r
def JfI:List (Nat × SC) → List (Nat × SC)
  | [] => []
  | (t,c) :: r => (JIU t,Ja7 c) :: JfI r
def JNd:List (Bool × List SC) → List (Bool × List SC)
  | [] => []
  | (b,c) :: r => (b,JNr c) :: JNd r
def Jlx:SV → SV
  | .one c => .one (Ja7 c)
  | .agg cs => .agg (JNr cs)
  | .tup vs => .tup (JNd vs)
def Jm9:RowC → RowC
  | .lit t rows => .lit (JIU t) rows
  | .lst t ks xs => .lst (JIU t) ks xs
def JjO:Obj → Obj
  | .blk t cs => .blk t (JfI cs)
  | .row ro ty esz r => .row ro ty esz (Jm9 r)
  | o => o
def Jfg:Jo → Jo
  | [] => []
  | (id,o) :: r => (JIU id,JjO o) :: Jfg r
theorem JKM (x:Nat):JIU x = x := by cases x <;> rfl
theorem Jnl (x:SI):Jtw x = x := by cases x <;> rfl
theorem Jod (x:SB):JrJ x = x := by cases x <;> rfl
theorem JQx (x:SC):Ja7 x = x := by cases x <;> simp only [Ja7,Jnl,Jod,JKM]
theorem JMi:∀ l:List SC,JNr l = l
  | [] => rfl
  | c :: r => by simp only [JNr,JQx,JMi r]
theorem JbN:∀ l:List (Nat × SC),JfI l = l
  | [] => rfl
  | (t,c) :: r => by simp only [JfI,JQx,JKM,JbN r]
theorem JTP:∀ l:List (Bool × List SC),JNd l = l
  | [] => rfl
  | (b,c) :: r => by simp only [JNd,JMi,JTP r]
theorem Joj (v:SV):Jlx v = v := by cases v <;> simp only [Jlx,JQx,JMi,JTP]
theorem Jq1 (r:RowC):Jm9 r = r := by cases r <;> simp only [Jm9,JKM]
theorem Jnk (o:Obj):JjO o = o := by cases o <;> simp only [JjO,JbN,Jq1]
theorem JcN:∀ m:Jo,Jfg m = m
  | [] => rfl
  | (id,o) :: r => by simp only [Jfg,Jnk,JKM,JcN r]
def Jwb:Option CRes → Bool × SV × Jo × List Prop × List EV
  | some r => (true,Jlx r.val,Jfg r.mem,r.needs,r.eqs.map (·.1))
  | none => (true,.agg [],[],[],[])
def JwI (v:SV) (m:Jo) (ps:List Prop):Option CRes → Bool × SV × Jo × List Prop × List EV
  | some r => (true,v,m,ps,r.eqs.map (·.2))
  | none => (false,.agg [],[],[],[])
theorem Runs.of1 {g:JW} {vs:List SV} {mem:Jo} {n:Nat} {v:SV} {m:Jo} {ps:List Prop} (h:Jwb (g vs mem n) = JwI v m ps (g vs mem n)) (h3:∀ p ∈ ps,p):Runs g vs mem n v m := by
  cases hr:g vs mem n with
  | none => rw [hr] at h; simp [Jwb,JwI] at h
  | some r =>
    rw [hr] at h
    simp only [Jwb,JwI,Joj,JcN,Prod.mk.injEq,true_and] at h
    obtain ⟨h1,h2,h4,h5⟩ := h
    exact Runs.of (ps := ps) (by rw [hr,Option.map_some,h1,h2,h4]) (by rw [hr,Option.map_some,Option.map_some,h5]) h3
theorem Runs.to {g:JW} {vs:List SV} {mem:Jo} {n:Nat} {v v':SV} {m m':Jo} (h:Runs g vs mem n v m) (hv:v = v') (hm:m = m'):Runs g vs mem n v' m' := by subst hv; subst hm; exact h
def Jz (r:Option (List Prop × jv)):Prop := ∃ p q,r = some (p,q) ∧ (∀ x ∈ p,x) ∧ ∀ x ∈ q,x.1 = x.2
theorem Jz.of {r:Option (List Prop × jv)} {ps:List Prop} (h1:r.map (·.1) = some ps) (h2:r.map (fun x => x.2.map (·.1)) = r.map (fun x => x.2.map (·.2))) (h3:∀ p ∈ ps,p):Jz r := by
  cases r with
  | none => cases h1
  | some x =>
    simp only [Option.map_some,Option.some.injEq] at h1 h2
    subst h1
    refine ⟨x.1,x.2,rfl,h3,fun p hp => ?_⟩
    obtain ⟨i,hi⟩ := List.getElem?_of_mem hp
    have := congrArg (fun l:List EV => l[i]?) h2
    simp only [List.getElem?_map,hi,Option.map_some,Option.some.injEq] at this
    exact this
section use
variable {P:Program}
theorem Jjl {f:FuncId} {g:JW} (hg:Qk P f g) {vs:List SV} {mem m:Jo} {n:Nat} {v:SV} (h:Runs g vs mem n v m) (hwf:Z2 n mem) (hi:∀ id ∈ Qg vs,id < n) {θ:Th} {w:World} (hm:Jf θ mem w) (hf:f < 1000000 := by decide) :
    Calls P f (vs.map (SV.den θ)).toArray w fun e w' => ∃ θ',e = .returned (v.den θ') ∧ Grew n θ mem w θ' m w' ∧ Jf θ' m w' := by
  obtain ⟨r,h3,h4,h5,rfl,rfl⟩ := h.run
  exact (hg _ _ _ r h3 h4 h5 hwf hi θ w hm).2.1 hf
def QZ (P:Program) (f:FuncId):List Code := match P.funcs[f]? with
  | some fn => (match fn.body with
    | some b => ZH b
    | none => [])
  | none => []
def JDJ (P:Program) (f i:Nat):Code := ((QZ P f)[i]?).getD .skip
def JtM (P:Program) (f:FuncId):Nat := match P.funcs[f]? with
  | some fn => fn.ntmps
  | none => 0
def Jn2 (P:Program) (f:FuncId) (L:Nat → Option QH):Cfg := match P.funcs[f]? with
  | some fn => (match fn.body with
    | some b => ⟨JEW (YM b ++ JEu fn.results.toList),fn.ntmps,100,L⟩
    | none => ⟨0,fn.ntmps,100,L⟩)
  | none => ⟨0,0,100,L⟩
def QU (P:Program) (S:FuncId → Option JW) (L:FuncId → Nat → Option QH) (f i:Nat):QH := YH P (Jbt P S L 100 10) (Jn2 P f (L f)) (JDJ P f i)
theorem Yj:∀ {c b:Code},b ∈ ZH c → ∀ d ∈ ZH b,d ∈ ZH c
  | .seq x y,b,h,d,hd => by
    simp only [ZH,List.mem_append] at h ⊢
    exact h.imp (fun h => Yj h d hd) fun h => Yj h d hd
  | .cond _ x y,b,h,d,hd => by
    simp only [ZH,List.mem_append] at h ⊢
    exact h.imp (fun h => Yj h d hd) fun h => Yj h d hd
  | .block _ x,b,h,d,hd => Yj (c := x) h d hd
  | .loop x,b,h,d,hd => by
    simp only [ZH,List.mem_cons] at h ⊢
    rcases h with rfl | h
    · exact .inr hd
    · exact .inr (Yj h d hd)
  | .skip,_,h,_,_ => by cases h
  | .region ..,_,h,_,_ => by cases h
  | .exit _,_,h,_,_ => by cases h
  | .ret,_,h,_,_ => by cases h
  | .rangeFunc ..,_,h,_,_ => by cases h
  | .scope _,_,h,_,_ => by cases h
  | .label _,_,h,_,_ => by cases h
  | .goto _,_,h,_,_ => by cases h
  | .refuse _,_,h,_,_ => by cases h
theorem JTv {f:FuncId} {fn:Func} {b:Code} (hf:P.funcs[f]? = some fn) (hb:fn.body = some b):QZ P f = ZH b ∧ JtM P f = fn.ntmps := by
  unfold QZ JtM
  simp only [hf,hb,and_self]
theorem Qa (hp:Zl P) {S:FuncId → Option JW} {L:FuncId → Nat → Option QH} (hk:Known P S L) {f i:Nat} (hi:i < (QZ P f).length):YQ P (JtM P f) (JDJ P f i) (QU P S L f i) := by
  unfold QU
  cases hf:P.funcs[f]? with
  | none => unfold QZ at hi; rw [hf] at hi; simp at hi
  | some fn =>
    cases hb:fn.body with
    | none => unfold QZ at hi; simp only [hf,hb] at hi; simp at hi
    | some b =>
      obtain ⟨h1,h2⟩ := JTv hf hb
      have hm:JDJ P f i ∈ ZH b := by
        unfold JDJ
        rw [List.getElem?_eq_getElem hi,Option.getD_some,← h1]
        exact List.getElem_mem hi
      have hcfg:Jn2 P f (L f) = ⟨JEW (YM b ++ JEu fn.results.toList),fn.ntmps,100,L f⟩ := by unfold Jn2; simp only [hf,hb]
      have := Y9 (cfg := Jn2 P f (L f)) hp (JXe hp hk 100 10) (JDJ P f i) (fun d hd k s h3 h4 => by
        rw [hcfg] at h4 ⊢
        exact hk.loops f fn b hf hb d (Yj hm d hd) k s h3 h4)
      rw [h2]
      rw [hcfg] at this ⊢
      exact this
theorem Jg5 {f:FuncId} {L:Nat → Option QH} (h:∀ i,i < (QZ P f).length → ∀ k s,JCl (JDJ P f i) = some k → L k = some s → YQ P (JtM P f) (.loop (JDJ P f i)) s):JNj P f L := by
  intro fn b hf hb c hc k s h1 h2
  obtain ⟨h3,h4⟩ := JTv hf hb
  rw [← h3] at hc
  obtain ⟨i,hi⟩ := List.getElem?_of_mem hc
  have hlt:i < (QZ P f).length := (List.getElem?_eq_some_iff.1 hi).1
  have he:JDJ P f i = c := by unfold JDJ; rw [hi]; rfl
  have := h i hlt k s (by rw [he]; exact h1) h2
  rw [he,h4] at this
  exact this
end use
open Go.RowKit
inductive Pm where
  | i (n:Int) | b (x:Bool)
inductive PC where
  | int (k:IntKind) | bool | ptr (id off:Nat) | wh (id:Nat) | nilp | nilsl | fn (f:FuncId) | clo (f:FuncId) (id:Nat)
inductive PV where
  | one (c:PC) | agg (cs:List PC)
inductive PO where
  | blk (ty:TypeId) (cells:List (Nat × PC))
  | row (ro:Bool) (ty:TypeId) (esz tag:Nat) (ks:List CK)
  | clo (vs:List PV)
structure Tpl where
  vs:List PV
  mem:List (Nat × PO)
  n:Nat
abbrev Qr := List (List (List Int))
def PC.fit:PC → SC → Option (List Pm)
  | .int k,.int j x => bif Wk k j then (match x with | .c n => some [.i n] | .v n => some [.i n]) else none
  | .bool,.bool x => (match x with | .c n => some [.b n] | .v n => some [.b n])
  | .ptr a o,.ptr b p => bif Nat.beq a b && Nat.beq o p then some [] else none
  | .wh a,.wh b => bif Nat.beq a b then some [] else none
  | .nilp,.nilp => some []
  | .nilsl,.nilsl => some []
  | .fn f,.fn g => bif Nat.beq f g then some [] else none
  | .clo f a,.clo g b => bif Nat.beq f g && Nat.beq a b then some [] else none
  | _,_ => none
def JnE:List PC → List SC → Option (List Pm)
  | [],[] => some []
  | c :: cs,x :: xs => match c.fit x,JnE cs xs with
    | some p,some q => some (p ++ q)
    | _,_ => none
  | _,_ => none
def PV.fit:PV → SV → Option (List Pm)
  | .one c,.one x => c.fit x
  | .agg cs,.agg xs => JnE cs xs
  | _,_ => none
def Jfv:List PV → List SV → Option (List Pm)
  | [],[] => some []
  | c :: cs,x :: xs => match c.fit x,Jfv cs xs with
    | some p,some q => some (p ++ q)
    | _,_ => none
  | _,_ => none
def JvF:List (Nat × PC) → List (Nat × SC) → Option (List Pm)
  | [],[] => some []
  | (t,c) :: cs,(u,x) :: xs => bif Nat.beq t u then (match c.fit x,JvF cs xs with
    | some p,some q => some (p ++ q)
    | _,_ => none) else none
  | _,_ => none
def PO.fit:PO → Obj → Option (List Pm × Qr)
  | .blk t cs,.blk u xs => bif Nat.beq t u then (JvF cs xs).map fun p => (p,[]) else none
  | .row ro ty esz tag ks,.row ro' ty' esz' r => bif (ro == ro') && (Nat.beq ty ty' && Nat.beq esz esz') then (match r with
    | .lst tag' js xs => bif Nat.beq tag tag' && WC ks js then some ([],[xs]) else none
    | .lit tag' rows => bif Nat.beq tag tag' then (qD ks rows).map fun xs => ([],[xs]) else none) else none
  | .clo cs,.clo xs => (Jfv cs xs).map fun p => (p,[])
  | _,_ => none
def Jfa:List (Nat × PO) → Jo → Option (List Pm × Qr)
  | [],[] => some ([],[])
  | (id,c) :: cs,(id',x) :: xs => bif Nat.beq id id' then (match c.fit x,Jfa cs xs with
    | some (p,l),some (q,m) => some (p ++ q,l ++ m)
    | _,_ => none) else none
  | _,_ => none
def PC.mk:PC → List Pm → SC × List Pm
  | .int k,.i n :: r => (.int k (.v n),r)
  | .bool,.b x :: r => (.bool (.v x),r)
  | .int _,r => (.nilp,r)
  | .bool,r => (.nilp,r)
  | .ptr a o,r => (.ptr a o,r)
  | .wh a,r => (.wh a,r)
  | .nilp,r => (.nilp,r)
  | .nilsl,r => (.nilsl,r)
  | .fn f,r => (.fn f,r)
  | .clo f a,r => (.clo f a,r)
def Jb5:List PC → List Pm → List SC × List Pm
  | [],r => ([],r)
  | c :: cs,r => ((c.mk r).1 :: (Jb5 cs (c.mk r).2).1,(Jb5 cs (c.mk r).2).2)
def PV.mk:PV → List Pm → SV × List Pm
  | .one c,r => (.one (c.mk r).1,(c.mk r).2)
  | .agg cs,r => (.agg (Jb5 cs r).1,(Jb5 cs r).2)
def JQk:List PV → List Pm → List SV × List Pm
  | [],r => ([],r)
  | c :: cs,r => ((c.mk r).1 :: (JQk cs (c.mk r).2).1,(JQk cs (c.mk r).2).2)
def mkT:List (Nat × PC) → List Pm → List (Nat × SC) × List Pm
  | [],r => ([],r)
  | (t,c) :: cs,r => ((t,(c.mk r).1) :: (mkT cs (c.mk r).2).1,(mkT cs (c.mk r).2).2)
def PO.mk:PO → List Pm → Qr → Obj × List Pm × Qr
  | .blk t cs,r,l => (.blk t (mkT cs r).1,(mkT cs r).2,l)
  | .row ro ty esz tag ks,r,xs :: l => (.row ro ty esz (.lst tag ks xs),r,l)
  | .row ..,r,[] => (.blk 0 [],r,[])
  | .clo cs,r,l => (.clo (JQk cs r).1,(JQk cs r).2,l)
def JXm:List (Nat × PO) → List Pm → Qr → Jo
  | [],_,_ => []
  | (id,c) :: cs,r,l => (id,(c.mk r l).1) :: JXm cs (c.mk r l).2.1 (c.mk r l).2.2
def Tpl.args (t:Tpl) (ps:List Pm):List SV := (JQk t.vs ps).1
def Tpl.memo (t:Tpl) (ps:List Pm) (ls:Qr):Jo := JXm t.mem (JQk t.vs ps).2 ls
def JS (t:Tpl) (out:List Pm → Qr → Option CRes):JW := fun vs mem n =>
  bif Nat.beq n t.n then (match Jfv t.vs vs,Jfa t.mem mem with
    | some ps,some (qs,ls) => out (ps ++ qs) ls
    | _,_ => none) else none
theorem PC.fit_spec {c:PC} {x:SC} {ps:List Pm} (h:c.fit x = some ps) (rest:List Pm):∃ y,c.mk (ps ++ rest) = (y,rest) ∧ (∀ θ,y.den θ = x.den θ) ∧ Wx y = Wx x := by
  unfold PC.fit at h
  split at h
  · rename_i k j x
    cases hk:Wk k j
    · rw [hk] at h; cases h
    · rw [hk] at h
      have := Ye hk; subst this
      cases x <;> cases h <;> exact ⟨_,rfl,fun _ => rfl,rfl⟩
  · rename_i x
    cases x <;> cases h <;> exact ⟨_,rfl,fun _ => rfl,rfl⟩
  · rename_i a o b p
    cases hk:(Nat.beq a b && Nat.beq o p)
    · rw [hk] at h; cases h
    · rw [hk] at h
      simp only [Bool.and_eq_true] at hk
      have e1 := Nat.eq_of_beq_eq_true hk.1
      have e2 := Nat.eq_of_beq_eq_true hk.2
      subst e1; subst e2; cases h
      exact ⟨_,rfl,fun _ => rfl,rfl⟩
  · rename_i a b
    cases hk:Nat.beq a b
    · rw [hk] at h; cases h
    · rw [hk] at h
      have e1 := Nat.eq_of_beq_eq_true hk
      subst e1; cases h
      exact ⟨_,rfl,fun _ => rfl,rfl⟩
  · cases h; exact ⟨_,rfl,fun _ => rfl,rfl⟩
  · cases h; exact ⟨_,rfl,fun _ => rfl,rfl⟩
  · rename_i a b
    cases hk:Nat.beq a b
    · rw [hk] at h; cases h
    · rw [hk] at h
      have e1 := Nat.eq_of_beq_eq_true hk
      subst e1; cases h
      exact ⟨_,rfl,fun _ => rfl,rfl⟩
  · rename_i a o b p
    cases hk:(Nat.beq a b && Nat.beq o p)
    · rw [hk] at h; cases h
    · rw [hk] at h
      simp only [Bool.and_eq_true] at hk
      have e1 := Nat.eq_of_beq_eq_true hk.1
      have e2 := Nat.eq_of_beq_eq_true hk.2
      subst e1; subst e2; cases h
      exact ⟨_,rfl,fun _ => rfl,rfl⟩
  · cases h
theorem Jad:∀ {cs:List PC} {xs:List SC} {ps:List Pm},JnE cs xs = some ps → ∀ rest,∃ ys,Jb5 cs (ps ++ rest) = (ys,rest) ∧ (∀ θ,JK θ ys = JK θ xs) ∧ Qw ys = Qw xs
  | [],[],_,h,_ => by cases h; exact ⟨[],rfl,fun _ => rfl,rfl⟩
  | [],_ :: _,_,h,_ => by cases h
  | _ :: _,[],_,h,_ => by cases h
  | c :: cs,x :: xs,ps,h,rest => by
    simp only [JnE] at h
    split at h
    · rename_i p q h1 h2
      cases h
      obtain ⟨y,e1,e2,e3⟩ := PC.fit_spec h1 (q ++ rest)
      obtain ⟨ys,f1,f2,f3⟩ := Jad h2 rest
      refine ⟨y :: ys,by simp only [Jb5,List.append_assoc,e1,f1],fun θ => ?_,by rw [Jv,Jv,e3,f3]⟩
      have := f2 θ
      simp only [JK,List.map_cons,e2 θ] at this ⊢
      rw [this]
    · cases h
theorem PV.fit_spec {c:PV} {x:SV} {ps:List Pm} (h:c.fit x = some ps) (rest:List Pm):∃ y,c.mk (ps ++ rest) = (y,rest) ∧ (∀ θ,y.den θ = x.den θ) ∧ Ze y = Ze x := by
  unfold PV.fit at h
  split at h
  · obtain ⟨y,e1,e2,e3⟩ := PC.fit_spec h rest
    exact ⟨.one y,by simp only [PV.mk,e1],e2,e3⟩
  · obtain ⟨y,e1,e2,e3⟩ := Jad h rest
    exact ⟨.agg y,by simp only [PV.mk,e1],fun θ => by simp only [SV.den,e2 θ],e3⟩
  · cases h
theorem JMF:∀ {cs:List PV} {xs:List SV} {ps:List Pm},Jfv cs xs = some ps → ∀ rest,∃ ys,JQk cs (ps ++ rest) = (ys,rest) ∧ (∀ θ,ys.map (SV.den θ) = xs.map (SV.den θ)) ∧ Qg ys = Qg xs
  | [],[],_,h,_ => by cases h; exact ⟨[],rfl,fun _ => rfl,rfl⟩
  | [],_ :: _,_,h,_ => by cases h
  | _ :: _,[],_,h,_ => by cases h
  | c :: cs,x :: xs,ps,h,rest => by
    simp only [Jfv] at h
    split at h
    · rename_i p q h1 h2
      cases h
      obtain ⟨y,e1,e2,e3⟩ := PV.fit_spec h1 (q ++ rest)
      obtain ⟨ys,f1,f2,f3⟩ := JMF h2 rest
      exact ⟨y :: ys,by simp only [JQk,List.append_assoc,e1,f1],fun θ => by simp only [List.map_cons,e2 θ,f2 θ],by simp only [Qg,e3,f3]⟩
    · cases h
theorem JbR:∀ {cs:List (Nat × PC)} {xs:List (Nat × SC)} {ps:List Pm},JvF cs xs = some ps → ∀ rest,∃ ys,mkT cs (ps ++ rest) = (ys,rest) ∧ (∀ θ,JK θ (QV ys) = JK θ (QV xs)) ∧ Qw (QV ys) = Qw (QV xs)
  | [],[],_,h,_ => by cases h; exact ⟨[],rfl,fun _ => rfl,rfl⟩
  | [],_ :: _,_,h,_ => by cases h
  | _ :: _,[],_,h,_ => by cases h
  | (t,c) :: cs,(u,x) :: xs,ps,h,rest => by
    simp only [JvF] at h
    cases hk:Nat.beq t u
    · rw [hk] at h; cases h
    rw [hk] at h
    simp only [cond_true] at h
    split at h
    · rename_i p q h1 h2
      cases h
      obtain ⟨y,e1,e2,e3⟩ := PC.fit_spec h1 (q ++ rest)
      obtain ⟨ys,f1,f2,f3⟩ := JbR h2 rest
      refine ⟨(t,y) :: ys,by simp only [mkT,List.append_assoc,e1,f1],fun θ => ?_,by rw [QK,QK,Jv,Jv,e3,f3]⟩
      have := f2 θ
      simp only [QK,JK,List.map_cons,e2 θ] at this ⊢
      rw [this]
    · cases h
theorem PO.fit_spec {c:PO} {x:Obj} {ps:List Pm} {ls:Qr} (h:c.fit x = some (ps,ls)) (rest:List Pm) (more:Qr):∃ y,c.mk (ps ++ rest) (ls ++ more) = (y,rest,more) ∧ (∀ θ w id,QD θ w id x → QD θ w id y) ∧ K6 y = K6 x := by
  unfold PO.fit at h
  split at h
  · rename_i t cs u xs
    cases hk:Nat.beq t u
    · rw [hk] at h; cases h
    rw [hk] at h
    have := Nat.eq_of_beq_eq_true hk; subst this
    simp only [cond_true,Option.map_eq_some_iff,Prod.mk.injEq] at h
    obtain ⟨p,h1,rfl,rfl⟩ := h
    obtain ⟨y,e1,e2,e3⟩ := JbR h1 rest
    refine ⟨.blk t y,by simp only [PO.mk,e1,List.nil_append],fun θ w id ⟨b,q1,q2⟩ => ⟨b,q1,by rw [q2,e2 θ]⟩,e3⟩
  · rename_i ro ty esz tag ks ro' ty' esz' r
    cases hk:((ro == ro') && (Nat.beq ty ty' && Nat.beq esz esz'))
    · rw [hk] at h; cases h
    rw [hk] at h
    simp only [Bool.and_eq_true] at hk
    have e1 := eq_of_beq hk.1
    have e2 := Nat.eq_of_beq_eq_true hk.2.1
    have e3 := Nat.eq_of_beq_eq_true hk.2.2
    subst e1; subst e2; subst e3
    simp only [cond_true] at h
    split at h
    · rename_i tag' js xs
      cases hk:(Nat.beq tag tag' && WC ks js)
      · rw [hk] at h; cases h
      rw [hk] at h
      simp only [Bool.and_eq_true] at hk
      have := KH hk.2; subst this
      cases h
      exact ⟨_,rfl,fun θ w id h => by cases ro <;> exact h,rfl⟩
    · rename_i tag' rows
      cases hk:Nat.beq tag tag'
      · rw [hk] at h; cases h
      rw [hk] at h
      simp only [cond_true,Option.map_eq_some_iff,Prod.mk.injEq] at h
      obtain ⟨xs,h1,rfl,rfl⟩ := h
      refine ⟨_,rfl,fun θ w id h => ?_,rfl⟩
      have hrow:ZA esz rows := by cases ro <;> exact h.1
      obtain ⟨q1,q2,q3⟩ := Yq h1 fun r hr => (hrow.2 r hr).1
      have hl:(RowC.lst tag ks xs).rows.length = (RowC.lit tag' rows).rows.length := by simp [RowC.rows,q1]
      have hf:JK θ (RowC.lst tag ks xs).rows.flatten = JK θ (RowC.lit tag' rows).rows.flatten := by rw [K2,K2]; exact congrArg _ (q3 θ)
      cases ro
      · exact ⟨⟨hrow.1,q2⟩,by rw [hl,hf]; exact h.2⟩
      · exact ⟨⟨hrow.1,q2⟩,by rw [hl,hf]; exact h.2⟩
  · rename_i cs xs
    simp only [Option.map_eq_some_iff,Prod.mk.injEq] at h
    obtain ⟨p,h1,rfl,rfl⟩ := h
    obtain ⟨y,e1,e2,e3⟩ := JMF h1 rest
    refine ⟨.clo y,by simp only [PO.mk,e1,List.nil_append],fun θ w id hx => ?_,e3⟩
    have hx':θ id = Loc.clo (xs.map (SV.den θ)).toArray := hx
    show θ id = Loc.clo (y.map (SV.den θ)).toArray
    rw [e2 θ]
    exact hx'
  · cases h
theorem JTS:∀ {cs:List (Nat × PO)} {xs:Jo} {ps:List Pm} {ls:Qr},Jfa cs xs = some (ps,ls) → ∀ rest more id o,JC (JXm cs (ps ++ rest) (ls ++ more)) id = some o →
    ∃ o',JC xs id = some o' ∧ (∀ θ w,QD θ w id o' → QD θ w id o) ∧ K6 o = K6 o'
  | [],[],_,_,h,_,_,_,_,ho => by cases h; cases ho
  | [],_ :: _,_,_,h,_,_,_,_,_ => by cases h
  | _ :: _,[],_,_,h,_,_,_,_,_ => by cases h
  | (i,c) :: cs,(u,x) :: xs,ps,ls,h,rest,more,id,o,ho => by
    simp only [Jfa] at h
    cases hk:Nat.beq i u
    · rw [hk] at h; cases h
    rw [hk] at h
    have := Nat.eq_of_beq_eq_true hk; subst this
    simp only [cond_true] at h
    split at h
    · rename_i p l q m h1 h2
      cases h
      obtain ⟨y,e1,e2,e3⟩ := PO.fit_spec h1 (q ++ rest) (m ++ more)
      simp only [JXm,List.append_assoc,e1,JT] at ho
      simp only [JT]
      cases hi:Nat.beq i id
      · rw [hi] at ho
        exact JTS h2 rest more id o ho
      · rw [hi] at ho
        cases ho
        exact ⟨x,rfl,fun θ w hx => e2 θ w id hx,e3⟩
    · cases h
theorem JH {P:Program} {f:FuncId} {g:JW} (hg:Qk P f g) {t:Tpl} {out:List Pm → Qr → Option CRes}
    (h:∀ ps ls r,out ps ls = some r → (∀ p ∈ r.needs,p) → (∀ p ∈ r.eqs,p.1 = p.2) → ∃ v,Runs g (t.args ps) (t.memo ps ls) t.n v r.mem ∧ ∀ θ,v.den θ = r.val.den θ):Qk P f (JS t out) := by
  intro vs mem n r hr hn he hwf hids θ w hm
  unfold JS at hr
  cases hk:Nat.beq n t.n
  · rw [hk] at hr; cases hr
  rw [hk] at hr
  have := Nat.eq_of_beq_eq_true hk; subst this
  simp only [cond_true] at hr
  split at hr
  · rename_i ps qs ls h1 h2
    obtain ⟨v,hrun,hv⟩ := h _ _ _ hr hn he
    obtain ⟨ys,e1,e2,e3⟩ := JMF h1 qs
    have hM := JTS h2 [] []
    simp only [List.append_nil] at hM
    have ea:t.args (ps ++ qs) = ys := by unfold Tpl.args; rw [e1]
    have em:t.memo (ps ++ qs) ls = JXm t.mem qs ls := by unfold Tpl.memo; rw [e1]
    rw [ea,em] at hrun
    obtain ⟨r',h3,h4,h5,h6,h7⟩ := hrun.run
    have hwf':Z2 t.n (JXm t.mem qs ls) := fun id o ho => by
      obtain ⟨o',q1,_,q3⟩ := hM id o ho
      rw [q3]; exact hwf id o' q1
    have hm':Jf θ (JXm t.mem qs ls) w := by
      refine ⟨fun id o ho => ?_,fun id id' o o' b ho ho' hne => ?_⟩
      · obtain ⟨o',q1,q2,_⟩ := hM id o ho
        exact q2 θ w (hm.1 id o' q1)
      · obtain ⟨p,q1,_,_⟩ := hM id o ho
        obtain ⟨p',q1',_,_⟩ := hM id' o' ho'
        exact hm.2 id id' p p' b q1 q1' hne
    have := hg _ _ _ r' h3 h4 h5 hwf' (by rw [e3]; exact hids) θ w hm'
    rw [e2 θ] at this
    refine ⟨this.1,this.2.mono fun e w' ⟨θ',q1,q2,q3⟩ => ⟨θ',by rw [q1,h6,hv],?_,by rw [← h7]; exact q3⟩⟩
    rw [h7] at q2
    refine { q2 with heap := fun b hb hno => q2.heap b hb fun id o ho => ?_,blks := fun id o b hl hb => ?_,eyes := fun id o b hl hb => ?_ }
    · obtain ⟨o',p1,_,_⟩ := hM id o ho
      exact hno id o' p1
    · rcases q2.blks id o b hl hb with h8 | ⟨i,x,h8,h9⟩
      · exact .inl h8
      · obtain ⟨o',p1,_,_⟩ := hM i x h8
        exact .inr ⟨i,o',p1,h9⟩
    · rcases q2.eyes id o b hl hb with h8 | ⟨i,x,h8,h9⟩
      · exact .inl h8
      · obtain ⟨o',p1,_,_⟩ := hM i x h8
        exact .inr ⟨i,o',p1,h9⟩
  · cases hr
open Go.RowKit
def JHW:List (Nat × Nat × Nat × Nat) → Nat → Jo → Nat → Jo × Nat
  | [],_,m,n => (m,n)
  | (ty,j,e,k) :: r,b,m,n => match JC m b with
    | some (.blk ty' cs) => bif Nat.beq ty ty' && Nat.blt 0 k then (match cs.drop j with
        | (_,.nilsl) :: _ => (match JOy m b j n e k with
          | some m' => JHW r b m' (n + 3)
          | none => JHW r b m n)
        | _ => JHW r b m n) else JHW r b m n
    | _ => (m,n)
def JEk (sl:List (Nat × Nat × Nat × Nat)):List Nat → Jo → Nat → Jo × Nat
  | [],m,n => (m,n)
  | b :: r,m,n => match JHW sl b m n with
    | (m',n') => JEk sl r m' n'
def wfB (n:Nat):Jo → Bool
  | [] => true
  | (id,o) :: r => Nat.blt id n && (YR n (K6 o) && wfB n r)
def Jdw (sl:List (Nat × Nat × Nat × Nat)) (g:JW):JW := fun vs mem n => match g vs mem n with
  | none => none
  | some r => bif (YR r.nx (Ze r.val) && wfB r.nx r.mem) && Nat.ble n r.nx then (match JEk sl (domain r.mem) r.mem r.nx with
      | (m,k) => some ⟨r.val,m,r.needs,r.eqs,k⟩) else some r
theorem JVK {n:Nat}:∀ {m:Jo},wfB n m = true → Z2 n m
  | [],_,id,o,h => by cases h
  | (a,x) :: r,h,id,o,hl => by
    simp only [wfB,Bool.and_eq_true] at h
    simp only [JT] at hl
    cases hq:Nat.beq a id
    · rw [hq] at hl; exact JVK h.2.2 id o hl
    · rw [hq] at hl; cases hl
      have := Nat.eq_of_beq_eq_true hq
      subst this
      exact ⟨Nat.le_of_ble_eq_true h.1,KB h.2.1⟩
theorem K1.trans {n m k:Nat} {a b c:Jo} (hnm:n ≤ m) (h1:K1 n m a b) (h2:K1 m k b c):K1 n k a c := fun θ w kk θ0 m0 w0 g hm hw hk => by
  obtain ⟨θ1,a1,g1,hm1,hw1⟩ := h1 θ w kk θ0 m0 w0 g hm hw hk
  obtain ⟨θ2,a2,g2,hm2,hw2⟩ := h2 θ1 w kk θ0 m0 w0 g1 hm1 hw1 (by omega)
  exact ⟨θ2,a1.trans a2 hnm,g2,hm2,hw2⟩
theorem JG2:∀ {sl:List (Nat × Nat × Nat × Nat)} {b:Nat} {m m':Jo} {n n':Nat},JHW sl b m n = (m',n') → n ≤ n' ∧ K1 n n' m m'
  | [],b,m,m',n,n',h => by
    simp only [JHW,Prod.mk.injEq] at h
    obtain ⟨rfl,rfl⟩ := h
    exact ⟨Nat.le_refl _,K1.refl _ _⟩
  | (ty,j,e,k) :: r,b,m,m',n,n',h => by
    simp only [JHW] at h
    split at h
    · cases hc:(Nat.beq ty _ && Nat.blt 0 k)
      · rw [hc] at h; exact JG2 h
      · rw [hc] at h
        simp only [Bool.and_eq_true] at hc
        have hpos:0 < k := Nat.le_of_ble_eq_true hc.2
        simp only [cond_true] at h
        split at h
        · split at h
          · rename_i x hx
            obtain ⟨h1,h2⟩ := JG2 h
            refine ⟨by omega,fun θ w kk θ0 m0 w0 g hm hw hk => ?_⟩
            obtain ⟨l,g1,hm1,hw1⟩ := JTK hx hpos g hm hw (Nat.le_refl _) hk
            obtain ⟨θ2,a2,g2,hm2,hw2⟩ := h2 _ _ _ _ _ _ g1 hm1 (hw1.mono (by omega)) (by omega)
            exact ⟨θ2,(Th.set_agree θ n l).trans a2 (by omega),g2,hm2,hw2⟩
          · exact JG2 h
        · exact JG2 h
    · simp only [Prod.mk.injEq] at h
      obtain ⟨rfl,rfl⟩ := h
      exact ⟨Nat.le_refl _,K1.refl _ _⟩
theorem JT7 {sl:List (Nat × Nat × Nat × Nat)}:∀ {l:List Nat} {m m':Jo} {n n':Nat},JEk sl l m n = (m',n') → n ≤ n' ∧ K1 n n' m m'
  | [],m,m',n,n',h => by
    simp only [JEk,Prod.mk.injEq] at h
    obtain ⟨rfl,rfl⟩ := h
    exact ⟨Nat.le_refl _,K1.refl _ _⟩
  | b :: r,m,m',n,n',h => by
    obtain ⟨m1,n1,h1⟩:∃ x y,JHW sl b m n = (x,y) := ⟨_,_,rfl⟩
    simp only [JEk,h1] at h
    obtain ⟨a1,a2⟩ := JG2 h1
    obtain ⟨b1,b2⟩ := JT7 h
    exact ⟨by omega,a2.trans a1 b2⟩
theorem Jck {P:Program} {f:FuncId} {g:JW} (sl:List (Nat × Nat × Nat × Nat)) (hg:Qk P f g):Qk P f (Jdw sl g) := by
  intro vs mem n r hr hn he hwf hids θ w hm
  unfold Jdw at hr
  split at hr
  · cases hr
  rename_i q hq
  cases hc:((YR q.nx (Ze q.val) && wfB q.nx q.mem) && Nat.ble n q.nx)
  · rw [hc] at hr; cases hr
    exact hg vs mem n _ hq hn he hwf hids θ w hm
  rw [hc] at hr
  simp only [Bool.and_eq_true] at hc
  obtain ⟨m1,n1,h1⟩:∃ x y,JEk sl (domain q.mem) q.mem q.nx = (x,y) := ⟨_,_,rfl⟩
  simp only [cond_true,h1,Option.some.injEq] at hr
  subst hr
  obtain ⟨_,hl⟩ := JT7 h1
  obtain ⟨c1,c2⟩ := hg vs mem n _ hq hn he hwf hids θ w hm
  refine ⟨c1,c2.mono fun e w' h => ?_⟩
  obtain ⟨θ',e1,g1,hm1⟩ := h
  obtain ⟨θ2,a2,g2,hm2,_⟩ := hl θ' w' n θ mem w g1 hm1 (JVK hc.1.2) (Nat.le_of_ble_eq_true hc.2)
  exact ⟨θ2,by rw [e1,SV.den_agree a2 (KB hc.1.1)],g2,hm2⟩
def Jf5:List (Nat × Nat × Nat × Nat) → Nat → Jo → Nat → Jo × Nat
  | [],_,m,n => (m,n)
  | (ty,j,e,k) :: r,b,m,n => match JC m b with
    | some (.blk ty' _) => bif Nat.beq ty ty' && Nat.blt 0 k then (match JtI m b j with
        | some _ => Jf5 r b m n
        | none => match JV4 m b j n e k with
          | some m' => Jf5 r b m' (n + 3)
          | none => Jf5 r b m n) else Jf5 r b m n
    | _ => (m,n)
def JS8 (sl:List (Nat × Nat × Nat × Nat)):List Nat → Jo → Nat → Jo × Nat
  | [],m,n => (m,n)
  | b :: r,m,n => match Jf5 sl b m n with
    | (m',n') => JS8 sl r m' n'
def Jwg (sl:List (Nat × Nat × Nat × Nat)) (g:JW):JW := fun vs mem n => match g vs mem n with
  | none => none
  | some r => bif (YR r.nx (Ze r.val) && wfB r.nx r.mem) && Nat.ble n r.nx then (match JS8 sl (domain r.mem) r.mem r.nx with
      | (m,k) => some ⟨r.val,m,r.needs,r.eqs,k⟩) else some r
theorem JPC:∀ {sl:List (Nat × Nat × Nat × Nat)} {b:Nat} {m m':Jo} {n n':Nat},Jf5 sl b m n = (m',n') → n ≤ n' ∧ K1 n n' m m'
  | [],b,m,m',n,n',h => by
    simp only [Jf5,Prod.mk.injEq] at h
    obtain ⟨rfl,rfl⟩ := h
    exact ⟨Nat.le_refl _,K1.refl _ _⟩
  | (ty,j,e,k) :: r,b,m,m',n,n',h => by
    simp only [Jf5] at h
    split at h
    · cases hc:(Nat.beq ty _ && Nat.blt 0 k)
      · rw [hc] at h; exact JPC h
      · rw [hc] at h
        simp only [Bool.and_eq_true] at hc
        have hpos:0 < k := Nat.le_of_ble_eq_true hc.2
        simp only [cond_true] at h
        split at h
        · exact JPC h
        · split at h
          · rename_i x hx
            obtain ⟨h1,h2⟩ := JPC h
            refine ⟨by omega,fun θ w kk θ0 m0 w0 g hm hw hk => ?_⟩
            obtain ⟨l,g1,hm1,hw1⟩ := JZL hx hpos g hm hw (Nat.le_refl _) hk
            obtain ⟨θ2,a2,g2,hm2,hw2⟩ := h2 _ _ _ _ _ _ g1 hm1 (hw1.mono (by omega)) (by omega)
            exact ⟨θ2,(Th.set_agree θ n l).trans a2 (by omega),g2,hm2,hw2⟩
          · exact JPC h
    · simp only [Prod.mk.injEq] at h
      obtain ⟨rfl,rfl⟩ := h
      exact ⟨Nat.le_refl _,K1.refl _ _⟩
theorem JcM {sl:List (Nat × Nat × Nat × Nat)}:∀ {l:List Nat} {m m':Jo} {n n':Nat},JS8 sl l m n = (m',n') → n ≤ n' ∧ K1 n n' m m'
  | [],m,m',n,n',h => by
    simp only [JS8,Prod.mk.injEq] at h
    obtain ⟨rfl,rfl⟩ := h
    exact ⟨Nat.le_refl _,K1.refl _ _⟩
  | b :: r,m,m',n,n',h => by
    obtain ⟨m1,n1,h1⟩:∃ x y,Jf5 sl b m n = (x,y) := ⟨_,_,rfl⟩
    simp only [JS8,h1] at h
    obtain ⟨a1,a2⟩ := JPC h1
    obtain ⟨b1,b2⟩ := JcM h
    exact ⟨by omega,a2.trans a1 b2⟩
theorem Jun {P:Program} {f:FuncId} {g:JW} (sl:List (Nat × Nat × Nat × Nat)) (hg:Qk P f g):Qk P f (Jwg sl g) := by
  intro vs mem n r hr hn he hwf hids θ w hm
  unfold Jwg at hr
  split at hr
  · cases hr
  rename_i q hq
  cases hc:((YR q.nx (Ze q.val) && wfB q.nx q.mem) && Nat.ble n q.nx)
  · rw [hc] at hr; cases hr
    exact hg vs mem n _ hq hn he hwf hids θ w hm
  rw [hc] at hr
  simp only [Bool.and_eq_true] at hc
  obtain ⟨m1,n1,h1⟩:∃ x y,JS8 sl (domain q.mem) q.mem q.nx = (x,y) := ⟨_,_,rfl⟩
  simp only [cond_true,h1,Option.some.injEq] at hr
  subst hr
  obtain ⟨_,hl⟩ := JcM h1
  obtain ⟨c1,c2⟩ := hg vs mem n _ hq hn he hwf hids θ w hm
  refine ⟨c1,c2.mono fun e w' h => ?_⟩
  obtain ⟨θ',e1,g1,hm1⟩ := h
  obtain ⟨θ2,a2,g2,hm2,_⟩ := hl θ' w' n θ mem w g1 hm1 (JVK hc.1.2) (Nat.le_of_ble_eq_true hc.2)
  exact ⟨θ2,by rw [e1,SV.den_agree a2 (KB hc.1.1)],g2,hm2⟩
open Go.RowKit
inductive GK where
  | i | b | v (ks:List Bool)
inductive GC where
  | i (n:Int) | b (x:Bool)
def GC.int:GC → Int
  | .i n => n
  | .b _ => 0
def GC.bit:GC → Bool
  | .b x => x
  | .i _ => false
def xi (l:List GC) (j:Nat):Int := (l.getD j (.i 0)).int
def xb (l:List GC) (j:Nat):Bool := (l.getD j (.i 0)).bit
inductive Gm where
  | i (n:Int) | b (x:Bool) | v (l:List GC)
def JZ8:List Bool → List Pm → Option (List GC × List Pm)
  | [],r => some ([],r)
  | false :: ks,.i n :: r => match JZ8 ks r with
    | some (l,q) => some (.i n :: l,q)
    | none => none
  | true :: ks,.b x :: r => match JZ8 ks r with
    | some (l,q) => some (.b x :: l,q)
    | none => none
  | _,_ => none
def JI5:List GK → List Pm → Option (List Gm)
  | [],[] => some []
  | .i :: g,.i n :: r => match JI5 g r with
    | some l => some (.i n :: l)
    | none => none
  | .b :: g,.b x :: r => match JI5 g r with
    | some l => some (.b x :: l)
    | none => none
  | .v ks :: g,r => match JZ8 ks r with
    | some (l,q) => (match JI5 g q with
      | some m => some (.v l :: m)
      | none => none)
    | none => none
  | _,_ => none
def JKP:List Bool → List GC → Nat → List Pm → List Pm
  | [],_,_,r => r
  | false :: ks,l,j,r => .i (xi l j) :: JKP ks l (j + 1) r
  | true :: ks,l,j,r => .b (xb l j) :: JKP ks l (j + 1) r
def Jc:List GK → List Gm → List Pm
  | .i :: g,.i n :: r => .i n :: Jc g r
  | .b :: g,.b x :: r => .b x :: Jc g r
  | .v ks :: g,.v l :: r => JKP ks l 0 (Jc g r)
  | _,_ => []
theorem Jgr (pre l:List GC) (x d:GC):(pre ++ x :: l).getD pre.length d = x := by
  simp [List.getD]
theorem JwJ (pre l:List GC) (n:Int):xi (pre ++ .i n :: l) pre.length = n := by
  rw [xi,Jgr]; rfl
theorem Jwe (pre l:List GC) (x:Bool):xb (pre ++ .b x :: l) pre.length = x := by
  rw [xb,Jgr]; rfl
theorem JMH:∀ {ks:List Bool} {r q:List Pm} {l:List GC},JZ8 ks r = some (l,q) → ∀ pre,JKP ks (pre ++ l) pre.length q = r
  | [],r,q,l,h,pre => by cases h; rfl
  | false :: ks,[],q,l,h,pre => by cases h
  | true :: ks,[],q,l,h,pre => by cases h
  | false :: ks,.b x :: r,q,l,h,pre => by cases h
  | true :: ks,.i n :: r,q,l,h,pre => by cases h
  | false :: ks,.i n :: r,q,l,h,pre => by
    simp only [JZ8] at h
    split at h
    · rename_i l' q' h'
      cases h
      have := JMH h' (pre ++ [.i n])
      simp only [List.append_assoc,List.singleton_append,List.length_append,List.length_singleton] at this
      simp only [JKP,JwJ,this]
    · cases h
  | true :: ks,.b x :: r,q,l,h,pre => by
    simp only [JZ8] at h
    split at h
    · rename_i l' q' h'
      cases h
      have := JMH h' (pre ++ [.b x])
      simp only [List.append_assoc,List.singleton_append,List.length_append,List.length_singleton] at this
      simp only [JKP,Jwe,this]
    · cases h
theorem JAs:∀ {g:List GK} {ps:List Pm} {gs:List Gm},JI5 g ps = some gs → Jc g gs = ps
  | [],[],gs,h => by cases h; rfl
  | [],_ :: _,gs,h => by cases h
  | .i :: g,[],gs,h => by cases h
  | .b :: g,[],gs,h => by cases h
  | .i :: g,.b x :: r,gs,h => by cases h
  | .b :: g,.i n :: r,gs,h => by cases h
  | .i :: g,.i n :: r,gs,h => by
    simp only [JI5] at h
    split at h
    · rename_i l h'
      cases h
      simp only [Jc,JAs h']
    · cases h
  | .b :: g,.b x :: r,gs,h => by
    simp only [JI5] at h
    split at h
    · rename_i l h'
      cases h
      simp only [Jc,JAs h']
    · cases h
  | .v ks :: g,r,gs,h => by
    have e:JI5 (.v ks :: g) r = match JZ8 ks r with
      | some (l,q) => (match JI5 g q with
        | some m => some (.v l :: m)
        | none => none)
      | none => none := by cases r <;> rfl
    rw [e] at h
    split at h
    · rename_i l q h1
      split at h
      · rename_i m h2
        cases h
        simp only [Jc,JAs h2]
        exact JMH h1 []
      · cases h
    · cases h
def Z9 (g:List GK) (t:Tpl) (out:List Gm → Qr → Option CRes):JW := JS t fun ps ls => match JI5 g ps with
  | some gs => out gs ls
  | none => none
theorem Qd {P:Program} {f:FuncId} {s:JW} (hg:Qk P f s) {g:List GK} {t:Tpl} {out:List Gm → Qr → Option CRes}
    (h:∀ gs ls r,out gs ls = some r → (∀ p ∈ r.needs,p) → (∀ p ∈ r.eqs,p.1 = p.2) → ∃ v,Runs s (t.args (Jc g gs)) (t.memo (Jc g gs) ls) t.n v r.mem ∧ ∀ θ,v.den θ = r.val.den θ):Qk P f (Z9 g t out) := by
  refine JH hg fun ps ls r hr hn he => ?_
  split at hr
  · rename_i gs hgs
    have := h gs ls r hr hn he
    rw [JAs hgs] at this
    exact this
  · cases hr
section
variable (r:List Int) (l:List GC)
def J2:List GC:= [.i (xi l 0),.i (xi l 1),.i (xi l 2),.i (xi l 3),.i (xi l 4),.i (xi l 5),.i (xi l 6),.i (xi l 7),.i (xi l 8),.i (xi l 9),.i (xi l 10),.i (xi l 11),.i (xi l 12),.b (xb l 13),.i (xi l 14),.b (xb l 15),.i (xi l 16),.i (xi l 17),.i (xi l 18),.i (xi l 19),.i (xi l 20),.b (xb l 21)]
def Jj:List GC:= [.i (r.getD 0 0),.i (r.getD 1 0),.i (r.getD 2 0),.i (r.getD 3 0),.i (r.getD 4 0),.i (r.getD 5 0),.i (r.getD 6 0),.i (r.getD 7 0),.i (r.getD 8 0),.i (r.getD 9 0),.i (r.getD 10 0),.i (r.getD 11 0),.i (r.getD 12 0),.b (r.getD 13 0 != 0),.i (r.getD 14 0),.b (r.getD 15 0 != 0),.i (r.getD 16 0),.i (r.getD 17 0),.i (r.getD 18 0),.i (r.getD 19 0),.i (r.getD 20 0),.b (r.getD 21 0 != 0)]
def JI2:List Int:= [xi l 0,xi l 1,xi l 2,xi l 3,xi l 4,xi l 5,xi l 6,xi l 7,xi l 8,xi l 9,xi l 10,xi l 11,xi l 12,(bif xb l 13 then 1 else 0),xi l 14,(bif xb l 15 then 1 else 0),xi l 16,xi l 17,xi l 18,xi l 19,xi l 20,(bif xb l 21 then 1 else 0)]
def JmK:List Int:= [r.getD 0 0,r.getD 1 0,r.getD 2 0,r.getD 3 0,r.getD 4 0,r.getD 5 0,r.getD 6 0,r.getD 7 0,r.getD 8 0,r.getD 9 0,r.getD 10 0,r.getD 11 0,r.getD 12 0,(bif (r.getD 13 0 != 0) then 1 else 0),r.getD 14 0,(bif (r.getD 15 0 != 0) then 1 else 0),r.getD 16 0,r.getD 17 0,r.getD 18 0,r.getD 19 0,r.getD 20 0,(bif (r.getD 21 0 != 0) then 1 else 0)]
end
end
end Go.SX
namespace Go.Proofs.YtmbfbhimdkjkoaaGreat
noncomputable section
open Go.SX Go.RowKit
abbrev LL:=List (List Int)
theorem awc {a:Prop} {l:List Prop}:(∀ q ∈ a :: l,q) ↔ a ∧ ∀ q ∈ l,q := List.forall_mem_cons
theorem awn:(∀ q ∈ ([]:List Prop),q) ↔ True := ⟨fun _ => trivial,fun _ _ h => (by cases h)⟩
def Ci (x:Int):SC := .int .i64 (.v x)
def Cb (x:Bool):SC := .bool (.v x)
def jH:List CK := [.int .i64,.int .i64,.int .i64,.int .i64,.int .i64,.int .i64,.int .i64,.int .i64,.int .i64,.int .i64,.int .i64,.int .i64,.int .i64,.bool,.int .i64,.bool,.int .i64,.int .i64,.int .i64,.int .i64,.int .i64,.bool]
def pI:List PC := [.int .i64,.int .i64,.int .i64,.int .i64,.int .i64,.int .i64,.int .i64,.int .i64,.int .i64,.int .i64,.int .i64,.int .i64,.int .i64,.bool,.int .i64,.bool,.int .i64,.int .i64,.int .i64,.int .i64,.int .i64,.bool]
theorem Zy:Zl Tryz.prog := by
  have h : Tryz.prog.funcs.toList.all (fun fn => !(fn.name == "runtime.NumGoroutine")) = true := by kernel_rfl
  intro f fn hf
  have := List.all_eq_true.1 h fn (by simpa using List.mem_of_getElem? (by simpa using hf:Tryz.prog.funcs.toList[f]? = some fn))
  simpa using this
def Jy:List Bool := [false,false,false,false,false,false,false,false,false,false,false,false,false,true,false,true,false,false,false,false,false,true]
def Jbp:List (Nat × Nat × Nat × Nat) := [(66,47,40,22),(66,55,40,22)]
def Js (S:FuncId → Option JW) (L:FuncId → Nat → Option QH) (f:FuncId):JW := Jdw Jbp (JcX Tryz.prog (Jbt Tryz.prog S L 100 10) 100 (L f) f)
theorem JD {S:FuncId → Option JW} {L:FuncId → Nat → Option QH} (hk:Known Tryz.prog S L) (f:FuncId):Qk Tryz.prog f (Js S L f) := Jck Jbp (Jg7 Zy hk 100 10 f)
def JB (K:List (Nat × JW)):FuncId → Option JW := fun f => SX.JC K f
def K0:List (Nat × JW) := []
def L0:FuncId → Nat → Option QH := fun _ _ => none
theorem Jtk:Known Tryz.prog (JB K0) L0 := ⟨(fun _ _ h => by cases h),(fun _ _ _ _ _ _ _ _ _ _ h => by cases h)⟩
theorem J7 {K:List (Nat × JW)} {L:FuncId → Nat → Option QH} {f:Nat} {s:JW} (hk:Known Tryz.prog (JB K) L) (hs:Qk Tryz.prog f s):Known Tryz.prog (JB ((f,s) :: K)) L := by
  refine ⟨fun g t h => ?_,hk.loops⟩
  unfold JB at h
  rw [JT] at h
  cases hb:Nat.beq f g
  · rw [hb] at h; exact hk.funcs g t h
  · rw [hb] at h
    cases h
    have := Nat.eq_of_beq_eq_true hb; subst this
    exact hs
def JBZ (L:FuncId → Nat → Option QH) (f k:Nat) (s:QH):FuncId → Nat → Option QH := fun g j => bif Nat.beq f g && Nat.beq k j then some s else L g j
def JLq (k i0:Nat):List (Option Nat) → Nat → Bool
  | [],_ => true
  | some x :: r,i => (!(Nat.beq x k) || Nat.beq i i0) && JLq k i0 r (i + 1)
  | none :: r,i => JLq k i0 r (i + 1)
theorem JJQ {k i0:Nat}:∀ {l:List (Option Nat)} {j i:Nat},JLq k i0 l j = true → l[i]? = some (some k) → j + i = i0
  | [],_,_,_,h => by cases h
  | some x :: r,j,0,h,h1 => by
    simp only [JLq,Bool.and_eq_true,Bool.or_eq_true,Bool.not_eq_true'] at h
    simp only [List.getElem?_cons_zero,Option.some.injEq] at h1
    subst h1
    rcases h.1 with h2 | h2
    · rw [SX.jE] at h2; cases h2
    · exact Nat.eq_of_beq_eq_true h2
  | none :: r,j,0,h,h1 => by simp at h1
  | some x :: r,j,i + 1,h,h1 => by
    simp only [JLq,Bool.and_eq_true] at h
    have := JJQ h.2 (by simpa using h1)
    omega
  | none :: r,j,i + 1,h,h1 => by
    simp only [JLq] at h
    have := JJQ h (by simpa using h1)
    omega
theorem Qj {K:List (Nat × JW)} {L:FuncId → Nat → Option QH} {f k:Nat} {s:QH} (i0:Nat) (hk:Known Tryz.prog (JB K) L) (hu:JLq k i0 ((QZ Tryz.prog f).map JCl) 0 = true)
    (hs:YQ Tryz.prog (JtM Tryz.prog f) (.loop (JDJ Tryz.prog f i0)) s):Known Tryz.prog (JB K) (JBZ L f k s) := by
  refine ⟨hk.funcs,fun g fn b hf hb c hc j t h1 h2 => ?_⟩
  unfold JBZ at h2
  by_cases h3:f = g
  · subst h3
    by_cases h4:k = j
    · subst h4
      simp only [SX.jE,Bool.and_self,cond_true,Option.some.injEq] at h2
      subst h2
      have key:JNj Tryz.prog f (fun j => bif Nat.beq k j then some s else none) := Jg5 fun i hi k' s' h5 h6 => by
        by_cases h7:k = k'
        · subst h7
          simp only [SX.jE,cond_true,Option.some.injEq] at h6
          subst h6
          have := JJQ hu (i := i) (by rw [List.getElem?_map]; unfold JDJ at h5; cases hl:(QZ Tryz.prog f)[i]? with
            | none => rw [hl] at h5; cases h5
            | some d => rw [hl] at h5; simpa using h5)
          have:i = i0 := by omega
          subst this
          exact hs
        · rw [SX.XX h7] at h6; cases h6
      exact key fn b hf hb c hc k s h1 (by simp)
    · rw [SX.XX h4] at h2
      simp only [Bool.and_false,cond_false] at h2
      exact hk.loops f fn b hf hb c hc j t h1 h2
  · rw [SX.XX h3] at h2
    simp only [Bool.false_and,cond_false] at h2
    exact hk.loops g fn b hf hb c hc j t h1 h2
theorem Qy {nt:Nat} {c:Code} {k:KP → Jo → Nat → Option TR} (h:∀ env mem n x,k env mem n = some x → ∃ k',YQ Tryz.prog nt c k' ∧ k' env mem n = some x):YQ Tryz.prog nt c k := by
  intro env mem n x hx
  obtain ⟨k',h1,h2⟩ := h env mem n x hx
  exact h1 env mem n x h2
def Wj (env:KP) (t:Nat):Option Int := match SX.JC env t with
  | some ⟨_,_,_,.one (.int _ (.c n))⟩ => some n
  | some ⟨_,_,_,.one (.int _ (.v n))⟩ => some n
  | _ => none
def JMB (ks:List CK) (env:KP) (mem:Jo) (t:Nat):Option (List (List Int)) := match SX.JC env t with
  | some ⟨_,_,_,.one (.wh id)⟩ => (match SX.JC mem id with
    | some (.row _ _ _ (.lit _ rows)) => qD ks rows
    | some (.row _ _ _ (.lst _ _ xs)) => some xs
    | _ => none)
  | some ⟨_,_,_,.one .nilsl⟩ => some []
  | _ => none
def Jn3:List (Nat × SC) → Option (List Int)
  | [] => some []
  | (_,.int _ (.c n)) :: r => (Jn3 r).map (n :: ·)
  | (_,.int _ (.v n)) :: r => (Jn3 r).map (n :: ·)
  | _ => none
def JI1 (mem:Jo) (id:Nat):Option (List Int) := match SX.JC mem id with
  | some (.blk _ cs) => Jn3 cs
  | _ => none
def orS (s t:JW):JW := fun vs mem n => match s vs mem n with
  | some r => some r
  | none => t vs mem n
theorem JJN {f:Nat} {s t:JW} (hs:Qk Tryz.prog f s) (ht:Qk Tryz.prog f t):Qk Tryz.prog f (orS s t) := by
  intro vs mem n r h
  unfold orS at h
  split at h
  · rename_i r' h1
    cases h
    exact hs vs mem n _ h1
  · exact ht vs mem n r h
def JFx:Tpl := ⟨[.one (.int .i64),.one (.int .i64)],[],0⟩
def Qi (a b:Int):Int := bif a == 0 || b == 0 then 0 else bif decide (a < 0) == decide (b < 0) then 1 else -1
theorem Jjn (a b:Int):Runs (Js (JB K0) L0 155) (JFx.args [.i a,.i b]) (JFx.memo [.i a,.i b] []) JFx.n (SV.one (Ci (Qi a b))) ([]) :=
  Runs.of1 (ps := []) (by kernel_rfl) (by simp)
def JS7:List Pm → Qr → Option CRes
  | [.i a,.i b],[] => some ⟨SV.one (Ci (Qi a b)),
 [],[],[],17⟩
  | _,_ => none
theorem JtJ:Qk Tryz.prog 155 (JS JFx JS7) := by
  refine JH (JD Jtk 155) fun ps ls r hr hn _ => ?_
  unfold JS7 at hr
  split at hr
  · cases hr; exact ⟨_,Jjn _ _,fun _ => rfl⟩
  · cases hr
def Jcq:List (Nat × JW) := (155,JS JFx JS7) :: K0
theorem JSu:Known Tryz.prog (JB Jcq) L0 := J7 Jtk JtJ
def JC7:Tpl := ⟨[.agg [.int .i64,.int .i64],.agg [.int .i64,.int .i64]],[],0⟩
def J0 (a c:Int):Int := IntKind.i64.wrap (a - c)
theorem Jj7 (a b c d:Int):Runs (Js (JB Jcq) L0 99) (JC7.args [.i a,.i b,.i c,.i d]) (JC7.memo [.i a,.i b,.i c,.i d] []) JC7.n (SV.agg [Ci (J0 a c),Ci (J0 b d)]) ([]) :=
  Runs.of1 (ps := []) (by kernel_rfl) (by simp)
def JK7:List Pm → Qr → Option CRes
  | [.i a,.i b,.i c,.i d],[] => some ⟨SV.agg [Ci (J0 a c),Ci (J0 b d)],
 [],[],[],26⟩
  | _,_ => none
theorem Jhq:Qk Tryz.prog 99 (JS JC7 JK7) := by
  refine JH (JD JSu 99) fun ps ls r hr hn _ => ?_
  unfold JK7 at hr
  split at hr
  · cases hr; exact ⟨_,Jj7 _ _ _ _,fun _ => rfl⟩
  · cases hr
def JdF:List (Nat × JW) := (99,JS JC7 JK7) :: Jcq
theorem JSq:Known Tryz.prog (JB JdF) L0 := J7 JSu Jhq
def JCW:Tpl := ⟨[.agg [.int .i64,.int .i64],.agg [.int .i64,.int .i64]],[],0⟩
def JE (a b c d:Int):Int := IntKind.i64.wrap (IntKind.i64.wrap (a * d) - IntKind.i64.wrap (b * c))
theorem Jgb (a b c d:Int):Runs (Js (JB JdF) L0 132) (JCW.args [.i a,.i b,.i c,.i d]) (JCW.memo [.i a,.i b,.i c,.i d] []) JCW.n (SV.one (Ci (JE a b c d))) ([]) :=
  Runs.of1 (ps := []) (by kernel_rfl) (by simp)
def JMd:List Pm → Qr → Option CRes
  | [.i a,.i b,.i c,.i d],[] => some ⟨SV.one (Ci (JE a b c d)),
 [],[],[],21⟩
  | _,_ => none
theorem JoB:Qk Tryz.prog 132 (JS JCW JMd) := by
  refine JH (JD JSq 132) fun ps ls r hr hn _ => ?_
  unfold JMd at hr
  split at hr
  · cases hr; exact ⟨_,Jgb _ _ _ _,fun _ => rfl⟩
  · cases hr
def JZN:List (Nat × JW) := (132,JS JCW JMd) :: JdF
theorem JOg:Known Tryz.prog (JB JZN) L0 := J7 JSq JoB
def JD9:Tpl := ⟨[.agg [.int .i64,.int .i64],.agg [.int .i64,.int .i64]],[],0⟩
def J8 (a b c d:Int):Int := IntKind.i64.wrap (IntKind.i64.wrap (a * c) + IntKind.i64.wrap (b * d))
theorem JgS (a b c d:Int):Runs (Js (JB JZN) L0 97) (JD9.args [.i a,.i b,.i c,.i d]) (JD9.memo [.i a,.i b,.i c,.i d] []) JD9.n (SV.one (Ci (J8 a b c d))) ([]) :=
  Runs.of1 (ps := []) (by kernel_rfl) (by simp)
def JM9:List Pm → Qr → Option CRes
  | [.i a,.i b,.i c,.i d],[] => some ⟨SV.one (Ci (J8 a b c d)),
 [],[],[],21⟩
  | _,_ => none
theorem JoA:Qk Tryz.prog 97 (JS JD9 JM9) := by
  refine JH (JD JOg 97) fun ps ls r hr hn _ => ?_
  unfold JM9 at hr
  split at hr
  · cases hr; exact ⟨_,JgS _ _ _ _,fun _ => rfl⟩
  · cases hr
def JWd:List (Nat × JW) := (97,JS JD9 JM9) :: JZN
theorem JNy:Known Tryz.prog (JB JWd) L0 := J7 JOg JoA
def JFv:Tpl := ⟨[.one (.int .i64)],[],0⟩
def J6 (a:Int):Int := bif decide (a < 0) then IntKind.u64.wrap (IntKind.u64.wrap (IntKind.i64.wrap (0 - IntKind.i64.wrap (a + 1))) + 1) else IntKind.u64.wrap a
theorem Jkx (a:Int):Runs (Js (JB JWd) L0 150) (JFv.args [.i a]) (JFv.memo [.i a] []) JFv.n (SV.one (SC.int IntKind.u64 (SI.v (J6 a)))) ([]) :=
  Runs.of1 (ps := []) (by kernel_rfl) (by simp)
def JPK:List Pm → Qr → Option CRes
  | [.i a],[] => some ⟨SV.one (SC.int IntKind.u64 (SI.v (J6 a))),
 [],[],[],12⟩
  | _,_ => none
theorem Jtu:Qk Tryz.prog 150 (JS JFv JPK) := by
  refine JH (JD JNy 150) fun ps ls r hr hn _ => ?_
  unfold JPK at hr
  split at hr
  · cases hr; exact ⟨_,Jkx _,fun _ => rfl⟩
  · cases hr
def JfX:List (Nat × JW) := (150,JS JFv JPK) :: JWd
theorem JTE:Known Tryz.prog (JB JfX) L0 := J7 JNy Jtu
def JEe:Tpl := ⟨[.one (.int .u64),.one (.int .u64)],[],0⟩
section
variable (a b:Int)
def JWL:Int:= IntKind.u64.wrap (IntKind.u64.wrap (JU BinOp.shr IntKind.u64 a 32 * Zi BinOp.and IntKind.u64 b 4294967295) + JU BinOp.shr IntKind.u64 (IntKind.u64.wrap (Zi BinOp.and IntKind.u64 a 4294967295 * Zi BinOp.and IntKind.u64 b 4294967295)) 32)
def QM:Int:= IntKind.u64.wrap (IntKind.u64.wrap (IntKind.u64.wrap (JU BinOp.shr IntKind.u64 a 32 * JU BinOp.shr IntKind.u64 b 32) + JU BinOp.shr IntKind.u64 (JWL a b) 32) + JU BinOp.shr IntKind.u64 (IntKind.u64.wrap (Zi BinOp.and IntKind.u64 (JWL a b) 4294967295 + IntKind.u64.wrap (Zi BinOp.and IntKind.u64 a 4294967295 * JU BinOp.shr IntKind.u64 b 32))) 32)
def Qe:Int:= IntKind.u64.wrap (a * b)
end
theorem Jl4 (a b:Int):Runs (Js (JB JfX) L0 171) (JEe.args [.i a,.i b]) (JEe.memo [.i a,.i b] []) JEe.n (SV.tup [(false,[SC.int IntKind.u64 (SI.v (QM a b))]),(false,[SC.int IntKind.u64 (SI.v (Qe a b))])]) ([]) :=
  Runs.of1 (ps := []) (by kernel_rfl) (by simp)
def JRZ:List Pm → Qr → Option CRes
  | [.i a,.i b],[] => some ⟨SV.tup [(false,[SC.int IntKind.u64 (SI.v (QM a b))]),(false,[SC.int IntKind.u64 (SI.v (Qe a b))])],
 [],[],[],50⟩
  | _,_ => none
theorem Jqm:Qk Tryz.prog 171 (JS JEe JRZ) := by
  refine JH (JD JTE 171) fun ps ls r hr hn _ => ?_
  unfold JRZ at hr
  split at hr
  · cases hr; exact ⟨_,Jl4 _ _,fun _ => rfl⟩
  · cases hr
def Jdr:List (Nat × JW) := (171,JS JEe JRZ) :: JfX
theorem JTr:Known Tryz.prog (JB Jdr) L0 := J7 JTE Jqm
def z6:Tpl := ⟨[.one (.int .u64),.one (.int .u64)],[],0⟩
theorem Jfk (a b:Int):Runs (Js (JB Jdr) L0 153) (z6.args [.i a,.i b]) (z6.memo [.i a,.i b] []) z6.n (SV.agg [SC.int IntKind.u64 (SI.v (QM a b)),SC.int IntKind.u64 (SI.v (Qe a b))]) ([]) :=
  Runs.of1 (ps := []) (by kernel_rfl) (by simp)
def JJG:List Pm → Qr → Option CRes
  | [.i a,.i b],[] => some ⟨SV.agg [SC.int IntKind.u64 (SI.v (QM a b)),SC.int IntKind.u64 (SI.v (Qe a b))],
 [],[],[],68⟩
  | _,_ => none
theorem Jif:Qk Tryz.prog 153 (JS z6 JJG) := by
  refine JH (JD JTr 153) fun ps ls r hr hn _ => ?_
  unfold JJG at hr
  split at hr
  · cases hr; exact ⟨_,Jfk _ _,fun _ => rfl⟩
  · cases hr
def JPv:List (Nat × JW) := (153,JS z6 JJG) :: Jdr
theorem JLa:Known Tryz.prog (JB JPv) L0 := J7 JTr Jif
def JFq:Tpl := ⟨[.agg [.int .u64,.int .u64],.agg [.int .u64,.int .u64]],[],0⟩
def JKi (a b c d:Int):Int := bif decide (a < c) || a == c && decide (b < d) then -1 else bif a == c && b == d then 0 else 1
theorem JlJ (a b c d:Int):Runs (Js (JB JPv) L0 169) (JFq.args [.i a,.i b,.i c,.i d]) (JFq.memo [.i a,.i b,.i c,.i d] []) JFq.n (SV.one (Ci (JKi a b c d))) ([]) :=
  Runs.of1 (ps := []) (by kernel_rfl) (by simp)
def JSV:List Pm → Qr → Option CRes
  | [.i a,.i b,.i c,.i d],[] => some ⟨SV.one (Ci (JKi a b c d)),
 [],[],[],36⟩
  | _,_ => none
theorem JrZ:Qk Tryz.prog 169 (JS JFq JSV) := by
  refine JH (JD JLa 169) fun ps ls r hr hn _ => ?_
  unfold JSV at hr
  split at hr
  · cases hr; exact ⟨_,JlJ _ _ _ _,fun _ => rfl⟩
  · cases hr
def Jem:List (Nat × JW) := (169,JS JFq JSV) :: JPv
theorem JTy:Known Tryz.prog (JB Jem) L0 := J7 JLa JrZ
def JJS:Tpl := ⟨[.one (.int .i64),.one (.int .i64),.one (.int .i64),.one (.int .i64)],[],0⟩
def JLx (a b c d:Int):Int := bif Qi a b != Qi c d then bif decide (Qi a b < Qi c d) then -1 else 1 else IntKind.i64.wrap (Qi a b * JKi (QM (J6 a) (J6 b)) (Qe (J6 a) (J6 b)) (QM (J6 c) (J6 d)) (Qe (J6 c) (J6 d)))
theorem Jo4 (a b c d:Int):Runs (Js (JB Jem) L0 149) (JJS.args [.i a,.i b,.i c,.i d]) (JJS.memo [.i a,.i b,.i c,.i d] []) JJS.n (SV.one (Ci (JLx a b c d))) ([]) :=
  Runs.of1 (ps := []) (by kernel_rfl) (by simp)
def JXf:List Pm → Qr → Option CRes
  | [.i a,.i b,.i c,.i d],[] => some ⟨SV.one (Ci (JLx a b c d)),
 [],[],[],286⟩
  | _,_ => none
theorem Jv9:Qk Tryz.prog 149 (JS JJS JXf) := by
  refine JH (JD JTy 149) fun ps ls r hr hn _ => ?_
  unfold JXf at hr
  split at hr
  · cases hr; exact ⟨_,Jo4 _ _ _ _,fun _ => rfl⟩
  · cases hr
def Jk8:List (Nat × JW) := (149,JS JJS JXf) :: Jem
theorem JWZ:Known Tryz.prog (JB Jk8) L0 := J7 JTy Jv9
def JC6:Tpl := ⟨[.agg [.int .i64,.int .i64],.agg [.int .i64,.int .i64]],[],0⟩
def JI (a c:Int):Int := IntKind.i64.wrap (a + c)
theorem JmE (a b c d:Int):Runs (Js (JB Jk8) L0 128) (JC6.args [.i a,.i b,.i c,.i d]) (JC6.memo [.i a,.i b,.i c,.i d] []) JC6.n (SV.agg [Ci (JI a c),Ci (JI b d)]) ([]) :=
  Runs.of1 (ps := []) (by kernel_rfl) (by simp)
def JKt:List Pm → Qr → Option CRes
  | [.i a,.i b,.i c,.i d],[] => some ⟨SV.agg [Ci (JI a c),Ci (JI b d)],
 [],[],[],26⟩
  | _,_ => none
theorem JgL:Qk Tryz.prog 128 (JS JC6 JKt) := by
  refine JH (JD JWZ 128) fun ps ls r hr hn _ => ?_
  unfold JKt at hr
  split at hr
  · cases hr; exact ⟨_,JmE _ _ _ _,fun _ => rfl⟩
  · cases hr
def Jd8:List (Nat × JW) := (128,JS JC6 JKt) :: Jk8
theorem JTm:Known Tryz.prog (JB Jd8) L0 := J7 JWZ JgL
def JOT:Tpl := ⟨[.one (.int .i64),.one (.int .i64)],[],0⟩
def QA (a b:Int):Int := bif decide (a.tmod b < 0) then IntKind.i64.wrap (a.tmod b + b) else a.tmod b
def JSP (b:Int):List Prop := [b ≠ 0]
theorem Jsb (a b:Int) (hNeeds:∀ pN ∈ (JSP b),pN):Runs (Js (JB Jd8) L0 16) (JOT.args [.i a,.i b]) (JOT.memo [.i a,.i b] []) JOT.n (SV.one (Ci (QA a b))) ([]) :=
  Runs.of1 (ps := (JSP b)) (by kernel_rfl) hNeeds
def Jdd:List Pm → Qr → Option CRes
  | [.i a,.i b],[] => some ⟨SV.one (Ci (QA a b)),
 [],(JSP b),[],14⟩
  | _,_ => none
theorem Jwq:Qk Tryz.prog 16 (JS JOT Jdd) := by
  refine JH (JD JTm 16) fun ps ls r hr hn _ => ?_
  unfold Jdd at hr
  split at hr
  · cases hr; exact ⟨_,Jsb _ _ hn,fun _ => rfl⟩
  · cases hr
def Jrq:List (Nat × JW) := (16,JS JOT Jdd) :: Jd8
theorem Jcl:Known Tryz.prog (JB Jrq) L0 := J7 JTm Jwq
def zc:Tpl := ⟨[.one (.int .i64),.one (.int .i64),.one (.int .i64)],[],0⟩
def JFl (a b c:Int):Int := IntKind.i64.wrap (b + QA a (IntKind.i64.wrap (IntKind.i64.wrap (c - b) + 1)))
def JEV (b c:Int):List Prop := [IntKind.i64.wrap (IntKind.i64.wrap (c - b) + 1) ≠ 0]
theorem Jdp (a b c:Int) (hNeeds:∀ pN ∈ (JEV b c),pN):Runs (Js (JB Jrq) L0 17) (zc.args [.i a,.i b,.i c]) (zc.memo [.i a,.i b,.i c] []) zc.n (SV.one (Ci (JFl a b c))) ([]) :=
  Runs.of1 (ps := (JEV b c)) (by kernel_rfl) hNeeds
def JIb:List Pm → Qr → Option CRes
  | [.i a,.i b,.i c],[] => some ⟨SV.one (Ci (JFl a b c)),
 [],(JEV b c),[],24⟩
  | _,_ => none
theorem Jli:Qk Tryz.prog 17 (JS zc JIb) := by
  refine JH (JD Jcl 17) fun ps ls r hr hn _ => ?_
  unfold JIb at hr
  split at hr
  · cases hr; exact ⟨_,Jdp _ _ _ hn,fun _ => rfl⟩
  · cases hr
def JQH:List (Nat × JW) := (17,JS zc JIb) :: Jrq
theorem JLA:Known Tryz.prog (JB JQH) L0 := J7 Jcl Jli
section
variable (x:Int) (t:Nat) (v:SV)
def ent:Ent:= ⟨[],[],t,v⟩
def I:SC:= .int .i64 (.v x)
def U:SC:= .int .u64 (.v x)
end
theorem W4 {x:Int} (h1:0 ≤ x) (h2:x < 18446744073709551616):IntKind.u64.wrap x = x := by
  unfold IntKind.wrap
  simp only [IntKind.bits,IntKind.signed]
  simp
  omega
theorem JB5 (x:Int):IntKind.u64.wrap x = x % 18446744073709551616 := by
  unfold IntKind.wrap
  simp only [IntKind.bits,IntKind.signed]
  simp
theorem JJi (a0 a1 b0 b1:Int) (h0:0 ≤ a0 ∧ a0 < 4294967296) (h1:0 ≤ a1 ∧ a1 < 4294967296) (h2:0 ≤ b0 ∧ b0 < 4294967296) (h3:0 ≤ b1 ∧ b1 < 4294967296) :
    a1 * b1 + (a1 * b0 + a0 * b0 / 4294967296) / 4294967296 + ((a1 * b0 + a0 * b0 / 4294967296) % 4294967296 + a0 * b1) / 4294967296 = ((a1 * 4294967296 + a0) * (b1 * 4294967296 + b0)) / 18446744073709551616 := by
  have e:(a1 * 4294967296 + a0) * (b1 * 4294967296 + b0) = a1 * b1 * 18446744073709551616 + (a1 * b0) * 4294967296 + (a0 * b1) * 4294967296 + a0 * b0 := by
    simp only [Int.add_mul,Int.mul_add]
    have e1:a1 * 4294967296 * (b1 * 4294967296) = a1 * b1 * 18446744073709551616 := by
      rw [Int.mul_assoc,Int.mul_comm 4294967296 (b1 * 4294967296),Int.mul_assoc b1,← Int.mul_assoc]; rfl
    have e2:a1 * 4294967296 * b0 = a1 * b0 * 4294967296 := by rw [Int.mul_assoc,Int.mul_comm 4294967296 b0,Int.mul_assoc]
    have e3:a0 * (b1 * 4294967296) = a0 * b1 * 4294967296 := by rw [Int.mul_assoc]
    rw [e1,e2,e3]; omega
  rw [e]
  have n1:0 ≤ a1 * b1 := Int.mul_nonneg h1.1 h3.1
  have n2:0 ≤ a1 * b0 := Int.mul_nonneg h1.1 h2.1
  have n3:0 ≤ a0 * b1 := Int.mul_nonneg h0.1 h3.1
  have n4:0 ≤ a0 * b0 := Int.mul_nonneg h0.1 h2.1
  generalize a1 * b1 = p at *
  generalize a1 * b0 = q at *
  generalize a0 * b1 = r at *
  generalize a0 * b0 = s at *
  omega
theorem JX8 (x:Int) (h:0 ≤ x):JU .shr .u64 x 32 = x / 4294967296 := by
  have e:(2:Int) ^ min (32:Int).toNat IntKind.u64.bits = 4294967296 := by decide
  unfold JU
  simp only [e]
  exact Int.fdiv_eq_ediv_of_nonneg _ (by omega)
theorem JhE (x:Int) (h1:0 ≤ x) (h2:x < 18446744073709551616):Zi .and .u64 x 4294967295 = x % 4294967296 := by
  obtain ⟨n,rfl⟩ := Int.eq_ofNat_of_zero_le h1
  have h3:n < 18446744073709551616 := by omega
  have e:(BitVec.ofInt 64 (n:Int) &&& BitVec.ofInt 64 4294967295).toNat = n % 4294967296 := by
    rw [BitVec.toNat_and]
    have e1:(BitVec.ofInt 64 (n:Int)).toNat = n := by simp [BitVec.toNat_ofInt]; omega
    have e2:(BitVec.ofInt 64 (4294967295:Int)).toNat = 2 ^ 32 - 1 := by decide
    rw [e1,e2,Nat.and_two_pow_sub_one_eq_mod]
  show IntKind.u64.wrap ((BitVec.ofInt 64 (n:Int) &&& BitVec.ofInt 64 4294967295).toNat:Int) = _
  rw [e,W4 (by omega) (by omega)]
  omega
theorem Kk {x y:Int} (m n:Int) (hx:0 ≤ x ∧ x ≤ m) (hy:0 ≤ y ∧ y ≤ n) (hm:0 ≤ m):0 ≤ x * y ∧ x * y ≤ m * n :=
  ⟨Int.mul_nonneg hx.1 hy.1,Int.mul_le_mul hx.2 hy.2 hy.1 hm⟩
theorem ku (a b:Int):Qe a b = a * b % 18446744073709551616 := JB5 _
theorem zT (a b:Int) (ha:0 ≤ a ∧ a < 18446744073709551616) (hb:0 ≤ b ∧ b < 18446744073709551616):QM a b = a * b / 18446744073709551616 := by
  have a0:0 ≤ a % 4294967296 ∧ a % 4294967296 < 4294967296 := by omega
  have a1:0 ≤ a / 4294967296 ∧ a / 4294967296 < 4294967296 := by omega
  have b0:0 ≤ b % 4294967296 ∧ b % 4294967296 < 4294967296 := by omega
  have b1:0 ≤ b / 4294967296 ∧ b / 4294967296 < 4294967296 := by omega
  have ea:a = a / 4294967296 * 4294967296 + a % 4294967296 := by omega
  have eb:b = b / 4294967296 * 4294967296 + b % 4294967296 := by omega
  have hh := JJi _ _ _ _ a0 a1 b0 b1
  rw [← ea,← eb] at hh
  rw [← hh]
  unfold QM JWL
  rw [JhE a ha.1 ha.2,JhE b hb.1 hb.2,JX8 a ha.1,JX8 b hb.1]
  generalize a % 4294967296 = x0 at *
  generalize a / 4294967296 = x1 at *
  generalize b % 4294967296 = y0 at *
  generalize b / 4294967296 = y1 at *
  have p1 := Kk (x := x1) (y := y1) 4294967295 4294967295 (by omega) (by omega) (by omega)
  have p2 := Kk (x := x1) (y := y0) 4294967295 4294967295 (by omega) (by omega) (by omega)
  have p3 := Kk (x := x0) (y := y1) 4294967295 4294967295 (by omega) (by omega) (by omega)
  have p4 := Kk (x := x0) (y := y0) 4294967295 4294967295 (by omega) (by omega) (by omega)
  generalize x1 * y1 = p at *
  generalize x1 * y0 = q at *
  generalize x0 * y1 = r at *
  generalize x0 * y0 = s at *
  rw [W4 (x := s) (by omega) (by omega),W4 (x := q) (by omega) (by omega),W4 (x := p) (by omega) (by omega),W4 (x := r) (by omega) (by omega),JX8 s (by omega),W4 (x := q + s / 4294967296) (by omega) (by omega),
    JX8 _ (by omega),JhE _ (by omega) (by omega),W4 (x := p + _) (by omega) (by omega),W4 (x := _ % _ + r) (by omega) (by omega),JX8 _ (by omega),W4 (by omega) (by omega)]
def KC (x y:Int):Int := if x < y then -1 else if x = y then 0 else 1
abbrev XY (x:Int):Prop := -9223372036854775808 ≤ x ∧ x < 9223372036854775808
theorem X7 {x:Int} (h1:-9223372036854775808 ≤ x) (h2:x < 9223372036854775808):IntKind.i64.wrap x = x := by
  unfold IntKind.wrap
  simp only [IntKind.bits,IntKind.signed]
  simp
  omega
theorem Xw (a:Int) (h:XY a):J6 a = if a < 0 then -a else a := by
  obtain ⟨h1,h2⟩ := h
  unfold J6
  by_cases hn:a < 0
  · rw [decide_eq_true hn,cond_true,if_pos hn,X7 (x := a + 1) (by omega) (by omega),X7 (x := 0 - (a + 1)) (by omega) (by omega),W4 (x := 0 - (a + 1)) (by omega) (by omega),W4 (by omega) (by omega)]
    omega
  · rw [decide_eq_false hn,cond_false,if_neg hn,W4 (by omega) (by omega)]
theorem JK2 (a b:Int):(Qi a b = 0 ∧ a * b = 0) ∨ (Qi a b = 1 ∧ 0 < a * b ∧ (if a < 0 then -a else a) * (if b < 0 then -b else b) = a * b) ∨ (Qi a b = -1 ∧ a * b < 0 ∧ (if a < 0 then -a else a) * (if b < 0 then -b else b) = -(a * b)) := by
  unfold Qi
  by_cases ha:a = 0
  · subst ha; exact .inl ⟨rfl,Int.zero_mul _⟩
  by_cases hb:b = 0
  · subst hb; exact .inl ⟨by simp,Int.mul_zero _⟩
  have e:(a == 0 || b == 0) = false := by simp [ha,hb]
  rw [e,cond_false]
  right
  by_cases h1:a < 0 <;> by_cases h2:b < 0
  · refine .inl ⟨by simp [h1,h2],?_,?_⟩
    · exact Int.mul_pos_of_neg_of_neg h1 h2
    · rw [if_pos h1,if_pos h2,Int.neg_mul_neg]
  · refine .inr ⟨by simp [h1,h2],?_,?_⟩
    · exact Int.mul_neg_of_neg_of_pos h1 (by omega)
    · rw [if_pos h1,if_neg h2,Int.neg_mul]
  · refine .inr ⟨by simp [h1,h2],?_,?_⟩
    · exact Int.mul_neg_of_pos_of_neg (by omega) h2
    · rw [if_neg h1,if_pos h2,Int.mul_neg]
  · refine .inl ⟨by simp [h1,h2],?_,?_⟩
    · exact Int.mul_pos (by omega) (by omega)
    · rw [if_neg h1,if_neg h2]
theorem Jgg (x y:Int) (hx:0 ≤ x) (hy:0 ≤ y):JKi (x / 18446744073709551616) (x % 18446744073709551616) (y / 18446744073709551616) (y % 18446744073709551616) = KC x y := by
  unfold JKi KC
  by_cases h:x < y
  · rw [if_pos h]
    have:(decide (x / 18446744073709551616 < y / 18446744073709551616) || x / 18446744073709551616 == y / 18446744073709551616 && decide (x % 18446744073709551616 < y % 18446744073709551616)) = true := by
      simp only [Bool.or_eq_true,Bool.and_eq_true,decide_eq_true_eq,beq_iff_eq]; omega
    rw [this]; rfl
  · rw [if_neg h]
    have:(decide (x / 18446744073709551616 < y / 18446744073709551616) || x / 18446744073709551616 == y / 18446744073709551616 && decide (x % 18446744073709551616 < y % 18446744073709551616)) = false := by
      rw [Bool.eq_false_iff]
      simp only [ne_eq,Bool.or_eq_true,Bool.and_eq_true,decide_eq_true_eq,beq_iff_eq]; omega
    rw [this,cond_false]
    by_cases h2:x = y
    · subst h2; simp
    · rw [if_neg h2]
      have:(x / 18446744073709551616 == y / 18446744073709551616 && x % 18446744073709551616 == y % 18446744073709551616) = false := by
        rw [Bool.eq_false_iff]
        simp only [ne_eq,Bool.and_eq_true,beq_iff_eq]; omega
      rw [this]; rfl
theorem Jfj (a b c d:Int) (ha:XY a) (hb:XY b) (hc:XY c) (hd:XY d):JLx a b c d = KC (a * b) (c * d) := by
  unfold JLx
  rw [Xw a ha,Xw b hb,Xw c hc,Xw d hd]
  have r:∀ x:Int,XY x → 0 ≤ (if x < 0 then -x else x) ∧ (if x < 0 then -x else x) < 18446744073709551616 := fun x hx => by
    obtain ⟨h1,h2⟩ := hx
    split <;> omega
  rw [zT _ _ (r a ha) (r b hb),ku,zT _ _ (r c hc) (r d hd),ku]
  have x0 := Int.mul_nonneg (r a ha).1 (r b hb).1
  have y0 := Int.mul_nonneg (r c hc).1 (r d hd).1
  rw [Jgg _ _ x0 y0]
  have s1 := JK2 a b
  have s2 := JK2 c d
  generalize (if a < 0 then -a else a) * (if b < 0 then -b else b) = X at *
  generalize (if c < 0 then -c else c) * (if d < 0 then -d else d) = Y at *
  generalize a * b = P at *
  generalize c * d = Q at *
  have w:∀ x:Int,-1 ≤ x ∧ x ≤ 1 → IntKind.i64.wrap x = x := fun x h => X7 (by omega) (by omega)
  have hcm:KC X Y = -1 ∧ X < Y ∨ KC X Y = 0 ∧ X = Y ∨ KC X Y = 1 ∧ Y < X := by unfold KC; (repeat' split) <;> omega
  have hcp:KC P Q = -1 ∧ P < Q ∨ KC P Q = 0 ∧ P = Q ∨ KC P Q = 1 ∧ Q < P := by unfold KC; (repeat' split) <;> omega
  generalize KC X Y = m at *
  generalize KC P Q = n at *
  rcases s1 with ⟨e1,p1⟩ | ⟨e1,p1,q1⟩ | ⟨e1,p1,q1⟩ <;> rcases s2 with ⟨e2,p2⟩ | ⟨e2,p2,q2⟩ | ⟨e2,p2,q2⟩ <;> rw [e1,e2]
  · show IntKind.i64.wrap (0 * m) = n; rw [w _ (by omega)]; omega
  · show (-1:Int) = n; omega
  · show (1:Int) = n; omega
  · show (1:Int) = n; omega
  · show IntKind.i64.wrap (1 * m) = n; rw [w _ (by omega)]; omega
  · show (1:Int) = n; omega
  · show (-1:Int) = n; omega
  · show (-1:Int) = n; omega
  · show IntKind.i64.wrap (-1 * m) = n; rw [w _ (by omega)]; omega
abbrev Dg := LL
def dg (xs:Dg) (i:Nat):Int := (xs.getD i []).getD 0 0
def val:Dg → Int
  | [] => 0
  | r :: rs => r.getD 0 0 + 65536 * val rs
abbrev isD (x:Int):Prop := 0 ≤ x ∧ x < 65536
def jK (xs:Dg):Prop := ∀ i,isD (dg xs i)
theorem Jdo (xs:Dg) (i:Nat):dg xs i = (xs[i]?.getD []).getD 0 0 := rfl
theorem JUq (r:List Int) (rs:Dg) (i:Nat):dg (r :: rs) (i + 1) = dg rs i := rfl
theorem JWS (v:Int):∀ (xs:Dg) (j i:Nat),j < xs.length → dg (xs.set j [v]) i = if i = j then v else dg xs i
  | [],_,_,h => by simp at h
  | r :: rs,0,0,_ => by simp [dg]
  | r :: rs,0,i + 1,_ => by simp [dg]
  | r :: rs,j + 1,0,_ => by simp [dg]
  | r :: rs,j + 1,i + 1,h => by
    have := JWS v rs j i (by simpa using h)
    rw [List.set_cons_succ,JUq,JUq,this]
    by_cases e:i = j
    · rw [if_pos e,if_pos (by omega)]
    · rw [if_neg e,if_neg (by omega)]
theorem JdL (v:Int):∀ (xs:Dg) (j:Nat),j < xs.length → val (xs.set j [v]) = val xs + (v - dg xs j) * 65536 ^ j
  | [],_,h => by simp at h
  | r :: rs,0,_ => by simp [dg,val]; omega
  | r :: rs,j + 1,h => by
    have := JdL v rs j (by simpa using h)
    rw [List.set_cons_succ,val,val,this,JUq,Int.pow_succ]
    generalize (65536:Int) ^ j = p
    generalize dg rs j = d
    grind
theorem WA:∀ (xs:Dg) (k:Nat),val (xs.take (k + 1)) = val (xs.take k) + dg xs k * 65536 ^ k
  | [],k => by simp [val,dg]
  | r :: rs,0 => by simp [val,dg]
  | r :: rs,k + 1 => by
    have := WA rs k
    rw [List.take_succ_cons,val,this,List.take_succ_cons,val,JUq,Int.pow_succ]
    generalize (65536:Int) ^ k = p
    grind
theorem zz (k:Nat):(0:Int) < 65536 ^ k := Int.pow_pos (by omega)
theorem JYL {xs:Dg} (h:jK xs):∀ k,0 ≤ val (xs.take k) ∧ val (xs.take k) < 65536 ^ k
  | 0 => by simp [val]
  | k + 1 => by
    obtain ⟨h1,h2⟩ := JYL h k
    obtain ⟨h3,h4⟩ := h k
    have hp := zz k
    rw [WA,Int.pow_succ]
    have h5:0 ≤ dg xs k * 65536 ^ k := Int.mul_nonneg h3 (by omega)
    have h6:dg xs k * 65536 ^ k ≤ 65535 * 65536 ^ k := Int.mul_le_mul_of_nonneg_right (by omega) (by omega)
    generalize dg xs k * 65536 ^ k = q at *
    generalize (65536:Int) ^ k = p at *
    omega
theorem JE4 (xs:Dg):val (xs.take xs.length) = val xs := by rw [List.take_length]
def Xq (x:Int) (B O:Dg) (i:Nat):Nat → Dg × Int
  | 0 => (O,0)
  | k + 1 => ((Xq x B O i k).1.set (i + k) [(dg (Xq x B O i k).1 (i + k) + x * dg B k + (Xq x B O i k).2) % 65536],(dg (Xq x B O i k).1 (i + k) + x * dg B k + (Xq x B O i k).2) / 65536)
theorem WN (x:Int) (B O:Dg) (i:Nat):∀ k,(Xq x B O i k).1.length = O.length
  | 0 => rfl
  | k + 1 => by rw [Xq,List.length_set,WN x B O i k]
theorem JZv {x y:Int} (hx:isD x) (hy:isD y):0 ≤ x * y ∧ x * y ≤ 4294836225 := ⟨Int.mul_nonneg hx.1 hy.1,by
  have := Int.mul_le_mul (show x ≤ 65535 by omega) (show y ≤ 65535 by omega) hy.1 (by omega)
  omega⟩
theorem JKy {x:Int} {B O:Dg} {i:Nat} (hx:isD x) (hB:jK B) (hO:jK O):∀ k,i + k ≤ O.length → jK (Xq x B O i k).1 ∧ isD (Xq x B O i k).2
  | 0,_ => ⟨hO,by show isD 0; decide⟩
  | k + 1,h => by
    obtain ⟨h1,h2,h3⟩ := JKy (i := i) hx hB hO k (by omega)
    obtain ⟨h4,h5⟩ := h1 (i + k)
    obtain ⟨h6,h7⟩ := JZv hx (hB k)
    refine ⟨fun j => ?_,?_⟩
    · rw [Xq,JWS _ _ _ _ (by rw [WN]; omega)]
      split
      · constructor <;> omega
      · exact h1 j
    · rw [Xq]
      constructor <;> simp only <;> omega
theorem JVi (x:Int) (B O:Dg) (i:Nat):∀ k j,i + k ≤ O.length → i + k ≤ j → dg (Xq x B O i k).1 j = dg O j
  | 0,_,_,_ => rfl
  | k + 1,j,h1,h2 => by rw [Xq,JWS _ _ _ _ (by rw [WN]; omega),if_neg (by omega),JVi x B O i k j (by omega) (by omega)]
theorem Jmq (x:Int) (B O:Dg) (i:Nat):∀ k,i + k ≤ O.length → val (Xq x B O i k).1 + (Xq x B O i k).2 * 65536 ^ (i + k) = val O + x * val (B.take k) * 65536 ^ i
  | 0,_ => by simp [Xq,val]
  | k + 1,h => by
    have ih := Jmq x B O i k (by omega)
    rw [Xq,WA,JdL _ _ _ (by rw [WN]; omega)]
    rw [← Nat.add_assoc,Int.pow_succ]
    have e:(65536:Int) ^ (i + k) = 65536 ^ i * 65536 ^ k := Int.pow_add _ _ _
    have dm := Int.mul_ediv_add_emod (dg (Xq x B O i k).1 (i + k) + x * dg B k + (Xq x B O i k).2) 65536
    generalize (dg (Xq x B O i k).1 (i + k) + x * dg B k + (Xq x B O i k).2) % 65536 = m at *
    generalize (dg (Xq x B O i k).1 (i + k) + x * dg B k + (Xq x B O i k).2) / 65536 = q at *
    generalize dg (Xq x B O i k).1 (i + k) = d at *
    generalize (Xq x B O i k).2 = c at *
    generalize val (Xq x B O i k).1 = v at *
    generalize dg B k = b at *
    generalize val (B.take k) = t at *
    rw [e] at ih ⊢
    generalize (65536:Int) ^ i = p at *
    generalize (65536:Int) ^ k = r at *
    simp only
    grind
def Z1 (A B:Dg):Nat → Dg
  | 0 => List.replicate (A.length + B.length) [0]
  | i + 1 => (Xq (dg A i) B (Z1 A B i) i B.length).1.set (i + B.length) [dg (Xq (dg A i) B (Z1 A B i) i B.length).1 (i + B.length) + (Xq (dg A i) B (Z1 A B i) i B.length).2]
theorem Xe (A B:Dg):∀ i,(Z1 A B i).length = A.length + B.length
  | 0 => by simp [Z1]
  | i + 1 => by rw [Z1,List.length_set,WN,Xe A B i]
theorem JqV (n i:Nat):dg (List.replicate n [0]) i = 0 := by
  rw [Jdo,List.getElem?_replicate]
  split <;> rfl
theorem Jn7:∀ n,val (List.replicate n [0]) = 0
  | 0 => rfl
  | n + 1 => by rw [List.replicate_succ,val,Jn7 n]; rfl
theorem Jho {A B:Dg}:∀ i j,i ≤ A.length → i + B.length ≤ j → dg (Z1 A B i) j = 0
  | 0,j,_,_ => JqV _ _
  | i + 1,j,h1,h2 => by
    rw [Z1,JWS _ _ _ _ (by rw [WN,Xe]; omega),if_neg (by omega),JVi _ _ _ _ _ _ (by rw [Xe]; omega) (by omega),Jho i j (by omega) (by omega)]
theorem JCS {A B:Dg} (hA:jK A) (hB:jK B):∀ i,i ≤ A.length → jK (Z1 A B i)
  | 0,_ => fun j => by rw [Z1,JqV]; decide
  | i + 1,h => by
    have ih := JCS hA hB i (by omega)
    have hl := Xe A B i
    obtain ⟨h1,h2⟩ := JKy (hA i) hB ih B.length (i := i) (by omega)
    intro j
    rw [Z1,JWS _ _ _ _ (by rw [WN]; omega)]
    split
    · rw [JVi _ _ _ _ _ _ (by omega) (by omega),Jho i _ (by omega) (by omega),Int.zero_add]; exact h2
    · exact h1 j
theorem Ja4 {A B:Dg}:∀ i,i ≤ A.length → val (Z1 A B i) = val (A.take i) * val B
  | 0,_ => by simp [Z1,Jn7,val]
  | i + 1,h => by
    have ih := Ja4 (A := A) (B := B) i (by omega)
    have hl := Xe A B i
    have hv := Jmq (dg A i) B (Z1 A B i) i B.length (by omega)
    rw [Z1,JdL _ _ _ (by rw [WN]; omega),WA]
    rw [JE4,ih] at hv
    generalize dg (Xq (dg A i) B (Z1 A B i) i B.length).1 (i + B.length) = d at *
    generalize (Xq (dg A i) B (Z1 A B i) i B.length).2 = c at *
    generalize val (Xq (dg A i) B (Z1 A B i) i B.length).1 = v at *
    generalize (65536:Int) ^ (i + B.length) = q at *
    generalize (65536:Int) ^ i = p at *
    generalize val (A.take i) = t at *
    generalize val B = s at *
    generalize dg A i = x at *
    grind
def JEZ (xs:Dg):Nat → Nat
  | 0 => 0
  | j + 1 => bif dg xs j == 0 then JEZ xs j else j + 1
theorem JKx (xs:Dg):∀ n,JEZ xs n ≤ n
  | 0 => Nat.le_refl _
  | n + 1 => by
    have := JKx xs n
    unfold JEZ
    cases dg xs n == 0
    · exact Nat.le_refl _
    · exact Nat.le_succ_of_le this
theorem JhG (xs:Dg):∀ n,val (xs.take (JEZ xs n)) = val (xs.take n)
  | 0 => rfl
  | n + 1 => by
    rw [JEZ,WA]
    cases h:dg xs n == 0
    · rw [cond_false,WA]
    · rw [cond_true,JhG xs n,beq_iff_eq.1 h]; simp
theorem Jgl (xs:Dg):∀ n,JEZ xs n ≠ 0 → dg xs (JEZ xs n - 1) ≠ 0
  | 0,h => absurd rfl h
  | n + 1,h => by
    rw [JEZ] at h ⊢
    cases h1:dg xs n == 0
    · rw [cond_false]
      simpa using h1
    · rw [h1,cond_true] at h
      rw [cond_true]; exact Jgl xs n h
def JEv (xs:Dg):Dg := xs.take (JEZ xs xs.length)
theorem JIA (xs:Dg):(JEv xs).length = JEZ xs xs.length := by
  have := JKx xs xs.length
  simp [JEv]; omega
theorem Jhv (xs:Dg):val (JEv xs) = val xs := by rw [JEv,JhG,JE4]
theorem Jda (xs:Dg) (n i:Nat):dg (xs.take n) i = if i < n then dg xs i else 0 := by
  rw [Jdo,Jdo,List.getElem?_take]
  split
  · rfl
  · rfl
theorem JgG {xs:Dg} (h:jK xs):jK (JEv xs) := fun i => by
  rw [JEv,Jda]
  split
  · exact h i
  · decide
def JHP (xs:Dg):Prop := xs.length ≠ 0 → dg xs (xs.length - 1) ≠ 0
theorem JbK (xs:Dg):JHP (JEv xs) := fun h => by
  rw [JIA] at h ⊢
  rw [JEv,Jda,if_pos (by omega)]
  exact Jgl xs _ h
def JF7 (A B:Dg):Nat → Int
  | 0 => 0
  | j + 1 => bif decide (dg A j < dg B j) then -1 else bif decide (dg B j < dg A j) then 1 else JF7 A B j
theorem JeZ {x y:Int} (h:x < y):KC x y = -1 := by unfold KC; rw [if_pos h]
theorem Je4 {x y:Int} (h:y < x):KC x y = 1 := by unfold KC; rw [if_neg (by omega),if_neg (by omega)]
theorem Jpx (x:Int):KC x x = 0 := by unfold KC; rw [if_neg (by omega),if_pos rfl]
theorem Jmc {a b p x y:Int} (h:a < b) (hp:0 < p) (hx:x < p) (hy:0 ≤ y):x + a * p < y + b * p := by
  have := Int.mul_le_mul_of_nonneg_right (show a + 1 ≤ b by omega) (show 0 ≤ p by omega)
  rw [Int.add_mul] at this
  omega
theorem Jqt (x y z:Int):KC (x + z) (y + z) = KC x y := by
  unfold KC
  by_cases h:x < y
  · rw [if_pos h,if_pos (by omega)]
  · rw [if_neg h,if_neg (by omega)]
    by_cases h:x = y
    · rw [if_pos h,if_pos (by omega)]
    · rw [if_neg h,if_neg (by omega)]
theorem JmS {A B:Dg} (hA:jK A) (hB:jK B):∀ n,JF7 A B n = KC (val (A.take n)) (val (B.take n))
  | 0 => by simp [JF7,val,KC]
  | n + 1 => by
    obtain ⟨a1,a2⟩ := JYL hA n
    obtain ⟨b1,b2⟩ := JYL hB n
    have hp := zz n
    rw [JF7,WA,WA]
    by_cases h1:dg A n < dg B n
    · rw [decide_eq_true h1,cond_true,JeZ (Jmc h1 hp a2 b1)]
    · rw [decide_eq_false h1,cond_false]
      by_cases h2:dg B n < dg A n
      · rw [decide_eq_true h2,cond_true,Je4 (Jmc h2 hp b2 a1)]
      · rw [decide_eq_false h2,cond_false,show dg A n = dg B n by omega,Jqt,JmS hA hB n]
theorem JsD {xs:Dg} (h:jK xs) (hn:JHP xs) {k:Nat} (hk:k < xs.length):65536 ^ k ≤ val xs := by
  obtain ⟨m,hm⟩:∃ m,xs.length = m + 1 := ⟨xs.length - 1,by omega⟩
  rw [← JE4 xs,hm,WA]
  obtain ⟨a1,_⟩ := JYL h m
  have h1 := hn (by omega)
  rw [hm,Nat.add_sub_cancel] at h1
  have h2 := (h m).1
  have hp:(65536:Int) ^ k ≤ 65536 ^ m := by
    obtain ⟨d,hd⟩:∃ d,m = k + d := ⟨m - k,by omega⟩
    rw [hd,Int.pow_add]
    have h3:(1:Int) ≤ 65536 ^ d := by have := zz d; omega
    have := Int.mul_le_mul_of_nonneg_left h3 (show (0:Int) ≤ 65536 ^ k from Int.le_of_lt (zz k))
    omega
  have h4 := Int.mul_le_mul_of_nonneg_right (show 1 ≤ dg xs m by omega) (show (0:Int) ≤ 65536 ^ m from Int.le_of_lt (zz m))
  omega
theorem JOB {xs:Dg} (h:jK xs):0 ≤ val xs ∧ val xs < 65536 ^ xs.length := by rw [← JE4 xs]; simpa using JYL h xs.length
def JFt (A B:Dg):Int := bif Int.ofNat A.length != Int.ofNat B.length then (bif decide (Int.ofNat A.length < Int.ofNat B.length) then -1 else 1) else JF7 A B A.length
theorem JO4 {A B:Dg} (hA:jK A) (hB:jK B) (nA:JHP A) (nB:JHP B):JFt A B = KC (val A) (val B) := by
  unfold JFt
  obtain ⟨_,a2⟩ := JOB hA
  obtain ⟨_,b2⟩ := JOB hB
  by_cases h:A.length = B.length
  · rw [h]
    simp only [bne_self_eq_false,cond_false]
    rw [JmS hA hB]
    have := JE4 A
    rw [h] at this
    rw [this,JE4]
  · have:(Int.ofNat A.length != Int.ofNat B.length) = true := by simp; omega
    rw [this,cond_true]
    by_cases h2:A.length < B.length
    · rw [decide_eq_true (by simpa using h2),cond_true]
      have := JsD hB nB h2
      rw [JeZ (by omega)]
    · rw [decide_eq_false (by simpa using h2),cond_false]
      have := JsD hA nA (show B.length < A.length by omega)
      rw [Je4 (by omega)]
def jD (n:Int) (j:Nat):Dg := (List.range j).map fun i => [n / 65536 ^ i % 65536]
theorem KX (n:Int) (j:Nat):(jD n j).length = j := by simp [jD]
theorem Jc8 (n:Int) (j:Nat):jD n (j + 1) = jD n j ++ [[n / 65536 ^ j % 65536]] := by
  unfold jD
  rw [List.range_succ,List.map_append]
  rfl
theorem JdW (n:Int) (j i:Nat):dg (jD n j) i = if i < j then n / 65536 ^ i % 65536 else 0 := by
  rw [Jdo]
  unfold jD
  rw [List.getElem?_map]
  by_cases h:i < j
  · rw [List.getElem?_range h,if_pos h]; rfl
  · rw [List.getElem?_eq_none (by simp; omega),if_neg h]; rfl
theorem Km (n:Int) (j:Nat):jK (jD n j) := fun i => by
  rw [JdW]
  split
  · constructor <;> omega
  · decide
theorem JfD (n:Int) (j:Nat):n / 65536 ^ (j + 1) = n / 65536 ^ j / 65536 := by
  rw [Int.pow_succ,Int.ediv_ediv_of_nonneg (Int.le_of_lt (zz j))]
theorem Jh3 (n:Int):∀ j,val (jD n j) + n / 65536 ^ j * 65536 ^ j = n
  | 0 => by simp [jD,val]
  | j + 1 => by
    have ih := Jh3 n j
    have e:val (jD n (j + 1)) = val (jD n j) + n / 65536 ^ j % 65536 * 65536 ^ j := by
      have := WA (jD n (j + 1)) j
      rw [JdW,if_pos (by omega)] at this
      have h1:(jD n (j + 1)).take (j + 1) = jD n (j + 1) := List.take_of_length_le (by rw [KX]; omega)
      have h2:(jD n (j + 1)).take j = jD n j := by
        rw [Jc8,List.take_append_of_le_length (by rw [KX]; omega),List.take_of_length_le (by rw [KX]; omega)]
      rw [h1,h2] at this
      exact this
    rw [e,JfD,Int.pow_succ]
    have dm := Int.mul_ediv_add_emod (n / 65536 ^ j) 65536
    generalize n / 65536 ^ j / 65536 = q at *
    generalize n / 65536 ^ j % 65536 = m at *
    generalize n / 65536 ^ j = s at *
    generalize val (jD n j) = v at *
    generalize (65536:Int) ^ j = p at *
    grind
def nd (n:Int):Nat := bif decide (0 < n) then (bif decide (0 < n / 65536 ^ 1) then (bif decide (0 < n / 65536 ^ 2) then (bif decide (0 < n / 65536 ^ 3) then 4 else 3) else 2) else 1) else 0
theorem Js5 {n:Int} (h:0 ≤ n) (h2:n < 18446744073709551616):(nd n = 0 ∧ n = 0) ∨ (nd n = 1 ∧ 0 < n ∧ n < 65536) ∨ (nd n = 2 ∧ 65536 ≤ n ∧ n < 4294967296) ∨ (nd n = 3 ∧ 4294967296 ≤ n ∧ n < 281474976710656) ∨ (nd n = 4 ∧ 281474976710656 ≤ n) := by
  unfold nd
  have e1:(65536:Int) ^ 1 = 65536 := rfl
  have e2:(65536:Int) ^ 2 = 4294967296 := rfl
  have e3:(65536:Int) ^ 3 = 281474976710656 := rfl
  rw [e1,e2,e3]
  by_cases k0:0 < n
  · by_cases k1:0 < n / 65536
    · by_cases k2:0 < n / 4294967296
      · by_cases k3:0 < n / 281474976710656
        · rw [decide_eq_true k0,decide_eq_true k1,decide_eq_true k2,decide_eq_true k3]; exact .inr (.inr (.inr (.inr ⟨rfl,by omega⟩)))
        · rw [decide_eq_true k0,decide_eq_true k1,decide_eq_true k2,decide_eq_false k3]; exact .inr (.inr (.inr (.inl ⟨rfl,by omega,by omega⟩)))
      · rw [decide_eq_true k0,decide_eq_true k1,decide_eq_false k2]; exact .inr (.inr (.inl ⟨rfl,by omega,by omega⟩))
    · rw [decide_eq_true k0,decide_eq_false k1]; exact .inr (.inl ⟨rfl,by omega,by omega⟩)
  · rw [decide_eq_false k0]; exact .inl ⟨rfl,by omega⟩
theorem Y2 {n:Int} (h:0 ≤ n) (h2:n < 18446744073709551616) {j:Nat} (hj:j ≤ 4):(0 < n / 65536 ^ j ↔ j < nd n) ∧ nd n ≤ 4 := by
  have e0:(65536:Int) ^ 0 = 1 := rfl
  have e1:(65536:Int) ^ 1 = 65536 := rfl
  have e2:(65536:Int) ^ 2 = 4294967296 := rfl
  have e3:(65536:Int) ^ 3 = 281474976710656 := rfl
  have e4:(65536:Int) ^ 4 = 18446744073709551616 := rfl
  have hc := Js5 h h2
  generalize nd n = k at *
  have:j = 0 ∨ j = 1 ∨ j = 2 ∨ j = 3 ∨ j = 4 := by omega
  rcases this with rfl | rfl | rfl | rfl | rfl <;> simp only [e0,e1,e2,e3,e4] <;> refine ⟨⟨fun _ => ?_,fun _ => ?_⟩,?_⟩ <;> omega
def JA (n:Int):Dg := jD n (nd n)
theorem JKG {n:Int} (h:0 ≤ n) (h2:n < 18446744073709551616):val (JA n) = n := by
  have h4 := (Y2 h h2 (j := 0) (by omega)).2
  have h3 := (Y2 h h2 h4).1
  have := Jh3 n (nd n)
  have h5:¬ 0 < n / 65536 ^ nd n := fun h => by have := h3.1 h; omega
  have h6:0 ≤ n / 65536 ^ nd n := Int.ediv_nonneg h (Int.le_of_lt (zz _))
  rw [show n / 65536 ^ nd n = 0 by omega,Int.zero_mul,Int.add_zero] at this
  exact this
def JWh (a b:Int):Dg := JEv (Z1 (JA a) (JA b) (JA a).length)
theorem JCK {a b:Int} (ha:0 ≤ a ∧ a < 18446744073709551616) (hb:0 ≤ b ∧ b < 18446744073709551616):jK (JWh a b) ∧ JHP (JWh a b) ∧ val (JWh a b) = a * b := by
  refine ⟨JgG (JCS (Km _ _) (Km _ _) _ (Nat.le_refl _)),JbK _,?_⟩
  unfold JWh
  rw [Jhv,Ja4 _ (Nat.le_refl _),JE4,JKG ha.1 ha.2,JKG hb.1 hb.2]
theorem Jrt (x:Int) (h:0 ≤ x):JU .shr .u64 x 16 = x / 65536 := by
  have e:(2:Int) ^ min (16:Int).toNat IntKind.u64.bits = 65536 := by decide
  unfold JU
  simp only [e]
  exact Int.fdiv_eq_ediv_of_nonneg _ (by omega)
theorem JrX (x:Int) (h1:0 ≤ x) (h2:x < 18446744073709551616):Zi .and .u64 x 65535 = x % 65536 := by
  obtain ⟨n,rfl⟩ := Int.eq_ofNat_of_zero_le h1
  have h3:n < 18446744073709551616 := by omega
  have e:(BitVec.ofInt 64 (n:Int) &&& BitVec.ofInt 64 65535).toNat = n % 65536 := by
    rw [BitVec.toNat_and]
    have e1:(BitVec.ofInt 64 (n:Int)).toNat = n := by simp [BitVec.toNat_ofInt]; omega
    have e2:(BitVec.ofInt 64 (65535:Int)).toNat = 2 ^ 16 - 1 := by decide
    rw [e1,e2,Nat.and_two_pow_sub_one_eq_mod]
  show IntKind.u64.wrap ((BitVec.ofInt 64 (n:Int) &&& BitVec.ofInt 64 65535).toNat:Int) = _
  rw [e,W4 (by omega) (by omega)]
  omega
theorem Jv3 {n:Int} (h:0 ≤ n) (h2:n < 18446744073709551616) (j:Nat):0 ≤ n / 65536 ^ j ∧ n / 65536 ^ j < 18446744073709551616 := by
  have hp := zz j
  refine ⟨Int.ediv_nonneg h (by omega),Int.lt_of_le_of_lt (Int.ediv_le_self _ h) h2⟩
def fr (T:Nat) (x:Int):Nat → Int
  | 0 => 0
  | j + 1 => bif decide ((fr T x j + 2 ^ (T - 1 - j)) * (fr T x j + 2 ^ (T - 1 - j)) ≤ x) then fr T x j + 2 ^ (T - 1 - j) else fr T x j
theorem KU (k:Nat):(0:Int) < 2 ^ k := Int.pow_pos (by omega)
theorem Ju5 {a b:Nat} (h:a ≤ b):(2:Int) ^ a ≤ 2 ^ b := by
  obtain ⟨d,rfl⟩:∃ d,b = a + d := ⟨b - a,by omega⟩
  rw [Int.pow_add]
  have h1 := KU a
  have h2 := KU d
  have := Int.mul_le_mul_of_nonneg_left (show (1:Int) ≤ 2 ^ d by omega) (show (0:Int) ≤ 2 ^ a by omega)
  omega
theorem JXt (k:Nat):(2:Int) ^ (k + 1) = 2 * 2 ^ k := by rw [Int.pow_succ]; omega
theorem Jff {T:Nat} {x:Int} (h0:0 ≤ x) (h1:x < 2 ^ T * 2 ^ T):∀ j,j ≤ T → ∃ m:Int,0 ≤ m ∧ fr T x j = 2 ^ (T - j) * m ∧ fr T x j * fr T x j ≤ x ∧ x < (fr T x j + 2 ^ (T - j)) * (fr T x j + 2 ^ (T - j)) ∧ fr T x j + 2 ^ (T - j) ≤ 2 ^ T
  | 0,_ => ⟨0,by omega,by simp [fr],by simpa [fr] using h0,by simpa [fr] using h1,by simp [fr]⟩
  | j + 1,h => by
    obtain ⟨m,m0,e,l,u,t⟩ := Jff h0 h1 j (by omega)
    have ek:T - j = (T - (j + 1)) + 1 := by omega
    have ek':T - 1 - j = T - (j + 1) := by omega
    have hp := KU (T - (j + 1))
    rw [ek,JXt] at e u t
    unfold fr
    rw [ek']
    generalize (2:Int) ^ (T - (j + 1)) = p at *
    generalize fr T x j = r at *
    by_cases hc:(r + p) * (r + p) ≤ x
    · rw [decide_eq_true hc,cond_true]
      refine ⟨2 * m + 1,by omega,by rw [e]; grind,hc,?_,by omega⟩
      have e2:r + p + p = r + 2 * p := by omega
      rw [e2]; exact u
    · rw [decide_eq_false hc,cond_false]
      exact ⟨2 * m,by omega,by rw [e]; grind,l,by omega,by omega⟩
theorem Jf9 {T:Nat} {x:Int} (h0:0 ≤ x) (h1:x < 2 ^ T * 2 ^ T):0 ≤ fr T x T ∧ fr T x T * fr T x T ≤ x ∧ x < (fr T x T + 1) * (fr T x T + 1) ∧ fr T x T + 1 ≤ 2 ^ T := by
  obtain ⟨m,m0,e,l,u,t⟩ := Jff h0 h1 T (Nat.le_refl _)
  rw [Nat.sub_self] at e u t
  have e1:(2:Int) ^ 0 = 1 := rfl
  rw [e1] at e u t
  exact ⟨by omega,l,u,t⟩
theorem Jgv {r s x:Int} (hr:0 ≤ r) (hs:0 ≤ s) (h1:r * r ≤ x) (h2:x < (r + 1) * (r + 1)) (h3:s * s ≤ x) (h4:x < (s + 1) * (s + 1)):r = s := by
  have key:∀ {a b:Int},0 ≤ a → 0 ≤ b → a * a ≤ x → x < (b + 1) * (b + 1) → a ≤ b := fun {a b} ha hb g1 g2 => by
    rcases Int.lt_or_le b a with h | h
    · have := Int.mul_le_mul (show b + 1 ≤ a by omega) (show b + 1 ≤ a by omega) (by omega) ha
      omega
    · exact h
  have := key hr hs h1 h4
  have := key hs hr h3 h2
  omega
theorem JwW {r:Int} {s:Nat} {m:Int} (hm:0 ≤ m) (hs:s < 64) (e:r = 2 ^ (s + 1) * m) (h:r + 2 ^ s < 18446744073709551616):Zi .or .u64 r (2 ^ s) = r + 2 ^ s := by
  obtain ⟨n,rfl⟩ := Int.eq_ofNat_of_zero_le hm
  have er:r = ((2 ^ (s + 1) * n:Nat):Int) := by rw [e]; push_cast; rfl
  have ep:(2:Int) ^ s = ((2 ^ s:Nat):Int) := by push_cast; rfl
  have hp:2 ^ s < 2 ^ (s + 1) := Nat.pow_lt_pow_right (by omega) (by omega)
  have hor := Nat.two_pow_add_eq_or_of_lt hp n
  rw [er,ep] at h ⊢
  generalize hq:2 ^ (s + 1) * n = q at *
  generalize hp2:2 ^ s = p at *
  have b1:q < 2 ^ 64 := by omega
  have b2:p < 2 ^ 64 := by omega
  have e1:(BitVec.ofInt 64 (q:Int)).toNat = q := by simp [BitVec.toNat_ofInt]; omega
  have e2:(BitVec.ofInt 64 (p:Int)).toNat = p := by simp [BitVec.toNat_ofInt]; omega
  have e3:(BitVec.ofInt 64 (q:Int) ||| BitVec.ofInt 64 (p:Int)).toNat = q + p := by rw [BitVec.toNat_or,e1,e2,hor]
  show IntKind.u64.wrap ((BitVec.ofInt 64 (q:Int) ||| BitVec.ofInt 64 (p:Int)).toNat:Int) = _
  rw [e3,W4 (by omega) (by omega)]
  push_cast; rfl
theorem Jnf {s:Nat} (hs:s < 64):JU .shl .u64 1 (s:Int) = 2 ^ s := by
  have hp:(2:Int) ^ s ≤ 2 ^ 63 := Ju5 (by omega)
  have hq := KU s
  have e:min ((s:Int)).toNat IntKind.u64.bits = s := by
    have:IntKind.u64.bits = 64 := rfl
    rw [this,Int.toNat_natCast]
    omega
  unfold JU
  simp only [e]
  rw [Int.one_mul,W4 (by omega) (by omega)]
theorem Jqv {T:Nat} {x:Int} (h0:0 ≤ x) (h1:x < 2 ^ T * 2 ^ T) {j:Nat} (hj:j < T) (hT:T ≤ 64):Zi .or .u64 (fr T x j) (JU .shl .u64 1 ((T - 1 - j:Nat):Int)) = fr T x j + 2 ^ (T - 1 - j) ∧ 0 ≤ fr T x j + 2 ^ (T - 1 - j) ∧ fr T x j + 2 ^ (T - 1 - j) < 18446744073709551616 := by
  obtain ⟨m,m0,e,l,u,t⟩ := Jff h0 h1 j (by omega)
  have ek:T - j = (T - 1 - j) + 1 := by omega
  have hp := KU (T - 1 - j)
  have hq:(2:Int) ^ T ≤ 2 ^ 64 := Ju5 hT
  have hr:0 ≤ fr T x j := by rw [e]; exact Int.mul_nonneg (Int.le_of_lt (KU _)) m0
  rw [ek] at e t
  rw [JXt] at t
  rw [Jnf (by omega)]
  have hb:fr T x j + 2 ^ (T - 1 - j) < 18446744073709551616 := by omega
  exact ⟨JwW m0 (by omega) e hb,by omega,hb⟩
theorem Jsa {T:Nat} {x:Int} (h0:0 ≤ x) (h1:x < 2 ^ T * 2 ^ T) {j:Nat} (hj:j ≤ T):0 ≤ fr T x j ∧ fr T x j < 2 ^ T := by
  obtain ⟨m,m0,e,l,u,t⟩ := Jff h0 h1 j hj
  have hr:0 ≤ fr T x j := by rw [e]; exact Int.mul_nonneg (Int.le_of_lt (KU _)) m0
  have := KU (T - j)
  omega
structure AdjOk (y1 y0 u32 u q r:Int):Prop where
  h1:2147483648 ≤ y1 ∧ y1 < 4294967296
  h0:0 ≤ y0 ∧ y0 < 4294967296
  hu:0 ≤ u ∧ u < 4294967296
  hn:0 ≤ u32 ∧ u32 < y1 * 4294967296 + y0
  eq:q * y1 + r = u32
  hr:0 ≤ r ∧ r < 4294967296
  ge:(u32 * 4294967296 + u) / (y1 * 4294967296 + y0) ≤ q
  q0:0 ≤ q
theorem AdjOk.ub {y1 y0 u32 u q r:Int} (h:AdjOk y1 y0 u32 u q r):q ≤ 4294967297 := by
  obtain ⟨h1,h0,hu,hn,eq,hr,ge,q0⟩ := h
  rcases Int.lt_or_le q 4294967298 with g | g
  · omega
  · have := Int.mul_le_mul_of_nonneg_right g (show 0 ≤ y1 by omega)
    omega
theorem JM3 {y1 y0 u32 u:Int} (h1:2147483648 ≤ y1 ∧ y1 < 4294967296) (h0:0 ≤ y0 ∧ y0 < 4294967296) (hu:0 ≤ u ∧ u < 4294967296) (hn:0 ≤ u32 ∧ u32 < y1 * 4294967296 + y0) :
    0 ≤ (u32 * 4294967296 + u) / (y1 * 4294967296 + y0) ∧ (u32 * 4294967296 + u) / (y1 * 4294967296 + y0) < 4294967296 := by
  have hY:0 < y1 * 4294967296 + y0 := by omega
  refine ⟨Int.ediv_nonneg (by omega) (by omega),?_⟩
  apply Int.ediv_lt_of_lt_mul hY
  have := Int.mul_le_mul_of_nonneg_right (show u32 + 1 ≤ y1 * 4294967296 + y0 by omega) (show (0:Int) ≤ 4294967296 by omega)
  omega
theorem AdjOk.fit {y1 y0 u32 u q r:Int} (h:AdjOk y1 y0 u32 u q r):0 ≤ q * y0 ∧ q * y0 < 18446744073709551616 := by
  have hq := h.ub
  have := Int.mul_nonneg h.q0 h.h0.1
  have h2 := Int.mul_le_mul hq (show y0 ≤ 4294967295 by have := h.h0; omega) h.h0.1 (by omega)
  omega
theorem JNG {y1 y0 u32 u q r:Int} (h:AdjOk y1 y0 u32 u q r) (hc:q ≥ 4294967296 ∨ q * y0 > 4294967296 * r + u):(u32 * 4294967296 + u) / (y1 * 4294967296 + y0) ≤ q - 1 := by
  have hl := JM3 h.h1 h.h0 h.hu h.hn
  obtain ⟨h1,h0,hu,hn,eq,hr,ge,q0⟩ := h
  rcases hc with hc | hc
  · omega
  · have hY:0 < y1 * 4294967296 + y0 := by omega
    have:(u32 * 4294967296 + u) / (y1 * 4294967296 + y0) < q := by
      apply Int.ediv_lt_of_lt_mul hY
      have e:q * (y1 * 4294967296 + y0) = q * y1 * 4294967296 + q * y0 := by grind
      rw [e]
      generalize q * y1 = s at *
      generalize q * y0 = t at *
      omega
    omega
theorem JYA {y1 y0 u32 u q r:Int} (h:AdjOk y1 y0 u32 u q r) (hc:q * y0 ≤ 4294967296 * r + u):q = (u32 * 4294967296 + u) / (y1 * 4294967296 + y0) := by
  obtain ⟨h1,h0,hu,hn,eq,hr,ge,q0⟩ := h
  have hY:0 < y1 * 4294967296 + y0 := by omega
  have:q ≤ (u32 * 4294967296 + u) / (y1 * 4294967296 + y0) := by
    apply Int.le_ediv_of_mul_le hY
    have e:q * (y1 * 4294967296 + y0) = q * y1 * 4294967296 + q * y0 := by grind
    rw [e]
    generalize q * y1 = s at *
    generalize q * y0 = t at *
    omega
  omega
theorem AdjOk.next {y1 y0 u32 u q r:Int} (h:AdjOk y1 y0 u32 u q r) (hc:q ≥ 4294967296 ∨ q * y0 > 4294967296 * r + u) (hr':r + y1 < 4294967296):AdjOk y1 y0 u32 u (q - 1) (r + y1) := by
  have hb := JNG h hc
  have hl := JM3 h.h1 h.h0 h.hu h.hn
  have e:(q - 1) * y1 = q * y1 - y1 := by rw [Int.sub_mul,Int.one_mul]
  exact ⟨h.h1,h.h0,h.hu,h.hn,by rw [e]; have := h.eq; omega,by have := h.hr; have := h.h1; omega,hb,by omega⟩
theorem JhD {y1 y0 u32 u q r:Int} (h:AdjOk y1 y0 u32 u q r) (hc:q ≥ 4294967296 ∨ q * y0 > 4294967296 * r + u) (hr':r + y1 ≥ 4294967296):q - 1 = (u32 * 4294967296 + u) / (y1 * 4294967296 + y0) := by
  have hb := JNG h hc
  have hq := h.ub
  have hl := JM3 h.h1 h.h0 h.hu h.hn
  obtain ⟨h1,h0,hu,hn,eq,hr,ge,q0⟩ := h
  have hY:0 < y1 * 4294967296 + y0 := by omega
  have:q - 1 ≤ (u32 * 4294967296 + u) / (y1 * 4294967296 + y0) := by
    apply Int.le_ediv_of_mul_le hY
    have e:(q - 1) * (y1 * 4294967296 + y0) = (q * y1 - y1) * 4294967296 + (q - 1) * y0 := by grind
    have h2 := Int.mul_le_mul (show q - 1 ≤ 4294967296 by omega) (show y0 ≤ 4294967295 by omega) h0.1 (by omega)
    rw [e]
    generalize q * y1 = s at *
    generalize (q - 1) * y0 = t at *
    omega
  omega
theorem Jpt {y1 y0 u32 u:Int} (h1:2147483648 ≤ y1 ∧ y1 < 4294967296) (h0:0 ≤ y0 ∧ y0 < 4294967296) (hu:0 ≤ u ∧ u < 4294967296) (hn:0 ≤ u32 ∧ u32 < y1 * 4294967296 + y0):AdjOk y1 y0 u32 u (u32 / y1) (u32 - u32 / y1 * y1) := by
  have hY:0 < y1 * 4294967296 + y0 := by omega
  have hd := Int.mul_ediv_add_emod u32 y1
  have hm1 := Int.emod_nonneg u32 (show y1 ≠ 0 by omega)
  have hm2 := Int.emod_lt_of_pos u32 (show 0 < y1 by omega)
  have hc:y1 * (u32 / y1) = u32 / y1 * y1 := Int.mul_comm _ _
  rw [hc] at hd
  refine ⟨h1,h0,hu,hn,by omega,by omega,?_,Int.ediv_nonneg hn.1 (by omega)⟩
  have:(u32 * 4294967296 + u) / (y1 * 4294967296 + y0) < u32 / y1 + 1 := by
    apply Int.ediv_lt_of_lt_mul hY
    have e:(u32 / y1 + 1) * (y1 * 4294967296 + y0) = (u32 / y1 * y1) * 4294967296 + y1 * 4294967296 + (u32 / y1 + 1) * y0 := by grind
    have := Int.mul_nonneg (show 0 ≤ u32 / y1 + 1 by have := Int.ediv_nonneg hn.1 (show 0 ≤ y1 by omega); omega) h0.1
    rw [e]
    generalize u32 / y1 * y1 = s at *
    generalize (u32 / y1 + 1) * y0 = t at *
    omega
  omega
theorem JVh {Y u32 u1 u0 q1 r1 q0:Int} (hY:0 < Y) (hn:0 ≤ u32) (h1:0 ≤ u1 ∧ u1 < 4294967296) (h0:0 ≤ u0 ∧ u0 < 4294967296) (e1:q1 = (u32 * 4294967296 + u1) / Y) (er:r1 = u32 * 4294967296 + u1 - q1 * Y) (e0:q0 = (r1 * 4294967296 + u0) / Y) :
    q1 * 4294967296 + q0 = ((u32 * 4294967296 + u1) * 4294967296 + u0) / Y ∧ r1 * 4294967296 + u0 - q0 * Y = ((u32 * 4294967296 + u1) * 4294967296 + u0) % Y ∧ 0 ≤ r1 ∧ r1 < Y := by
  have d1 := Int.mul_ediv_add_emod (u32 * 4294967296 + u1) Y
  have m1 := Int.emod_nonneg (u32 * 4294967296 + u1) (show Y ≠ 0 by omega)
  have m2 := Int.emod_lt_of_pos (u32 * 4294967296 + u1) hY
  have d0 := Int.mul_ediv_add_emod (r1 * 4294967296 + u0) Y
  have m3 := Int.emod_nonneg (r1 * 4294967296 + u0) (show Y ≠ 0 by omega)
  have m4 := Int.emod_lt_of_pos (r1 * 4294967296 + u0) hY
  rw [← e1] at d1
  rw [← e0] at d0
  have c1:Y * q1 = q1 * Y := Int.mul_comm _ _
  have c0:Y * q0 = q0 * Y := Int.mul_comm _ _
  rw [c1] at d1
  rw [c0] at d0
  have e:(u32 * 4294967296 + u1) * 4294967296 + u0 = (r1 * 4294967296 + u0 - q0 * Y) + Y * (q1 * 4294967296 + q0) := by
    have:Y * (q1 * 4294967296 + q0) = q1 * Y * 4294967296 + q0 * Y := by grind
    rw [this]
    generalize q1 * Y = s at *
    generalize q0 * Y = t at *
    omega
  have hlt:0 ≤ r1 * 4294967296 + u0 - q0 * Y ∧ r1 * 4294967296 + u0 - q0 * Y < Y := by omega
  refine ⟨?_,?_,by omega,by omega⟩
  · rw [e,Int.add_mul_ediv_left _ _ (show Y ≠ 0 by omega),Int.ediv_eq_zero_of_lt hlt.1 hlt.2]
    omega
  · rw [e,Int.add_mul_emod_self_left,Int.emod_eq_of_lt hlt.1 hlt.2]
def JGE:Tpl := ⟨[.one (.int .u64)],[],0⟩
section
variable (a:Int)
def ZN:Int:= bif decide (a ≥ 4294967296) then JU BinOp.shr IntKind.u64 a 32 else a
def Q7:Int:= bif decide (ZN a ≥ 65536) then JU BinOp.shr IntKind.u64 (ZN a) 16 else ZN a
def JWK:Int:= bif decide (a ≥ 4294967296) then 32 else 0
def JCz:Int:= bif decide (ZN a ≥ 65536) then IntKind.i64.wrap (JWK a + 16) else JWK a
def JPB:Int:= IntKind.i64.wrap ((bif decide (Q7 a ≥ 256) then IntKind.i64.wrap (JCz a + 8) else JCz a) + IntKind.i64.wrap (JCb (ByteArray.mk (([0,1,2,2,3,3,3,3,4,4,4,4,4,4,4,4,5,5,5,5,5,5,5,5,5,5,5,5,5,5,5,5,6,6,6,6,6,6,6,6,6,6,6,6,6,6,6,6,6,6,6,6,6,6,6,6,6,6,6,6,6,6,6,6].append [7,7,7,7,7,7,7,7,7,7,7,7,7,7,7,7,7,7,7,7,7,7,7,7,7,7,7,7,7,7,7,7,7,7,7,7,7,7,7,7,7,7,7,7,7,7,7,7,7,7,7,7,7,7,7,7,7,7,7,7,7,7,7,7]).append ([8,8,8,8,8,8,8,8,8,8,8,8,8,8,8,8,8,8,8,8,8,8,8,8,8,8,8,8,8,8,8,8,8,8,8,8,8,8,8,8,8,8,8,8,8,8,8,8,8,8,8,8,8,8,8,8,8,8,8,8,8,8,8,8].append [8,8,8,8,8,8,8,8,8,8,8,8,8,8,8,8,8,8,8,8,8,8,8,8,8,8,8,8,8,8,8,8,8,8,8,8,8,8,8,8,8,8,8,8,8,8,8,8,8,8,8,8,8,8,8,8,8,8,8,8,8,8,8,8])).toArray) (IntKind.u8.wrap (bif decide (Q7 a ≥ 256) then JU BinOp.shr IntKind.u64 (Q7 a) 8 else Q7 a)).toNat))
def KR:Int:= IntKind.u8.wrap (bif decide (Q7 a ≥ 256) then JU BinOp.shr IntKind.u64 (Q7 a) 8 else Q7 a)
def JDP:List Prop:= [0 ≤ KR a,(KR a).toNat < 256]
end
def JwN (T:ByteArray):Bool := (List.range 256).all fun k => decide (0 ≤ JCb T k ∧ JCb T k ≤ 8) && (Nat.beq k 0 && decide (JCb T k = 0) || decide (1 ≤ JCb T k ∧ 2 ^ ((JCb T k).toNat - 1) ≤ k ∧ k < 2 ^ (JCb T k).toNat))
theorem Jl5:∃ T,JwN T = true ∧ ∀ a,JPB a = IntKind.i64.wrap ((bif decide (Q7 a ≥ 256) then IntKind.i64.wrap (JCz a + 8) else JCz a) + IntKind.i64.wrap (JCb T (KR a).toNat)) := by
  refine ⟨_,?_,fun a => rfl⟩
  kernel_rfl
theorem Jsj (x:Int) (k:Nat) (h:0 ≤ x) (hk:k < 64):JU .shr .u64 x (k:Int) = x / 2 ^ k := by
  have e:min ((k:Int)).toNat IntKind.u64.bits = k := by
    have:IntKind.u64.bits = 64 := rfl
    rw [this,Int.toNat_natCast]
    omega
  unfold JU
  simp only [e]
  exact Int.fdiv_eq_ediv_of_nonneg _ (Int.le_of_lt (KU k))
theorem Jvq {a:Int} (h0:0 ≤ a) (h1:a < 18446744073709551616):KR a = (bif decide (Q7 a ≥ 256) then Q7 a / 256 else Q7 a) ∧ 0 ≤ (bif decide (Q7 a ≥ 256) then Q7 a / 256 else Q7 a) ∧ (bif decide (Q7 a ≥ 256) then Q7 a / 256 else Q7 a) < 256 := by
  have e0:ZN a = bif decide (a ≥ 4294967296) then a / 4294967296 else a := by
    unfold ZN
    have := Jsj a 32 h0 (by omega)
    rw [show ((32:Nat):Int) = 32 from rfl] at this
    rw [this]
    rfl
  have r0:0 ≤ ZN a ∧ ZN a < 4294967296 := by
    rw [e0]
    by_cases h:a ≥ 4294967296
    · rw [decide_eq_true h,cond_true]; omega
    · rw [decide_eq_false h,cond_false]; omega
  have e1:Q7 a = bif decide (ZN a ≥ 65536) then ZN a / 65536 else ZN a := by
    unfold Q7
    have := Jsj (ZN a) 16 r0.1 (by omega)
    rw [show ((16:Nat):Int) = 16 from rfl] at this
    rw [this]
    rfl
  have r1:0 ≤ Q7 a ∧ Q7 a < 65536 := by
    rw [e1]
    by_cases h:ZN a ≥ 65536
    · rw [decide_eq_true h,cond_true]; omega
    · rw [decide_eq_false h,cond_false]; omega
  have r2:0 ≤ (bif decide (Q7 a ≥ 256) then Q7 a / 256 else Q7 a) ∧ (bif decide (Q7 a ≥ 256) then Q7 a / 256 else Q7 a) < 256 := by
    by_cases h:Q7 a ≥ 256
    · rw [decide_eq_true h,cond_true]; omega
    · rw [decide_eq_false h,cond_false]; omega
  refine ⟨?_,r2⟩
  unfold KR
  have := Jsj (Q7 a) 8 r1.1 (by omega)
  rw [show ((8:Nat):Int) = 8 from rfl] at this
  rw [this,show (2:Int) ^ 8 = 256 from rfl]
  generalize (bif decide (Q7 a ≥ 256) then Q7 a / 256 else Q7 a) = z at *
  unfold IntKind.wrap
  simp only [IntKind.bits,IntKind.signed]
  simp
  omega
theorem JvB {T:ByteArray} (h:JwN T = true) {k:Nat} (hk:k < 256) (h0:0 < k):∃ t:Nat,JCb T k = t ∧ 1 ≤ t ∧ t ≤ 8 ∧ 2 ^ (t - 1) ≤ k ∧ k < 2 ^ t := by
  unfold JwN at h
  rw [List.all_eq_true] at h
  have := h k (List.mem_range.2 hk)
  have hb:Nat.beq k 0 = false := by
    cases hh:Nat.beq k 0
    · rfl
    · have := Nat.eq_of_beq_eq_true hh; omega
  simp only [hb,Bool.false_and,Bool.false_or,Bool.and_eq_true,decide_eq_true_eq] at this
  obtain ⟨⟨p1,p2⟩,p3,p4,p5⟩ := this
  refine ⟨(JCb T k).toNat,by omega,by omega,by omega,p4,p5⟩
theorem Jus {a z:Int} {b t:Nat} (hz:z * 2 ^ b ≤ a ∧ a < (z + 1) * 2 ^ b) (ht:1 ≤ t) (h1:(2:Int) ^ (t - 1) ≤ z) (h2:z < 2 ^ t):(2:Int) ^ (b + t - 1) ≤ a ∧ a < 2 ^ (b + t) := by
  have hb := KU b
  have e1:(2:Int) ^ (b + t - 1) = 2 ^ (t - 1) * 2 ^ b := by rw [← Int.pow_add]; congr 1; omega
  have e2:(2:Int) ^ (b + t) = 2 ^ t * 2 ^ b := by rw [← Int.pow_add]; congr 1; omega
  rw [e1,e2]
  have := Int.mul_le_mul_of_nonneg_right h1 (Int.le_of_lt hb)
  have := Int.mul_le_mul_of_nonneg_right (show z + 1 ≤ 2 ^ t by omega) (Int.le_of_lt hb)
  omega
theorem JpB {a:Int} (h0:0 < a) (h1:a < 18446744073709551616):∃ l:Nat,JPB a = l ∧ 1 ≤ l ∧ l ≤ 64 ∧ (2:Int) ^ (l - 1) ≤ a ∧ a < 2 ^ l := by
  obtain ⟨T,hT,hf⟩ := Jl5
  obtain ⟨e4,r0,r1⟩ := Jvq (Int.le_of_lt h0) h1
  have key:∃ b:Nat,b ≤ 56 ∧ (bif decide (Q7 a ≥ 256) then IntKind.i64.wrap (JCz a + 8) else JCz a) = b ∧ KR a * 2 ^ b ≤ a ∧ a < (KR a + 1) * 2 ^ b ∧ 0 < KR a := by
    have e0:ZN a = bif decide (a ≥ 4294967296) then a / 4294967296 else a := by
      unfold ZN
      have := Jsj a 32 (by omega) (by omega)
      rw [show ((32:Nat):Int) = 32 from rfl] at this
      rw [this]; rfl
    have e1:0 ≤ ZN a → Q7 a = bif decide (ZN a ≥ 65536) then ZN a / 65536 else ZN a := fun h => by
      unfold Q7
      have := Jsj (ZN a) 16 h (by omega)
      rw [show ((16:Nat):Int) = 16 from rfl] at this
      rw [this]; rfl
    have p0:(2:Int) ^ 0 = 1 := rfl
    have p8:(2:Int) ^ 8 = 256 := rfl
    have p16:(2:Int) ^ 16 = 65536 := rfl
    have p24:(2:Int) ^ 24 = 16777216 := rfl
    have p32:(2:Int) ^ 32 = 4294967296 := rfl
    have p40:(2:Int) ^ 40 = 1099511627776 := rfl
    have p48:(2:Int) ^ 48 = 281474976710656 := rfl
    have p56:(2:Int) ^ 56 = 72057594037927936 := rfl
    unfold JCz JWK
    by_cases c0:a ≥ 4294967296
    · rw [decide_eq_true c0,cond_true] at e0
      have e1' := e1 (by omega)
      rw [decide_eq_true c0,cond_true]
      by_cases c1:ZN a ≥ 65536
      · rw [decide_eq_true c1,cond_true] at e1'
        rw [decide_eq_true c1,cond_true]
        by_cases c2:Q7 a ≥ 256
        · rw [decide_eq_true c2,cond_true] at e4
          rw [decide_eq_true c2,cond_true]
          exact ⟨56,by omega,rfl,by rw [p56]; omega,by rw [p56]; omega,by omega⟩
        · rw [decide_eq_false c2,cond_false] at e4
          rw [decide_eq_false c2,cond_false]
          exact ⟨48,by omega,rfl,by rw [p48]; omega,by rw [p48]; omega,by omega⟩
      · rw [decide_eq_false c1,cond_false] at e1'
        rw [decide_eq_false c1,cond_false]
        by_cases c2:Q7 a ≥ 256
        · rw [decide_eq_true c2,cond_true] at e4
          rw [decide_eq_true c2,cond_true]
          exact ⟨40,by omega,rfl,by rw [p40]; omega,by rw [p40]; omega,by omega⟩
        · rw [decide_eq_false c2,cond_false] at e4
          rw [decide_eq_false c2,cond_false]
          exact ⟨32,by omega,rfl,by rw [p32]; omega,by rw [p32]; omega,by omega⟩
    · rw [decide_eq_false c0,cond_false] at e0
      have e1' := e1 (by omega)
      rw [decide_eq_false c0,cond_false]
      by_cases c1:ZN a ≥ 65536
      · rw [decide_eq_true c1,cond_true] at e1'
        rw [decide_eq_true c1,cond_true]
        by_cases c2:Q7 a ≥ 256
        · rw [decide_eq_true c2,cond_true] at e4
          rw [decide_eq_true c2,cond_true]
          exact ⟨24,by omega,rfl,by rw [p24]; omega,by rw [p24]; omega,by omega⟩
        · rw [decide_eq_false c2,cond_false] at e4
          rw [decide_eq_false c2,cond_false]
          exact ⟨16,by omega,rfl,by rw [p16]; omega,by rw [p16]; omega,by omega⟩
      · rw [decide_eq_false c1,cond_false] at e1'
        rw [decide_eq_false c1,cond_false]
        by_cases c2:Q7 a ≥ 256
        · rw [decide_eq_true c2,cond_true] at e4
          rw [decide_eq_true c2,cond_true]
          exact ⟨8,by omega,rfl,by rw [p8]; omega,by rw [p8]; omega,by omega⟩
        · rw [decide_eq_false c2,cond_false] at e4
          rw [decide_eq_false c2,cond_false]
          exact ⟨0,by omega,rfl,by rw [p0]; omega,by rw [p0]; omega,by omega⟩
  obtain ⟨b,hb,eb,z1,z2,z0⟩ := key
  have hz:KR a < 256 := by omega
  obtain ⟨t,et,t1,t2,t3,t4⟩ := JvB hT (k := (KR a).toNat) (by omega) (by omega)
  have t3':(2:Int) ^ (t - 1) ≤ KR a := by
    have:((2 ^ (t - 1):Nat):Int) ≤ ((KR a).toNat:Int) := by exact_mod_cast t3
    push_cast at this
    omega
  have t4':KR a < (2:Int) ^ t := by
    have:((KR a).toNat:Int) < ((2 ^ t:Nat):Int) := by exact_mod_cast t4
    push_cast at this
    omega
  obtain ⟨s1,s2⟩ := Jus ⟨z1,z2⟩ t1 t3' t4'
  refine ⟨b + t,?_,by omega,by omega,s1,s2⟩
  rw [hf,eb,et,X7 (x := (t:Int)) (by omega) (by omega),X7 (by omega) (by omega)]
  omega
theorem JkZ {a:Int} (hW:∀ q ∈ ([0 ≤ a,a < 18446744073709551616]:List Prop),q):∀ q ∈ (JDP a),q := by
  simp only [awc,awn,and_true] at hW
  intro q hq
  unfold JDP at hq
  simp only [List.mem_cons,List.not_mem_nil,or_false] at hq
  obtain ⟨h0,h1⟩ := hW
  obtain ⟨e0,r0,r1⟩ := Jvq h0 h1
  rcases hq with rfl | rfl
  · rw [e0]; exact r0
  · rw [e0]; omega
theorem JjN (a:Int) (hNeeds:∀ pN ∈ (JDP a),pN):Runs (Js (JB JQH) L0 177) (JGE.args [.i a]) (JGE.memo [.i a] []) JGE.n (SV.one (Ci (JPB a))) ([]) :=
  Runs.of1 (ps := (JDP a)) (by kernel_rfl) hNeeds
def JQu:List Pm → Qr → Option CRes
  | [.i a],[] => some ⟨SV.one (Ci (JPB a)),
 [],[0 ≤ a,a < 18446744073709551616],[],36⟩
  | _,_ => none
theorem Jtt:Qk Tryz.prog 177 (JS JGE JQu) := by
  refine JH (JD JLA 177) fun ps ls r hr hn _ => ?_
  unfold JQu at hr
  split at hr
  · cases hr; exact ⟨_,JjN _ (JkZ (by exact hn)),fun _ => rfl⟩
  · cases hr
def Jeo:List (Nat × JW) := (177,JS JGE JQu) :: JQH
theorem JT1:Known Tryz.prog (JB Jeo) L0 := J7 JLA Jtt
def JZl:Tpl := ⟨[.one (.int .u64)],[],0⟩
def XE (a:Int):Int := IntKind.i64.wrap (64 - JPB a)
def JOz (a:Int):List Prop := [0 ≤ a,a < 18446744073709551616]
theorem Jue {a:Int} (hW:∀ q ∈ ([0 ≤ a,a < 18446744073709551616]:List Prop),q):∀ q ∈ (JOz a),q := by
  simp only [awc,awn,and_true] at hW
  intro q hq
  unfold JOz at hq
  simp only [List.mem_cons,List.not_mem_nil,or_false] at hq
  obtain ⟨h1,h2⟩ := hW
  rcases hq with rfl | rfl
  · exact h1
  · exact h2
theorem Jv5 (a:Int) (hNeeds:∀ pN ∈ (JOz a),pN):Runs (Js (JB Jeo) L0 175) (JZl.args [.i a]) (JZl.memo [.i a] []) JZl.n (SV.one (Ci (XE a))) ([]) :=
  Runs.of1 (ps := (JOz a)) (by kernel_rfl) hNeeds
def Jk2:List Pm → Qr → Option CRes
  | [.i a],[] => some ⟨SV.one (Ci (XE a)),
 [],[0 ≤ a,a < 18446744073709551616],[],41⟩
  | _,_ => none
theorem Jx5:Qk Tryz.prog 175 (JS JZl Jk2) := by
  refine JH (JD JT1 175) fun ps ls r hr hn _ => ?_
  unfold Jk2 at hr
  split at hr
  · cases hr; exact ⟨_,Jv5 _ (Jue (by exact hn)),fun _ => rfl⟩
  · cases hr
def Jd6:List (Nat × JW) := (175,JS JZl Jk2) :: Jeo
theorem Jg6:Known Tryz.prog (JB Jd6) L0 := J7 JT1 Jx5
def d1F (Yn u32 y1 y0 u u0 s:Int):Fam (Int × Int) Unit where
  k := 20
  E p := [(16,ent 1000000000 (.one (U p.2))),(15,ent 1000000001 (.one (U p.1))),(14,ent 90 (.one (U u0))),(13,ent 87 (.one (U u))),(11,ent 80 (.one (U u32))),(10,ent 71 (.one (U y0))),(9,ent 68 (.one (U y1))),(2,ent 65 (.one (U Yn))),(8,ent 61 (.one (U s)))]
  M _ := []
  out _ := .leaf (.exit 0) [(15,ent 102 (.one (U ((u32 * 4294967296 + u) / (y1 * 4294967296 + y0))))),(14,ent 90 (.one (U u0))),(13,ent 87 (.one (U u))),(11,ent 80 (.one (U u32))),(10,ent 71 (.one (U y0))),(9,ent 68 (.one (U y1))),(2,ent 65 (.one (U Yn))),(8,ent 61 (.one (U s)))] []
  fin _ := ()
  next p _ := (p.1 - 1,p.2 + y1)
  J p := AdjOk y1 y0 u32 u p.1 p.2
  μ p := (4294967296 - p.2).toNat
section
variable (Yn u32 y1 y0 u u0 s:Int) (p:Int × Int)
def JnN:Int:= IntKind.u64.wrap (IntKind.u64.wrap (4294967296 * p.snd) + u)
def JrL:Int:= IntKind.u64.wrap (p.fst - 1)
def Jvd:Int:= ((d1F Yn u32 y1 y0 u u0 s).next p 1).fst
def Jvc:Int:= ((d1F Yn u32 y1 y0 u u0 s).next p 1).snd
def JZY:List Prop:= [(decide (p.fst ≥ 4294967296) || decide (IntKind.u64.wrap (p.fst * y0) > JnN u p)) = true → (decide (IntKind.u64.wrap (p.snd + y1) ≥ 4294967296) = true → (u32 * 4294967296 + u) / (y1 * 4294967296 + y0) = JrL p) ∧ (decide (IntKind.u64.wrap (p.snd + y1) ≥ 4294967296) = false → AdjOk y1 y0 u32 u (Jvd Yn u32 y1 y0 u u0 s p) (Jvc Yn u32 y1 y0 u u0 s p) ∧ (d1F Yn u32 y1 y0 u u0 s).μ ((d1F Yn u32 y1 y0 u u0 s).next p 1) < (d1F Yn u32 y1 y0 u u0 s).μ p ∧ (d1F Yn u32 y1 y0 u u0 s).fin ((d1F Yn u32 y1 y0 u u0 s).next p 1) = (d1F Yn u32 y1 y0 u u0 s).fin p ∧ Jvc Yn u32 y1 y0 u u0 s p = IntKind.u64.wrap (p.snd + y1) ∧ Jvd Yn u32 y1 y0 u u0 s p = JrL p),(decide (p.fst ≥ 4294967296) || decide (IntKind.u64.wrap (p.fst * y0) > JnN u p)) = false → (u32 * 4294967296 + u) / (y1 * 4294967296 + y0) = p.fst]
end
theorem Jtr (Yn u32 y1 y0 u u0 s:Int) (p:Int × Int) (hNeeds:∀ pN ∈ (JZY Yn u32 y1 y0 u u0 s p),pN):Jz (XU (d1F Yn u32 y1 y0 u u0 s) (QU Tryz.prog (JB Jd6) L0 170 0) 101 p) :=
  Jz.of (ps := (JZY Yn u32 y1 y0 u u0 s p)) (by kernel_rfl) (by kernel_rfl) hNeeds
theorem Jw2 {p q:Prop} (hp:p) (hq:q):∀ x ∈ [p,q],x := by
  intro x hx
  rcases List.mem_cons.1 hx with rfl | hx
  · exact hp
  rcases List.mem_cons.1 hx with rfl | hx
  · exact hq
  · cases hx
theorem Joq (Yn u32 y1 y0 u u0 s:Int):Qv (d1F Yn u32 y1 y0 u u0 s) (QU Tryz.prog (JB Jd6) L0 170 0) 101 := by
  intro p hJ
  have hJ:AdjOk y1 y0 u32 u p.1 p.2 := hJ
  have hf := hJ.fit
  have hq := hJ.ub
  have hr := hJ.hr
  have h1 := hJ.h1
  have hu := hJ.hu
  have q0 := hJ.q0
  have e0:JnN u p = 4294967296 * p.2 + u := by
    unfold JnN
    rw [W4 (x := 4294967296 * p.2) (by omega) (by omega),W4 (by omega) (by omega)]
  have e1:1 ≤ p.1 → JrL p = p.1 - 1 := fun h => W4 (by omega) (by omega)
  have e2:IntKind.u64.wrap (p.1 * y0) = p.1 * y0 := W4 hf.1 hf.2
  have e3:IntKind.u64.wrap (p.2 + y1) = p.2 + y1 := W4 (by omega) (by omega)
  have hl := JM3 h1 hJ.h0 hu hJ.hn
  refine Jtr Yn u32 y1 y0 u u0 s p ?_
  unfold JZY
  rw [e0,e2,e3]
  refine Jw2 ?_ ?_
  · intro hc
    rw [Bool.or_eq_true,decide_eq_true_eq,decide_eq_true_eq] at hc
    have hb := JNG hJ hc
    refine ⟨fun h => ?_,fun h => ?_⟩
    · rw [decide_eq_true_eq] at h
      rw [e1 (by omega)]
      exact (JhD hJ hc h).symm
    · rw [decide_eq_false_iff_not] at h
      refine ⟨hJ.next hc (by omega),?_,rfl,rfl,?_⟩
      · show (4294967296 - (p.2 + y1)).toNat < (4294967296 - p.2).toNat
        omega
      · rw [e1 (by omega)]; rfl
  · intro hc
    rw [Bool.or_eq_false_iff,decide_eq_false_iff_not,decide_eq_false_iff_not] at hc
    exact (JYA hJ (by omega)).symm
def d1L:QH := fun env mem m => match Wj env 2,Wj env 11,Wj env 9,Wj env 10,Wj env 13,Wj env 14,Wj env 8,Wj env 15,Wj env 16 with
  | some Yn,some u32,some y1,some y0,some u,some u0,some s,some q,some r => jY (d1F Yn u32 y1 y0 u u0 s) 101 (fun _ _ => some (q,r)) env mem m
  | _,_,_,_,_,_,_,_,_ => none
def Jup:FuncId → Nat → Option QH := JBZ L0 170 17 d1L
theorem Jcj:Known Tryz.prog (JB Jd6) Jup := by
  refine Qj 0 Jg6 (by kernel_rfl) (Qy fun env mem m x h => ?_)
  unfold d1L at h
  have hlen:(QZ Tryz.prog 170).length = 2 := by kernel_rfl
  split at h
  · exact ⟨_,XF (Qa Zy Jg6 (by omega)) (Joq _ _ _ _ _ _ _),h⟩
  · cases h
def d2F (Yn u32 y1 y0 u u0 s:Int):Fam (Int × Int) Unit where
  k := 20
  E p := [(16,ent 1000000000 (.one (U p.2))),(18,ent 1000000001 (.one (U p.1))),(17,ent 129 (.one (U u32))),(15,ent 102 (.one (U u0))),(14,ent 90 (.one (U u))),(10,ent 71 (.one (U y0))),(9,ent 68 (.one (U y1))),(2,ent 65 (.one (U Yn))),(8,ent 61 (.one (U s)))]
  M _ := []
  out _ := .leaf (.exit 2) [(18,ent 141 (.one (U ((u32 * 4294967296 + u) / (y1 * 4294967296 + y0))))),(17,ent 129 (.one (U u32))),(15,ent 102 (.one (U u0))),(14,ent 90 (.one (U u))),(2,ent 65 (.one (U Yn))),(8,ent 61 (.one (U s)))] []
  fin _ := ()
  next p _ := (p.1 - 1,p.2 + y1)
  J p := AdjOk y1 y0 u32 u p.1 p.2
  μ p := (4294967296 - p.2).toNat
section
variable (Yn u32 y1 y0 u u0 s:Int) (p:Int × Int)
def Jnc:Int:= IntKind.u64.wrap (IntKind.u64.wrap (4294967296 * p.snd) + u)
def Js1:Int:= IntKind.u64.wrap (p.fst - 1)
def Jvt:Int:= ((d2F Yn u32 y1 y0 u u0 s).next p 1).fst
def JvI:Int:= ((d2F Yn u32 y1 y0 u u0 s).next p 1).snd
def JYH:List Prop:= [(decide (p.fst ≥ 4294967296) || decide (IntKind.u64.wrap (p.fst * y0) > Jnc u p)) = true → (decide (IntKind.u64.wrap (p.snd + y1) ≥ 4294967296) = true → (u32 * 4294967296 + u) / (y1 * 4294967296 + y0) = Js1 p) ∧ (decide (IntKind.u64.wrap (p.snd + y1) ≥ 4294967296) = false → AdjOk y1 y0 u32 u (Jvt Yn u32 y1 y0 u u0 s p) (JvI Yn u32 y1 y0 u u0 s p) ∧ (d2F Yn u32 y1 y0 u u0 s).μ ((d2F Yn u32 y1 y0 u u0 s).next p 1) < (d2F Yn u32 y1 y0 u u0 s).μ p ∧ (d2F Yn u32 y1 y0 u u0 s).fin ((d2F Yn u32 y1 y0 u u0 s).next p 1) = (d2F Yn u32 y1 y0 u u0 s).fin p ∧ JvI Yn u32 y1 y0 u u0 s p = IntKind.u64.wrap (p.snd + y1) ∧ Jvt Yn u32 y1 y0 u u0 s p = Js1 p),(decide (p.fst ≥ 4294967296) || decide (IntKind.u64.wrap (p.fst * y0) > Jnc u p)) = false → (u32 * 4294967296 + u) / (y1 * 4294967296 + y0) = p.fst]
end
theorem JtL (Yn u32 y1 y0 u u0 s:Int) (p:Int × Int) (hNeeds:∀ pN ∈ (JYH Yn u32 y1 y0 u u0 s p),pN):Jz (XU (d2F Yn u32 y1 y0 u u0 s) (QU Tryz.prog (JB Jd6) Jup 170 1) 140 p) :=
  Jz.of (ps := (JYH Yn u32 y1 y0 u u0 s p)) (by kernel_rfl) (by kernel_rfl) hNeeds
theorem Jpw (Yn u32 y1 y0 u u0 s:Int):Qv (d2F Yn u32 y1 y0 u u0 s) (QU Tryz.prog (JB Jd6) Jup 170 1) 140 := by
  intro p hJ
  have hJ:AdjOk y1 y0 u32 u p.1 p.2 := hJ
  have hf := hJ.fit
  have hq := hJ.ub
  have hr := hJ.hr
  have h1 := hJ.h1
  have hu := hJ.hu
  have q0 := hJ.q0
  have e0:Jnc u p = 4294967296 * p.2 + u := by
    unfold Jnc
    rw [W4 (x := 4294967296 * p.2) (by omega) (by omega),W4 (by omega) (by omega)]
  have e1:1 ≤ p.1 → Js1 p = p.1 - 1 := fun h => W4 (by omega) (by omega)
  have e2:IntKind.u64.wrap (p.1 * y0) = p.1 * y0 := W4 hf.1 hf.2
  have e3:IntKind.u64.wrap (p.2 + y1) = p.2 + y1 := W4 (by omega) (by omega)
  have hl := JM3 h1 hJ.h0 hu hJ.hn
  refine JtL Yn u32 y1 y0 u u0 s p ?_
  unfold JYH
  rw [e0,e2,e3]
  refine Jw2 ?_ ?_
  · intro hc
    rw [Bool.or_eq_true,decide_eq_true_eq,decide_eq_true_eq] at hc
    have hb := JNG hJ hc
    refine ⟨fun h => ?_,fun h => ?_⟩
    · rw [decide_eq_true_eq] at h
      rw [e1 (by omega)]
      exact (JhD hJ hc h).symm
    · rw [decide_eq_false_iff_not] at h
      refine ⟨hJ.next hc (by omega),?_,rfl,rfl,?_⟩
      · show (4294967296 - (p.2 + y1)).toNat < (4294967296 - p.2).toNat
        omega
      · rw [e1 (by omega)]; rfl
  · intro hc
    rw [Bool.or_eq_false_iff,decide_eq_false_iff_not,decide_eq_false_iff_not] at hc
    exact (JYA hJ (by omega)).symm
def d2L:QH := fun env mem m => match Wj env 2,Wj env 17,Wj env 9,Wj env 10,Wj env 14,Wj env 15,Wj env 8,Wj env 18,Wj env 16 with
  | some Yn,some u32,some y1,some y0,some u,some u0,some s,some q,some r => jY (d2F Yn u32 y1 y0 u u0 s) 140 (fun _ _ => some (q,r)) env mem m
  | _,_,_,_,_,_,_,_,_ => none
def JqE:FuncId → Nat → Option QH := JBZ Jup 170 24 d2L
theorem JbW:Known Tryz.prog (JB Jd6) JqE := by
  refine Qj 1 Jcj (by kernel_rfl) (Qy fun env mem m x h => ?_)
  unfold d2L at h
  have hlen:(QZ Tryz.prog 170).length = 2 := by kernel_rfl
  split at h
  · exact ⟨_,XF (Qa Zy Jcj (by omega)) (Jpw _ _ _ _ _ _ _),h⟩
  · cases h
theorem Jvi (x:Int) (k:Nat) (h:0 ≤ x) (hk:k ≤ 64):JU .shr .u64 x (k:Int) = x / 2 ^ k := by
  have e:min ((k:Int)).toNat IntKind.u64.bits = k := by
    have:IntKind.u64.bits = 64 := rfl
    rw [this,Int.toNat_natCast]
    omega
  unfold JU
  simp only [e]
  exact Int.fdiv_eq_ediv_of_nonneg _ (Int.le_of_lt (KU k))
theorem Jw9 (x:Int) (k:Nat) (hk:k ≤ 64):JU .shl .u64 x (k:Int) = (x * 2 ^ k) % 18446744073709551616 := by
  have e:min ((k:Int)).toNat IntKind.u64.bits = k := by
    have:IntKind.u64.bits = 64 := rfl
    rw [this,Int.toNat_natCast]
    omega
  unfold JU
  simp only [e]
  exact JB5 _
theorem orE {x y:Int} {s:Nat} {m:Int} (hm:0 ≤ m) (e:x = 2 ^ s * m) (hy:0 ≤ y ∧ y < 2 ^ s) (h:x + y < 18446744073709551616):Zi .or .u64 x y = x + y := by
  obtain ⟨n,rfl⟩ := Int.eq_ofNat_of_zero_le hm
  obtain ⟨z,rfl⟩ := Int.eq_ofNat_of_zero_le hy.1
  have er:x = ((2 ^ s * n:Nat):Int) := by rw [e]; push_cast; rfl
  have hz:z < 2 ^ s := by
    have:((z:Nat):Int) < ((2 ^ s:Nat):Int) := by push_cast; exact hy.2
    exact_mod_cast this
  have hor := Nat.two_pow_add_eq_or_of_lt hz n
  rw [er] at h ⊢
  generalize hq:2 ^ s * n = q at *
  have b1:q < 2 ^ 64 := by omega
  have b2:z < 2 ^ 64 := by omega
  have e1:(BitVec.ofInt 64 (q:Int)).toNat = q := by simp [BitVec.toNat_ofInt]; omega
  have e2:(BitVec.ofInt 64 (z:Int)).toNat = z := by simp [BitVec.toNat_ofInt]; omega
  have e3:(BitVec.ofInt 64 (q:Int) ||| BitVec.ofInt 64 (z:Int)).toNat = q + z := by rw [BitVec.toNat_or,e1,e2,hor]
  show IntKind.u64.wrap ((BitVec.ofInt 64 (q:Int) ||| BitVec.ofInt 64 (z:Int)).toNat:Int) = _
  rw [e3,W4 (by omega) (by omega)]
  push_cast; rfl
theorem Jwp {c:Int} (h0:0 < c) (h1:c < 18446744073709551616):∃ s:Nat,s ≤ 63 ∧ IntKind.u64.wrap (XE c) = s ∧ 9223372036854775808 ≤ c * 2 ^ s ∧ c * 2 ^ s < 18446744073709551616 ∧ JU .shl .u64 c (IntKind.u64.wrap (XE c)) = c * 2 ^ s := by
  obtain ⟨l,e,l1,l2,p1,p2⟩ := JpB h0 h1
  have es:IntKind.u64.wrap (XE c) = ((64 - l:Nat):Int) := by
    unfold XE
    rw [e,X7 (by omega) (by omega),W4 (by omega) (by omega)]
    omega
  have hp := KU (64 - l)
  have q1:(2:Int) ^ (l - 1) * 2 ^ (64 - l) = 9223372036854775808 := by
    rw [← Int.pow_add,show l - 1 + (64 - l) = 63 by omega]; rfl
  have q2:(2:Int) ^ l * 2 ^ (64 - l) = 18446744073709551616 := by
    rw [← Int.pow_add,show l + (64 - l) = 64 by omega]; rfl
  have g1 := Int.mul_le_mul_of_nonneg_right p1 (Int.le_of_lt hp)
  have g2 := Int.mul_lt_mul_of_pos_right p2 hp
  refine ⟨64 - l,by omega,es,by omega,by omega,?_⟩
  rw [es,Jw9 _ _ (by omega)]
  exact Int.emod_eq_of_lt (by omega) (by omega)
theorem JvE {a b c:Int} {s:Nat} (ha:0 ≤ a) (hac:a < c) (hb:0 ≤ b) (hb':b < 18446744073709551616) (hs:s ≤ 63) (hc:c * 2 ^ s < 18446744073709551616) :
    Zi .or .u64 (JU .shl .u64 a (s:Int)) (JU .shr .u64 b (IntKind.u64.wrap (64 - (s:Int)))) = a * 2 ^ s + b / 2 ^ (64 - s) ∧ 0 ≤ a * 2 ^ s + b / 2 ^ (64 - s) ∧ a * 2 ^ s + b / 2 ^ (64 - s) < c * 2 ^ s ∧
    (a * 2 ^ s + b / 2 ^ (64 - s)) * 18446744073709551616 + (b * 2 ^ s) % 18446744073709551616 = (a * 18446744073709551616 + b) * 2 ^ s := by
  have hp := KU s
  have hq := KU (64 - s)
  have e64:(2:Int) ^ (64 - s) * 2 ^ s = 18446744073709551616 := by rw [← Int.pow_add,show 64 - s + s = 64 by omega]; rfl
  have ew:IntKind.u64.wrap (64 - (s:Int)) = ((64 - s:Nat):Int) := by rw [W4 (by omega) (by omega)]; omega
  have g1 := Int.mul_le_mul_of_nonneg_right (show a + 1 ≤ c by omega) (Int.le_of_lt hp)
  have g2:(a + 1) * 2 ^ s = a * 2 ^ s + 2 ^ s := by rw [Int.add_mul,Int.one_mul]
  have g3 := Int.mul_nonneg ha (Int.le_of_lt hp)
  have hr:0 ≤ b / 2 ^ (64 - s) ∧ b / 2 ^ (64 - s) < 2 ^ s := by
    refine ⟨Int.ediv_nonneg hb (Int.le_of_lt hq),Int.ediv_lt_of_lt_mul hq ?_⟩
    rw [Int.mul_comm,e64]; exact hb'
  have ed:b / 2 ^ (64 - s) = (b * 2 ^ s) / 18446744073709551616 := by
    rw [← e64,Int.mul_ediv_mul_of_pos_left _ _ hp]
  have dm := Int.mul_ediv_add_emod (b * 2 ^ s) 18446744073709551616
  refine ⟨?_,by omega,by omega,?_⟩
  · rw [ew,Jw9 _ _ (by omega),Jvi _ _ hb (by omega),Int.emod_eq_of_lt (by omega) (by omega)]
    exact orE ha (Int.mul_comm _ _) hr (by omega)
  · rw [ed]
    have e5:(a * 18446744073709551616 + b) * 2 ^ s = a * 2 ^ s * 18446744073709551616 + b * 2 ^ s := by grind
    rw [e5,Int.add_mul]
    omega
theorem JwQ (x u z:Int):IntKind.u64.wrap (IntKind.u64.wrap (IntKind.u64.wrap x + u) - IntKind.u64.wrap z) = (x + u - z) % 18446744073709551616 := by
  rw [JB5,JB5,JB5,JB5]
  omega
structure DivParts (a b c:Int):Prop where
  ex:∃ (s:Nat) (Y u32 u1 u0 q1 r1 q0:Int),s ≤ 63 ∧ IntKind.u64.wrap (XE c) = (s:Int) ∧ JU .shl .u64 c (IntKind.u64.wrap (XE c)) = Y ∧ Y = c * 2 ^ s ∧ 9223372036854775808 ≤ Y ∧ Y < 18446744073709551616 ∧
    JU .shr .u64 Y 32 = Y / 4294967296 ∧ Zi .and .u64 Y 4294967295 = Y % 4294967296 ∧
    Zi .or .u64 (JU .shl .u64 a (IntKind.u64.wrap (XE c))) (JU .shr .u64 b (IntKind.u64.wrap (64 - IntKind.u64.wrap (XE c)))) = u32 ∧ 0 ≤ u32 ∧ u32 < Y ∧
    JU .shr .u64 (JU .shl .u64 b (IntKind.u64.wrap (XE c))) 32 = u1 ∧ Zi .and .u64 (JU .shl .u64 b (IntKind.u64.wrap (XE c))) 4294967295 = u0 ∧ 0 ≤ u1 ∧ u1 < 4294967296 ∧ 0 ≤ u0 ∧ u0 < 4294967296 ∧
    (u32 * 4294967296 + u1) * 4294967296 + u0 = (a * 18446744073709551616 + b) * 2 ^ s ∧
    q1 = (u32 * 4294967296 + u1) / Y ∧ r1 = u32 * 4294967296 + u1 - q1 * Y ∧ q0 = (r1 * 4294967296 + u0) / Y ∧ 0 ≤ r1 ∧ r1 < Y
theorem Jbn {a b c:Int} (ha:0 ≤ a) (hac:a < c) (hb:0 ≤ b) (hb':b < 18446744073709551616) (hc:c < 18446744073709551616):DivParts a b c := by
  obtain ⟨s,s63,es,y1,y2,ey⟩ := Jwp (c := c) (by omega) hc
  obtain ⟨n1,n2,n3,n4⟩ := JvE ha hac hb hb' s63 y2
  have eb:JU .shl .u64 b (s:Int) = (b * 2 ^ s) % 18446744073709551616 := Jw9 _ _ (by omega)
  have m1 := Int.emod_nonneg (b * 2 ^ s) (show (18446744073709551616:Int) ≠ 0 by omega)
  have m2 := Int.emod_lt_of_pos (b * 2 ^ s) (show (0:Int) < 18446744073709551616 by omega)
  have hd := JVh (Y := c * 2 ^ s) (u32 := a * 2 ^ s + b / 2 ^ (64 - s)) (u1 := (b * 2 ^ s) % 18446744073709551616 / 4294967296) (u0 := (b * 2 ^ s) % 18446744073709551616 % 4294967296) (by omega) n2 (by omega) (by omega) rfl rfl rfl
  refine ⟨s,c * 2 ^ s,a * 2 ^ s + b / 2 ^ (64 - s),(b * 2 ^ s) % 18446744073709551616 / 4294967296,(b * 2 ^ s) % 18446744073709551616 % 4294967296,_,_,_,s63,es,ey,rfl,y1,y2,JX8 _ (by omega),JhE _ (by omega) y2,?_,n2,n3,?_,?_,by omega,by omega,by omega,by omega,?_,rfl,rfl,rfl,hd.2.2.1,hd.2.2.2⟩
  · rw [es]; exact n1
  · rw [es,eb,JX8 _ m1]
  · rw [es,eb,JhE _ m1 m2]
  · rw [← n4]
    generalize (b * 2 ^ s) % 18446744073709551616 = z at *
    generalize a * 2 ^ s + b / 2 ^ (64 - s) = w at *
    omega
def JFp:Tpl := ⟨[.one (.int .u64),.one (.int .u64),.one (.int .u64)],[],0⟩
section
variable (a b c:Int)
def JCw:Int:= Zi BinOp.or IntKind.u64 (JU BinOp.shl IntKind.u64 a (IntKind.u64.wrap (XE c))) (JU BinOp.shr IntKind.u64 b (IntKind.u64.wrap (64 - IntKind.u64.wrap (XE c)))) * 4294967296
def JCo:Int:= JU BinOp.shr IntKind.u64 (JU BinOp.shl IntKind.u64 c (IntKind.u64.wrap (XE c))) 32 * 4294967296 + Zi BinOp.and IntKind.u64 (JU BinOp.shl IntKind.u64 c (IntKind.u64.wrap (XE c))) 4294967295
def ZI:Int:= bif a == 0 then IntKind.u64.wrap (b.tdiv c) else IntKind.u64.wrap (IntKind.u64.wrap ((JCw a b c + JU BinOp.shr IntKind.u64 (JU BinOp.shl IntKind.u64 b (IntKind.u64.wrap (XE c))) 32) / JCo c * 4294967296) + (IntKind.u64.wrap (IntKind.u64.wrap (IntKind.u64.wrap (JCw a b c) + JU BinOp.shr IntKind.u64 (JU BinOp.shl IntKind.u64 b (IntKind.u64.wrap (XE c))) 32) - IntKind.u64.wrap ((JCw a b c + JU BinOp.shr IntKind.u64 (JU BinOp.shl IntKind.u64 b (IntKind.u64.wrap (XE c))) 32) / JCo c * JU BinOp.shl IntKind.u64 c (IntKind.u64.wrap (XE c)))) * 4294967296 + Zi BinOp.and IntKind.u64 (JU BinOp.shl IntKind.u64 b (IntKind.u64.wrap (XE c))) 4294967295) / JCo c)
def JNb:Int:= IntKind.u64.wrap (IntKind.u64.wrap (IntKind.u64.wrap (JCw a b c) + JU BinOp.shr IntKind.u64 (JU BinOp.shl IntKind.u64 b (IntKind.u64.wrap (XE c))) 32) - IntKind.u64.wrap ((JCw a b c + JU BinOp.shr IntKind.u64 (JU BinOp.shl IntKind.u64 b (IntKind.u64.wrap (XE c))) 32) / JCo c * JU BinOp.shl IntKind.u64 c (IntKind.u64.wrap (XE c)))) * 4294967296
def ZJ:Int:= bif a == 0 then b.tmod c else JU BinOp.shr IntKind.u64 (IntKind.u64.wrap (IntKind.u64.wrap (IntKind.u64.wrap (JNb a b c) + Zi BinOp.and IntKind.u64 (JU BinOp.shl IntKind.u64 b (IntKind.u64.wrap (XE c))) 4294967295) - IntKind.u64.wrap ((JNb a b c + Zi BinOp.and IntKind.u64 (JU BinOp.shl IntKind.u64 b (IntKind.u64.wrap (XE c))) 4294967295) / JCo c * JU BinOp.shl IntKind.u64 c (IntKind.u64.wrap (XE c))))) (IntKind.u64.wrap (XE c))
def Ym:Int:= IntKind.u64.wrap (64 - IntKind.u64.wrap (XE c))
def zJ:Int:= IntKind.u64.wrap ((Zi BinOp.or IntKind.u64 (JU BinOp.shl IntKind.u64 a (IntKind.u64.wrap (XE c))) (JU BinOp.shr IntKind.u64 b (Ym c))).tdiv (JU BinOp.shr IntKind.u64 (JU BinOp.shl IntKind.u64 c (IntKind.u64.wrap (XE c))) 32))
def JCX:Int:= IntKind.u64.wrap (Zi BinOp.or IntKind.u64 (JU BinOp.shl IntKind.u64 a (IntKind.u64.wrap (XE c))) (JU BinOp.shr IntKind.u64 b (Ym c)) - IntKind.u64.wrap (zJ a b c * JU BinOp.shr IntKind.u64 (JU BinOp.shl IntKind.u64 c (IntKind.u64.wrap (XE c))) 32))
def JX4:Int:= Zi BinOp.or IntKind.u64 (JU BinOp.shl IntKind.u64 a (IntKind.u64.wrap (XE c))) (JU BinOp.shr IntKind.u64 b (Ym c)) * 4294967296
def JIK:Int:= IntKind.u64.wrap (IntKind.u64.wrap (IntKind.u64.wrap (JX4 a b c) + JU BinOp.shr IntKind.u64 (JU BinOp.shl IntKind.u64 b (IntKind.u64.wrap (XE c))) 32) - IntKind.u64.wrap ((JX4 a b c + JU BinOp.shr IntKind.u64 (JU BinOp.shl IntKind.u64 b (IntKind.u64.wrap (XE c))) 32) / (JU BinOp.shr IntKind.u64 (JU BinOp.shl IntKind.u64 c (IntKind.u64.wrap (XE c))) 32 * 4294967296 + Zi BinOp.and IntKind.u64 (JU BinOp.shl IntKind.u64 c (IntKind.u64.wrap (XE c))) 4294967295) * JU BinOp.shl IntKind.u64 c (IntKind.u64.wrap (XE c))))
def kl:Int:= IntKind.u64.wrap ((JIK a b c).tdiv (JU BinOp.shr IntKind.u64 (JU BinOp.shl IntKind.u64 c (IntKind.u64.wrap (XE c))) 32))
def JCV:Int:= IntKind.u64.wrap (JIK a b c - IntKind.u64.wrap (kl a b c * JU BinOp.shr IntKind.u64 (JU BinOp.shl IntKind.u64 c (IntKind.u64.wrap (XE c))) 32))
def JEG:List Prop:= [(c == 0) = false,decide (c ≤ a) = false,(a == 0) = true → c ≠ 0 ∧ c ≠ 0,(a == 0) = false → 0 ≤ c ∧ c < 18446744073709551616 ∧ 0 ≤ IntKind.u64.wrap (XE c) ∧ 0 ≤ IntKind.u64.wrap (XE c) ∧ 0 ≤ Ym c ∧ 0 ≤ IntKind.u64.wrap (XE c) ∧ JU BinOp.shr IntKind.u64 (JU BinOp.shl IntKind.u64 c (IntKind.u64.wrap (XE c))) 32 ≠ 0 ∧ AdjOk (JU BinOp.shr IntKind.u64 (JU BinOp.shl IntKind.u64 c (IntKind.u64.wrap (XE c))) 32) (Zi BinOp.and IntKind.u64 (JU BinOp.shl IntKind.u64 c (IntKind.u64.wrap (XE c))) 4294967295) (Zi BinOp.or IntKind.u64 (JU BinOp.shl IntKind.u64 a (IntKind.u64.wrap (XE c))) (JU BinOp.shr IntKind.u64 b (Ym c))) (JU BinOp.shr IntKind.u64 (JU BinOp.shl IntKind.u64 b (IntKind.u64.wrap (XE c))) 32) (zJ a b c,JCX a b c).fst (zJ a b c,JCX a b c).snd ∧ (zJ a b c,JCX a b c).snd = JCX a b c ∧ (zJ a b c,JCX a b c).fst = zJ a b c ∧ JU BinOp.shr IntKind.u64 (JU BinOp.shl IntKind.u64 c (IntKind.u64.wrap (XE c))) 32 ≠ 0 ∧ AdjOk (JU BinOp.shr IntKind.u64 (JU BinOp.shl IntKind.u64 c (IntKind.u64.wrap (XE c))) 32) (Zi BinOp.and IntKind.u64 (JU BinOp.shl IntKind.u64 c (IntKind.u64.wrap (XE c))) 4294967295) (JIK a b c) (Zi BinOp.and IntKind.u64 (JU BinOp.shl IntKind.u64 b (IntKind.u64.wrap (XE c))) 4294967295) (kl a b c,JCV a b c).fst (kl a b c,JCV a b c).snd ∧ (kl a b c,JCV a b c).snd = JCV a b c ∧ (kl a b c,JCV a b c).fst = kl a b c ∧ 0 ≤ IntKind.u64.wrap (XE c)]
end
theorem JjK {a:Int} {b:Int} {c:Int} (hW:∀ q ∈ ([0 ≤ a,a < c,0 ≤ b,b < 18446744073709551616,c < 18446744073709551616]:List Prop),q):∀ q ∈ (JEG a b c),q := by
  simp only [awc,awn,and_true] at hW
  unfold JEG
  simp only [awc,awn,and_true]
  obtain ⟨ha,hac,hb,hb',hc⟩ := hW
  refine ⟨by simp; omega,by simp; omega,fun _ => ⟨by omega,by omega⟩,fun _ => ?_⟩
  obtain ⟨s,Y,u32,u1,u0,q1,r1,q0,s63,es,ey,eY,y1,y2,ey1,ey0,eu,v0,v1,e1,e0,p1,p2,p3,p4,en,eq1,er1,eq0,t0,t1⟩ := (Jbn ha hac hb hb' hc).ex
  have ew:0 ≤ IntKind.u64.wrap (XE c) := by rw [es]; omega
  have ew3:0 ≤ Ym c := by unfold Ym; rw [es,W4 (by omega) (by omega)]; omega
  have hy1:2147483648 ≤ Y / 4294967296 ∧ Y / 4294967296 < 4294967296 := by omega
  have hy0:0 ≤ Y % 4294967296 ∧ Y % 4294967296 < 4294967296 := by omega
  have hYY:Y / 4294967296 * 4294967296 + Y % 4294967296 = Y := by omega
  have first:∀ {x u:Int},0 ≤ x → x < Y → 0 ≤ u → u < 4294967296 → AdjOk (Y / 4294967296) (Y % 4294967296) x u (IntKind.u64.wrap (x.tdiv (Y / 4294967296))) (IntKind.u64.wrap (x - IntKind.u64.wrap (IntKind.u64.wrap (x.tdiv (Y / 4294967296)) * (Y / 4294967296)))) := fun {x u} g1 g2 g3 g4 => by
    have A := Jpt (y1 := Y / 4294967296) (y0 := Y % 4294967296) (u32 := x) (u := u) hy1 hy0 ⟨g3,g4⟩ (by omega)
    have hd := Int.mul_ediv_add_emod x (Y / 4294967296)
    have hm1 := Int.emod_nonneg x (show Y / 4294967296 ≠ 0 by omega)
    have hm2 := Int.emod_lt_of_pos x (show 0 < Y / 4294967296 by omega)
    have hcm:Y / 4294967296 * (x / (Y / 4294967296)) = x / (Y / 4294967296) * (Y / 4294967296) := Int.mul_comm _ _
    rw [hcm] at hd
    have ub := A.ub
    have q0 := A.q0
    have qn := Int.mul_nonneg q0 (show 0 ≤ Y / 4294967296 by omega)
    have e1:IntKind.u64.wrap (x.tdiv (Y / 4294967296)) = x / (Y / 4294967296) := by
      rw [Int.tdiv_eq_ediv_of_nonneg g1,W4 q0 (by omega)]
    rw [e1,W4 (x := x / (Y / 4294967296) * (Y / 4294967296)) (by omega) (by omega),W4 (by omega) (by omega)]
    exact A
  have e4:zJ a b c = IntKind.u64.wrap (u32.tdiv (Y / 4294967296)) := by unfold zJ Ym; rw [eu,ey,ey1]
  have e5:JCX a b c = IntKind.u64.wrap (u32 - IntKind.u64.wrap (IntKind.u64.wrap (u32.tdiv (Y / 4294967296)) * (Y / 4294967296))) := by unfold JCX; rw [e4]; unfold Ym; rw [eu,ey,ey1]
  have e7:JIK a b c = r1 := by
    unfold JIK JX4 Ym
    rw [eu,ey,ey1,ey0,e1,hYY,JwQ,← eq1,← er1]
    exact Int.emod_eq_of_lt t0 (by omega)
  have e8:kl a b c = IntKind.u64.wrap (r1.tdiv (Y / 4294967296)) := by unfold kl; rw [e7,ey,ey1]
  have e9:JCV a b c = IntKind.u64.wrap (r1 - IntKind.u64.wrap (IntKind.u64.wrap (r1.tdiv (Y / 4294967296)) * (Y / 4294967296))) := by unfold JCV; rw [e7,e8,ey,ey1]
  rw [e4,e5,e7,e8,e9]
  unfold Ym at ew3 ⊢
  rw [eu,ey,ey1,ey0,e1,e0]
  exact ⟨by omega,by omega,ew,ew,ew3,ew,by omega,first v0 v1 p1 p2,trivial,trivial,by omega,first t0 t1 p3 p4,trivial,trivial,ew⟩
theorem Jjk (a b c:Int) (hNeeds:∀ pN ∈ (JEG a b c),pN):Runs (Js (JB Jd6) JqE 170) (JFp.args [.i a,.i b,.i c]) (JFp.memo [.i a,.i b,.i c] []) JFp.n (SV.tup [(false,[SC.int IntKind.u64 (SI.v (ZI a b c))]),(false,[SC.int IntKind.u64 (SI.v (ZJ a b c))])]) ([]) :=
  Runs.of1 (ps := (JEG a b c)) (by kernel_rfl) hNeeds
def JQF:List Pm → Qr → Option CRes
  | [.i a,.i b,.i c],[] => some ⟨SV.tup [(false,[SC.int IntKind.u64 (SI.v (ZI a b c))]),(false,[SC.int IntKind.u64 (SI.v (ZJ a b c))])],
 [],[0 ≤ a,a < c,0 ≤ b,b < 18446744073709551616,c < 18446744073709551616],[],176⟩
  | _,_ => none
theorem JtR:Qk Tryz.prog 170 (JS JFp JQF) := by
  refine JH (JD JbW 170) fun ps ls r hr hn _ => ?_
  unfold JQF at hr
  split at hr
  · cases hr; exact ⟨_,Jjk _ _ _ (JjK (by exact hn)),fun _ => rfl⟩
  · cases hr
def JKp:List (Nat × JW) := (170,JS JFp JQF) :: Jd6
theorem JSl:Known Tryz.prog (JB JKp) JqE := J7 JbW JtR
theorem JKm {a b c:Int} (ha:0 ≤ a) (hac:a < c) (hb:0 ≤ b) (hb':b < 18446744073709551616) (hc:c < 18446744073709551616) :
    ZI a b c = (a * 18446744073709551616 + b) / c ∧ ZJ a b c = (a * 18446744073709551616 + b) % c := by
  unfold ZI ZJ
  by_cases h:a = 0
  · subst h
    rw [show ((0:Int) == 0) = true from rfl,cond_true,cond_true,Int.tdiv_eq_ediv_of_nonneg hb,Int.tmod_eq_emod_of_nonneg hb,Int.zero_mul,Int.zero_add]
    refine ⟨W4 (Int.ediv_nonneg hb (by omega)) ?_,rfl⟩
    have := Int.ediv_le_self c hb
    omega
  · rw [show (a == 0) = false by simpa using h,cond_false,cond_false]
    obtain ⟨s,Y,u32,u1,u0,q1,r1,q0,s63,es,ey,eY,y1,y2,ey1,ey0,eu,v0,v1,e1,e0,p1,p2,p3,p4,en,eq1,er1,eq0,t0,t1⟩ := (Jbn ha hac hb hb' hc).ex
    have hYY:Y / 4294967296 * 4294967296 + Y % 4294967296 = Y := by omega
    have hd := JVh (Y := Y) (by omega) v0 ⟨p1,p2⟩ ⟨p3,p4⟩ eq1 er1 eq0
    have es1:JCo c = Y := by unfold JCo; rw [ey,ey1,ey0,hYY]
    have es0:JCw a b c = u32 * 4294967296 := by unfold JCw; rw [eu]
    have er:IntKind.u64.wrap (IntKind.u64.wrap (IntKind.u64.wrap (u32 * 4294967296) + u1) - IntKind.u64.wrap (q1 * Y)) = r1 := by
      rw [JwQ,← er1]; exact Int.emod_eq_of_lt t0 (by omega)
    have es2:JNb a b c = r1 * 4294967296 := by
      unfold JNb
      rw [es0,es1,e1,ey,← eq1,er]
    have l1 := JM3 (y1 := Y / 4294967296) (y0 := Y % 4294967296) (u32 := u32) (u := u1) (by omega) (by omega) (by omega) (by omega)
    have l0 := JM3 (y1 := Y / 4294967296) (y0 := Y % 4294967296) (u32 := r1) (u := u0) (by omega) (by omega) (by omega) (by omega)
    rw [hYY,← eq1] at l1
    rw [hYY,← eq0] at l0
    have hp := KU s
    have m3 := Int.emod_nonneg ((u32 * 4294967296 + u1) * 4294967296 + u0) (show Y ≠ 0 by omega)
    have m4 := Int.emod_lt_of_pos ((u32 * 4294967296 + u1) * 4294967296 + u0) (show 0 < Y by omega)
    rw [← hd.2.1] at m3 m4
    constructor
    · rw [es0,es1,e1,e0,ey,← eq1,er,← eq0,W4 (x := q1 * 4294967296) (by omega) (by omega),W4 (by omega) (by omega),hd.1,en,eY,Int.mul_ediv_mul_of_pos_left _ _ hp]
    · rw [es2,es1,e0,ey,← eq0,JwQ,Int.emod_eq_of_lt m3 (by omega),es,Jvi _ _ m3 (by omega),hd.2.1,en,eY,Int.mul_comm _ (2 ^ s),Int.mul_comm c,Int.mul_emod_mul_of_pos _ _ hp,Int.mul_ediv_cancel_left _ (by omega)]
theorem Jk (x:Int):XY (IntKind.i64.wrap x) := by
  unfold IntKind.wrap XY
  simp only [IntKind.bits,IntKind.signed]
  simp
  omega
theorem JnD (a b:Int) (h:1 ≤ b) (hb:b ≤ 4611686018427387904):0 ≤ QA a b ∧ QA a b < b := by
  unfold QA
  have h1 := Int.tmod_lt_of_pos a (b := b) (by omega)
  have h2:-b < a.tmod b := by
    have := Int.tmod_lt_of_pos (-a) (b := b) (by omega)
    rw [Int.neg_tmod] at this
    omega
  by_cases h3:a.tmod b < 0
  · simp only [h3,decide_true,cond_true]
    rw [X7 (by omega) (by omega)]
    omega
  · simp only [h3,decide_false,cond_false]
    omega
abbrev bd (m x:Int):Prop := -m ≤ x ∧ x ≤ m
theorem Xf {a c:Int} (ha:bd 1000000000 a) (hc:bd 1000000000 c):J0 a c = a - c := by unfold J0; rw [X7 (by omega) (by omega)]
theorem JWH {a c:Int} (ha:bd 1000000000 a) (hc:bd 1000000000 c):JI a c = a + c := by unfold JI; rw [X7 (by omega) (by omega)]
theorem JHV {m n x y:Int} (hx:bd m x) (hy:bd n y) (hm:0 ≤ m) (hn:0 ≤ n):bd (m * n) (x * y) := by
  have h:∀ u v:Int,0 ≤ u → u ≤ m → 0 ≤ v → v ≤ n → 0 ≤ u * v ∧ u * v ≤ m * n := fun u v h1 h2 h3 h4 => ⟨Int.mul_nonneg h1 h3,Int.mul_le_mul h2 h4 h3 hm⟩
  by_cases h1:0 ≤ x <;> by_cases h2:0 ≤ y
  · have := h x y h1 (by omega) h2 (by omega); constructor <;> omega
  · have := h x (-y) h1 (by omega) (by omega) (by omega); rw [Int.mul_neg] at this; constructor <;> omega
  · have := h (-x) y (by omega) (by omega) h2 (by omega); rw [Int.neg_mul] at this; constructor <;> omega
  · have := h (-x) (-y) (by omega) (by omega) (by omega) (by omega); rw [Int.neg_mul_neg] at this; constructor <;> omega
theorem X6 {a b c d:Int} (ha:bd 1000000000 a) (hb:bd 1000000000 b) (hc:bd 1000000000 c) (hd:bd 1000000000 d):JE a b c d = a * d - b * c := by
  have h1 := JHV ha hd (by omega) (by omega)
  have h2 := JHV hb hc (by omega) (by omega)
  unfold JE
  generalize a * d = p at *
  generalize b * c = q at *
  rw [X7 (x := p) (by omega) (by omega),X7 (x := q) (by omega) (by omega),X7 (by omega) (by omega)]
theorem Ks {a b c d:Int} (ha:bd 1000000000 a) (hb:bd 1000000000 b) (hc:bd 1000000000 c) (hd:bd 1000000000 d):J8 a b c d = a * c + b * d := by
  have h1 := JHV ha hc (by omega) (by omega)
  have h2 := JHV hb hd (by omega) (by omega)
  unfold J8
  generalize a * c = p at *
  generalize b * d = q at *
  rw [X7 (x := p) (by omega) (by omega),X7 (x := q) (by omega) (by omega),X7 (by omega) (by omega)]
theorem JCr (x y:Int):(x < y ∧ KC x y = -1) ∨ (x = y ∧ KC x y = 0) ∨ (y < x ∧ KC x y = 1) := by
  unfold KC
  by_cases h:x < y
  · exact .inl ⟨h,if_pos h⟩
  · by_cases h2:x = y
    · exact .inr (.inl ⟨h2,by rw [if_neg h,if_pos h2]⟩)
    · exact .inr (.inr ⟨by omega,by rw [if_neg h,if_neg h2]⟩)
theorem JVn {x y:Int} (h:x ≠ 0 ∨ y ≠ 0):0 < x * x + y * y := by
  have h1:∀ z:Int,0 ≤ z * z := fun z => by
    rcases Int.le_total 0 z with h | h
    · exact Int.mul_nonneg h h
    · have := Int.mul_nonneg (show 0 ≤ -z by omega) (show 0 ≤ -z by omega)
      rwa [Int.neg_mul_neg] at this
  have h2:∀ z:Int,z ≠ 0 → 0 < z * z := fun z hz => by
    have := h1 z
    have:z * z ≠ 0 := Int.mul_ne_zero hz hz
    omega
  rcases h with h | h
  · have := h2 x h; have := h1 y; omega
  · have := h2 y h; have := h1 x; omega
theorem qA {c n:Int} (hn:0 < n) (h:0 < c * n):0 < c := by
  rcases Int.lt_or_le 0 c with h1 | h1
  · exact h1
  · have := Int.mul_nonneg (show 0 ≤ -c by omega) (show 0 ≤ n by omega)
    rw [Int.neg_mul] at this
    omega
theorem JbC {c n:Int} (hn:0 < n) (h:c * n < 0):c < 0 := by
  have := qA (c := -c) hn (by rw [Int.neg_mul]; omega)
  omega
theorem JZ9 {c n:Int} (hn:0 < n) (h:0 < c):0 < c * n := Int.mul_pos h hn
theorem JlQ {c n:Int} (hn:0 < n) (h:c < 0):c * n < 0 := by
  have := Int.mul_pos (show 0 < -c by omega) hn
  rw [Int.neg_mul] at this
  omega
theorem JsQ {x y u v:Int} (hc:x * v = y * u) (hs:0 < y * v):0 < x * u + y * v := by
  have hv:v ≠ 0 := fun h => by rw [h,Int.mul_zero] at hs; omega
  have h1 := JVn (x := u) (y := v) (.inr hv)
  have h2:(x * u + y * v) * (v * v) = (y * v) * (u * u + v * v) := by grind
  have h3:0 < v * v := by have := JVn (x := 0) (y := v) (.inr hv); simpa using this
  exact qA h3 (by rw [h2]; exact Int.mul_pos hs h1)
theorem Jm4 {x y u v c d:Int} (hp:x ≠ 0 ∨ y ≠ 0) (hb:u ≠ 0 ∨ v ≠ 0) (hc1:0 < c ↔ 0 < x * v - y * u) (hc2:c < 0 ↔ x * v - y * u < 0) (hd:0 < d ↔ 0 < x * u + y * v) :
    (((c < 0 ∨ c = 0 ∧ 0 < d) ∧ (¬ (v < 0 ∨ v = 0 ∧ 0 < u) ∨ y ≤ 0)) ∨ (¬ (c < 0 ∨ c = 0 ∧ 0 < d) ∧ ¬ (v < 0 ∨ v = 0 ∧ 0 < u) ∧ y ≤ 0)) ↔
    (((y < 0 ∨ y = 0 ∧ 0 < x) ∧ (¬ (v < 0 ∨ v = 0 ∧ 0 < u) ∨ c ≤ 0)) ∨ (¬ (y < 0 ∨ y = 0 ∧ 0 < x) ∧ ¬ (v < 0 ∨ v = 0 ∧ 0 < u) ∧ c ≤ 0)) := by
  have key:c = 0 → 0 < y * v → 0 < d := fun h1 h2 => hd.2 (JsQ (by omega) h2)
  have zl:∀ {s:Int} (r:Int),s = 0 → s * r = 0 := fun r h => by rw [h,Int.zero_mul]
  have zr:∀ {s:Int} (r:Int),s = 0 → r * s = 0 := fun r h => by rw [h,Int.mul_zero]
  rcases Int.lt_trichotomy y 0 with hy | hy | hy <;> rcases Int.lt_trichotomy v 0 with hv | hv | hv
  · have := Int.mul_pos_of_neg_of_neg hy hv; have := key; omega
  · have := zr x hv; have := zr y hv
    rcases Int.lt_trichotomy u 0 with hu | hu | hu
    · have := Int.mul_pos_of_neg_of_neg hy hu; omega
    · omega
    · have := Int.mul_neg_of_neg_of_pos hy hu; omega
  · omega
  · have := zl u hy; have := zl v hy
    rcases Int.lt_trichotomy x 0 with hx | hx | hx
    · have := Int.mul_pos_of_neg_of_neg hx hv; omega
    · omega
    · have := Int.mul_neg_of_pos_of_neg hx hv; omega
  · have := zl u hy; have := zl v hy; have := zr x hv
    rcases Int.lt_trichotomy x 0 with hx | hx | hx <;> rcases Int.lt_trichotomy u 0 with hu | hu | hu
    · have := Int.mul_pos_of_neg_of_neg hx hu; omega
    · omega
    · have := Int.mul_neg_of_neg_of_pos hx hu; omega
    · omega
    · omega
    · omega
    · have := Int.mul_neg_of_pos_of_neg hx hu; omega
    · omega
    · have := Int.mul_pos hx hu; omega
  · have := zl u hy; have := zl v hy
    rcases Int.lt_trichotomy x 0 with hx | hx | hx
    · have := Int.mul_neg_of_neg_of_pos hx hv; omega
    · omega
    · have := Int.mul_pos hx hv; omega
  · omega
  · have := zr x hv; have := zr y hv
    rcases Int.lt_trichotomy u 0 with hu | hu | hu
    · have := Int.mul_neg_of_pos_of_neg hy hu; omega
    · omega
    · have := Int.mul_pos hy hu; omega
  · have := Int.mul_pos hy hv; have := key; omega
theorem JxJ (x y:Int):0 ≤ x * x + y * y := by
  by_cases h:x ≠ 0 ∨ y ≠ 0
  · have := JVn h; omega
  · have h1:x = 0 := by omega
    have h2:y = 0 := by omega
    subst h1; subst h2; decide
theorem JdJ (x y:Int):decide (KC x y ≤ 0) = decide (x ≤ y) := by
  rcases JCr x y with ⟨h1,h2⟩ | ⟨h1,h2⟩ | ⟨h1,h2⟩ <;> rw [h2] <;> simp <;> omega
abbrev u64 (x:Int):Prop := 0 ≤ x ∧ x < 18446744073709551616
def JI6 (j:Nat):Int := bif decide (j < 64) then 2 ^ (63 - j) else 0
def flF (a b:Int):Fam Nat Unit where
  k := 20
  E j := [(4,ent 1000000000 (.one (U (JI6 j)))),(3,ent 1000000001 (.one (U (fr 64 (a * 18446744073709551616 + b) j)))),(1,ent 3 (.one (.ptr 0 0)))]
  M j := [(0,.blk 147 [(1,U a),(2,U b)])]
  out _ := .leaf (.exit 0) [(3,ent 8 (.one (U (fr 64 (a * 18446744073709551616 + b) 64))))] []
  fin _ := ()
  next j _ := j + 1
  J j := j ≤ 64 ∧ u64 a ∧ u64 b
  μ j := 64 - j
theorem JnG {j:Nat} (h:j < 64):JI6 j = 2 ^ (64 - 1 - j) := by unfold JI6; rw [decide_eq_true h,cond_true]
theorem Joy {j:Nat} (h:j < 64):JU .shr .u64 (JI6 j) 1 = JI6 (j + 1) := by
  have hp := KU (63 - j)
  have e:(2:Int) ^ min (1:Int).toNat IntKind.u64.bits = 2 := by decide
  have e2:JU .shr .u64 (JI6 j) 1 = JI6 j / 2 := by
    unfold JU
    simp only [e]
    exact Int.fdiv_eq_ediv_of_nonneg _ (by omega)
  rw [e2]
  unfold JI6
  rw [decide_eq_true h,cond_true]
  by_cases h1:j + 1 < 64
  · rw [decide_eq_true h1,cond_true,show 63 - j = (63 - (j + 1)) + 1 by omega,JXt]
    omega
  · rw [decide_eq_false h1,cond_false,show 63 - j = 0 by omega]
    rfl
theorem JtE:(2:Int) ^ 64 * 2 ^ 64 = 340282366920938463463374607431768211456 := rfl
section
variable (a b:Int) (j:Nat)
def JTi:Int:= fr 64 (a * 18446744073709551616 + b) j
def JvJ:Int:= JKi (QM (Zi BinOp.or IntKind.u64 (JTi a b j) (JI6 j)) (Zi BinOp.or IntKind.u64 (JTi a b j) (JI6 j))) (Qe (Zi BinOp.or IntKind.u64 (JTi a b j) (JI6 j)) (Zi BinOp.or IntKind.u64 (JTi a b j) (JI6 j))) a b
def JaS:List Prop:= [decide (JI6 j > 0) = true → ((flF a b).next j 0 ≤ 64 ∧ (0 ≤ a ∧ a < 18446744073709551616) ∧ 0 ≤ b ∧ b < 18446744073709551616) ∧ (flF a b).μ ((flF a b).next j 0) < (flF a b).μ j ∧ (flF a b).fin ((flF a b).next j 0) = (flF a b).fin j ∧ JI6 ((flF a b).next j 0) = JU BinOp.shr IntKind.u64 (JI6 j) 1 ∧ fr 64 (a * 18446744073709551616 + b) ((flF a b).next j 0) = bif decide (JvJ a b j ≤ 0) then Zi BinOp.or IntKind.u64 (JTi a b j) (JI6 j) else JTi a b j,decide (JI6 j > 0) = false → fr 64 (a * 18446744073709551616 + b) 64 = JTi a b j]
end
theorem JrH (a b:Int) (j:Nat) (hNeeds:∀ pN ∈ (JaS a b j),pN):Jz (XU (flF a b) (QU Tryz.prog (JB JKp) JqE 154 0) 7 j) :=
  Jz.of (ps := (JaS a b j)) (by kernel_rfl) (by kernel_rfl) hNeeds
theorem JqC (a b:Int):Qv (flF a b) (QU Tryz.prog (JB JKp) JqE 154 0) 7 := by
  intro j hJ
  obtain ⟨h1,ha,hb⟩:j ≤ 64 ∧ u64 a ∧ u64 b := hJ
  have hx0:0 ≤ a * 18446744073709551616 + b := by omega
  have hx1:a * 18446744073709551616 + b < 2 ^ 64 * 2 ^ 64 := by rw [JtE]; omega
  have ex1:(a * 18446744073709551616 + b) / 18446744073709551616 = a := by omega
  have ex2:(a * 18446744073709551616 + b) % 18446744073709551616 = b := by omega
  refine JrH a b j ?_
  unfold JaS
  refine Jw2 ?_ ?_
  · intro h
    have hj:j < 64 := by
      rcases Nat.lt_or_ge j 64 with g | g
      · exact g
      · unfold JI6 at h
        rw [decide_eq_false (show ¬ j < 64 by omega)] at h
        simp at h
    obtain ⟨o1,o2,o3⟩ := Jqv hx0 hx1 hj (by omega)
    rw [Jnf (by omega)] at o1
    refine ⟨⟨hj,ha,hb⟩,?_,rfl,(Joy hj).symm,?_⟩
    · show 64 - (j + 1) < 64 - j; omega
    · unfold JvJ JTi
      rw [JnG hj,o1,zT _ _ ⟨o2,o3⟩ ⟨o2,o3⟩,ku]
      have hc := Jgg ((fr 64 (a * 18446744073709551616 + b) j + 2 ^ (64 - 1 - j)) * (fr 64 (a * 18446744073709551616 + b) j + 2 ^ (64 - 1 - j))) (a * 18446744073709551616 + b) (Int.mul_nonneg o2 o2) hx0
      rw [ex1,ex2] at hc
      rw [hc,JdJ]
      rfl
  · intro h
    have hj:j = 64 := by
      rcases Nat.lt_or_ge j 64 with g | g
      · exfalso
        rw [JnG g] at h
        have := KU (64 - 1 - j)
        rw [decide_eq_false_iff_not] at h
        omega
      · omega
    rw [hj]; rfl
def Jwz (env:KP) (mem:Jo) (t:Nat):Option (Int × Int) := match SX.JC env t with
  | some ⟨_,_,_,.one (.ptr id 0)⟩ => (match JI1 mem id with
    | some [x,y] => some (x,y)
    | _ => none)
  | _ => none
def flL:QH := fun env mem m => match Jwz env mem 1 with
  | some (a,b) => jY (flF a b) 7 (fun _ _ => some 0) env mem m
  | none => none
def Zw:FuncId → Nat → Option QH := JBZ JqE 154 3 flL
theorem JcJ:Known Tryz.prog (JB JKp) Zw := by
  refine Qj 0 JSl (by kernel_rfl) (Qy fun env mem m x h => ?_)
  unfold flL at h
  have hlen:(QZ Tryz.prog 154).length = 1 := by kernel_rfl
  split at h
  · exact ⟨_,XF (Qa Zy JSl (by omega)) (JqC _ _),h⟩
  · cases h
def WG:Tpl := ⟨[.agg [.int .u64,.int .u64]],[],0⟩
def Jm (a b:Int):Int := fr 64 (a * 18446744073709551616 + b) 64
def WM (a b:Int):List Prop := [0 ≤ 64 ∧ (0 ≤ a ∧ a < 18446744073709551616) ∧ 0 ≤ b ∧ b < 18446744073709551616,Int.ofNat 9223372036854775808 = 9223372036854775808,fr 64 (a * 18446744073709551616 + b) 0 = 0]
theorem JYk {a:Int} {b:Int} (hW:∀ q ∈ ([u64 a,u64 b]:List Prop),q):∀ q ∈ (WM a b),q := by
  simp only [awc,awn,and_true] at hW
  unfold WM
  simp only [awc,awn,and_true]
  exact ⟨⟨by omega,hW.1,hW.2⟩,rfl,rfl⟩
theorem JXW (a b:Int) (hNeeds:∀ pN ∈ (WM a b),pN):Runs (Js (JB JKp) Zw 154) (WG.args [.i a,.i b]) (WG.memo [.i a,.i b] []) WG.n (SV.one (SC.int IntKind.u64 (SI.v (Jm a b)))) ([]) :=
  Runs.of1 (ps := (WM a b)) (by kernel_rfl) hNeeds
def JET:List Pm → Qr → Option CRes
  | [.i a,.i b],[] => some ⟨SV.one (SC.int IntKind.u64 (SI.v (Jm a b))),
 [],[u64 a,u64 b],[],29⟩
  | _,_ => none
theorem Jf0:Qk Tryz.prog 154 (JS WG JET) := by
  refine JH (JD JcJ 154) fun ps ls r hr hn _ => ?_
  unfold JET at hr
  split at hr
  · cases hr; exact ⟨_,JXW _ _ (JYk (by exact hn)),fun _ => rfl⟩
  · cases hr
def JJT:List (Nat × JW) := (154,JS WG JET) :: JKp
theorem JI3:Known Tryz.prog (JB JJT) Zw := J7 JcJ Jf0
theorem JsB {a b:Int} (ha:u64 a) (hb:u64 b):0 ≤ Jm a b ∧ Jm a b * Jm a b ≤ a * 18446744073709551616 + b ∧ a * 18446744073709551616 + b < (Jm a b + 1) * (Jm a b + 1) ∧ Jm a b < 18446744073709551616 := by
  obtain ⟨x,y,z,w⟩ := Jf9 (T := 64) (x := a * 18446744073709551616 + b) (by omega) (by rw [JtE]; omega)
  have e:(2:Int) ^ 64 = 18446744073709551616 := rfl
  exact ⟨x,y,z,by show fr 64 _ 64 < _; omega⟩
theorem Jml (x:Int):u64 (x % 18446744073709551616) := by omega
theorem Jec (x y:Int):u64 (Qe x y) := by rw [ku]; exact Jml _
theorem JeF {x y:Int} (hx:u64 x) (hy:u64 y):u64 (QM x y) := by
  rw [zT _ _ hx hy]
  obtain ⟨h1,h2⟩ := Kk 18446744073709551615 18446744073709551615 (x := x) (y := y) ⟨hx.1,by omega⟩ ⟨hy.1,by omega⟩ (by omega)
  omega
theorem JrF (x:Int):u64 (IntKind.u64.wrap x) := by rw [JB5]; exact Jml _
theorem Jqd (x y z:Int):0 ≤ JEb x y z ∧ JEb x y z ≤ 1 := by unfold JEb; split <;> decide
def JF3:Tpl := ⟨[.agg [.int .u64,.int .u64],.one (.int .i64)],[],0⟩
section
variable (a b m:Int)
def JW1:Int:= JJC a (QM (Jm a b) (Jm a b)) (JEb b (Qe (Jm a b) (Jm a b)) 0)
def JIX:Int:= bif m == 1 && (decide (JW1 a b > 0) || decide (JJC b (Qe (Jm a b) (Jm a b)) 0 > 0)) || m == 2 && (decide (JW1 a b > 0) || decide (JJC b (Qe (Jm a b) (Jm a b)) 0 > Jm a b)) then IntKind.u64.wrap (Jm a b + 1) else Jm a b
def JVD:Int:= bif decide (JIX a b m < 9223372036854775808) then IntKind.i64.wrap (JIX a b m) else 0
def JUk:Bool:= decide (JIX a b m < 9223372036854775808)
def JEA:List Prop:= [0 ≤ a ∧ a < 18446744073709551616,0 ≤ b ∧ b < 18446744073709551616,0 ≤ b,0 ≤ Qe (Jm a b) (Jm a b),Int.ofNat 0 ≤ 0 ∧ Int.ofNat 0 ≤ 1,0 ≤ a,0 ≤ QM (Jm a b) (Jm a b),0 ≤ JEb b (Qe (Jm a b) (Jm a b)) 0 ∧ JEb b (Qe (Jm a b) (Jm a b)) 0 ≤ 1]
end
theorem Jkq {a:Int} {b:Int} (hW:∀ q ∈ ([u64 a,u64 b]:List Prop),q):∀ q ∈ (JEA a b),q := by
  simp only [awc,awn,and_true] at hW
  unfold JEA
  simp only [awc,awn,and_true]
  obtain ⟨ha,hb⟩ := hW
  have hf := JsB ha hb
  have m1 := Jec (Jm a b) (Jm a b)
  have m0 := JeF (x := Jm a b) (y := Jm a b) ⟨hf.1,hf.2.2.2⟩ ⟨hf.1,hf.2.2.2⟩
  exact ⟨ha,hb,hb.1,m1.1,by decide,ha.1,m0.1,Jqd _ _ _⟩
theorem Jjx (a b m:Int) (hNeeds:∀ pN ∈ (JEA a b),pN):Runs (Js (JB JJT) Zw 173) (JF3.args [.i a,.i b,.i m]) (JF3.memo [.i a,.i b,.i m] []) JF3.n (SV.tup [(false,[Ci (JVD a b m)]),(false,[Cb (JUk a b m)])]) ([]) :=
  Runs.of1 (ps := (JEA a b)) (by kernel_rfl) hNeeds
def JQy:List Pm → Qr → Option CRes
  | [.i a,.i b,.i m],[] => some ⟨SV.tup [(false,[Ci (JVD a b m)]),(false,[Cb (JUk a b m)])],
 [],[u64 a,u64 b],[],169⟩
  | _,_ => none
theorem JqR:Qk Tryz.prog 173 (JS JF3 JQy) := by
  refine JH (JD JI3 173) fun ps ls r hr hn _ => ?_
  unfold JQy at hr
  split at hr
  · cases hr; exact ⟨_,Jjx _ _ _ (Jkq (by exact hn)),fun _ => rfl⟩
  · cases hr
def JeH:List (Nat × JW) := (173,JS JF3 JQy) :: JJT
theorem JTO:Known Tryz.prog (JB JeH) Zw := J7 JI3 JqR
def JF2:Tpl := ⟨[.one (.int .i64),.one (.int .i64)],[],0⟩
section
variable (n m:Int)
def JDh:Int:= bif decide (n < 0) || !(m == 0 || m == 1 || m == 2) then 0 else JVD 0 (IntKind.u64.wrap n) m
def JOw:Bool:= bif decide (n < 0) || !(m == 0 || m == 1 || m == 2) then false else JUk 0 (IntKind.u64.wrap n) m
def JEB:List Prop:= [(decide (n < 0) || !(m == 0 || m == 1 || m == 2)) = false → (Int.ofNat 0 ≤ 0 ∧ Int.ofNat 0 < 18446744073709551616) ∧ 0 ≤ IntKind.u64.wrap n ∧ IntKind.u64.wrap n < 18446744073709551616]
end
theorem Jk5 {n:Int} {m:Int} (hW:∀ q ∈ ([XY n]:List Prop),q):∀ q ∈ (JEB n m),q := by
  simp only [awc,awn,and_true] at hW
  unfold JEB
  simp only [awc,awn,and_true]
  intro _
  have := JrF n
  exact ⟨by decide,this.1,this.2⟩
theorem JlR (n m:Int) (hNeeds:∀ pN ∈ (JEB n m),pN):Runs (Js (JB JeH) Zw 162) (JF2.args [.i n,.i m]) (JF2.memo [.i n,.i m] []) JF2.n (SV.tup [(false,[Ci (JDh n m)]),(false,[Cb (JOw n m)])]) ([]) :=
  Runs.of1 (ps := (JEB n m)) (by kernel_rfl) hNeeds
def JQd:List Pm → Qr → Option CRes
  | [.i n,.i m],[] => some ⟨SV.tup [(false,[Ci (JDh n m)]),(false,[Cb (JOw n m)])],
 [],[XY n],[],201⟩
  | _,_ => none
theorem JsX:Qk Tryz.prog 162 (JS JF2 JQd) := by
  refine JH (JD JTO 162) fun ps ls r hr hn _ => ?_
  unfold JQd at hr
  split at hr
  · cases hr; exact ⟨_,JlR _ _ (Jk5 (by exact hn)),fun _ => rfl⟩
  · cases hr
def Jex:List (Nat × JW) := (162,JS JF2 JQd) :: JeH
theorem JTR:Known Tryz.prog (JB Jex) Zw := J7 JTO JsX
def JJg:Tpl := ⟨[.agg [.int .u64,.int .u64],.one (.int .u64)],[],0⟩
def JZw (a b c:Int):Bool := decide (ZJ (ZJ 0 a c) b c > 0)
def JGm (a b c:Int):List Prop := [Int.ofNat 0 ≤ 0,0 < c,0 ≤ a,a < 18446744073709551616,c < 18446744073709551616,0 ≤ ZJ 0 a c,ZJ 0 a c < c,0 ≤ b,b < 18446744073709551616,c < 18446744073709551616]
theorem JpW {a:Int} {b:Int} {c:Int} (hW:∀ q ∈ ([u64 a,u64 b,0 < c,c < 18446744073709551616]:List Prop),q):∀ q ∈ (JGm a b c),q := by
  simp only [awc,awn,and_true] at hW
  unfold JGm
  simp only [awc,awn,and_true]
  obtain ⟨ha,hb,hc,hc'⟩ := hW
  have hd := (JKm (a := 0) (b := a) (c := c) (by omega) hc ha.1 ha.2 hc').2
  have m3 := Int.emod_nonneg (0 * 18446744073709551616 + a) (show c ≠ 0 by omega)
  have m4 := Int.emod_lt_of_pos (0 * 18446744073709551616 + a) hc
  rw [← hd] at m3 m4
  exact ⟨by decide,hc,ha.1,ha.2,hc',m3,m4,hb.1,hb.2,hc'⟩
theorem Joa (a b c:Int) (hNeeds:∀ pN ∈ (JGm a b c),pN):Runs (Js (JB Jex) Zw 152) (JJg.args [.i a,.i b,.i c]) (JJg.memo [.i a,.i b,.i c] []) JJg.n (SV.tup [(true,[SC.int IntKind.u64 (SI.v (ZI 0 a c)),SC.int IntKind.u64 (SI.v (ZI (ZJ 0 a c) b c))]),(false,[Cb (JZw a b c)])]) ([]) :=
  Runs.of1 (ps := (JGm a b c)) (by kernel_rfl) hNeeds
def Jai:List Pm → Qr → Option CRes
  | [.i a,.i b,.i c],[] => some ⟨SV.tup [(true,[SC.int IntKind.u64 (SI.v (ZI 0 a c)),SC.int IntKind.u64 (SI.v (ZI (ZJ 0 a c) b c))]),(false,[Cb (JZw a b c)])],
 [],[u64 a,u64 b,0 < c,c < 18446744073709551616],[],389⟩
  | _,_ => none
theorem Jux:Qk Tryz.prog 152 (JS JJg Jai) := by
  refine JH (JD JTR 152) fun ps ls r hr hn _ => ?_
  unfold Jai at hr
  split at hr
  · cases hr; exact ⟨_,Joa _ _ _ (JpW (by exact hn)),fun _ => rfl⟩
  · cases hr
def Jl7:List (Nat × JW) := (152,JS JJg Jai) :: Jex
theorem JXh:Known Tryz.prog (JB Jl7) Zw := J7 JTR Jux
def JFW:Tpl := ⟨[.one (.int .i64),.one (.int .i64),.one (.bool),.one (.bool)],[],0⟩
def JAr (m n:Int) (p q:Bool):Bool := bif m == 0 then p && q else bif m == 1 then p && !q else decide (n > 0) || n == 0 && !q
theorem JkX (m n:Int) (p q:Bool):Runs (Js (JB Jl7) Zw 156) (JFW.args [.i m,.i n,.b p,.b q]) (JFW.memo [.i m,.i n,.b p,.b q] []) JFW.n (SV.one (Cb (JAr m n p q))) ([]) :=
  Runs.of1 (ps := []) (by kernel_rfl) (by simp)
def JQR:List Pm → Qr → Option CRes
  | [.i m,.i n,.b p,.b q],[] => some ⟨SV.one (Cb (JAr m n p q)),
 [],[],[],28⟩
  | _,_ => none
theorem JrB:Qk Tryz.prog 156 (JS JFW JQR) := by
  refine JH (JD JXh 156) fun ps ls r hr hn _ => ?_
  unfold JQR at hr
  split at hr
  · cases hr; exact ⟨_,JkX _ _ _ _,fun _ => rfl⟩
  · cases hr
def JeR:List (Nat × JW) := (156,JS JFW JQR) :: Jl7
theorem JTl:Known Tryz.prog (JB JeR) Zw := J7 JXh JrB
def JCU:Tpl := ⟨[.one (.int .u64),.one (.bool)],[],0⟩
def Yi (n:Int) (p:Bool):Int := bif p && decide (n ≤ 9223372036854775808) then IntKind.i64.wrap (IntKind.u64.wrap (0 - n)) else bif !p && decide (n < 9223372036854775808) then IntKind.i64.wrap n else 0
def JD7 (n:Int) (p:Bool):Bool := p && decide (n ≤ 9223372036854775808) || !p && decide (n < 9223372036854775808)
theorem Jhs (n:Int) (p:Bool):Runs (Js (JB JeR) Zw 157) (JCU.args [.i n,.b p]) (JCU.memo [.i n,.b p] []) JCU.n (SV.tup [(false,[Ci (Yi n p)]),(false,[Cb (JD7 n p)])]) ([]) :=
  Runs.of1 (ps := []) (by kernel_rfl) (by simp)
def JLz:List Pm → Qr → Option CRes
  | [.i n,.b p],[] => some ⟨SV.tup [(false,[Ci (Yi n p)]),(false,[Cb (JD7 n p)])],
 [],[],[],26⟩
  | _,_ => none
theorem JoQ:Qk Tryz.prog 157 (JS JCU JLz) := by
  refine JH (JD JTl 157) fun ps ls r hr hn _ => ?_
  unfold JLz at hr
  split at hr
  · cases hr; exact ⟨_,Jhs _ _,fun _ => rfl⟩
  · cases hr
def JaH:List (Nat × JW) := (157,JS JCU JLz) :: JeR
theorem JO8:Known Tryz.prog (JB JaH) Zw := J7 JTl JoQ
theorem JgI {a b c:Int} (ha:u64 a) (hb:u64 b) (hc:0 < c) (hc':c < 18446744073709551616) :
    u64 (ZI 0 a c) ∧ u64 (ZI (ZJ 0 a c) b c) ∧ ZI 0 a c * 18446744073709551616 + ZI (ZJ 0 a c) b c = (a * 18446744073709551616 + b) / c ∧ JZw a b c = decide (0 < (a * 18446744073709551616 + b) % c) := by
  obtain ⟨e0,e1⟩ := JKm (a := 0) (b := a) (c := c) (by omega) hc ha.1 ha.2 hc'
  have m3 := Int.emod_nonneg (0 * 18446744073709551616 + a) (show c ≠ 0 by omega)
  have m4 := Int.emod_lt_of_pos (0 * 18446744073709551616 + a) hc
  have dm := Int.mul_ediv_add_emod (0 * 18446744073709551616 + a) c
  have q0 := Int.ediv_nonneg (show 0 ≤ 0 * 18446744073709551616 + a by omega) (show 0 ≤ c by omega)
  have q1 := Int.ediv_le_self c (show 0 ≤ 0 * 18446744073709551616 + a by omega)
  rw [← e1] at m3 m4 dm
  rw [← e0] at dm q0 q1
  obtain ⟨f0,f1⟩ := JKm (a := ZJ 0 a c) (b := b) (c := c) m3 m4 hb.1 hb.2 hc'
  have hr:0 ≤ (ZJ 0 a c * 18446744073709551616 + b) / c ∧ (ZJ 0 a c * 18446744073709551616 + b) / c < 18446744073709551616 := by
    refine ⟨Int.ediv_nonneg (by omega) (by omega),Int.ediv_lt_of_lt_mul hc ?_⟩
    have := Int.mul_le_mul_of_nonneg_right (show ZJ 0 a c + 1 ≤ c by omega) (show (0:Int) ≤ 18446744073709551616 by omega)
    have e:18446744073709551616 * c = c * 18446744073709551616 := Int.mul_comm _ _
    rw [e]
    omega
  have ex:a * 18446744073709551616 + b = (ZJ 0 a c * 18446744073709551616 + b) + c * (ZI 0 a c * 18446744073709551616) := by
    have e:c * (ZI 0 a c * 18446744073709551616) = c * ZI 0 a c * 18446744073709551616 := by rw [Int.mul_assoc]
    rw [e]
    omega
  refine ⟨⟨q0,by omega⟩,by rw [f0]; exact hr,?_,?_⟩
  · rw [ex,Int.add_mul_ediv_left _ _ (show c ≠ 0 by omega),f0]
    omega
  · unfold JZw
    rw [f1,ex,Int.add_mul_emod_self_left]
def JEf:Tpl := ⟨[.one (.int .i64),.one (.int .i64),.one (.int .i64),.one (.int .i64)],[],0⟩
section
variable (a b n m:Int)
def Jq:Int:= IntKind.u64.wrap (2 * IntKind.u64.wrap (J6 a * J6 b))
def JCQ:Int:= ZI (ZJ 0 (QM (Jq a b) (Jq a b)) (IntKind.u64.wrap n)) (Qe (Jq a b) (Jq a b)) (IntKind.u64.wrap n)
def Yk:Int:= Jm (ZI 0 (QM (Jq a b) (Jq a b)) (IntKind.u64.wrap n)) (JCQ a b n)
def JEi:Bool:= (Yk a b n).tmod 2 == 1
def JEj:Bool:= JZw (QM (Jq a b) (Jq a b)) (Qe (Jq a b) (Jq a b)) (IntKind.u64.wrap n) || !(QM (Yk a b n) (Yk a b n) == ZI 0 (QM (Jq a b) (Jq a b)) (IntKind.u64.wrap n) && Qe (Yk a b n) (Yk a b n) == JCQ a b n)
def JJ1:Bool:= decide (Qi a b < 0)
def Xn:Int:= bif decide (J6 a > 2147483648) || decide (J6 b > 2147483648) || decide (n < 1) || decide (n > 4611686018427387904) || !(m == 0 || m == 1 || m == 2) then 0 else Yi (bif JAr m (bif JEi a b n then bif JEj a b n then 1 else 0 else -1) (JEj a b n || JEi a b n) (JJ1 a b) then IntKind.u64.wrap (IntKind.u64.wrap ((Yk a b n).tdiv 2) + 1) else IntKind.u64.wrap ((Yk a b n).tdiv 2)) (JJ1 a b)
def JUw:Bool:= bif decide (J6 a > 2147483648) || decide (J6 b > 2147483648) || decide (n < 1) || decide (n > 4611686018427387904) || !(m == 0 || m == 1 || m == 2) then false else JD7 (bif JAr m (bif JEi a b n then bif JEj a b n then 1 else 0 else -1) (JEj a b n || JEi a b n) (JJ1 a b) then IntKind.u64.wrap (IntKind.u64.wrap ((Yk a b n).tdiv 2) + 1) else IntKind.u64.wrap ((Yk a b n).tdiv 2)) (JJ1 a b)
def JDk:List Prop:= [(decide (J6 a > 2147483648) || decide (J6 b > 2147483648) || decide (n < 1) || decide (n > 4611686018427387904) || !(m == 0 || m == 1 || m == 2)) = false → (0 ≤ QM (Jq a b) (Jq a b) ∧ QM (Jq a b) (Jq a b) < 18446744073709551616) ∧ (0 ≤ Qe (Jq a b) (Jq a b) ∧ Qe (Jq a b) (Jq a b) < 18446744073709551616) ∧ 0 < IntKind.u64.wrap n ∧ IntKind.u64.wrap n < 18446744073709551616 ∧ (0 ≤ ZI 0 (QM (Jq a b) (Jq a b)) (IntKind.u64.wrap n) ∧ ZI 0 (QM (Jq a b) (Jq a b)) (IntKind.u64.wrap n) < 18446744073709551616) ∧ 0 ≤ JCQ a b n ∧ JCQ a b n < 18446744073709551616]
end
theorem Jje {a:Int} {b:Int} {n:Int} {m:Int} (hW:∀ q ∈ ([XY a,XY b,XY n]:List Prop),q):∀ q ∈ (JDk a b n m),q := by
  simp only [awc,awn,and_true] at hW
  unfold JDk
  simp only [awc,awn,and_true]
  obtain ⟨ha,hb,hn⟩ := hW
  intro h
  simp only [Bool.or_eq_false_iff,decide_eq_false_iff_not] at h
  have s0:u64 (Jq a b) := JrF _
  have h0 := JeF s0 s0
  have h1 := Jec (Jq a b) (Jq a b)
  have ew:IntKind.u64.wrap n = n := W4 (by omega) (by omega)
  have hq := JgI h0 h1 (c := n) (by omega) (by omega)
  rw [ew]
  unfold JCQ
  rw [ew]
  exact ⟨h0,h1,by omega,by omega,hq.1,hq.2.1.1,hq.2.1.2⟩
theorem Jlb (a b n m:Int) (hNeeds:∀ pN ∈ (JDk a b n m),pN):Runs (Js (JB JaH) Zw 127) (JEf.args [.i a,.i b,.i n,.i m]) (JEf.memo [.i a,.i b,.i n,.i m] []) JEf.n (SV.tup [(false,[Ci (Xn a b n m)]),(false,[Cb (JUw a b n m)])]) ([]) :=
  Runs.of1 (ps := (JDk a b n m)) (by kernel_rfl) hNeeds
def JQS:List Pm → Qr → Option CRes
  | [.i a,.i b,.i n,.i m],[] => some ⟨SV.tup [(false,[Ci (Xn a b n m)]),(false,[Cb (JUw a b n m)])],
 [],[XY a,XY b,XY n],[],785⟩
  | _,_ => none
theorem Jre:Qk Tryz.prog 127 (JS JEf JQS) := by
  refine JH (JD JO8 127) fun ps ls r hr hn _ => ?_
  unfold JQS at hr
  split at hr
  · cases hr; exact ⟨_,Jlb _ _ _ _ (Jje (by exact hn)),fun _ => rfl⟩
  · cases hr
def Jds:List (Nat × JW) := (127,JS JEf JQS) :: JaH
theorem JTV:Known Tryz.prog (JB Jds) Zw := J7 JO8 Jre
def JNB:Tpl := ⟨[.one (.int .i64),.one (.int .i64)],[],0⟩
def Ja (n m:Int):Bool := decide (n ≥ IntKind.i64.wrap (0 - m)) && decide (n ≤ m)
theorem Jss (n m:Int):Runs (Js (JB Jds) Zw 103) (JNB.args [.i n,.i m]) (JNB.memo [.i n,.i m] []) JNB.n (SV.one (Cb (Ja n m))) ([]) :=
  Runs.of1 (ps := []) (by kernel_rfl) (by simp)
def JfS:List Pm → Qr → Option CRes
  | [.i n,.i m],[] => some ⟨SV.one (Cb (Ja n m)),
 [],[],[],11⟩
  | _,_ => none
theorem JwK:Qk Tryz.prog 103 (JS JNB JfS) := by
  refine JH (JD JTV 103) fun ps ls r hr hn _ => ?_
  unfold JfS at hr
  split at hr
  · cases hr; exact ⟨_,Jss _ _,fun _ => rfl⟩
  · cases hr
def Jri:List (Nat × JW) := (103,JS JNB JfS) :: Jds
theorem Jce:Known Tryz.prog (JB Jri) Zw := J7 JTV JwK
theorem jB {n m:Int} (h:0 ≤ m) (h2:m ≤ 1000000000):Ja n m = true ↔ bd m n := by
  unfold Ja
  rw [X7 (x := 0 - m) (by omega) (by omega)]
  simp only [Bool.and_eq_true,decide_eq_true_eq]
  omega
def zS:Tpl := ⟨[.agg [.int .i64,.int .i64],.agg [.int .i64,.int .i64],.one (.int .i64)],[],0⟩
def JC4 (a b c d s:Int):Int := bif JE a b c d == 0 && decide (J8 a b c d > 0) then 0 else bif decide (JE a b c d > 0) && decide (s > 0) || decide (JE a b c d < 0) && decide (s < 0) then 2 else 1
theorem Jd3 (a b c d s:Int):Runs (Js (JB Jri) Zw 107) (zS.args [.i a,.i b,.i c,.i d,.i s]) (zS.memo [.i a,.i b,.i c,.i d,.i s] []) zS.n (SV.one (Ci (JC4 a b c d s))) ([]) :=
  Runs.of1 (ps := []) (by kernel_rfl) (by simp)
def JJ3:List Pm → Qr → Option CRes
  | [.i a,.i b,.i c,.i d,.i s],[] => some ⟨SV.one (Ci (JC4 a b c d s)),
 [],[],[],82⟩
  | _,_ => none
theorem JkV:Qk Tryz.prog 107 (JS zS JJ3) := by
  refine JH (JD Jce 107) fun ps ls r hr hn _ => ?_
  unfold JJ3 at hr
  split at hr
  · cases hr; exact ⟨_,Jd3 _ _ _ _ _,fun _ => rfl⟩
  · cases hr
def JRC:List (Nat × JW) := (107,JS zS JJ3) :: Jri
theorem JLT:Known Tryz.prog (JB JRC) Zw := J7 Jce JkV
theorem Jjg {p0 p1 t0 t1 r:Int} (h:(t0 == 0 && t1 == 0 || !Ja t0 4194304 || !Ja t1 4194304 || !Ja p0 1048576 || !Ja p1 1048576 || !Ja r 32768) = false):(t0 ≠ 0 ∨ t1 ≠ 0) ∧ bd 4194304 t0 ∧ bd 4194304 t1 ∧ bd 1048576 p0 ∧ bd 1048576 p1 ∧ bd 32768 r := by
  simp only [Bool.or_eq_false_iff,Bool.not_eq_false',Bool.and_eq_false_iff,beq_eq_false_iff_ne] at h
  obtain ⟨⟨⟨⟨⟨h0,h1⟩,h2⟩,h3⟩,h4⟩,h5⟩ := h
  exact ⟨h0,(jB (by omega) (by omega)).1 h1,(jB (by omega) (by omega)).1 h2,(jB (by omega) (by omega)).1 h3,(jB (by omega) (by omega)).1 h4,(jB (by omega) (by omega)).1 h5⟩
def z8:Tpl := ⟨[.agg [.int .i64,.int .i64],.agg [.int .i64,.int .i64],.one (.int .i64)],[],0⟩
section
variable (p0 p1 t0 t1 r:Int)
def XH:Int:= bif t0 == 0 && t1 == 0 || !Ja t0 4194304 || !Ja t1 4194304 || !Ja p0 1048576 || !Ja p1 1048576 || !Ja r 32768 then 0 else JI p0 (Xn (IntKind.i64.wrap (0 - t1)) r (J8 t0 t1 t0 t1) 2)
def XJ:Int:= bif t0 == 0 && t1 == 0 || !Ja t0 4194304 || !Ja t1 4194304 || !Ja p0 1048576 || !Ja p1 1048576 || !Ja r 32768 then 0 else JI p1 (Xn t0 r (J8 t0 t1 t0 t1) 2)
def JK3:Bool:= !(t0 == 0 && t1 == 0 || !Ja t0 4194304 || !Ja t1 4194304 || !Ja p0 1048576 || !Ja p1 1048576 || !Ja r 32768)
def JYZ:Prop:= -9223372036854775808 ≤ J8 t0 t1 t0 t1 ∧ J8 t0 t1 t0 t1 < 9223372036854775808
def jq:List Prop:= [(t0 == 0 && t1 == 0 || !Ja t0 4194304 || !Ja t1 4194304 || !Ja p0 1048576 || !Ja p1 1048576 || !Ja r 32768) = false → (-9223372036854775808 ≤ IntKind.i64.wrap (0 - t1) ∧ IntKind.i64.wrap (0 - t1) < 9223372036854775808) ∧ (-9223372036854775808 ≤ r ∧ r < 9223372036854775808) ∧ JYZ t0 t1 ∧ (-9223372036854775808 ≤ t0 ∧ t0 < 9223372036854775808) ∧ (-9223372036854775808 ≤ r ∧ r < 9223372036854775808) ∧ JYZ t0 t1]
end
theorem JeL {p0:Int} {p1:Int} {t0:Int} {t1:Int} {r:Int}:∀ q ∈ (jq p0 p1 t0 t1 r),q := by
  unfold jq
  simp only [awc,awn,and_true]
  intro h
  obtain ⟨h0,h1,h2,h3,h4,h5⟩ := Jjg h
  exact ⟨Jk _,⟨by omega,by omega⟩,Jk _,⟨by omega,by omega⟩,⟨by omega,by omega⟩,Jk _⟩
theorem Jcy (p0 p1 t0 t1 r:Int) (hNeeds:∀ pN ∈ (jq p0 p1 t0 t1 r),pN):Runs (Js (JB JRC) Zw 100) (z8.args [.i p0,.i p1,.i t0,.i t1,.i r]) (z8.memo [.i p0,.i p1,.i t0,.i t1,.i r] []) z8.n (SV.tup [(true,[Ci (XH p0 p1 t0 t1 r),Ci (XJ p0 p1 t0 t1 r)]),(false,[Cb (JK3 p0 p1 t0 t1 r)])]) ([]) :=
  Runs.of1 (ps := (jq p0 p1 t0 t1 r)) (by kernel_rfl) hNeeds
def JK0:List Pm → Qr → Option CRes
  | [.i p0,.i p1,.i t0,.i t1,.i r],[] => some ⟨SV.tup [(true,[Ci (XH p0 p1 t0 t1 r),Ci (XJ p0 p1 t0 t1 r)]),(false,[Cb (JK3 p0 p1 t0 t1 r)])],
 [],[],[],1758⟩
  | _,_ => none
theorem Jl6:Qk Tryz.prog 100 (JS z8 JK0) := by
  refine JH (JD JLT 100) fun ps ls r hr hn _ => ?_
  unfold JK0 at hr
  split at hr
  · cases hr; exact ⟨_,Jcy _ _ _ _ _ (fun p hp => JeL p hp),fun _ => rfl⟩
  · cases hr
def JQB:List (Nat × JW) := (100,JS z8 JK0) :: JRC
theorem JLN:Known Tryz.prog (JB JQB) Zw := J7 JLT Jl6
def qj:Tpl := ⟨[.agg [.int .i64,.int .i64,.int .i64,.int .i64,.int .i64,.int .i64,.int .i64,.bool],.one (.int .i64)],[],0⟩
def YN (e6 r:Int):Bool := decide (e6 > 0) && decide (r ≥ 0) || decide (e6 < 0) && decide (r < 0)
theorem Jdc (e0 e1 e2 e3 e4 e5 e6:Int) (e7:Bool) (r:Int):Runs (Js (JB JQB) Zw 98) (qj.args [.i e0,.i e1,.i e2,.i e3,.i e4,.i e5,.i e6,.b e7,.i r]) (qj.memo [.i e0,.i e1,.i e2,.i e3,.i e4,.i e5,.i e6,.b e7,.i r] []) qj.n (SV.one (Cb (YN e6 r))) ([]) :=
  Runs.of1 (ps := []) (by kernel_rfl) (by simp)
def JIv:List Pm → Qr → Option CRes
  | [.i e0,.i e1,.i e2,.i e3,.i e4,.i e5,.i e6,.b e7,.i r],[] => some ⟨SV.one (Cb (YN e6 r)),
 [],[],[],30⟩
  | _,_ => none
theorem JkP:Qk Tryz.prog 98 (JS qj JIv) := by
  refine JH (JD JLN 98) fun ps ls r hr hn _ => ?_
  unfold JIv at hr
  split at hr
  · cases hr; exact ⟨_,Jdc _ _ _ _ _ _ _ _ _,fun _ => rfl⟩
  · cases hr
def JRy:List (Nat × JW) := (98,JS qj JIv) :: JQB
theorem JLi:Known Tryz.prog (JB JRy) Zw := J7 JLN JkP
def kZ:Tpl := ⟨[.one (.int .i64),.one (.int .i64),.one (.int .i64)],[],0⟩
section
variable (a b c:Int)
def JH8:Int:= IntKind.i64.wrap (IntKind.i64.wrap (c - a) - IntKind.i64.wrap (b * b))
def JY5:Int:= JLx (IntKind.i64.wrap (IntKind.i64.wrap (4 * b) * b)) a (JH8 a b c) (JH8 a b c)
def JCA:Bool:= decide (JH8 a b c ≥ 0) && decide (JY5 a b c ≤ 0)
end
theorem JdM (a b c:Int):Runs (Js (JB JRy) Zw 159) (kZ.args [.i a,.i b,.i c]) (kZ.memo [.i a,.i b,.i c] []) kZ.n (SV.one (Cb (JCA a b c))) ([]) :=
  Runs.of1 (ps := []) (by kernel_rfl) (by simp)
def JII:List Pm → Qr → Option CRes
  | [.i a,.i b,.i c],[] => some ⟨SV.one (Cb (JCA a b c)),
 [],[],[],309⟩
  | _,_ => none
theorem JkS:Qk Tryz.prog 159 (JS kZ JII) := by
  refine JH (JD JLi 159) fun ps ls r hr hn _ => ?_
  unfold JII at hr
  split at hr
  · cases hr; exact ⟨_,JdM _ _ _,fun _ => rfl⟩
  · cases hr
def JRA:List (Nat × JW) := (159,JS kZ JII) :: JRy
theorem JLD:Known Tryz.prog (JB JRA) Zw := J7 JLi JkS
def JCZ:Tpl := ⟨[.agg [.int .i64,.int .i64,.int .i64,.int .i64,.int .i64,.int .i64,.int .i64,.bool],.agg [.int .i64,.int .i64],.one (.int .i64)],[],0⟩
section
variable (e0 e1 e2 e3 e4 e5 e6 y0 y1 r:Int)
def JRN:Int:= JLx (JE (J0 e2 e0) (J0 e3 e1) (J0 y0 e0) (J0 y1 e1)) (JE (J0 e2 e0) (J0 e3 e1) (J0 y0 e0) (J0 y1 e1)) (IntKind.i64.wrap (r * r)) (J8 (J0 e2 e0) (J0 e3 e1) (J0 e2 e0) (J0 e3 e1))
def YL:Int:=
 if IntKind.i64.wrap (0 - r) > r then IntKind.i64.wrap (0 - r) else r
def Zd:Bool:= bif e6 == 0 then (decide (r ≥ 0) && decide (JE (J0 e2 e0) (J0 e3 e1) (J0 y0 e0) (J0 y1 e1) ≥ 0) || decide (r < 0) && decide (JE (J0 e2 e0) (J0 e3 e1) (J0 y0 e0) (J0 y1 e1) ≤ 0)) && decide (JRN e0 e1 e2 e3 y0 y1 r ≥ 0) else bif YN e6 r then JCA (J8 (J0 y0 e4) (J0 y1 e5) (J0 y0 e4) (J0 y1 e5)) (YL r) (J8 (J0 e2 e4) (J0 e3 e5) (J0 e2 e4) (J0 e3 e5)) else JCA (J8 (J0 e2 e4) (J0 e3 e5) (J0 e2 e4) (J0 e3 e5)) (YL r) (J8 (J0 y0 e4) (J0 y1 e5) (J0 y0 e4) (J0 y1 e5))
end
theorem JhC (e0 e1 e2 e3 e4 e5 e6:Int) (e7:Bool) (y0 y1 r:Int):Runs (Js (JB JRA) Zw 134) (JCZ.args [.i e0,.i e1,.i e2,.i e3,.i e4,.i e5,.i e6,.b e7,.i y0,.i y1,.i r]) (JCZ.memo [.i e0,.i e1,.i e2,.i e3,.i e4,.i e5,.i e6,.b e7,.i y0,.i y1,.i r] []) JCZ.n (SV.one (Cb (Zd e0 e1 e2 e3 e4 e5 e6 y0 y1 r))) ([]) :=
  Runs.of1 (ps := []) (by kernel_rfl) (by simp)
def JLt:List Pm → Qr → Option CRes
  | [.i e0,.i e1,.i e2,.i e3,.i e4,.i e5,.i e6,.b e7,.i y0,.i y1,.i r],[] => some ⟨SV.one (Cb (Zd e0 e1 e2 e3 e4 e5 e6 y0 y1 r)),
 [],[],[],1236⟩
  | _,_ => none
theorem Joe:Qk Tryz.prog 134 (JS JCZ JLt) := by
  refine JH (JD JLD 134) fun ps ls r hr hn _ => ?_
  unfold JLt at hr
  split at hr
  · cases hr; exact ⟨_,JhC _ _ _ _ _ _ _ _ _ _ _,fun _ => rfl⟩
  · cases hr
def JXN:List (Nat × JW) := (134,JS JCZ JLt) :: JRA
theorem JNK:Known Tryz.prog (JB JXN) Zw := J7 JLD Joe
def JI8:Tpl := ⟨[.one (.int .i64),.agg [.int .i64,.int .i64,.int .i64]],[],0⟩
section
variable (p a b c:Int)
def J3:Int:= bif p == 17 then a else bif p == 18 then c else bif p == 19 then b else 0
def J4:Int:= bif p == 17 then b else bif p == 18 then a else bif p == 19 then c else 0
def J9:Int:= bif p == 17 then c else bif p == 18 then b else bif p == 19 then a else 0
def Kt:Bool:= p == 17 || (p == 18 || p == 19)
end
theorem Jpz (p a b c:Int):Runs (Js (JB JXN) Zw 96) (JI8.args [.i p,.i a,.i b,.i c]) (JI8.memo [.i p,.i a,.i b,.i c] []) JI8.n (SV.tup [(true,[Ci (J3 p a b c),Ci (J4 p a b c)]),(false,[Ci (J9 p a b c)]),(false,[Cb (Kt p)])]) ([]) :=
  Runs.of1 (ps := []) (by kernel_rfl) (by simp)
def JVR:List Pm → Qr → Option CRes
  | [.i p,.i a,.i b,.i c],[] => some ⟨SV.tup [(true,[Ci (J3 p a b c),Ci (J4 p a b c)]),(false,[Ci (J9 p a b c)]),(false,[Cb (Kt p)])],
 [],[],[],66⟩
  | _,_ => none
theorem JK8:Qk Tryz.prog 96 (JS JI8 JVR) := by
  refine JH (JD JNK 96) fun ps ls r hr hn _ => ?_
  unfold JVR at hr
  split at hr
  · cases hr; exact ⟨_,Jpz _ _ _ _,fun _ => rfl⟩
  · cases hr
def Jls:List (Nat × JW) := (96,JS JI8 JVR) :: JXN
theorem JVI:Known Tryz.prog (JB Jls) Zw := J7 JNK JK8
def JFa:Tpl := ⟨[.one (.int .i64),.agg [.int .i64,.int .i64],.one (.int .i64)],[],0⟩
section
variable (p u w h:Int)
def JP:Int:= bif p == 17 then u else bif p == 18 then w else bif p == 19 then h else 0
def JQ:Int:= bif p == 17 then w else bif p == 18 then h else bif p == 19 then u else 0
def JR:Int:= bif p == 17 then h else bif p == 18 then u else bif p == 19 then w else 0
end
theorem JjC (p u w h:Int):Runs (Js (JB Jls) Zw 131) (JFa.args [.i p,.i u,.i w,.i h]) (JFa.memo [.i p,.i u,.i w,.i h] []) JFa.n (SV.tup [(true,[Ci (JP p u w h),Ci (JQ p u w h),Ci (JR p u w h)]),(false,[Cb (Kt p)])]) ([]) :=
  Runs.of1 (ps := []) (by kernel_rfl) (by simp)
def JQz:List Pm → Qr → Option CRes
  | [.i p,.i u,.i w,.i h],[] => some ⟨SV.tup [(true,[Ci (JP p u w h),Ci (JQ p u w h),Ci (JR p u w h)]),(false,[Cb (Kt p)])],
 [],[],[],65⟩
  | _,_ => none
theorem Jqf:Qk Tryz.prog 131 (JS JFa JQz) := by
  refine JH (JD JVI 131) fun ps ls r hr hn _ => ?_
  unfold JQz at hr
  split at hr
  · cases hr; exact ⟨_,JjC _ _ _ _,fun _ => rfl⟩
  · cases hr
def JdB:List (Nat × JW) := (131,JS JFa JQz) :: Jls
theorem JSm:Known Tryz.prog (JB JdB) Zw := J7 JVI Jqf
def JA4:Tpl := ⟨[.agg [.int .i64,.int .i64,.int .i64]],[],0⟩
def XI (a b c:Int):Bool := decide (a ≥ -1048576) && decide (a ≤ 1048576) && (decide (b ≥ -1048576) && decide (b ≤ 1048576)) && (decide (c ≥ -1048576) && decide (c ≤ 1048576))
theorem Jd1 (a b c:Int):Runs (Js (JB JdB) Zw 93) (JA4.args [.i a,.i b,.i c]) (JA4.memo [.i a,.i b,.i c] []) JA4.n (SV.one (Cb (XI a b c))) ([]) :=
  Runs.of1 (ps := []) (by kernel_rfl) (by simp)
def JIn:List Pm → Qr → Option CRes
  | [.i a,.i b,.i c],[] => some ⟨SV.one (Cb (XI a b c)),
 [],[],[],44⟩
  | _,_ => none
theorem Jln:Qk Tryz.prog 93 (JS JA4 JIn) := by
  refine JH (JD JSm 93) fun ps ls r hr hn _ => ?_
  unfold JIn at hr
  split at hr
  · cases hr; exact ⟨_,Jd1 _ _ _,fun _ => rfl⟩
  · cases hr
def JRO:List (Nat × JW) := (93,JS JA4 JIn) :: JdB
theorem JLV:Known Tryz.prog (JB JRO) Zw := J7 JSm Jln
def zK:Tpl := ⟨[.one (.int .i64),.one (.int .i64)],[],0⟩
section
variable (a b:Int)
def WQ:Int:=
 IntKind.i64.wrap (IntKind.i64.wrap ((if b > a then b else a) - if b < a then b else a) - 16)
def JVS:Int:=
 JLx (WQ a b) (WQ a b) 64 (if b < a then b else a)
def jc:Bool:= decide (WQ a b ≤ 0) || decide (JVS a b ≤ 0)
end
theorem Jf7 (a b:Int):Runs (Js (JB JRO) Zw 125) (zK.args [.i a,.i b]) (zK.memo [.i a,.i b] []) zK.n (SV.one (Cb (jc a b))) ([]) :=
  Runs.of1 (ps := []) (by kernel_rfl) (by simp)
def JIw:List Pm → Qr → Option CRes
  | [.i a,.i b],[] => some ⟨SV.one (Cb (jc a b)),
 [],[],[],310⟩
  | _,_ => none
theorem Jlj:Qk Tryz.prog 125 (JS zK JIw) := by
  refine JH (JD JLV 125) fun ps ls r hr hn _ => ?_
  unfold JIw at hr
  split at hr
  · cases hr; exact ⟨_,Jf7 _ _,fun _ => rfl⟩
  · cases hr
def JPW:List (Nat × JW) := (125,JS zK JIw) :: JRO
theorem JLW:Known Tryz.prog (JB JPW) Zw := J7 JLV Jlj
def kv:Tpl := ⟨[.agg [.int .i64,.int .i64],.agg [.int .i64,.int .i64]],[],0⟩
def XK (a b c d:Int):Bool := JE a b c d == 0 && decide (J8 a b c d > 0)
theorem JeA (a b c d:Int):Runs (Js (JB JPW) Zw 126) (kv.args [.i a,.i b,.i c,.i d]) (kv.memo [.i a,.i b,.i c,.i d] []) kv.n (SV.one (Cb (XK a b c d))) ([]) :=
  Runs.of1 (ps := []) (by kernel_rfl) (by simp)
def JJW:List Pm → Qr → Option CRes
  | [.i a,.i b,.i c,.i d],[] => some ⟨SV.one (Cb (XK a b c d)),
 [],[],[],62⟩
  | _,_ => none
theorem Jlk:Qk Tryz.prog 126 (JS kv JJW) := by
  refine JH (JD JLW 126) fun ps ls r hr hn _ => ?_
  unfold JJW at hr
  split at hr
  · cases hr; exact ⟨_,JeA _ _ _ _,fun _ => rfl⟩
  · cases hr
def JQA:List (Nat × JW) := (126,JS kv JJW) :: JPW
theorem JLS:Known Tryz.prog (JB JQA) Zw := J7 JLW Jlk
def JGG:Tpl := ⟨[.agg [.int .i64,.int .i64,.int .i64,.int .i64,.int .i64,.int .i64,.int .i64,.bool]],[],0⟩
section
variable (e4 e6:Int) (e7:Bool)
def Q5:Int:= bif e6 != 0 then 3 else 2
def JN:Int:= bif e6 != 0 then e4 else 0
def Jp:Int:= bif e6 != 0 then e6 else 0
def JOO:Bool:= e6 != 0 && e7
end
theorem Jky (e0 e1 e2 e3 e4 e5 e6:Int) (e7:Bool):Runs (Js (JB JQA) Zw 102) (JGG.args [.i e0,.i e1,.i e2,.i e3,.i e4,.i e5,.i e6,.b e7]) (JGG.memo [.i e0,.i e1,.i e2,.i e3,.i e4,.i e5,.i e6,.b e7] []) JGG.n (SV.agg [Ci (Q5 e6),SC.int IntKind.i64 (SI.c 0),Ci e0,Ci e1,SC.int IntKind.i64 (SI.c 0),Ci e2,Ci e3,SC.int IntKind.i64 (SI.c 0),SC.int IntKind.i64 (SI.c 17),Ci (JN e4 e6),Ci (JN e5 e6),SC.int IntKind.i64 (SI.c 0),Ci (Jp e6),Cb (JOO e6 e7),SC.int IntKind.i64 (SI.c 0),SC.bool (SB.c false),SC.int IntKind.i64 (SI.c 0),SC.int IntKind.i64 (SI.c 0),SC.int IntKind.i64 (SI.c 0),SC.int IntKind.i64 (SI.c 0),SC.int IntKind.i64 (SI.c 0),SC.bool (SB.c false)]) ([]) :=
  Runs.of1 (ps := []) (by kernel_rfl) (by simp)
def JPU:List Pm → Qr → Option CRes
  | [.i e0,.i e1,.i e2,.i e3,.i e4,.i e5,.i e6,.b e7],[] => some ⟨SV.agg [Ci (Q5 e6),SC.int IntKind.i64 (SI.c 0),Ci e0,Ci e1,SC.int IntKind.i64 (SI.c 0),Ci e2,Ci e3,SC.int IntKind.i64 (SI.c 0),SC.int IntKind.i64 (SI.c 17),Ci (JN e4 e6),Ci (JN e5 e6),SC.int IntKind.i64 (SI.c 0),Ci (Jp e6),Cb (JOO e6 e7),SC.int IntKind.i64 (SI.c 0),SC.bool (SB.c false),SC.int IntKind.i64 (SI.c 0),SC.int IntKind.i64 (SI.c 0),SC.int IntKind.i64 (SI.c 0),SC.int IntKind.i64 (SI.c 0),SC.int IntKind.i64 (SI.c 0),SC.bool (SB.c false)],
 [],[],[],206⟩
  | _,_ => none
theorem Jql:Qk Tryz.prog 102 (JS JGG JPU) := by
  refine JH (JD JLS 102) fun ps ls r hr hn _ => ?_
  unfold JPU at hr
  split at hr
  · cases hr; exact ⟨_,Jky _ _ _ _ _ _ _ _,fun _ => rfl⟩
  · cases hr
def JdS:List (Nat × JW) := (102,JS JGG JPU) :: JQA
theorem JSh:Known Tryz.prog (JB JdS) Zw := J7 JLS Jql
def zV:Tpl := ⟨[.agg pI],[],0⟩
def Jd (f0 f1 f2 p c0 c1 c2:Int):Int := IntKind.i64.wrap (J3 p f0 f1 f2 - J3 p c0 c1 c2)
def Jg (f0 f1 f2 p c0 c1 c2:Int):Int := IntKind.i64.wrap (J4 p f0 f1 f2 - J4 p c0 c1 c2)
theorem JfB (k bl f0 f1 f2 t0 t1 t2 p c0 c1 c2 d:Int) (fu:Bool) (fe:Int) (pr:Bool) (si ra be n sp:Int) (on:Bool):Runs (Js (JB JdS) Zw 124) (zV.args [.i k,.i bl,.i f0,.i f1,.i f2,.i t0,.i t1,.i t2,.i p,.i c0,.i c1,.i c2,.i d,.b fu,.i fe,.b pr,.i si,.i ra,.i be,.i n,.i sp,.b on]) (zV.memo [.i k,.i bl,.i f0,.i f1,.i f2,.i t0,.i t1,.i t2,.i p,.i c0,.i c1,.i c2,.i d,.b fu,.i fe,.b pr,.i si,.i ra,.i be,.i n,.i sp,.b on] []) zV.n (SV.tup [(true,[Ci (Jd f0 f1 f2 p c0 c1 c2),Ci (Jg f0 f1 f2 p c0 c1 c2)]),(true,[Ci (Jd t0 t1 t2 p c0 c1 c2),Ci (Jg t0 t1 t2 p c0 c1 c2)])]) ([]) :=
  Runs.of1 (ps := []) (by kernel_rfl) (by simp)
def JJL:List Pm → Qr → Option CRes
  | [.i k,.i bl,.i f0,.i f1,.i f2,.i t0,.i t1,.i t2,.i p,.i c0,.i c1,.i c2,.i d,.b fu,.i fe,.b pr,.i si,.i ra,.i be,.i n,.i sp,.b on],[] => some ⟨SV.tup [(true,[Ci (Jd f0 f1 f2 p c0 c1 c2),Ci (Jg f0 f1 f2 p c0 c1 c2)]),(true,[Ci (Jd t0 t1 t2 p c0 c1 c2),Ci (Jg t0 t1 t2 p c0 c1 c2)])],
 [],[],[],312⟩
  | _,_ => none
theorem Jjb:Qk Tryz.prog 124 (JS zV JJL) := by
  refine JH (JD JSh 124) fun ps ls r hr hn _ => ?_
  unfold JJL at hr
  split at hr
  · cases hr; exact ⟨_,JfB _ _ _ _ _ _ _ _ _ _ _ _ _ _ _ _ _ _ _ _ _ _,fun _ => rfl⟩
  · cases hr
def JRv:List (Nat × JW) := (124,JS zV JJL) :: JdS
theorem JLe:Known Tryz.prog (JB JRv) Zw := J7 JSh Jjb
def JFg:Tpl := ⟨[.agg pI,.one (.bool)],[],0⟩
section
variable (k f0 f1 f2 t0 t1 t2 p c0 c1 c2 d:Int) (e:Bool)
def JhS:Int:= bif e then Jg t0 t1 t2 p c0 c1 c2 else Jg f0 f1 f2 p c0 c1 c2
def Z7:Int:= bif k != 3 then IntKind.i64.wrap (J3 p t0 t1 t2 - J3 p f0 f1 f2) else bif decide (d < 0) then JhS f0 f1 f2 t0 t1 t2 p c0 c1 c2 e else IntKind.i64.wrap (0 - JhS f0 f1 f2 t0 t1 t2 p c0 c1 c2 e)
def Jfx:Int:= bif e then Jd t0 t1 t2 p c0 c1 c2 else Jd f0 f1 f2 p c0 c1 c2
def Z8:Int:= bif k != 3 then IntKind.i64.wrap (J4 p t0 t1 t2 - J4 p f0 f1 f2) else bif decide (d < 0) then IntKind.i64.wrap (0 - Jfx f0 f1 f2 t0 t1 t2 p c0 c1 c2 e) else Jfx f0 f1 f2 t0 t1 t2 p c0 c1 c2 e
end
theorem JjD (k bl f0 f1 f2 t0 t1 t2 p c0 c1 c2 d:Int) (fu:Bool) (fe:Int) (pr:Bool) (si ra be n sp:Int) (on e:Bool):Runs (Js (JB JRv) Zw 101) (JFg.args [.i k,.i bl,.i f0,.i f1,.i f2,.i t0,.i t1,.i t2,.i p,.i c0,.i c1,.i c2,.i d,.b fu,.i fe,.b pr,.i si,.i ra,.i be,.i n,.i sp,.b on,.b e]) (JFg.memo [.i k,.i bl,.i f0,.i f1,.i f2,.i t0,.i t1,.i t2,.i p,.i c0,.i c1,.i c2,.i d,.b fu,.i fe,.b pr,.i si,.i ra,.i be,.i n,.i sp,.b on,.b e] []) JFg.n (SV.agg [Ci (Z7 k f0 f1 f2 t0 t1 t2 p c0 c1 c2 d e),Ci (Z8 k f0 f1 f2 t0 t1 t2 p c0 c1 c2 d e)]) ([]) :=
  Runs.of1 (ps := []) (by kernel_rfl) (by simp)
def JSK:List Pm → Qr → Option CRes
  | [.i k,.i bl,.i f0,.i f1,.i f2,.i t0,.i t1,.i t2,.i p,.i c0,.i c1,.i c2,.i d,.b fu,.i fe,.b pr,.i si,.i ra,.i be,.i n,.i sp,.b on,.b e],[] => some ⟨SV.agg [Ci (Z7 k f0 f1 f2 t0 t1 t2 p c0 c1 c2 d e),Ci (Z8 k f0 f1 f2 t0 t1 t2 p c0 c1 c2 d e)],
 [],[],[],576⟩
  | _,_ => none
theorem JsT:Qk Tryz.prog 101 (JS JFg JSK) := by
  refine JH (JD JLe 101) fun ps ls r hr hn _ => ?_
  unfold JSK at hr
  split at hr
  · cases hr; exact ⟨_,JjD _ _ _ _ _ _ _ _ _ _ _ _ _ _ _ _ _ _ _ _ _ _ _,fun _ => rfl⟩
  · cases hr
def Jfe:List (Nat × JW) := (101,JS JFg JSK) :: JRv
theorem JSk:Known Tryz.prog (JB Jfe) Zw := J7 JLe JsT
def JFO:Tpl := ⟨[.agg [.int .i64,.int .i64,.int .i64,.int .i64,.int .i64,.int .i64,.int .i64,.bool],.one (.int .i64)],[],0⟩
section
variable (e0 e1 e2 e3 e4 e5 e6 r:Int)
def Zc:Int:=
 IntKind.i64.wrap ((if IntKind.i64.wrap (0 - r) > r then IntKind.i64.wrap (0 - r) else r) + 8)
def JWT:Int:= XH e0 e1 (Z7 (Q5 e6) e0 e1 0 e2 e3 0 17 (JN e4 e6) (JN e5 e6) 0 (Jp e6) false) (Z8 (Q5 e6) e0 e1 0 e2 e3 0 17 (JN e4 e6) (JN e5 e6) 0 (Jp e6) false) r
def JWm:Int:= bif !Ja (JWT e0 e1 e2 e3 e4 e5 e6 r) 1048576 then 0 else bif !Ja (XJ e0 e1 (Z7 (Q5 e6) e0 e1 0 e2 e3 0 17 (JN e4 e6) (JN e5 e6) 0 (Jp e6) false) (Z8 (Q5 e6) e0 e1 0 e2 e3 0 17 (JN e4 e6) (JN e5 e6) 0 (Jp e6) false) r) 1048576 then 0 else bif !Ja (XH e2 e3 (Z7 (Q5 e6) e0 e1 0 e2 e3 0 17 (JN e4 e6) (JN e5 e6) 0 (Jp e6) true) (Z8 (Q5 e6) e0 e1 0 e2 e3 0 17 (JN e4 e6) (JN e5 e6) 0 (Jp e6) true) r) 1048576 then 0 else bif !Ja (XJ e2 e3 (Z7 (Q5 e6) e0 e1 0 e2 e3 0 17 (JN e4 e6) (JN e5 e6) 0 (Jp e6) true) (Z8 (Q5 e6) e0 e1 0 e2 e3 0 17 (JN e4 e6) (JN e5 e6) 0 (Jp e6) true) r) 1048576 then 0 else JWT e0 e1 e2 e3 e4 e5 e6 r
def XN:Int:= bif e6 != 0 && YN e6 r then bif decide (J8 (J0 e0 e4) (J0 e1 e5) (J0 e0 e4) (J0 e1 e5) < IntKind.i64.wrap (Zc r * Zc r)) then 0 else bif decide (J8 (J0 e2 e4) (J0 e3 e5) (J0 e2 e4) (J0 e3 e5) < IntKind.i64.wrap (Zc r * Zc r)) then 0 else JWm e0 e1 e2 e3 e4 e5 e6 r else JWm e0 e1 e2 e3 e4 e5 e6 r
def JaT:Int:= XJ e0 e1 (Z7 (Q5 e6) e0 e1 0 e2 e3 0 17 (JN e4 e6) (JN e5 e6) 0 (Jp e6) false) (Z8 (Q5 e6) e0 e1 0 e2 e3 0 17 (JN e4 e6) (JN e5 e6) 0 (Jp e6) false) r
def JZg:Int:= bif !Ja (XH e0 e1 (Z7 (Q5 e6) e0 e1 0 e2 e3 0 17 (JN e4 e6) (JN e5 e6) 0 (Jp e6) false) (Z8 (Q5 e6) e0 e1 0 e2 e3 0 17 (JN e4 e6) (JN e5 e6) 0 (Jp e6) false) r) 1048576 then 0 else bif !Ja (JaT e0 e1 e2 e3 e4 e5 e6 r) 1048576 then 0 else bif !Ja (XH e2 e3 (Z7 (Q5 e6) e0 e1 0 e2 e3 0 17 (JN e4 e6) (JN e5 e6) 0 (Jp e6) true) (Z8 (Q5 e6) e0 e1 0 e2 e3 0 17 (JN e4 e6) (JN e5 e6) 0 (Jp e6) true) r) 1048576 then 0 else bif !Ja (XJ e2 e3 (Z7 (Q5 e6) e0 e1 0 e2 e3 0 17 (JN e4 e6) (JN e5 e6) 0 (Jp e6) true) (Z8 (Q5 e6) e0 e1 0 e2 e3 0 17 (JN e4 e6) (JN e5 e6) 0 (Jp e6) true) r) 1048576 then 0 else JaT e0 e1 e2 e3 e4 e5 e6 r
def XP:Int:= bif e6 != 0 && YN e6 r then bif decide (J8 (J0 e0 e4) (J0 e1 e5) (J0 e0 e4) (J0 e1 e5) < IntKind.i64.wrap (Zc r * Zc r)) then 0 else bif decide (J8 (J0 e2 e4) (J0 e3 e5) (J0 e2 e4) (J0 e3 e5) < IntKind.i64.wrap (Zc r * Zc r)) then 0 else JZg e0 e1 e2 e3 e4 e5 e6 r else JZg e0 e1 e2 e3 e4 e5 e6 r
def JaJ:Int:= XH e2 e3 (Z7 (Q5 e6) e0 e1 0 e2 e3 0 17 (JN e4 e6) (JN e5 e6) 0 (Jp e6) true) (Z8 (Q5 e6) e0 e1 0 e2 e3 0 17 (JN e4 e6) (JN e5 e6) 0 (Jp e6) true) r
def JZW:Int:= bif !Ja (XH e0 e1 (Z7 (Q5 e6) e0 e1 0 e2 e3 0 17 (JN e4 e6) (JN e5 e6) 0 (Jp e6) false) (Z8 (Q5 e6) e0 e1 0 e2 e3 0 17 (JN e4 e6) (JN e5 e6) 0 (Jp e6) false) r) 1048576 then 0 else bif !Ja (XJ e0 e1 (Z7 (Q5 e6) e0 e1 0 e2 e3 0 17 (JN e4 e6) (JN e5 e6) 0 (Jp e6) false) (Z8 (Q5 e6) e0 e1 0 e2 e3 0 17 (JN e4 e6) (JN e5 e6) 0 (Jp e6) false) r) 1048576 then 0 else bif !Ja (JaJ e0 e1 e2 e3 e4 e5 e6 r) 1048576 then 0 else bif !Ja (XJ e2 e3 (Z7 (Q5 e6) e0 e1 0 e2 e3 0 17 (JN e4 e6) (JN e5 e6) 0 (Jp e6) true) (Z8 (Q5 e6) e0 e1 0 e2 e3 0 17 (JN e4 e6) (JN e5 e6) 0 (Jp e6) true) r) 1048576 then 0 else JaJ e0 e1 e2 e3 e4 e5 e6 r
def Xl:Int:= bif e6 != 0 && YN e6 r then bif decide (J8 (J0 e0 e4) (J0 e1 e5) (J0 e0 e4) (J0 e1 e5) < IntKind.i64.wrap (Zc r * Zc r)) then 0 else bif decide (J8 (J0 e2 e4) (J0 e3 e5) (J0 e2 e4) (J0 e3 e5) < IntKind.i64.wrap (Zc r * Zc r)) then 0 else JZW e0 e1 e2 e3 e4 e5 e6 r else JZW e0 e1 e2 e3 e4 e5 e6 r
def JZU:Int:= XJ e2 e3 (Z7 (Q5 e6) e0 e1 0 e2 e3 0 17 (JN e4 e6) (JN e5 e6) 0 (Jp e6) true) (Z8 (Q5 e6) e0 e1 0 e2 e3 0 17 (JN e4 e6) (JN e5 e6) 0 (Jp e6) true) r
def JVw:Int:= bif !Ja (XH e0 e1 (Z7 (Q5 e6) e0 e1 0 e2 e3 0 17 (JN e4 e6) (JN e5 e6) 0 (Jp e6) false) (Z8 (Q5 e6) e0 e1 0 e2 e3 0 17 (JN e4 e6) (JN e5 e6) 0 (Jp e6) false) r) 1048576 then 0 else bif !Ja (XJ e0 e1 (Z7 (Q5 e6) e0 e1 0 e2 e3 0 17 (JN e4 e6) (JN e5 e6) 0 (Jp e6) false) (Z8 (Q5 e6) e0 e1 0 e2 e3 0 17 (JN e4 e6) (JN e5 e6) 0 (Jp e6) false) r) 1048576 then 0 else bif !Ja (XH e2 e3 (Z7 (Q5 e6) e0 e1 0 e2 e3 0 17 (JN e4 e6) (JN e5 e6) 0 (Jp e6) true) (Z8 (Q5 e6) e0 e1 0 e2 e3 0 17 (JN e4 e6) (JN e5 e6) 0 (Jp e6) true) r) 1048576 then 0 else bif !Ja (JZU e0 e1 e2 e3 e4 e5 e6 r) 1048576 then 0 else JZU e0 e1 e2 e3 e4 e5 e6 r
def Xk:Int:= bif e6 != 0 && YN e6 r then bif decide (J8 (J0 e0 e4) (J0 e1 e5) (J0 e0 e4) (J0 e1 e5) < IntKind.i64.wrap (Zc r * Zc r)) then 0 else bif decide (J8 (J0 e2 e4) (J0 e3 e5) (J0 e2 e4) (J0 e3 e5) < IntKind.i64.wrap (Zc r * Zc r)) then 0 else JVw e0 e1 e2 e3 e4 e5 e6 r else JVw e0 e1 e2 e3 e4 e5 e6 r
def JWb:Int:= bif !Ja (XH e0 e1 (Z7 (Q5 e6) e0 e1 0 e2 e3 0 17 (JN e4 e6) (JN e5 e6) 0 (Jp e6) false) (Z8 (Q5 e6) e0 e1 0 e2 e3 0 17 (JN e4 e6) (JN e5 e6) 0 (Jp e6) false) r) 1048576 then 3 else bif !Ja (XJ e0 e1 (Z7 (Q5 e6) e0 e1 0 e2 e3 0 17 (JN e4 e6) (JN e5 e6) 0 (Jp e6) false) (Z8 (Q5 e6) e0 e1 0 e2 e3 0 17 (JN e4 e6) (JN e5 e6) 0 (Jp e6) false) r) 1048576 then 3 else bif !Ja (XH e2 e3 (Z7 (Q5 e6) e0 e1 0 e2 e3 0 17 (JN e4 e6) (JN e5 e6) 0 (Jp e6) true) (Z8 (Q5 e6) e0 e1 0 e2 e3 0 17 (JN e4 e6) (JN e5 e6) 0 (Jp e6) true) r) 1048576 then 3 else bif !Ja (XJ e2 e3 (Z7 (Q5 e6) e0 e1 0 e2 e3 0 17 (JN e4 e6) (JN e5 e6) 0 (Jp e6) true) (Z8 (Q5 e6) e0 e1 0 e2 e3 0 17 (JN e4 e6) (JN e5 e6) 0 (Jp e6) true) r) 1048576 then 3 else 0
def Qo:Int:= bif e6 != 0 && YN e6 r then bif decide (J8 (J0 e0 e4) (J0 e1 e5) (J0 e0 e4) (J0 e1 e5) < IntKind.i64.wrap (Zc r * Zc r)) then 16 else bif decide (J8 (J0 e2 e4) (J0 e3 e5) (J0 e2 e4) (J0 e3 e5) < IntKind.i64.wrap (Zc r * Zc r)) then 16 else JWb e0 e1 e2 e3 e4 e5 e6 r else JWb e0 e1 e2 e3 e4 e5 e6 r
end
theorem JjG (e0 e1 e2 e3 e4 e5 e6:Int) (e7:Bool) (r:Int):Runs (Js (JB Jfe) Zw 66) (JFO.args [.i e0,.i e1,.i e2,.i e3,.i e4,.i e5,.i e6,.b e7,.i r]) (JFO.memo [.i e0,.i e1,.i e2,.i e3,.i e4,.i e5,.i e6,.b e7,.i r] []) JFO.n (SV.tup [(true,[Ci (XN e0 e1 e2 e3 e4 e5 e6 r),Ci (XP e0 e1 e2 e3 e4 e5 e6 r)]),(true,[Ci (Xl e0 e1 e2 e3 e4 e5 e6 r),Ci (Xk e0 e1 e2 e3 e4 e5 e6 r)]),(false,[Ci (Qo e0 e1 e2 e3 e4 e5 e6 r)])]) ([]) :=
  Runs.of1 (ps := []) (by kernel_rfl) (by simp)
def JQb:List Pm → Qr → Option CRes
  | [.i e0,.i e1,.i e2,.i e3,.i e4,.i e5,.i e6,.b e7,.i r],[] => some ⟨SV.tup [(true,[Ci (XN e0 e1 e2 e3 e4 e5 e6 r),Ci (XP e0 e1 e2 e3 e4 e5 e6 r)]),(true,[Ci (Xl e0 e1 e2 e3 e4 e5 e6 r),Ci (Xk e0 e1 e2 e3 e4 e5 e6 r)]),(false,[Ci (Qo e0 e1 e2 e3 e4 e5 e6 r)])],
 [],[],[],10785⟩
  | _,_ => none
theorem Jsp:Qk Tryz.prog 66 (JS JFO JQb) := by
  refine JH (JD JSk 66) fun ps ls r hr hn _ => ?_
  unfold JQb at hr
  split at hr
  · cases hr; exact ⟨_,JjG _ _ _ _ _ _ _ _ _,fun _ => rfl⟩
  · cases hr
def Jdy:List (Nat × JW) := (66,JS JFO JQb) :: Jfe
theorem JSg:Known Tryz.prog (JB Jdy) Zw := J7 JSk Jsp
def JG0:Tpl := ⟨[.agg [.int .i64,.int .i64],.agg [.int .i64,.int .i64],.one (.int .i64),.one (.int .i64)],[],0⟩
section
variable (a b c d i s:Int)
def Ko:Bool:= decide (J8 a b c d > 0)
def QQ:Int:= bif Ko a b c d && decide (IntKind.i64.wrap (JE a b c d * i) > 0) then JI a c else bif Ko a b c d then IntKind.i64.wrap (IntKind.i64.wrap (0 - a) - c) else IntKind.i64.wrap (i * IntKind.i64.wrap (d - b))
def QO:Int:= bif Ko a b c d && decide (IntKind.i64.wrap (JE a b c d * i) > 0) then JI b d else bif Ko a b c d then IntKind.i64.wrap (IntKind.i64.wrap (0 - b) - d) else IntKind.i64.wrap (IntKind.i64.wrap (0 - i) * IntKind.i64.wrap (c - a))
def JEE:List Prop:= [-9223372036854775808 ≤ QQ a b c d i ∧ QQ a b c d i < 9223372036854775808,-9223372036854775808 ≤ s ∧ s < 9223372036854775808,-9223372036854775808 ≤ J8 (QQ a b c d i) (QO a b c d i) (QQ a b c d i) (QO a b c d i) ∧ J8 (QQ a b c d i) (QO a b c d i) (QQ a b c d i) (QO a b c d i) < 9223372036854775808,-9223372036854775808 ≤ QO a b c d i ∧ QO a b c d i < 9223372036854775808,-9223372036854775808 ≤ s ∧ s < 9223372036854775808,-9223372036854775808 ≤ J8 (QQ a b c d i) (QO a b c d i) (QQ a b c d i) (QO a b c d i) ∧ J8 (QQ a b c d i) (QO a b c d i) (QQ a b c d i) (QO a b c d i) < 9223372036854775808]
end
theorem JjQ {a:Int} {b:Int} {c:Int} {d:Int} {i:Int} {s:Int} (hW:∀ q ∈ ([XY s]:List Prop),q):∀ q ∈ (JEE a b c d i s),q := by
  simp only [awc,awn,and_true] at hW
  unfold JEE
  simp only [awc,awn,and_true]
  have s1:XY (QQ a b c d i) := by
    unfold QQ
    cases (Ko a b c d && decide (IntKind.i64.wrap (JE a b c d * i) > 0)) <;> cases Ko a b c d <;> exact Jk _
  have s2:XY (QO a b c d i) := by
    unfold QO
    cases (Ko a b c d && decide (IntKind.i64.wrap (JE a b c d * i) > 0)) <;> cases Ko a b c d <;> exact Jk _
  exact ⟨s1,hW,Jk _,s2,hW,Jk _⟩
theorem JlL (a b c d i s:Int) (hNeeds:∀ pN ∈ (JEE a b c d i s),pN):Runs (Js (JB Jdy) Zw 163) (JG0.args [.i a,.i b,.i c,.i d,.i i,.i s]) (JG0.memo [.i a,.i b,.i c,.i d,.i i,.i s] []) JG0.n (SV.agg [Ci (Xn (QQ a b c d i) s (J8 (QQ a b c d i) (QO a b c d i) (QQ a b c d i) (QO a b c d i)) 2),Ci (Xn (QO a b c d i) s (J8 (QQ a b c d i) (QO a b c d i) (QQ a b c d i) (QO a b c d i)) 2)]) ([]) :=
  Runs.of1 (ps := (JEE a b c d i s)) (by kernel_rfl) hNeeds
def JSN:List Pm → Qr → Option CRes
  | [.i a,.i b,.i c,.i d,.i i,.i s],[] => some ⟨SV.agg [Ci (Xn (QQ a b c d i) s (J8 (QQ a b c d i) (QO a b c d i) (QQ a b c d i) (QO a b c d i)) 2),Ci (Xn (QO a b c d i) s (J8 (QQ a b c d i) (QO a b c d i) (QQ a b c d i) (QO a b c d i)) 2)],
 [],[XY s],[],1770⟩
  | _,_ => none
theorem JtF:Qk Tryz.prog 163 (JS JG0 JSN) := by
  refine JH (JD JSg 163) fun ps ls r hr hn _ => ?_
  unfold JSN at hr
  split at hr
  · cases hr; exact ⟨_,JlL _ _ _ _ _ _ (JjQ (by exact hn)),fun _ => rfl⟩
  · cases hr
def Je3:List (Nat × JW) := (163,JS JG0 JSN) :: Jdy
theorem JUC:Known Tryz.prog (JB Je3) Zw := J7 JSg JtF
theorem Qs {a:Int} (h:XY a):0 ≤ J6 a ∧ J6 a < 18446744073709551616 := by
  rw [Xw a h]
  obtain ⟨h1,h2⟩ := h
  split <;> omega
def JCM:Tpl := ⟨[.one (.int .i64),.one (.int .i64),.one (.int .i64),.one (.int .i64)],[],0⟩
section
variable (a b c m:Int)
def JFk:Int:= IntKind.u64.wrap (J6 c - ZJ (QM (J6 a) (J6 b)) (Qe (J6 a) (J6 b)) (J6 c))
def jZ:Bool:= !decide (Qi a b < 0) == decide (c < 0) && Qi a b != 0
def JGJ:Int:= IntKind.u64.wrap (ZI (QM (J6 a) (J6 b)) (Qe (J6 a) (J6 b)) (J6 c) + 1)
def XD:Int:= bif c == 0 || !(m == 0 || m == 1 || m == 2) then 0 else bif decide (QM (J6 a) (J6 b) ≥ J6 c) then 0 else bif JAr m (bif decide (ZJ (QM (J6 a) (J6 b)) (Qe (J6 a) (J6 b)) (J6 c) > JFk a b c) then 1 else bif decide (ZJ (QM (J6 a) (J6 b)) (Qe (J6 a) (J6 b)) (J6 c) < JFk a b c) then -1 else 0) (decide (ZJ (QM (J6 a) (J6 b)) (Qe (J6 a) (J6 b)) (J6 c) > 0)) (jZ a b c) then bif JGJ a b c == 0 then 0 else Yi (JGJ a b c) (jZ a b c) else Yi (ZI (QM (J6 a) (J6 b)) (Qe (J6 a) (J6 b)) (J6 c)) (jZ a b c)
def Jgn:Bool:= bif c == 0 || !(m == 0 || m == 1 || m == 2) then false else bif decide (QM (J6 a) (J6 b) ≥ J6 c) then false else bif JAr m (bif decide (ZJ (QM (J6 a) (J6 b)) (Qe (J6 a) (J6 b)) (J6 c) > JFk a b c) then 1 else bif decide (ZJ (QM (J6 a) (J6 b)) (Qe (J6 a) (J6 b)) (J6 c) < JFk a b c) then -1 else 0) (decide (ZJ (QM (J6 a) (J6 b)) (Qe (J6 a) (J6 b)) (J6 c) > 0)) (jZ a b c) then bif JGJ a b c == 0 then false else JD7 (JGJ a b c) (jZ a b c) else JD7 (ZI (QM (J6 a) (J6 b)) (Qe (J6 a) (J6 b)) (J6 c)) (jZ a b c)
def JBg:List Prop:= [(c == 0 || !(m == 0 || m == 1 || m == 2)) = false → decide (QM (J6 a) (J6 b) ≥ J6 c) = false → 0 ≤ QM (J6 a) (J6 b) ∧ QM (J6 a) (J6 b) < J6 c ∧ 0 ≤ Qe (J6 a) (J6 b) ∧ Qe (J6 a) (J6 b) < 18446744073709551616 ∧ J6 c < 18446744073709551616]
end
theorem Jg8 {a:Int} {b:Int} {c:Int} {m:Int} (hW:∀ q ∈ ([XY a,XY b,XY c]:List Prop),q):∀ q ∈ (JBg a b c m),q := by
  simp only [awc,awn,and_true] at hW
  unfold JBg
  simp only [awc,awn,and_true]
  obtain ⟨ha,hb,hc⟩ := hW
  intro _ h
  have sa := Qs ha
  have sb := Qs hb
  have sc := Qs hc
  have h0 := JeF (x := J6 a) (y := J6 b) sa sb
  have h1 := Jec (J6 a) (J6 b)
  rw [decide_eq_false_iff_not] at h
  exact ⟨h0.1,by omega,h1.1,h1.2,sc.2⟩
theorem JiF (a b c m:Int) (hNeeds:∀ pN ∈ (JBg a b c m),pN):Runs (Js (JB Je3) Zw 161) (JCM.args [.i a,.i b,.i c,.i m]) (JCM.memo [.i a,.i b,.i c,.i m] []) JCM.n (SV.tup [(false,[Ci (XD a b c m)]),(false,[Cb (Jgn a b c m)])]) ([]) :=
  Runs.of1 (ps := (JBg a b c m)) (by kernel_rfl) hNeeds
def JMM:List Pm → Qr → Option CRes
  | [.i a,.i b,.i c,.i m],[] => some ⟨SV.tup [(false,[Ci (XD a b c m)]),(false,[Cb (Jgn a b c m)])],
 [],[XY a,XY b,XY c],[],507⟩
  | _,_ => none
theorem JpO:Qk Tryz.prog 161 (JS JCM JMM) := by
  refine JH (JD JUC 161) fun ps ls r hr hn _ => ?_
  unfold JMM at hr
  split at hr
  · cases hr; exact ⟨_,JiF _ _ _ _ (Jg8 (by exact hn)),fun _ => rfl⟩
  · cases hr
def JWa:List (Nat × JW) := (161,JS JCM JMM) :: Je3
theorem JNg:Known Tryz.prog (JB JWa) Zw := J7 JUC JpO
def JFm:Tpl := ⟨[.agg [.int .i64,.int .i64,.int .i64,.int .i64],.agg [.int .i64,.int .i64]],[],0⟩
def KK (a b c d:Int):Int := bif decide (JE a b c d > 0) || JE a b c d == 0 && decide (J8 a b c d > 0) then 0 else 1
theorem Jlq (a b l m c d:Int):Runs (Js (JB JWa) Zw 172) (JFm.args [.i a,.i b,.i l,.i m,.i c,.i d]) (JFm.memo [.i a,.i b,.i l,.i m,.i c,.i d] []) JFm.n (SV.one (Ci (KK a b c d))) ([]) :=
  Runs.of1 (ps := []) (by kernel_rfl) (by simp)
def JQ1:List Pm → Qr → Option CRes
  | [.i a,.i b,.i l,.i m,.i c,.i d],[] => some ⟨SV.one (Ci (KK a b c d)),
 [],[],[],73⟩
  | _,_ => none
theorem JtQ:Qk Tryz.prog 172 (JS JFm JQ1) := by
  refine JH (JD JNg 172) fun ps ls r hr hn _ => ?_
  unfold JQ1 at hr
  split at hr
  · cases hr; exact ⟨_,Jlq _ _ _ _ _ _,fun _ => rfl⟩
  · cases hr
def JfV:List (Nat × JW) := (172,JS JFm JQ1) :: JWa
theorem JTq:Known Tryz.prog (JB JfV) Zw := J7 JNg JtQ
def j5:Tpl := ⟨[.agg [.int .i64,.int .i64,.int .i64,.int .i64],.agg [.int .i64,.int .i64]],[],0⟩
def KE (a0 a1 b0 b1 p0 p1:Int):Bool := decide (KK a0 a1 p0 p1 < KK a0 a1 b0 b1) || KK a0 a1 p0 p1 == KK a0 a1 b0 b1 && decide (JE p0 p1 b0 b1 ≥ 0)
theorem Jar (a0 a1 b0 b1 p0 p1:Int):Runs (Js (JB JfV) Zw 158) (j5.args [.i a0,.i a1,.i b0,.i b1,.i p0,.i p1]) (j5.memo [.i a0,.i a1,.i b0,.i b1,.i p0,.i p1] []) j5.n (SV.one (Cb (KE a0 a1 b0 b1 p0 p1))) ([]) :=
  Runs.of1 (ps := []) (by kernel_rfl) (by simp)
def JHk:List Pm → Qr → Option CRes
  | [.i a0,.i a1,.i b0,.i b1,.i p0,.i p1],[] => some ⟨SV.one (Cb (KE a0 a1 b0 b1 p0 p1)),
 [],[],[],203⟩
  | _,_ => none
theorem JhX:Qk Tryz.prog 158 (JS j5 JHk) := by
  refine JH (JD JTq 158) fun ps ls r hr hn _ => ?_
  unfold JHk at hr
  split at hr
  · cases hr; exact ⟨_,Jar _ _ _ _ _ _,fun _ => rfl⟩
  · cases hr
def JMf:List (Nat × JW) := (158,JS j5 JHk) :: JfV
theorem JIs:Known Tryz.prog (JB JMf) Zw := J7 JTq JhX
def zt:Tpl := ⟨[.agg pI,.agg [.int .i64,.int .i64]],[],0⟩
def KQ (f0 f1 f2 t0 t1 t2 p c0 c1 c2 d:Int) (fu:Bool) (u w:Int):Bool := fu || KE (bif decide (d < 0) then Jd t0 t1 t2 p c0 c1 c2 else Jd f0 f1 f2 p c0 c1 c2) (bif decide (d < 0) then Jg t0 t1 t2 p c0 c1 c2 else Jg f0 f1 f2 p c0 c1 c2) (bif decide (d < 0) then Jd f0 f1 f2 p c0 c1 c2 else Jd t0 t1 t2 p c0 c1 c2) (bif decide (d < 0) then Jg f0 f1 f2 p c0 c1 c2 else Jg t0 t1 t2 p c0 c1 c2) u w
theorem Jfs (k bl f0 f1 f2 t0 t1 t2 p c0 c1 c2 d:Int) (fu:Bool) (fe:Int) (pr:Bool) (si ra be n sp:Int) (on:Bool) (u w:Int):Runs (Js (JB JMf) Zw 130) (zt.args [.i k,.i bl,.i f0,.i f1,.i f2,.i t0,.i t1,.i t2,.i p,.i c0,.i c1,.i c2,.i d,.b fu,.i fe,.b pr,.i si,.i ra,.i be,.i n,.i sp,.b on,.i u,.i w]) (zt.memo [.i k,.i bl,.i f0,.i f1,.i f2,.i t0,.i t1,.i t2,.i p,.i c0,.i c1,.i c2,.i d,.b fu,.i fe,.b pr,.i si,.i ra,.i be,.i n,.i sp,.b on,.i u,.i w] []) zt.n (SV.one (Cb (KQ f0 f1 f2 t0 t1 t2 p c0 c1 c2 d fu u w))) ([]) :=
  Runs.of1 (ps := []) (by kernel_rfl) (by simp)
def JIL:List Pm → Qr → Option CRes
  | [.i k,.i bl,.i f0,.i f1,.i f2,.i t0,.i t1,.i t2,.i p,.i c0,.i c1,.i c2,.i d,.b fu,.i fe,.b pr,.i si,.i ra,.i be,.i n,.i sp,.b on,.i u,.i w],[] => some ⟨SV.one (Cb (KQ f0 f1 f2 t0 t1 t2 p c0 c1 c2 d fu u w)),
 [],[],[],587⟩
  | _,_ => none
theorem JmG:Qk Tryz.prog 130 (JS zt JIL) := by
  refine JH (JD JIs 130) fun ps ls r hr hn _ => ?_
  unfold JIL at hr
  split at hr
  · cases hr; exact ⟨_,Jfs _ _ _ _ _ _ _ _ _ _ _ _ _ _ _ _ _ _ _ _ _ _ _ _,fun _ => rfl⟩
  · cases hr
def JQf:List (Nat × JW) := (130,JS zt JIL) :: JMf
theorem JLh:Known Tryz.prog (JB JQf) Zw := J7 JIs JmG
def JFA:Tpl := ⟨[.agg [.int .i64,.int .i64,.int .i64,.int .i64,.int .i64,.int .i64,.int .i64,.bool],.agg [.int .i64,.int .i64],.agg [.int .i64,.int .i64]],[],0⟩
def JHZ (e0 e1 e2 e3 e4 e5 e6:Int) (e7:Bool) (u w y z:Int):Bool := bif e6 == 0 then decide (J8 (J0 u y) (J0 w z) (J0 e2 e0) (J0 e3 e1) > 0) else KQ e0 e1 0 e2 e3 0 17 (JN e4 e6) (JN e5 e6) 0 (Jp e6) (JOO e6 e7) (J0 u e4) (J0 w e5) && (JE (J0 e0 e4) (J0 e1 e5) (J0 u e4) (J0 w e5) != 0 || decide (J8 (J0 e0 e4) (J0 e1 e5) (J0 u e4) (J0 w e5) ≤ 0))
theorem Jim (e0 e1 e2 e3 e4 e5 e6:Int) (e7:Bool) (u w y z:Int):Runs (Js (JB JQf) Zw 137) (JFA.args [.i e0,.i e1,.i e2,.i e3,.i e4,.i e5,.i e6,.b e7,.i u,.i w,.i y,.i z]) (JFA.memo [.i e0,.i e1,.i e2,.i e3,.i e4,.i e5,.i e6,.b e7,.i u,.i w,.i y,.i z] []) JFA.n (SV.one (Cb (JHZ e0 e1 e2 e3 e4 e5 e6 e7 u w y z))) ([]) :=
  Runs.of1 (ps := []) (by kernel_rfl) (by simp)
def JQo:List Pm → Qr → Option CRes
  | [.i e0,.i e1,.i e2,.i e3,.i e4,.i e5,.i e6,.b e7,.i u,.i w,.i y,.i z],[] => some ⟨SV.one (Cb (JHZ e0 e1 e2 e3 e4 e5 e6 e7 u w y z)),
 [],[],[],1039⟩
  | _,_ => none
theorem JtV:Qk Tryz.prog 137 (JS JFA JQo) := by
  refine JH (JD JLh 137) fun ps ls r hr hn _ => ?_
  unfold JQo at hr
  split at hr
  · cases hr; exact ⟨_,Jim _ _ _ _ _ _ _ _ _ _ _ _,fun _ => rfl⟩
  · cases hr
def JKF:List (Nat × JW) := (137,JS JFA JQo) :: JQf
theorem JTx:Known Tryz.prog (JB JKF) Zw := J7 JLh JtV
end
end Go.Proofs.YtmbfbhimdkjkoaaGreat
