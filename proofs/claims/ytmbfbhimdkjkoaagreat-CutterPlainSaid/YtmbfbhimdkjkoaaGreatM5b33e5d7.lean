/-
  Texts of one claim, laid together. Conditions: none.
-/
import Derived.Test.YtmbfbhimdkjkoaaGreatMd4a44a3f
import Derived.Test.YtmbfbhimdkjkoaaGreatRows
set_option linter.all false
set_option maxRecDepth 1000000
namespace Go.SX
noncomputable section
open Go.RowKit
universe u
theorem XU {α:Type u} (l:List α) (x:α):x ∈ l ++ [x] := List.mem_append.2 (.inr (List.mem_cons_self ..))
structure Ext (m m':MR):Prop where
  sub:∀ a b,J6 m.sub a = some b → J6 m'.sub a = some b
  needs:∀ p ∈ m.needs,p ∈ m'.needs
  eqs:∀ p ∈ m.eqs,p ∈ m'.eqs
theorem Ext.refl (m:MR):Ext m m := ⟨fun _ _ h => h,fun _ h => h,fun _ h => h⟩
theorem Ext.trans {a b c:MR} (h:Ext a b) (k:Ext b c):Ext a c := ⟨fun x y q => k.sub x y (h.sub x y q),fun p q => k.needs p (h.needs p q),fun p q => k.eqs p (h.eqs p q)⟩
structure Good (m:MR):Prop where
  needs:∀ p ∈ m.needs,p
  eqs:∀ p ∈ m.eqs,p.1 = p.2
def Xr (n0:Nat) (θ:Th) (sub:Sub):Th := fun i => if i < n0 then θ i else match J6 sub i with | some (some b) => θ b | _ => Loc.none
def kN (n0:Nat) (sub:Sub) (a:Nat) (b:Option Nat):Prop := (a < n0 ∧ b = some a) ∨ (n0 ≤ a ∧ J6 sub a = some b)
theorem KG {n0:Nat} {θ:Th} {sub:Sub} {a b:Nat} (h:kN n0 sub a (some b)):Xr n0 θ sub a = θ b := by
  unfold Xr
  rcases h with ⟨h1,h2⟩ | ⟨h1,h2⟩
  · cases h2; rw [if_pos h1]
  · rw [if_neg (by omega),h2]
theorem JD4 {n0:Nat} {θ:Th} {sub:Sub} {a:Nat} (h:kN n0 sub a none):Xr n0 θ sub a = Loc.none := by
  unfold Xr
  rcases h with ⟨_,h2⟩ | ⟨h1,h2⟩
  · cases h2
  · rw [if_neg (by omega),h2]
theorem kN.ext {n0:Nat} {m m':MR} {a:Nat} {b:Option Nat} (h:kN n0 m.sub a b) (he:Ext m m'):kN n0 m'.sub a b :=
  h.imp (fun h => h) fun ⟨h1,h2⟩ => ⟨h1,he.sub a b h2⟩
theorem Ks {n0 a:Nat} {b:Option Nat} {m m':MR} (h:JHT n0 a b m = some m'):Ext m m' ∧ kN n0 m'.sub a b := by
  unfold JHT at h
  cases hlt:Nat.blt a n0
  · rw [hlt] at h
    have hge:n0 ≤ a := by
      rcases Nat.lt_or_ge a n0 with h' | h'
      · have:Nat.blt a n0 = true := Nat.blt_eq.mpr h'
        rw [this] at hlt; cases hlt
      · exact h'
    simp only [cond_false] at h
    split at h
    · rename_i hno
      have ext:∀ (m2:MR),m2 = { m with sub := (a,b) :: m.sub } → Ext m m2 ∧ kN n0 m2.sub a b := by
        rintro m2 rfl
        refine ⟨⟨fun x y hxy => ?_,fun _ h => h,fun _ h => h⟩,.inr ⟨hge,by simp [Jd,JM]⟩⟩
        have hne:a ≠ x := fun e => by rw [e,hxy] at hno; cases hno
        simp only [Jd,JM,ZJ hne,cond_false]; exact hxy
      cases h; exact ext _ rfl
    · rename_i b' hl
      split at h
      · rename_i x y
        cases hxy:Nat.beq x y
        · rw [hxy] at h; cases h
        · rw [hxy] at h; cases h
          have := Nat.eq_of_beq_eq_true hxy; subst this
          exact ⟨Ext.refl _,.inr ⟨hge,hl⟩⟩
      · cases h; exact ⟨Ext.refl _,.inr ⟨hge,hl⟩⟩
      · cases h
  · rw [hlt] at h
    simp only [cond_true] at h
    have hlt':a < n0 := Nat.blt_eq.mp hlt
    split at h
    · rename_i b'
      cases hb:Nat.beq a b'
      · rw [hb] at h; cases h
      · rw [hb] at h; cases h
        have := Nat.eq_of_beq_eq_true hb; subst this
        exact ⟨Ext.refl _,.inl ⟨hlt',rfl⟩⟩
    · cases h
theorem Xn (m:MR) (p:Prop):Ext m { m with needs := m.needs ++ [p] } := ⟨fun _ _ h => h,fun q hq => by simp [hq],fun _ h => h⟩
theorem JQ1 (m:MR) (p:EV × EV):Ext m { m with eqs := m.eqs ++ [p] } := ⟨fun _ _ h => h,fun _ h => h,fun q hq => by simp [hq]⟩
theorem JY8 (same:Bool) (k:IntKind) (x y:SI) (m:MR):Ext m (JYS same k x y m) ∧ ∀ mf,Ext (JYS same k x y m) mf → Good mf → x.val = y.val := by
  unfold JYS
  split
  · rename_i a b
    by_cases h:a = b
    · rw [show decide (a = b) = true from decide_eq_true h]
      exact ⟨Ext.refl _,fun _ _ _ => h⟩
    · rw [show decide (a = b) = false from decide_eq_false h]
      exact ⟨Xn _ _,fun mf he hg => hg.needs _ (he.needs _ (XU _ _))⟩
  · cases same
    · exact ⟨Xn _ _,fun mf he hg => hg.needs _ (he.needs _ (XU _ _))⟩
    · refine ⟨JQ1 _ _,fun mf he hg => ?_⟩
      have := JF4 (hg.eqs (.v (.one (.int k x)),.v (.one (.int k y))) (he.eqs _ (XU _ _)))
      injection this with this
      injection this with _ this
      rw [this]
theorem JW8 (same:Bool) (x y:SB) (m:MR):Ext m (JZl same x y m) ∧ ∀ mf,Ext (JZl same x y m) mf → Good mf → x.val = y.val := by
  unfold JZl
  split
  · rename_i a b
    cases h:(a == b)
    · exact ⟨Xn _ _,fun mf he hg => hg.needs _ (he.needs _ (XU _ _))⟩
    · exact ⟨Ext.refl _,fun _ _ _ => eq_of_beq h⟩
  · cases same
    · exact ⟨Xn _ _,fun mf he hg => hg.needs _ (he.needs _ (XU _ _))⟩
    · refine ⟨JQ1 _ _,fun mf he hg => ?_⟩
      have := JF4 (hg.eqs (.v (.one (.bool x)),.v (.one (.bool y))) (he.eqs _ (XU _ _)))
      injection this with this
      injection this with this
      rw [this]
theorem JCY (x y:SN) (m:MR):Ext m (JLY x y m) ∧ ∀ mf,Ext (JLY x y m) mf → Good mf → x.val = y.val := by
  unfold JLY
  split
  · rename_i a b
    cases h:Nat.beq a b
    · exact ⟨Xn _ _,fun mf he hg => hg.needs _ (he.needs _ (XU _ _))⟩
    · exact ⟨Ext.refl _,fun _ _ _ => Nat.eq_of_beq_eq_true h⟩
  · exact ⟨Xn _ _,fun mf he hg => hg.needs _ (he.needs _ (XU _ _))⟩
section spec
variable {n0:Nat} {θ:Th}
theorem kh {same:Bool} {x y:SC} {m m':MR} (h:JLd n0 same x y m = some m'):Ext m m' ∧ ∀ mf,Ext m' mf → Good mf → x.den (Xr n0 θ mf.sub) = y.den θ := by
  unfold JLd at h
  split at h
  · rename_i k x j y
    cases hk:Kb k j
    · rw [hk] at h; cases h
    · rw [hk] at h; cases h
      have := Xi hk; subst this
      obtain ⟨h1,h2⟩ := JY8 same k x y m
      exact ⟨h1,fun mf he hg => by simp only [SC.den,h2 mf he hg]⟩
  · rename_i x y
    cases h
    obtain ⟨h1,h2⟩ := JW8 same x y m
    exact ⟨h1,fun mf he hg => by simp only [SC.den,h2 mf he hg]⟩
  · rename_i a o b p
    cases hk:Nat.beq o p
    · rw [hk] at h; cases h
    · rw [hk] at h
      simp only [cond_true] at h
      have := Nat.eq_of_beq_eq_true hk; subst this
      obtain ⟨h1,h2⟩ := Ks h
      exact ⟨h1,fun mf he _ => by simp only [SC.den,KG (θ := θ) (h2.ext he)]⟩
  · obtain ⟨h1,h2⟩ := Ks h
    exact ⟨h1,fun mf he _ => by simp only [SC.den,KG (θ := θ) (h2.ext he)]⟩
  · obtain ⟨h1,h2⟩ := Ks h
    exact ⟨h1,fun mf he _ => by simp only [SC.den,JD4 (θ := θ) (h2.ext he),Loc.none]⟩
  · rename_i a e o l b f p k
    cases hk:Nat.beq e f
    · rw [hk] at h; cases h
    · rw [hk] at h
      simp only [cond_true] at h
      have := Nat.eq_of_beq_eq_true hk; subst this
      obtain ⟨h1,h2⟩ := Ks h
      obtain ⟨h3,h4⟩ := JCY o p m
      obtain ⟨h5,h6⟩ := JCY l k (JLY o p m)
      exact ⟨(h3.trans h5).trans h1,fun mf he hg => by simp only [SC.den,KG (θ := θ) (h2.ext he),h4 mf ((h5.trans h1).trans he) hg,h6 mf (h1.trans he) hg]⟩
  · rename_i a e i o b f j p
    cases hk:(Nat.beq e f && Nat.beq o p)
    · rw [hk] at h; cases h
    · rw [hk] at h
      simp only [cond_true] at h
      simp only [Bool.and_eq_true] at hk
      have e1 := Nat.eq_of_beq_eq_true hk.1
      have e2 := Nat.eq_of_beq_eq_true hk.2
      subst e1; subst e2
      obtain ⟨h1,h2⟩ := Ks h
      obtain ⟨h3,h4⟩ := JCY i j m
      exact ⟨h3.trans h1,fun mf he hg => by simp only [SC.den,KG (θ := θ) (h2.ext he),h4 mf (h1.trans he) hg]⟩
  · rename_i f a g b
    cases hk:Nat.beq f g
    · rw [hk] at h; cases h
    · rw [hk] at h
      simp only [cond_true] at h
      have := Nat.eq_of_beq_eq_true hk; subst this
      obtain ⟨h1,h2⟩ := Ks h
      exact ⟨h1,fun mf he _ => by simp only [SC.den,KG (θ := θ) (h2.ext he)]⟩
  · cases h; exact ⟨Ext.refl _,fun _ _ _ => rfl⟩
  · cases h; exact ⟨Ext.refl _,fun _ _ _ => rfl⟩
  · rename_i f g
    cases hk:Nat.beq f g
    · rw [hk] at h; cases h
    · rw [hk] at h; cases h
      have := Nat.eq_of_beq_eq_true hk; subst this
      exact ⟨Ext.refl _,fun _ _ _ => rfl⟩
  · cases h
theorem zz {same:Bool}:∀ {x y:List SC} {m m':MR},JEi n0 same x y m = some m' → Ext m m' ∧ ∀ mf,Ext m' mf → Good mf → JH (Xr n0 θ mf.sub) x = JH θ y
  | [],[],m,m',h => by cases h; exact ⟨Ext.refl _,fun _ _ _ => rfl⟩
  | [],_ :: _,_,_,h => by cases h
  | _ :: _,[],_,_,h => by cases h
  | x :: r,y :: s,m,m',h => by
    simp only [JEi] at h
    split at h
    · rename_i m1 h1
      obtain ⟨h2,h3⟩ := kh (θ := θ) h1
      obtain ⟨h4,h5⟩ := zz h
      refine ⟨h2.trans h4,fun mf he hg => ?_⟩
      have := h5 mf he hg
      simp only [JH,List.map_cons] at this ⊢
      rw [h3 mf (h4.trans he) hg,this]
    · cases h
theorem JHZ {same:Bool} {x y:SV} {m m':MR} (h:JQn n0 same x y m = some m'):Ext m m' ∧ ∀ mf,Ext m' mf → Good mf → x.den (Xr n0 θ mf.sub) = y.den θ := by
  unfold JQn at h
  split at h
  · exact kh h
  · obtain ⟨h1,h2⟩ := zz (θ := θ) h
    exact ⟨h1,fun mf he hg => by simp only [SV.den,h2 mf he hg]⟩
  · cases h
theorem JFC:∀ {x y:List SV} {m m':MR},JIt n0 x y m = some m' → Ext m m' ∧ ∀ mf,Ext m' mf → Good mf → x.map (SV.den (Xr n0 θ mf.sub)) = y.map (SV.den θ)
  | [],[],m,m',h => by cases h; exact ⟨Ext.refl _,fun _ _ _ => rfl⟩
  | [],_ :: _,_,_,h => by cases h
  | _ :: _,[],_,_,h => by cases h
  | x :: r,y :: s,m,m',h => by
    simp only [JIt] at h
    split at h
    · rename_i m1 h1
      obtain ⟨h2,h3⟩ := JHZ (θ := θ) h1
      obtain ⟨h4,h5⟩ := JFC h
      refine ⟨h2.trans h4,fun mf he hg => ?_⟩
      simp only [List.map_cons]
      rw [h3 mf (h4.trans he) hg,h5 mf he hg]
    · cases h
theorem JIG:∀ {x y:List (Nat × SC)} {m m':MR},JPa n0 x y m = some m' → Ext m m' ∧ ∀ mf,Ext m' mf → Good mf → JH (Xr n0 θ mf.sub) (Jx x) = JH θ (Jx y)
  | [],[],m,m',h => by cases h; exact ⟨Ext.refl _,fun _ _ _ => rfl⟩
  | [],_ :: _,_,_,h => by cases h
  | _ :: _,[],_,_,h => by cases h
  | (a,x) :: r,(b,y) :: s,m,m',h => by
    simp only [JPa] at h
    split at h
    · rename_i m1 h1
      obtain ⟨h2,h3⟩ := kh (θ := θ) h1
      obtain ⟨h4,h5⟩ := JIG h
      refine ⟨h2.trans h4,fun mf he hg => ?_⟩
      have := h5 mf he hg
      simp only [JH,ZB,Jm,List.map_cons] at this ⊢
      rw [h3 mf (h4.trans he) hg,this]
    · cases h
theorem JIJ:∀ {E env:Zm} {m m':MR},JQj n0 E env m = some m' → Ext m m' ∧ ∀ t e,(t,e) ∈ E → ∃ f,J6 env t = some f ∧ f.g = [] ∧ e.g = [] ∧ ∀ mf,Ext m' mf → Good mf → e.val.den (Xr n0 θ mf.sub) = f.val.den θ
  | [],env,m,m',h => by cases h; exact ⟨Ext.refl _,fun _ _ h => by cases h⟩
  | (t,e) :: r,env,m,m',h => by
    simp only [JQj] at h
    split at h
    · cases h
    · rename_i f hf
      split at h
      · rename_i hg1 hg2
        split at h
        · rename_i m1 h1
          obtain ⟨h2,h3⟩ := JHZ (θ := θ) h1
          obtain ⟨h4,h5⟩ := JIJ h
          refine ⟨h2.trans h4,fun t' e' hm => ?_⟩
          rcases List.mem_cons.1 hm with hm | hm
          · cases hm
            exact ⟨f,hf,hg2,hg1,fun mf he hg => h3 mf (h4.trans he) hg⟩
          · exact h5 t' e' hm
        · cases h
      · cases h
theorem JAN {same:Bool}:∀ {x y:List (List SC)} {m m':MR},JB1 n0 same x y m = some m' → Ext m m' ∧ x.length = y.length ∧ (∀ r ∈ x,QD r = []) ∧ ∀ mf,Ext m' mf → Good mf → x.map (JH (Xr n0 θ mf.sub)) = y.map (JH θ)
  | [],[],m,m',h => by cases h; exact ⟨Ext.refl _,rfl,by simp,fun _ _ _ => rfl⟩
  | [],_ :: _,_,_,h => by cases h
  | _ :: _,[],_,_,h => by cases h
  | x :: r,y :: s,m,m',h => by
    simp only [JB1] at h
    split at h
    · rename_i _ _ l m1 hl h1
      obtain ⟨h2,h3⟩ := zz (θ := θ) h1
      obtain ⟨h4,h5,h6,h7⟩ := JAN h
      refine ⟨h2.trans h4,by simp [h5],fun q hq => ?_,fun mf he hg => ?_⟩
      · rcases List.mem_cons.1 hq with rfl | hq
        · exact JBA hl
        · exact h6 q hq
      · simp only [List.map_cons,List.cons.injEq]
        exact ⟨h3 mf (h4.trans he) hg,h7 mf he hg⟩
    · cases h
theorem JTL {x y:RowC} {m m':MR} (h:JXO n0 x y m = some m'):Ext m m' ∧ ∀ mf,Ext m' mf → Good mf → ∀ esz,QM esz y.rows → QM esz x.rows ∧ x.rows.length = y.rows.length ∧ ∀ φ,x.rows.map (JH φ) = y.rows.map (JH φ) := by
  unfold JXO at h
  split at h
  · rename_i t ks xs u js ys
    cases hk:K6 ks js
    · rw [hk] at h; cases h
    · rw [hk] at h
      have := Zc hk; subst this
      cases htu:JEL t u
      · rw [htu] at h; cases h
        refine ⟨Xn _ _,fun mf he hg esz hok => ?_⟩
        have:xs = ys := hg.needs _ (he.needs _ (XU _ _))
        subst this
        exact ⟨hok,rfl,fun _ => rfl⟩
      · rw [htu] at h; cases h
        refine ⟨JQ1 _ _,fun mf he hg esz hok => ?_⟩
        have:xs = ys := JZ3 (hg.eqs (.l xs,.l ys) (he.eqs _ (XU _ _)))
        subst this
        exact ⟨hok,rfl,fun _ => rfl⟩
  · rename_i t ks xs tg rows
    split at h
    · rename_i ys hy
      cases h
      refine ⟨Xn _ _,fun mf he hg esz hok => ?_⟩
      have:xs = ys := hg.needs _ (he.needs _ (XU _ _))
      subst this
      obtain ⟨h1,h2,h3⟩ := Xl hy fun r hr => (hok.2 r hr).1
      exact ⟨⟨hok.1,h2⟩,by simp [RowC.rows,h1],h3⟩
    · cases h
  · rename_i t a u b
    obtain ⟨h1,h2,hx,h4⟩ := JAN (θ := Th.none) h
    refine ⟨h1,fun mf he hg esz hok => ?_⟩
    have h5 := h4 mf he hg
    have h6:∀ φ,a.map (JH φ) = b.map (JH φ) := fun φ => by
      have e1:a.map (JH φ) = a.map (JH (Xr n0 Th.none mf.sub)) := List.map_congr_left fun r hr => Qb (hx r hr)
      have e2:b.map (JH φ) = b.map (JH Th.none) := List.map_congr_left fun r hr => Qb (hok.2 r hr).2
      rw [e1,e2,h5]
    refine ⟨⟨hok.1,fun r hr => ⟨?_,hx r hr⟩⟩,h2,h6⟩
    obtain ⟨i,hi⟩ := List.getElem?_of_mem (show r ∈ a from hr)
    have h7 := congrArg (fun l:List (List Value) => l[i]?) (h6 Th.none)
    simp only [List.getElem?_map] at h7
    rw [hi] at h7
    cases hb:b[i]? with
    | none => rw [hb] at h7; cases h7
    | some rb =>
      rw [hb] at h7
      simp only [Option.map_some,Option.some.injEq] at h7
      have h8 := congrArg List.length h7
      simp only [JH,List.length_map] at h8
      rw [h8]
      exact (hok.2 rb (List.mem_of_getElem? hb)).1
  · cases h
theorem JUV {o p:Obj} {m m':MR} (h:JXM n0 o p m = some m'):Ext m m' ∧ ∀ mf,Ext m' mf → Good mf → ∀ w id b,Xr n0 θ mf.sub id = θ b → Jn θ w b p → Jn (Xr n0 θ mf.sub) w id o := by
  unfold JXM at h
  split at h
  · rename_i t x u y
    cases hk:Nat.beq t u
    · rw [hk] at h; cases h
    · rw [hk] at h
      have := Nat.eq_of_beq_eq_true hk; subst this
      obtain ⟨h1,h2⟩ := JIG (θ := θ) h
      refine ⟨h1,fun mf he hg w id b hid ⟨c,h3,h4⟩ => ⟨c,by rw [hid,h3],by rw [h4,h2 mf he hg]⟩⟩
  · rename_i p t e x q u f y
    cases hk:((p == q) && (Nat.beq t u && Nat.beq e f))
    · rw [hk] at h; cases h
    · rw [hk] at h
      simp only [Bool.and_eq_true] at hk
      have e1 := eq_of_beq hk.1
      have e2 := Nat.eq_of_beq_eq_true hk.2.1
      have e3 := Nat.eq_of_beq_eq_true hk.2.2
      subst e1; subst e2; subst e3
      obtain ⟨h1,h2⟩ := JTL h
      refine ⟨h1,fun mf he hg w id b hid ho => ?_⟩
      have h3 := zL (h2 mf he hg e) ho
      have hrow:QM e x.rows := by cases p <;> exact h3.1
      cases p
      · refine ⟨hrow,?_⟩; rw [hid,Qb (θ := θ) hrow.ids]; exact h3.2
      · refine ⟨hrow,?_⟩; rw [hid,Qb (θ := θ) hrow.ids]; exact h3.2
  · obtain ⟨h1,h2⟩ := JFC (θ := θ) h
    exact ⟨h1,fun mf he hg w id b hid ho => by show _ = _; rw [hid,show θ b = _ from ho,h2 mf he hg]⟩
  · cases h
theorem JAi:∀ {M mem:Je} {m m':MR},JJL n0 M mem m = some m' → Ext m m' ∧ ∀ id o,(id,o) ∈ M → (∃ b p,kN n0 m'.sub id (some b) ∧ J6 mem b = some p ∧ ∀ mf,Ext m' mf → Good mf → ∀ w,Jn θ w b p → Jn (Xr n0 θ mf.sub) w id o) ∨
      (kN n0 m'.sub id none ∧ ∀ mf,Ext m' mf → Good mf → ∀ w,Jn (Xr n0 θ mf.sub) w id o)
  | [],mem,m,m',h => by cases h; exact ⟨Ext.refl _,fun _ _ h => by cases h⟩
  | (id,o) :: r,mem,m,m',h => by
    simp only [JJL] at h
    split at h
    · cases h
    · rename_i hb
      split at h
      · rename_i ty esz tag ks xs
        cases hpos:Nat.blt 0 esz
        · rw [hpos] at h; cases h
        rw [hpos] at h
        have hpos:0 < esz := Nat.blt_eq.mp hpos
        simp only [cond_true] at h
        obtain ⟨h1,h2⟩ := JAi h
        have hbind:kN n0 m.sub id none := by
          cases hlt:Nat.blt id n0
          · rw [hlt] at hb
            refine .inr ⟨?_,hb⟩
            rcases Nat.lt_or_ge id n0 with h' | h'
            · have:Nat.blt id n0 = true := Nat.blt_eq.mpr h'
              rw [this] at hlt; cases hlt
            · exact h'
          · rw [hlt] at hb; cases hb
        have he1 := (Xn m (xs = [])).trans h1
        refine ⟨he1,fun id' o' hm => ?_⟩
        rcases List.mem_cons.1 hm with hm | hm
        · cases hm
          refine .inr ⟨hbind.ext he1,fun mf he hg w => ?_⟩
          have hx:xs = [] := hg.needs _ (he.needs _ (h1.needs _ (XU _ _)))
          subst hx
          refine ⟨⟨hpos,fun r hr => by cases hr⟩,?_⟩
          rw [JD4 (θ := θ) ((hbind.ext he1).ext he)]
          exact ⟨rfl,.inl ⟨rfl,rfl,rfl,rfl⟩,World.ownsRow_nil _ _ _ _⟩
        · exact h2 id' o' hm
      · cases h
    · rename_i b hb
      have hbind:kN n0 m.sub id (some b) := by
        cases hlt:Nat.blt id n0
        · rw [hlt] at hb
          refine .inr ⟨?_,hb⟩
          rcases Nat.lt_or_ge id n0 with h' | h'
          · have:Nat.blt id n0 = true := Nat.blt_eq.mpr h'
            rw [this] at hlt; cases hlt
          · exact h'
        · rw [hlt] at hb
          simp only [cond_true,Option.some.injEq] at hb
          exact .inl ⟨Nat.blt_eq.mp hlt,by rw [hb]⟩
      split at h
      · cases h
      · rename_i p hp
        split at h
        · rename_i m1 h1
          obtain ⟨h2,h3⟩ := JUV (θ := θ) h1
          obtain ⟨h4,h5⟩ := JAi h
          refine ⟨h2.trans h4,fun id' o' hm => ?_⟩
          rcases List.mem_cons.1 hm with hm | hm
          · cases hm
            refine .inl ⟨b,p,hbind.ext (h2.trans h4),hp,fun mf he hg w ho => h3 mf (h4.trans he) hg w id b (KG (hbind.ext ((h2.trans h4).trans he))) ho⟩
          · exact h5 id' o' hm
        · cases h
end spec
theorem JAc:∀ {E:Zm} {t:Nat} {e:Ent},JLX E = true → J6 E t = some e → e.g = [] ∧ e.gx = []
  | [],_,_,_,h => by cases h
  | (k,x) :: r,t,e,hp,h => by
    simp only [JLX,Bool.and_eq_true] at hp
    simp only [Jd,JM] at h
    cases hk:Nat.beq k t
    · rw [hk] at h; exact JAc hp.2 h
    · rw [hk] at h; cases h
      exact ⟨List.isEmpty_iff.1 hp.1.1,List.isEmpty_iff.1 hp.1.2⟩
theorem JEQ {α:Type}:∀ {l:List (Nat × α)} {t:Nat} {x:α},J6 l t = some x → (t,x) ∈ l
  | [],_,_,h => by cases h
  | (k,y) :: r,t,x,h => by
    simp only [Jd,JM] at h
    cases hk:Nat.beq k t
    · rw [hk] at h; exact List.mem_cons_of_mem _ (JEQ h)
    · rw [hk] at h; cases h
      have := Nat.eq_of_beq_eq_true hk; subst this
      exact List.mem_cons_self ..
theorem JLZ:∀ {E:Zm} {t:Nat} {e:Ent},(t,e) ∈ E → ∀ id ∈ Qp e.val,id ∈ JLt E
  | (k,x) :: r,t,e,h,id,hid => by
    simp only [JLt,List.mem_append]
    rcases List.mem_cons.1 h with h | h
    · cases h; exact .inl hid
    · exact .inr (JLZ h id hid)
theorem Kj:∀ {sub:Sub} {a b:Nat},J6 sub a = some (some b) → b ∈ Kn sub
  | (k,some x) :: r,a,b,h => by
    simp only [Jd,JM] at h
    cases hk:Nat.beq k a
    · rw [hk] at h; simp [Kn,Kj h]
    · rw [hk] at h; cases h; simp [Kn]
  | (k,none) :: r,a,b,h => by
    simp only [Jd,JM] at h
    cases hk:Nat.beq k a
    · rw [hk] at h; simp [Kn,Kj h]
    · rw [hk] at h; cases h
theorem JCO:∀ {sub:Sub} {a a' b:Nat},(Kn sub).Nodup → J6 sub a = some (some b) → J6 sub a' = some (some b) → a = a'
  | [],_,_,_,_,h,_ => by cases h
  | (k,none) :: r,a,a',b,hn,h,h' => by
    simp only [Jd,JM] at h h'
    cases hk:Nat.beq k a
    · rw [hk] at h
      cases hk':Nat.beq k a'
      · rw [hk'] at h'; simp only [cond_false] at h h'; exact JCO (sub := r) hn h h'
      · rw [hk'] at h'; cases h'
    · rw [hk] at h; cases h
  | (k,some x) :: r,a,a',b,hn,h,h' => by
    simp only [Kn,List.nodup_cons] at hn
    simp only [Jd,JM] at h h'
    cases hk:Nat.beq k a
    · rw [hk] at h
      cases hk':Nat.beq k a'
      · rw [hk'] at h'; simp only [cond_false] at h h'; exact JCO hn.2 h h'
      · rw [hk'] at h'; simp only [cond_false] at h; cases h'; exact absurd (Kj h) hn.1
    · rw [hk] at h; cases h
      cases hk':Nat.beq k a'
      · rw [hk'] at h'; simp only [cond_false] at h'; exact absurd (Kj h') hn.1
      · rw [← Nat.eq_of_beq_eq_true hk,← Nat.eq_of_beq_eq_true hk']
theorem zi {n0 id:Nat}:∀ {M:Je},id ∈ domain M → id < n0 → id ∈ JCb n0 M
  | [],h,_ => by cases h
  | (k,o) :: r,h,hlt => by
    simp only [domain,List.mem_cons] at h
    simp only [JCb]
    cases hk:Nat.blt k n0
    · rcases h with rfl | h
      · rw [Nat.blt_eq.mpr hlt] at hk; cases hk
      · exact zi h hlt
    · rcases h with rfl | h
      · simp
      · simp [zi h hlt]
theorem JHH {nt m n0 N:Nat} {θ0:Th} {m0:Je} {w0:World} {E env:Zm} {M mem:Je} {p:List Prop} {q:Y8} (h:JJb n0 N E M env mem = some (p,q)) (hp:∀ x ∈ p,x) (hq:∀ x ∈ q,x.1 = x.2) {a:Act} {w:World}
    (hL:Xg nt m n0 θ0 m0 w0 env mem a w):Xg nt N n0 θ0 m0 w0 E M a w := by
  unfold JJb at h
  cases hc:(JLX E && (Xq N (JLt E) && Xq N (Xt M)))
  · rw [hc] at h; cases h
  rw [hc] at h
  simp only [Bool.and_eq_true] at hc
  obtain ⟨hpl,hE,hM⟩ := hc
  have hE := Zx hE
  have hM := Zx hM
  simp only [cond_true] at h
  split at h
  · cases h
  rename_i m1 h1
  split at h
  · cases h
  rename_i m2 h2
  cases hn:(JCz (Kn m2.sub) && !(Xa (Kn m2.sub) (JCb n0 M)))
  · rw [hn] at h; cases h
  rw [hn] at h
  simp only [cond_true,Option.some.injEq,Prod.mk.injEq] at h
  obtain ⟨rfl,rfl⟩ := h
  simp only [Bool.and_eq_true,Bool.not_eq_true'] at hn
  have hnd := JA6 hn.1
  have hlow:∀ x,x ∈ Kn m2.sub → x ∈ JCb n0 M → False := fun x h1 h2 => by
    have := KJ.2 ⟨x,h1,h2⟩
    rw [hn.2] at this; cases this
  have hg:Good m2 := ⟨hp,hq⟩
  obtain ⟨θ,R,pl,G⟩ := hL
  obtain ⟨e1,e2⟩ := JIJ (θ := θ) h1
  obtain ⟨e3,e4⟩ := JAi (θ := θ) h2
  have obj:∀ id o,J6 M id = some o → Jn (Xr n0 θ m2.sub) w id o ∧ ((∃ b p,kN n0 m2.sub id (some b) ∧ J6 mem b = some p ∧ Xr n0 θ m2.sub id = θ b) ∨ Xr n0 θ m2.sub id = Loc.none) := by
    intro id o hl
    rcases e4 id o (JEQ hl) with ⟨b,p,h3,h4,h5⟩ | ⟨h3,h5⟩
    · exact ⟨h5 m2 (Ext.refl _) hg w (R.mem.1 b p h4),.inl ⟨b,p,h3,h4,KG h3⟩⟩
    · exact ⟨h5 m2 (Ext.refl _) hg w,.inr (JD4 h3)⟩
  refine ⟨Xr n0 θ m2.sub,⟨R.size,R.defers,fun t e hl id hid => hE id (JLZ (JEQ hl) id hid),fun id o hl => ⟨hM id (ke hl).1,fun i hi => hM i ((ke hl).2 i hi)⟩,fun t e hl => ?_,fun id o hl => (obj id o hl).1,fun id id' o o' b hl hl' hne hb hb' => ?_⟩,fun t e hl => (JAc hpl hl).1,?_⟩
  · obtain ⟨f,h3,h4,h5,h6⟩ := e2 t e (JEQ hl)
    have h7 := Xo (R.env t f h3) h4
    have h8 := h6 m2 e3 hg
    have h9:a.tmps[t]? = some (e.val.den (Xr n0 θ m2.sub)) := by rw [h7,h8]
    obtain ⟨hg1,hg2⟩ := JAc hpl hl
    obtain ⟨g,gx,tag,v⟩ := e
    simp only at hg1 hg2
    subst hg1; subst hg2
    exact JBH h9
  · rcases (obj id o hl).2 with ⟨c,p,h3,h4,h5⟩ | h5
    · rcases (obj id' o' hl').2 with ⟨c',p',h3',h4',h5'⟩ | h5'
      · rw [h5] at hb
        rw [h5'] at hb'
        refine R.mem.2 c c' p p' b h4 h4' (fun hcc => ?_) hb hb'
        subst hcc
        rcases h3 with ⟨h6,h7⟩ | ⟨h6,h7⟩ <;> rcases h3' with ⟨h6',h7'⟩ | ⟨h6',h7'⟩
        · cases h7; cases h7'; exact hne rfl
        · cases h7; exact hlow _ (Kj h7') (zi (Qt.2 ⟨o,hl⟩) h6)
        · cases h7'; exact hlow _ (Kj h7) (zi (Qt.2 ⟨o',hl'⟩) h6')
        · exact hne (JCO hnd h7 h7')
      · rw [h5'] at hb'; cases hb'
    · rw [h5] at hb; cases hb
  · refine { agree := G.agree.trans (fun id hid => by unfold Xr; rw [if_pos hid]) (Nat.le_refl _),os := G.os,tape := G.tape,output := G.output,size := G.size,heap := G.heap,blks := fun id o b hl hb => ?_,eyes := fun id o b hl hb => ?_ }
    · rcases (obj id o hl).2 with ⟨c,p,_,h4,h5⟩ | h5
      · rw [h5] at hb; exact G.blks c p b h4 hb
      · rw [h5] at hb; cases hb
    · rcases (obj id o hl).2 with ⟨c,p,_,h4,h5⟩ | h5
      · rw [h5] at hb; exact G.eyes c p b h4 hb
      · rw [h5] at hb; cases hb
theorem JBJ {nt m n0 N:Nat} {θ0:Th} {m0:Je} {w0:World} {e:SX} {env:Zm} {mem:Je}:∀ {t:Tree} {p:List Prop} {q:Y8},JGC n0 N e env mem t = some (p,q) → (∀ x ∈ p,x) → (∀ x ∈ q,x.1 = x.2) → ∀ {a:Act} {w:World},
    Xg nt m n0 θ0 m0 w0 env mem a w → t.sat (Xg nt N n0 θ0 m0 w0) e.toExit a w
  | .leaf f E M,p,q,h,hp,hq,a,w,hL => by
    simp only [JGC] at h
    cases hef:SX.eq e f
    · rw [hef] at h; cases h
      exact absurd (hp False (by simp)) id
    · rw [hef] at h
      have := JMx hef; subst this
      exact ⟨rfl,JHH h hp hq hL⟩
  | .ite c s t,p,q,h,hp,hq,a,w,hL => by
    simp only [JGC] at h
    split at h
    · rename_i p1 q1 p2 q2 h1 h2
      cases h
      exact ⟨fun hc => JBJ h1 (X8 hc fun x hx => hp x (List.mem_append.2 (.inl hx))) (fun x hx => hq x (List.mem_append.2 (.inl hx))) hL,
        fun hc => JBJ h2 (X8 hc fun x hx => hp x (List.mem_append.2 (.inr hx))) (fun x hx => hq x (List.mem_append.2 (.inr hx))) hL⟩
    · cases h
section loop
variable {P:Program} {σ τ:Type} {F:Fam σ τ}
theorem JYF {nt m n:Nat} {θ0:Th} {m0:Je} {w0:World} {s:σ}:∀ {t:Tree} {i j:Nat} {p:List Prop} {q:Y8},jJ F n s t i = some (p,q,j) → (∀ x ∈ p,x) → (∀ x ∈ q,x.1 = x.2) → ∀ {x:Exit} {a:Act} {w:World},
    t.sat (Xg nt m n θ0 m0 w0) x a w → (x = .normal ∧ ∃ s',F.J s' ∧ F.μ s' < F.μ s ∧ F.fin s' = F.fin s ∧ Xg nt (n + F.k) n θ0 m0 w0 (F.E s') (F.M s') a w) ∨ ((∀ K Q,Exit.then K Q x a w = Q x a w) ∧ (F.out (F.fin s)).sat (Xg nt (n + F.k) n θ0 m0 w0) x a w) := by
  intro t
  induction t with
  | leaf e env mem =>
    intro i j p q h hp hq x a w hs
    obtain ⟨rfl,hL⟩ := hs
    cases e with
    | normal =>
      simp only [jJ] at h
      split at h
      · rename_i p' q' h1
        cases h
        exact .inl ⟨rfl,F.next s i,hp _ (by simp),hp _ (by simp),hp _ (by simp),JHH h1 (fun x hx => hp x (by simp [hx])) hq hL⟩
      · cases h
    | exit id =>
      simp only [jJ] at h
      split at h
      · rename_i p' q' h1
        cases h
        exact .inr ⟨fun _ _ => rfl,JBJ h1 hp hq hL⟩
      · cases h
    | ret =>
      simp only [jJ] at h
      split at h
      · rename_i p' q' h1
        cases h
        exact .inr ⟨fun _ _ => rfl,JBJ h1 hp hq hL⟩
      · cases h
  | ite c s1 s2 ih1 ih2 =>
    intro i j p q h hp hq x a w hs
    simp only [jJ] at h
    split at h
    · cases h
    rename_i p1 q1 j1 h1
    split at h
    · cases h
    rename_i p2 q2 j2 h2
    cases h
    cases c
    · exact ih2 h2 (X8 (p := false = false) rfl fun x hx => hp x (List.mem_append.2 (.inr hx))) (fun x hx => hq x (List.mem_append.2 (.inr hx))) (hs.2 rfl)
    · exact ih1 h1 (X8 (p := true = true) rfl fun x hx => hp x (List.mem_append.2 (.inl hx))) (fun x hx => hq x (List.mem_append.2 (.inl hx))) (hs.1 rfl)
def Z0 (F:Fam σ τ) (body:Q5) (n:Nat):Prop := ∀ s,F.J s → ∃ p q,XF F body n s = some (p,q) ∧ (∀ x ∈ p,x) ∧ ∀ x ∈ q,x.1 = x.2
theorem JML {nt n:Nat} {b:Code} {body:Q5} (hb:XY P nt b body) (hr:Z0 F body n) {θ0:Th} {m0:Je} {w0:World}:∀ (m:Nat) (s:σ),F.μ s < m → F.J s → ∀ a w,Xg nt (n + F.k) n θ0 m0 w0 (F.E s) (F.M s) a w →
    Code.rounds P b ((F.out (F.fin s)).sat (Xg nt (n + F.k) n θ0 m0 w0)) m a w
  | 0,_,h,_,_,_,_ => by omega
  | m + 1,s,hm,hJ,a,w,hL => by
    obtain ⟨p,q,h,hp,hq⟩ := hr s hJ
    unfold XF at h
    split at h
    · cases h
    rename_i x hx
    obtain ⟨t,qc,n1,hc⟩:∃ t qc n1,Zq x.t x.n = (t,qc,n1) := ⟨_,_,_,rfl⟩
    simp only [hc] at h
    split at h
    case h_2 => cases h
    rename_i p' q' j hl
    cases h
    obtain ⟨θ,R,pl,G⟩ := hL
    obtain ⟨hle,hbody⟩ := hb (F.E s) (F.M s) (n + F.k) x hx fun y hy => hq y (by simp [hy])
    have h2 := hbody (fun y hy => hp y (by simp [hy])) θ a w R pl
    rw [rounds_succ]
    refine wp_mono h2 fun ex a' w' hs => ?_
    have h3 := (Zf (nt := nt) (k := n + F.k) (θ0 := θ) (m0 := F.M s) (w0 := w) hc fun y hy => hq y (by simp [hy])).2 hs
    have h4 := Tree.sat_mono (L' := Xg nt n1 n θ0 m0 w0) (fun _ _ _ _ h => JLS G (Nat.le_add_right _ _) h) h3
    rcases JYF hl (fun y hy => hp y (by simp [hy])) (fun y hy => hq y (by simp [hy])) h4 with ⟨rfl,s',h5,h6,h7,h8⟩ | ⟨h5,h6⟩
    · have := JML hb hr m s' (by omega) h5 a' w' h8
      rw [h7] at this
      exact this
    · rw [h5]; exact h6
theorem XX {nt n0:Nat} {b:Code} {body:Q5} {init:Zm → Je → Option σ} (hb:XY P nt b body) (hr:Z0 F body n0):XY P nt (.loop b) (qS F n0 init) := by
  intro env mem n r h he
  unfold qS at h
  cases hn:Nat.beq n n0
  · rw [hn] at h; cases h
  rw [hn] at h
  have := Nat.eq_of_beq_eq_true hn; subst this
  simp only [cond_true] at h
  split at h
  · cases h
  rename_i s hs
  split at h
  · rename_i p q hm
    cases h
    refine ⟨Nat.le_add_right _ _,fun hne θ a w R pl => ?_⟩
    have hL:Xg nt n n θ mem w env mem a w := ⟨θ,R,pl,Grew.refl _ _ _ _⟩
    have hL' := JHH hm (fun x hx => hne x (List.mem_cons_of_mem _ hx)) he hL
    exact wp_loop_rounds (F.μ s + 1) (JML hb hr (F.μ s + 1) s (Nat.lt_succ_self _) (hne _ (List.mem_cons_self ..)) a w hL')
  · cases h
end loop
open Go.RowKit
structure Runs (g:JU) (vs:List SV) (mem:Je) (n:Nat) (v:SV) (m:Je):Prop where
  run:∃ r,g vs mem n = some r ∧ (∀ p ∈ r.needs,p) ∧ (∀ p ∈ r.eqs,p.1 = p.2) ∧ r.val = v ∧ r.mem = m
theorem Runs.of {g:JU} {vs:List SV} {mem:Je} {n:Nat} {v:SV} {m:Je} {ps:List Prop} (h1:(g vs mem n).map (fun r => (r.val,r.mem,r.needs)) = some (v,m,ps))
    (h2:(g vs mem n).map (fun r => r.eqs.map (·.1)) = (g vs mem n).map (fun r => r.eqs.map (·.2))) (h3:∀ p ∈ ps,p):Runs g vs mem n v m := by
  cases h:g vs mem n with
  | none => rw [h] at h1; cases h1
  | some r =>
    rw [h] at h1 h2
    simp only [Option.map_some,Option.some.injEq,Prod.mk.injEq] at h1 h2
    obtain ⟨rfl,rfl,rfl⟩ := h1
    refine ⟨r,h,h3,fun p hp => ?_,rfl,rfl⟩
    obtain ⟨i,hi⟩ := List.getElem?_of_mem hp
    have := congrArg (fun l:List EV => l[i]?) h2
    simp only [List.getElem?_map,hi,Option.map_some,Option.some.injEq] at this
    exact this
def JAA:Nat → Nat | 0 => 0 | n + 1 => n + 1
def Jdh:SI → SI | .c x => .c x | .v x => .v x
def Jeh:SB → SB | .c x => .c x | .v x => .v x
def JJT:SC → SC
  | .int k n => .int k (Jdh n)
  | .bool b => .bool (Jeh b)
  | .wh a => .wh (JAA a)
  | .ptr a o => .ptr (JAA a) (JAA o)
  | c => c
def JDL:List SC → List SC
  | [] => []
  | c :: r => JJT c :: JDL r
def JQY:List (Nat × SC) → List (Nat × SC)
  | [] => []
  | (t,c) :: r => (JAA t,JJT c) :: JQY r
def JDz:List (Bool × List SC) → List (Bool × List SC)
  | [] => []
  | (b,c) :: r => (b,JDL c) :: JDz r
def JY3:SV → SV
  | .one c => .one (JJT c)
  | .agg cs => .agg (JDL cs)
  | .tup vs => .tup (JDz vs)
def JXP:RowC → RowC
  | .lit t rows => .lit (JAA t) rows
  | .lst t ks xs => .lst (JAA t) ks xs
def JXp:Obj → Obj
  | .blk t cs => .blk t (JQY cs)
  | .row ro ty esz r => .row ro ty esz (JXP r)
  | o => o
def JOz:Je → Je
  | [] => []
  | (id,o) :: r => (JAA id,JXp o) :: JOz r
theorem JBP (x:Nat):JAA x = x := by cases x <;> rfl
theorem JbV (x:SI):Jdh x = x := by cases x <;> rfl
theorem JbU (x:SB):Jeh x = x := by cases x <;> rfl
theorem JGP (x:SC):JJT x = x := by cases x <;> simp only [JJT,JbV,JbU,JBP]
theorem JCs:∀ l:List SC,JDL l = l
  | [] => rfl
  | c :: r => by simp only [JDL,JGP,JCs r]
theorem JNq:∀ l:List (Nat × SC),JQY l = l
  | [] => rfl
  | (t,c) :: r => by simp only [JQY,JGP,JBP,JNq r]
theorem JHx:∀ l:List (Bool × List SC),JDz l = l
  | [] => rfl
  | (b,c) :: r => by simp only [JDz,JCs,JHx r]
theorem Ja9 (v:SV):JY3 v = v := by cases v <;> simp only [JY3,JGP,JCs,JHx]
theorem Jac (r:RowC):JXP r = r := by cases r <;> simp only [JXP,JBP]
theorem JaR (o:Obj):JXp o = o := by cases o <;> simp only [JXp,JNq,Jac]
theorem JOI:∀ m:Je,JOz m = m
  | [] => rfl
  | (id,o) :: r => by simp only [JOz,JaR,JBP,JOI r]
def Jh8:Option CRes → Bool × SV × Je × List Prop × List EV
  | some r => (true,JY3 r.val,JOz r.mem,r.needs,r.eqs.map (·.1))
  | none => (true,.agg [],[],[],[])
def Jh6 (v:SV) (m:Je) (ps:List Prop):Option CRes → Bool × SV × Je × List Prop × List EV
  | some r => (true,v,m,ps,r.eqs.map (·.2))
  | none => (false,.agg [],[],[],[])
theorem Runs.of1 {g:JU} {vs:List SV} {mem:Je} {n:Nat} {v:SV} {m:Je} {ps:List Prop} (h:Jh8 (g vs mem n) = Jh6 v m ps (g vs mem n)) (h3:∀ p ∈ ps,p):Runs g vs mem n v m := by
  cases hr:g vs mem n with
  | none => rw [hr] at h; simp [Jh8,Jh6] at h
  | some r =>
    rw [hr] at h
    simp only [Jh8,Jh6,Ja9,JOI,Prod.mk.injEq,true_and] at h
    obtain ⟨h1,h2,h4,h5⟩ := h
    exact Runs.of (ps := ps) (by rw [hr,Option.map_some,h1,h2,h4]) (by rw [hr,Option.map_some,Option.map_some,h5]) h3
theorem Runs.to {g:JU} {vs:List SV} {mem:Je} {n:Nat} {v v':SV} {m m':Je} (h:Runs g vs mem n v m) (hv:v = v') (hm:m = m'):Runs g vs mem n v' m' := by subst hv; subst hm; exact h
def Q3 (r:Option (List Prop × Y8)):Prop := ∃ p q,r = some (p,q) ∧ (∀ x ∈ p,x) ∧ ∀ x ∈ q,x.1 = x.2
theorem Q3.of {r:Option (List Prop × Y8)} {ps:List Prop} (h1:r.map (·.1) = some ps) (h2:r.map (fun x => x.2.map (·.1)) = r.map (fun x => x.2.map (·.2))) (h3:∀ p ∈ ps,p):Q3 r := by
  cases r with
  | none => cases h1
  | some x =>
    simp only [Option.map_some,Option.some.injEq] at h1 h2
    subst h1
    refine ⟨x.1,x.2,rfl,h3,fun p hp => ?_⟩
    obtain ⟨i,hi⟩ := List.getElem?_of_mem hp
    have := congrArg (fun l:List EV => l[i]?) h2
    simp only [List.getElem?_map,hi,Option.map_some,Option.some.injEq] at this
    exact this
section use
variable {P:Program}
theorem JWA {f:FuncId} {g:JU} (hg:Qf P f g) {vs:List SV} {mem m:Je} {n:Nat} {v:SV} (h:Runs g vs mem n v m) (hwf:QL n mem) (hi:∀ id ∈ Q2 vs,id < n) {θ:Th} {w:World} (hm:JT θ mem w) (hf:f < 1000000 := by decide) :
    Calls P f (vs.map (SV.den θ)).toArray w fun e w' => ∃ θ',e = .returned (v.den θ') ∧ Grew n θ mem w θ' m w' ∧ JT θ' m w' := by
  obtain ⟨r,h3,h4,h5,rfl,rfl⟩ := h.run
  exact (hg _ _ _ r h3 h4 h5 hwf hi θ w hm).2.1 hf
def QC (P:Program) (f:FuncId):List Code := match P.funcs[f]? with
  | some fn => (match fn.body with
    | some b => QW b
    | none => [])
  | none => []
def WP (P:Program) (f i:Nat):Code := ((QC P f)[i]?).getD .skip
def Jcg (P:Program) (f:FuncId):Nat := match P.funcs[f]? with
  | some fn => fn.ntmps
  | none => 0
def JYL (P:Program) (f:FuncId) (L:Nat → Option Q5):Cfg := match P.funcs[f]? with
  | some fn => (match fn.body with
    | some b => ⟨jn (XV b ++ z6 fn.results.toList),fn.ntmps,100,L⟩
    | none => ⟨0,fn.ntmps,100,L⟩)
  | none => ⟨0,0,100,L⟩
def QR (P:Program) (S:FuncId → Option JU) (L:FuncId → Nat → Option Q5) (f i:Nat):Q5 := XL P (JUC P S L 100 10) (JYL P f (L f)) (WP P f i)
theorem Xf:∀ {c b:Code},b ∈ QW c → ∀ d ∈ QW b,d ∈ QW c
  | .seq x y,b,h,d,hd => by
    simp only [QW,List.mem_append] at h ⊢
    exact h.imp (fun h => Xf h d hd) fun h => Xf h d hd
  | .cond _ x y,b,h,d,hd => by
    simp only [QW,List.mem_append] at h ⊢
    exact h.imp (fun h => Xf h d hd) fun h => Xf h d hd
  | .block _ x,b,h,d,hd => Xf (c := x) h d hd
  | .loop x,b,h,d,hd => by
    simp only [QW,List.mem_cons] at h ⊢
    rcases h with rfl | h
    · exact .inr hd
    · exact .inr (Xf h d hd)
  | .skip,_,h,_,_ => by cases h
  | .region ..,_,h,_,_ => by cases h
  | .exit _,_,h,_,_ => by cases h
  | .ret,_,h,_,_ => by cases h
  | .rangeFunc ..,_,h,_,_ => by cases h
  | .scope _,_,h,_,_ => by cases h
  | .label _,_,h,_,_ => by cases h
  | .goto _,_,h,_,_ => by cases h
  | .refuse _,_,h,_,_ => by cases h
theorem JIB {f:FuncId} {fn:Func} {b:Code} (hf:P.funcs[f]? = some fn) (hb:fn.body = some b):QC P f = QW b ∧ Jcg P f = fn.ntmps := by
  unfold QC Jcg
  simp only [hf,hb,and_self]
theorem Qg (hp:Qn P) {S:FuncId → Option JU} {L:FuncId → Nat → Option Q5} (hk:Known P S L) {f i:Nat} (hi:i < (QC P f).length):XY P (Jcg P f) (WP P f i) (QR P S L f i) := by
  unfold QR
  cases hf:P.funcs[f]? with
  | none => unfold QC at hi; rw [hf] at hi; simp at hi
  | some fn =>
    cases hb:fn.body with
    | none => unfold QC at hi; simp only [hf,hb] at hi; simp at hi
    | some b =>
      obtain ⟨h1,h2⟩ := JIB hf hb
      have hm:WP P f i ∈ QW b := by
        unfold WP
        rw [List.getElem?_eq_getElem hi,Option.getD_some,← h1]
        exact List.getElem_mem hi
      have hcfg:JYL P f (L f) = ⟨jn (XV b ++ z6 fn.results.toList),fn.ntmps,100,L f⟩ := by unfold JYL; simp only [hf,hb]
      have := XQ (cfg := JYL P f (L f)) hp (JJK hp hk 100 10) (WP P f i) (fun d hd k s h3 h4 => by
        rw [hcfg] at h4 ⊢
        exact hk.loops f fn b hf hb d (Xf hm d hd) k s h3 h4)
      rw [h2]
      rw [hcfg] at this ⊢
      exact this
theorem JSJ {f:FuncId} {L:Nat → Option Q5} (h:∀ i,i < (QC P f).length → ∀ k s,Wy (WP P f i) = some k → L k = some s → XY P (Jcg P f) (.loop (WP P f i)) s):JFV P f L := by
  intro fn b hf hb c hc k s h1 h2
  obtain ⟨h3,h4⟩ := JIB hf hb
  rw [← h3] at hc
  obtain ⟨i,hi⟩ := List.getElem?_of_mem hc
  have hlt:i < (QC P f).length := (List.getElem?_eq_some_iff.1 hi).1
  have he:WP P f i = c := by unfold WP; rw [hi]; rfl
  have := h i hlt k s (by rw [he]; exact h1) h2
  rw [he,h4] at this
  exact this
end use
open Go.RowKit
inductive Pm where
  | i (n:Int) | b (x:Bool)
inductive PC where
  | int (k:IntKind) | bool | ptr (id off:Nat) | wh (id:Nat) | nilp | nilsl | fn (f:FuncId) | clo (f:FuncId) (id:Nat)
inductive PV where
  | one (c:PC) | agg (cs:List PC)
inductive PO where
  | blk (ty:TypeId) (cells:List (Nat × PC))
  | row (ro:Bool) (ty:TypeId) (esz tag:Nat) (ks:List CK)
  | clo (vs:List PV)
structure Tpl where
  vs:List PV
  mem:List (Nat × PO)
  n:Nat
abbrev Qs := List (List (List Int))
def PC.fit:PC → SC → Option (List Pm)
  | .int k,.int j x => bif Kb k j then (match x with | .c n => some [.i n] | .v n => some [.i n]) else none
  | .bool,.bool x => (match x with | .c n => some [.b n] | .v n => some [.b n])
  | .ptr a o,.ptr b p => bif Nat.beq a b && Nat.beq o p then some [] else none
  | .wh a,.wh b => bif Nat.beq a b then some [] else none
  | .nilp,.nilp => some []
  | .nilsl,.nilsl => some []
  | .fn f,.fn g => bif Nat.beq f g then some [] else none
  | .clo f a,.clo g b => bif Nat.beq f g && Nat.beq a b then some [] else none
  | _,_ => none
def JYP:List PC → List SC → Option (List Pm)
  | [],[] => some []
  | c :: cs,x :: xs => match c.fit x,JYP cs xs with
    | some p,some q => some (p ++ q)
    | _,_ => none
  | _,_ => none
def PV.fit:PV → SV → Option (List Pm)
  | .one c,.one x => c.fit x
  | .agg cs,.agg xs => JYP cs xs
  | _,_ => none
def JUv:List PV → List SV → Option (List Pm)
  | [],[] => some []
  | c :: cs,x :: xs => match c.fit x,JUv cs xs with
    | some p,some q => some (p ++ q)
    | _,_ => none
  | _,_ => none
def Jfe:List (Nat × PC) → List (Nat × SC) → Option (List Pm)
  | [],[] => some []
  | (t,c) :: cs,(u,x) :: xs => bif Nat.beq t u then (match c.fit x,Jfe cs xs with
    | some p,some q => some (p ++ q)
    | _,_ => none) else none
  | _,_ => none
def PO.fit:PO → Obj → Option (List Pm × Qs)
  | .blk t cs,.blk u xs => bif Nat.beq t u then (Jfe cs xs).map fun p => (p,[]) else none
  | .row ro ty esz tag ks,.row ro' ty' esz' r => bif (ro == ro') && (Nat.beq ty ty' && Nat.beq esz esz') then (match r with
    | .lst tag' js xs => bif Nat.beq tag tag' && K6 ks js then some ([],[xs]) else none
    | .lit tag' rows => bif Nat.beq tag tag' then (YC ks rows).map fun xs => ([],[xs]) else none) else none
  | .clo cs,.clo xs => (JUv cs xs).map fun p => (p,[])
  | _,_ => none
def JOv:List (Nat × PO) → Je → Option (List Pm × Qs)
  | [],[] => some ([],[])
  | (id,c) :: cs,(id',x) :: xs => bif Nat.beq id id' then (match c.fit x,JOv cs xs with
    | some (p,l),some (q,m) => some (p ++ q,l ++ m)
    | _,_ => none) else none
  | _,_ => none
def PC.mk:PC → List Pm → SC × List Pm
  | .int k,.i n :: r => (.int k (.v n),r)
  | .bool,.b x :: r => (.bool (.v x),r)
  | .int _,r => (.nilp,r)
  | .bool,r => (.nilp,r)
  | .ptr a o,r => (.ptr a o,r)
  | .wh a,r => (.wh a,r)
  | .nilp,r => (.nilp,r)
  | .nilsl,r => (.nilsl,r)
  | .fn f,r => (.fn f,r)
  | .clo f a,r => (.clo f a,r)
def JMR:List PC → List Pm → List SC × List Pm
  | [],r => ([],r)
  | c :: cs,r => ((c.mk r).1 :: (JMR cs (c.mk r).2).1,(JMR cs (c.mk r).2).2)
def PV.mk:PV → List Pm → SV × List Pm
  | .one c,r => (.one (c.mk r).1,(c.mk r).2)
  | .agg cs,r => (.agg (JMR cs r).1,(JMR cs r).2)
def JG3:List PV → List Pm → List SV × List Pm
  | [],r => ([],r)
  | c :: cs,r => ((c.mk r).1 :: (JG3 cs (c.mk r).2).1,(JG3 cs (c.mk r).2).2)
def mkT:List (Nat × PC) → List Pm → List (Nat × SC) × List Pm
  | [],r => ([],r)
  | (t,c) :: cs,r => ((t,(c.mk r).1) :: (mkT cs (c.mk r).2).1,(mkT cs (c.mk r).2).2)
def PO.mk:PO → List Pm → Qs → Obj × List Pm × Qs
  | .blk t cs,r,l => (.blk t (mkT cs r).1,(mkT cs r).2,l)
  | .row ro ty esz tag ks,r,xs :: l => (.row ro ty esz (.lst tag ks xs),r,l)
  | .row ..,r,[] => (.blk 0 [],r,[])
  | .clo cs,r,l => (.clo (JG3 cs r).1,(JG3 cs r).2,l)
def JMI:List (Nat × PO) → List Pm → Qs → Je
  | [],_,_ => []
  | (id,c) :: cs,r,l => (id,(c.mk r l).1) :: JMI cs (c.mk r l).2.1 (c.mk r l).2.2
def Tpl.args (t:Tpl) (ps:List Pm):List SV := (JG3 t.vs ps).1
def Tpl.memo (t:Tpl) (ps:List Pm) (ls:Qs):Je := JMI t.mem (JG3 t.vs ps).2 ls
def JP (t:Tpl) (out:List Pm → Qs → Option CRes):JU := fun vs mem n =>
  bif Nat.beq n t.n then (match JUv t.vs vs,JOv t.mem mem with
    | some ps,some (qs,ls) => out (ps ++ qs) ls
    | _,_ => none) else none
theorem PC.fit_spec {c:PC} {x:SC} {ps:List Pm} (h:c.fit x = some ps) (rest:List Pm):∃ y,c.mk (ps ++ rest) = (y,rest) ∧ (∀ θ,y.den θ = x.den θ) ∧ KT y = KT x := by
  unfold PC.fit at h
  split at h
  · rename_i k j x
    cases hk:Kb k j
    · rw [hk] at h; cases h
    · rw [hk] at h
      have := Xi hk; subst this
      cases x <;> cases h <;> exact ⟨_,rfl,fun _ => rfl,rfl⟩
  · rename_i x
    cases x <;> cases h <;> exact ⟨_,rfl,fun _ => rfl,rfl⟩
  · rename_i a o b p
    cases hk:(Nat.beq a b && Nat.beq o p)
    · rw [hk] at h; cases h
    · rw [hk] at h
      simp only [Bool.and_eq_true] at hk
      have e1 := Nat.eq_of_beq_eq_true hk.1
      have e2 := Nat.eq_of_beq_eq_true hk.2
      subst e1; subst e2; cases h
      exact ⟨_,rfl,fun _ => rfl,rfl⟩
  · rename_i a b
    cases hk:Nat.beq a b
    · rw [hk] at h; cases h
    · rw [hk] at h
      have e1 := Nat.eq_of_beq_eq_true hk
      subst e1; cases h
      exact ⟨_,rfl,fun _ => rfl,rfl⟩
  · cases h; exact ⟨_,rfl,fun _ => rfl,rfl⟩
  · cases h; exact ⟨_,rfl,fun _ => rfl,rfl⟩
  · rename_i a b
    cases hk:Nat.beq a b
    · rw [hk] at h; cases h
    · rw [hk] at h
      have e1 := Nat.eq_of_beq_eq_true hk
      subst e1; cases h
      exact ⟨_,rfl,fun _ => rfl,rfl⟩
  · rename_i a o b p
    cases hk:(Nat.beq a b && Nat.beq o p)
    · rw [hk] at h; cases h
    · rw [hk] at h
      simp only [Bool.and_eq_true] at hk
      have e1 := Nat.eq_of_beq_eq_true hk.1
      have e2 := Nat.eq_of_beq_eq_true hk.2
      subst e1; subst e2; cases h
      exact ⟨_,rfl,fun _ => rfl,rfl⟩
  · cases h
theorem JK4:∀ {cs:List PC} {xs:List SC} {ps:List Pm},JYP cs xs = some ps → ∀ rest,∃ ys,JMR cs (ps ++ rest) = (ys,rest) ∧ (∀ θ,JH θ ys = JH θ xs) ∧ QD ys = QD xs
  | [],[],_,h,_ => by cases h; exact ⟨[],rfl,fun _ => rfl,rfl⟩
  | [],_ :: _,_,h,_ => by cases h
  | _ :: _,[],_,h,_ => by cases h
  | c :: cs,x :: xs,ps,h,rest => by
    simp only [JYP] at h
    split at h
    · rename_i p q h1 h2
      cases h
      obtain ⟨y,e1,e2,e3⟩ := PC.fit_spec h1 (q ++ rest)
      obtain ⟨ys,f1,f2,f3⟩ := JK4 h2 rest
      refine ⟨y :: ys,by simp only [JMR,List.append_assoc,e1,f1],fun θ => ?_,by rw [Jf,Jf,e3,f3]⟩
      have := f2 θ
      simp only [JH,List.map_cons,e2 θ] at this ⊢
      rw [this]
    · cases h
theorem PV.fit_spec {c:PV} {x:SV} {ps:List Pm} (h:c.fit x = some ps) (rest:List Pm):∃ y,c.mk (ps ++ rest) = (y,rest) ∧ (∀ θ,y.den θ = x.den θ) ∧ Qp y = Qp x := by
  unfold PV.fit at h
  split at h
  · obtain ⟨y,e1,e2,e3⟩ := PC.fit_spec h rest
    exact ⟨.one y,by simp only [PV.mk,e1],e2,e3⟩
  · obtain ⟨y,e1,e2,e3⟩ := JK4 h rest
    exact ⟨.agg y,by simp only [PV.mk,e1],fun θ => by simp only [SV.den,e2 θ],e3⟩
  · cases h
theorem JCe:∀ {cs:List PV} {xs:List SV} {ps:List Pm},JUv cs xs = some ps → ∀ rest,∃ ys,JG3 cs (ps ++ rest) = (ys,rest) ∧ (∀ θ,ys.map (SV.den θ) = xs.map (SV.den θ)) ∧ Q2 ys = Q2 xs
  | [],[],_,h,_ => by cases h; exact ⟨[],rfl,fun _ => rfl,rfl⟩
  | [],_ :: _,_,h,_ => by cases h
  | _ :: _,[],_,h,_ => by cases h
  | c :: cs,x :: xs,ps,h,rest => by
    simp only [JUv] at h
    split at h
    · rename_i p q h1 h2
      cases h
      obtain ⟨y,e1,e2,e3⟩ := PV.fit_spec h1 (q ++ rest)
      obtain ⟨ys,f1,f2,f3⟩ := JCe h2 rest
      exact ⟨y :: ys,by simp only [JG3,List.append_assoc,e1,f1],fun θ => by simp only [List.map_cons,e2 θ,f2 θ],by simp only [Q2,e3,f3]⟩
    · cases h
theorem JMq:∀ {cs:List (Nat × PC)} {xs:List (Nat × SC)} {ps:List Pm},Jfe cs xs = some ps → ∀ rest,∃ ys,mkT cs (ps ++ rest) = (ys,rest) ∧ (∀ θ,JH θ (Jx ys) = JH θ (Jx xs)) ∧ QD (Jx ys) = QD (Jx xs)
  | [],[],_,h,_ => by cases h; exact ⟨[],rfl,fun _ => rfl,rfl⟩
  | [],_ :: _,_,h,_ => by cases h
  | _ :: _,[],_,h,_ => by cases h
  | (t,c) :: cs,(u,x) :: xs,ps,h,rest => by
    simp only [Jfe] at h
    cases hk:Nat.beq t u
    · rw [hk] at h; cases h
    rw [hk] at h
    simp only [cond_true] at h
    split at h
    · rename_i p q h1 h2
      cases h
      obtain ⟨y,e1,e2,e3⟩ := PC.fit_spec h1 (q ++ rest)
      obtain ⟨ys,f1,f2,f3⟩ := JMq h2 rest
      refine ⟨(t,y) :: ys,by simp only [mkT,List.append_assoc,e1,f1],fun θ => ?_,by rw [Jm,Jm,Jf,Jf,e3,f3]⟩
      have := f2 θ
      simp only [Jm,JH,List.map_cons,e2 θ] at this ⊢
      rw [this]
    · cases h
theorem PO.fit_spec {c:PO} {x:Obj} {ps:List Pm} {ls:Qs} (h:c.fit x = some (ps,ls)) (rest:List Pm) (more:Qs):∃ y,c.mk (ps ++ rest) (ls ++ more) = (y,rest,more) ∧ (∀ θ w id,Jn θ w id x → Jn θ w id y) ∧ Zb y = Zb x := by
  unfold PO.fit at h
  split at h
  · rename_i t cs u xs
    cases hk:Nat.beq t u
    · rw [hk] at h; cases h
    rw [hk] at h
    have := Nat.eq_of_beq_eq_true hk; subst this
    simp only [cond_true,Option.map_eq_some_iff,Prod.mk.injEq] at h
    obtain ⟨p,h1,rfl,rfl⟩ := h
    obtain ⟨y,e1,e2,e3⟩ := JMq h1 rest
    refine ⟨.blk t y,by simp only [PO.mk,e1,List.nil_append],fun θ w id ⟨b,q1,q2⟩ => ⟨b,q1,by rw [q2,e2 θ]⟩,e3⟩
  · rename_i ro ty esz tag ks ro' ty' esz' r
    cases hk:((ro == ro') && (Nat.beq ty ty' && Nat.beq esz esz'))
    · rw [hk] at h; cases h
    rw [hk] at h
    simp only [Bool.and_eq_true] at hk
    have e1 := eq_of_beq hk.1
    have e2 := Nat.eq_of_beq_eq_true hk.2.1
    have e3 := Nat.eq_of_beq_eq_true hk.2.2
    subst e1; subst e2; subst e3
    simp only [cond_true] at h
    split at h
    · rename_i tag' js xs
      cases hk:(Nat.beq tag tag' && K6 ks js)
      · rw [hk] at h; cases h
      rw [hk] at h
      simp only [Bool.and_eq_true] at hk
      have := Zc hk.2; subst this
      cases h
      exact ⟨_,rfl,fun θ w id h => by cases ro <;> exact h,rfl⟩
    · rename_i tag' rows
      cases hk:Nat.beq tag tag'
      · rw [hk] at h; cases h
      rw [hk] at h
      simp only [cond_true,Option.map_eq_some_iff,Prod.mk.injEq] at h
      obtain ⟨xs,h1,rfl,rfl⟩ := h
      refine ⟨_,rfl,fun θ w id h => ?_,rfl⟩
      have hrow:QM esz rows := by cases ro <;> exact h.1
      obtain ⟨q1,q2,q3⟩ := Xl h1 fun r hr => (hrow.2 r hr).1
      have hl:(RowC.lst tag ks xs).rows.length = (RowC.lit tag' rows).rows.length := by simp [RowC.rows,q1]
      have hf:JH θ (RowC.lst tag ks xs).rows.flatten = JH θ (RowC.lit tag' rows).rows.flatten := by rw [ZU,ZU]; exact congrArg _ (q3 θ)
      cases ro
      · exact ⟨⟨hrow.1,q2⟩,by rw [hl,hf]; exact h.2⟩
      · exact ⟨⟨hrow.1,q2⟩,by rw [hl,hf]; exact h.2⟩
  · rename_i cs xs
    simp only [Option.map_eq_some_iff,Prod.mk.injEq] at h
    obtain ⟨p,h1,rfl,rfl⟩ := h
    obtain ⟨y,e1,e2,e3⟩ := JCe h1 rest
    refine ⟨.clo y,by simp only [PO.mk,e1,List.nil_append],fun θ w id hx => ?_,e3⟩
    have hx':θ id = Loc.clo (xs.map (SV.den θ)).toArray := hx
    show θ id = Loc.clo (y.map (SV.den θ)).toArray
    rw [e2 θ]
    exact hx'
  · cases h
theorem JHz:∀ {cs:List (Nat × PO)} {xs:Je} {ps:List Pm} {ls:Qs},JOv cs xs = some (ps,ls) → ∀ rest more id o,J6 (JMI cs (ps ++ rest) (ls ++ more)) id = some o →
    ∃ o',J6 xs id = some o' ∧ (∀ θ w,Jn θ w id o' → Jn θ w id o) ∧ Zb o = Zb o'
  | [],[],_,_,h,_,_,_,_,ho => by cases h; cases ho
  | [],_ :: _,_,_,h,_,_,_,_,_ => by cases h
  | _ :: _,[],_,_,h,_,_,_,_,_ => by cases h
  | (i,c) :: cs,(u,x) :: xs,ps,ls,h,rest,more,id,o,ho => by
    simp only [JOv] at h
    cases hk:Nat.beq i u
    · rw [hk] at h; cases h
    rw [hk] at h
    have := Nat.eq_of_beq_eq_true hk; subst this
    simp only [cond_true] at h
    split at h
    · rename_i p l q m h1 h2
      cases h
      obtain ⟨y,e1,e2,e3⟩ := PO.fit_spec h1 (q ++ rest) (m ++ more)
      simp only [JMI,List.append_assoc,e1,JM] at ho
      simp only [JM]
      cases hi:Nat.beq i id
      · rw [hi] at ho
        exact JHz h2 rest more id o ho
      · rw [hi] at ho
        cases ho
        exact ⟨x,rfl,fun θ w hx => e2 θ w id hx,e3⟩
    · cases h
theorem JI {P:Program} {f:FuncId} {g:JU} (hg:Qf P f g) {t:Tpl} {out:List Pm → Qs → Option CRes}
    (h:∀ ps ls r,out ps ls = some r → (∀ p ∈ r.needs,p) → (∀ p ∈ r.eqs,p.1 = p.2) → ∃ v,Runs g (t.args ps) (t.memo ps ls) t.n v r.mem ∧ ∀ θ,v.den θ = r.val.den θ):Qf P f (JP t out) := by
  intro vs mem n r hr hn he hwf hids θ w hm
  unfold JP at hr
  cases hk:Nat.beq n t.n
  · rw [hk] at hr; cases hr
  rw [hk] at hr
  have := Nat.eq_of_beq_eq_true hk; subst this
  simp only [cond_true] at hr
  split at hr
  · rename_i ps qs ls h1 h2
    obtain ⟨v,hrun,hv⟩ := h _ _ _ hr hn he
    obtain ⟨ys,e1,e2,e3⟩ := JCe h1 qs
    have hM := JHz h2 [] []
    simp only [List.append_nil] at hM
    have ea:t.args (ps ++ qs) = ys := by unfold Tpl.args; rw [e1]
    have em:t.memo (ps ++ qs) ls = JMI t.mem qs ls := by unfold Tpl.memo; rw [e1]
    rw [ea,em] at hrun
    obtain ⟨r',h3,h4,h5,h6,h7⟩ := hrun.run
    have hwf':QL t.n (JMI t.mem qs ls) := fun id o ho => by
      obtain ⟨o',q1,_,q3⟩ := hM id o ho
      rw [q3]; exact hwf id o' q1
    have hm':JT θ (JMI t.mem qs ls) w := by
      refine ⟨fun id o ho => ?_,fun id id' o o' b ho ho' hne => ?_⟩
      · obtain ⟨o',q1,q2,_⟩ := hM id o ho
        exact q2 θ w (hm.1 id o' q1)
      · obtain ⟨p,q1,_,_⟩ := hM id o ho
        obtain ⟨p',q1',_,_⟩ := hM id' o' ho'
        exact hm.2 id id' p p' b q1 q1' hne
    have := hg _ _ _ r' h3 h4 h5 hwf' (by rw [e3]; exact hids) θ w hm'
    rw [e2 θ] at this
    refine ⟨this.1,this.2.mono fun e w' ⟨θ',q1,q2,q3⟩ => ⟨θ',by rw [q1,h6,hv],?_,by rw [← h7]; exact q3⟩⟩
    rw [h7] at q2
    refine { q2 with heap := fun b hb hno => q2.heap b hb fun id o ho => ?_,blks := fun id o b hl hb => ?_,eyes := fun id o b hl hb => ?_ }
    · obtain ⟨o',p1,_,_⟩ := hM id o ho
      exact hno id o' p1
    · rcases q2.blks id o b hl hb with h8 | ⟨i,x,h8,h9⟩
      · exact .inl h8
      · obtain ⟨o',p1,_,_⟩ := hM i x h8
        exact .inr ⟨i,o',p1,h9⟩
    · rcases q2.eyes id o b hl hb with h8 | ⟨i,x,h8,h9⟩
      · exact .inl h8
      · obtain ⟨o',p1,_,_⟩ := hM i x h8
        exact .inr ⟨i,o',p1,h9⟩
  · cases hr
open Go.RowKit
def k7:List (Nat × Nat × Nat × Nat) → Nat → Je → Nat → Je × Nat
  | [],_,m,n => (m,n)
  | (ty,j,e,k) :: r,b,m,n => match J6 m b with
    | some (.blk ty' cs) => bif Nat.beq ty ty' && Nat.blt 0 k then (match cs.drop j with
        | (_,.nilsl) :: _ => (match JE9 m b j n e k with
          | some m' => k7 r b m' (n + 3)
          | none => k7 r b m n)
        | _ => k7 r b m n) else k7 r b m n
    | _ => (m,n)
def zC (sl:List (Nat × Nat × Nat × Nat)):List Nat → Je → Nat → Je × Nat
  | [],m,n => (m,n)
  | b :: r,m,n => match k7 sl b m n with
    | (m',n') => zC sl r m' n'
def wfB (n:Nat):Je → Bool
  | [] => true
  | (id,o) :: r => Nat.blt id n && (Xq n (Zb o) && wfB n r)
def JVL (sl:List (Nat × Nat × Nat × Nat)) (g:JU):JU := fun vs mem n => match g vs mem n with
  | none => none
  | some r => bif (Xq r.nx (Qp r.val) && wfB r.nx r.mem) && Nat.ble n r.nx then (match zC sl (domain r.mem) r.mem r.nx with
      | (m,k) => some ⟨r.val,m,r.needs,r.eqs,k⟩) else some r
theorem JRx {n:Nat}:∀ {m:Je},wfB n m = true → QL n m
  | [],_,id,o,h => by cases h
  | (a,x) :: r,h,id,o,hl => by
    simp only [wfB,Bool.and_eq_true] at h
    simp only [JM] at hl
    cases hq:Nat.beq a id
    · rw [hq] at hl; exact JRx h.2.2 id o hl
    · rw [hq] at hl; cases hl
      have := Nat.eq_of_beq_eq_true hq
      subst this
      exact ⟨Nat.le_of_ble_eq_true h.1,Zx h.2.1⟩
theorem XE.trans {n m k:Nat} {a b c:Je} (hnm:n ≤ m) (h1:XE n m a b) (h2:XE m k b c):XE n k a c := fun θ w kk θ0 m0 w0 g hm hw hk => by
  obtain ⟨θ1,a1,g1,hm1,hw1⟩ := h1 θ w kk θ0 m0 w0 g hm hw hk
  obtain ⟨θ2,a2,g2,hm2,hw2⟩ := h2 θ1 w kk θ0 m0 w0 g1 hm1 hw1 (by omega)
  exact ⟨θ2,a1.trans a2 hnm,g2,hm2,hw2⟩
theorem qv:∀ {sl:List (Nat × Nat × Nat × Nat)} {b:Nat} {m m':Je} {n n':Nat},k7 sl b m n = (m',n') → n ≤ n' ∧ XE n n' m m'
  | [],b,m,m',n,n',h => by
    simp only [k7,Prod.mk.injEq] at h
    obtain ⟨rfl,rfl⟩ := h
    exact ⟨Nat.le_refl _,XE.refl _ _⟩
  | (ty,j,e,k) :: r,b,m,m',n,n',h => by
    simp only [k7] at h
    split at h
    · cases hc:(Nat.beq ty _ && Nat.blt 0 k)
      · rw [hc] at h; exact qv h
      · rw [hc] at h
        simp only [Bool.and_eq_true] at hc
        have hpos:0 < k := Nat.le_of_ble_eq_true hc.2
        simp only [cond_true] at h
        split at h
        · split at h
          · rename_i x hx
            obtain ⟨h1,h2⟩ := qv h
            refine ⟨by omega,fun θ w kk θ0 m0 w0 g hm hw hk => ?_⟩
            obtain ⟨l,g1,hm1,hw1⟩ := JHv hx hpos g hm hw (Nat.le_refl _) hk
            obtain ⟨θ2,a2,g2,hm2,hw2⟩ := h2 _ _ _ _ _ _ g1 hm1 (hw1.mono (by omega)) (by omega)
            exact ⟨θ2,(Th.set_agree θ n l).trans a2 (by omega),g2,hm2,hw2⟩
          · exact qv h
        · exact qv h
    · simp only [Prod.mk.injEq] at h
      obtain ⟨rfl,rfl⟩ := h
      exact ⟨Nat.le_refl _,XE.refl _ _⟩
theorem JHm {sl:List (Nat × Nat × Nat × Nat)}:∀ {l:List Nat} {m m':Je} {n n':Nat},zC sl l m n = (m',n') → n ≤ n' ∧ XE n n' m m'
  | [],m,m',n,n',h => by
    simp only [zC,Prod.mk.injEq] at h
    obtain ⟨rfl,rfl⟩ := h
    exact ⟨Nat.le_refl _,XE.refl _ _⟩
  | b :: r,m,m',n,n',h => by
    obtain ⟨m1,n1,h1⟩:∃ x y,k7 sl b m n = (x,y) := ⟨_,_,rfl⟩
    simp only [zC,h1] at h
    obtain ⟨a1,a2⟩ := qv h1
    obtain ⟨b1,b2⟩ := JHm h
    exact ⟨by omega,a2.trans a1 b2⟩
theorem JbD {P:Program} {f:FuncId} {g:JU} (sl:List (Nat × Nat × Nat × Nat)) (hg:Qf P f g):Qf P f (JVL sl g) := by
  intro vs mem n r hr hn he hwf hids θ w hm
  unfold JVL at hr
  split at hr
  · cases hr
  rename_i q hq
  cases hc:((Xq q.nx (Qp q.val) && wfB q.nx q.mem) && Nat.ble n q.nx)
  · rw [hc] at hr; cases hr
    exact hg vs mem n _ hq hn he hwf hids θ w hm
  rw [hc] at hr
  simp only [Bool.and_eq_true] at hc
  obtain ⟨m1,n1,h1⟩:∃ x y,zC sl (domain q.mem) q.mem q.nx = (x,y) := ⟨_,_,rfl⟩
  simp only [cond_true,h1,Option.some.injEq] at hr
  subst hr
  obtain ⟨_,hl⟩ := JHm h1
  obtain ⟨c1,c2⟩ := hg vs mem n _ hq hn he hwf hids θ w hm
  refine ⟨c1,c2.mono fun e w' h => ?_⟩
  obtain ⟨θ',e1,g1,hm1⟩ := h
  obtain ⟨θ2,a2,g2,hm2,_⟩ := hl θ' w' n θ mem w g1 hm1 (JRx hc.1.2) (Nat.le_of_ble_eq_true hc.2)
  exact ⟨θ2,by rw [e1,SV.den_agree a2 (Zx hc.1.1)],g2,hm2⟩
open Go.RowKit
inductive GK where
  | i | b | v (ks:List Bool)
inductive GC where
  | i (n:Int) | b (x:Bool)
def GC.int:GC → Int
  | .i n => n
  | .b _ => 0
def GC.bit:GC → Bool
  | .b x => x
  | .i _ => false
def xi (l:List GC) (j:Nat):Int := (l.getD j (.i 0)).int
def xb (l:List GC) (j:Nat):Bool := (l.getD j (.i 0)).bit
inductive Gm where
  | i (n:Int) | b (x:Bool) | v (l:List GC)
def JKc:List Bool → List Pm → Option (List GC × List Pm)
  | [],r => some ([],r)
  | false :: ks,.i n :: r => match JKc ks r with
    | some (l,q) => some (.i n :: l,q)
    | none => none
  | true :: ks,.b x :: r => match JKc ks r with
    | some (l,q) => some (.b x :: l,q)
    | none => none
  | _,_ => none
def kP:List GK → List Pm → Option (List Gm)
  | [],[] => some []
  | .i :: g,.i n :: r => match kP g r with
    | some l => some (.i n :: l)
    | none => none
  | .b :: g,.b x :: r => match kP g r with
    | some l => some (.b x :: l)
    | none => none
  | .v ks :: g,r => match JKc ks r with
    | some (l,q) => (match kP g q with
      | some m => some (.v l :: m)
      | none => none)
    | none => none
  | _,_ => none
def JBI:List Bool → List GC → Nat → List Pm → List Pm
  | [],_,_,r => r
  | false :: ks,l,j,r => .i (xi l j) :: JBI ks l (j + 1) r
  | true :: ks,l,j,r => .b (xb l j) :: JBI ks l (j + 1) r
def Jp:List GK → List Gm → List Pm
  | .i :: g,.i n :: r => .i n :: Jp g r
  | .b :: g,.b x :: r => .b x :: Jp g r
  | .v ks :: g,.v l :: r => JBI ks l 0 (Jp g r)
  | _,_ => []
theorem JRu (pre l:List GC) (x d:GC):(pre ++ x :: l).getD pre.length d = x := by
  simp [List.getD]
theorem JhF (pre l:List GC) (n:Int):xi (pre ++ .i n :: l) pre.length = n := by
  rw [xi,JRu]; rfl
theorem JhK (pre l:List GC) (x:Bool):xb (pre ++ .b x :: l) pre.length = x := by
  rw [xb,JRu]; rfl
theorem JCr:∀ {ks:List Bool} {r q:List Pm} {l:List GC},JKc ks r = some (l,q) → ∀ pre,JBI ks (pre ++ l) pre.length q = r
  | [],r,q,l,h,pre => by cases h; rfl
  | false :: ks,[],q,l,h,pre => by cases h
  | true :: ks,[],q,l,h,pre => by cases h
  | false :: ks,.b x :: r,q,l,h,pre => by cases h
  | true :: ks,.i n :: r,q,l,h,pre => by cases h
  | false :: ks,.i n :: r,q,l,h,pre => by
    simp only [JKc] at h
    split at h
    · rename_i l' q' h'
      cases h
      have := JCr h' (pre ++ [.i n])
      simp only [List.append_assoc,List.singleton_append,List.length_append,List.length_singleton] at this
      simp only [JBI,JhF,this]
    · cases h
  | true :: ks,.b x :: r,q,l,h,pre => by
    simp only [JKc] at h
    split at h
    · rename_i l' q' h'
      cases h
      have := JCr h' (pre ++ [.b x])
      simp only [List.append_assoc,List.singleton_append,List.length_append,List.length_singleton] at this
      simp only [JBI,JhK,this]
    · cases h
theorem W9:∀ {g:List GK} {ps:List Pm} {gs:List Gm},kP g ps = some gs → Jp g gs = ps
  | [],[],gs,h => by cases h; rfl
  | [],_ :: _,gs,h => by cases h
  | .i :: g,[],gs,h => by cases h
  | .b :: g,[],gs,h => by cases h
  | .i :: g,.b x :: r,gs,h => by cases h
  | .b :: g,.i n :: r,gs,h => by cases h
  | .i :: g,.i n :: r,gs,h => by
    simp only [kP] at h
    split at h
    · rename_i l h'
      cases h
      simp only [Jp,W9 h']
    · cases h
  | .b :: g,.b x :: r,gs,h => by
    simp only [kP] at h
    split at h
    · rename_i l h'
      cases h
      simp only [Jp,W9 h']
    · cases h
  | .v ks :: g,r,gs,h => by
    have e:kP (.v ks :: g) r = match JKc ks r with
      | some (l,q) => (match kP g q with
        | some m => some (.v l :: m)
        | none => none)
      | none => none := by cases r <;> rfl
    rw [e] at h
    split at h
    · rename_i l q h1
      split at h
      · rename_i m h2
        cases h
        simp only [Jp,W9 h2]
        exact JCr h1 []
      · cases h
    · cases h
def X5 (g:List GK) (t:Tpl) (out:List Gm → Qs → Option CRes):JU := JP t fun ps ls => match kP g ps with
  | some gs => out gs ls
  | none => none
theorem ZN {P:Program} {f:FuncId} {s:JU} (hg:Qf P f s) {g:List GK} {t:Tpl} {out:List Gm → Qs → Option CRes}
    (h:∀ gs ls r,out gs ls = some r → (∀ p ∈ r.needs,p) → (∀ p ∈ r.eqs,p.1 = p.2) → ∃ v,Runs s (t.args (Jp g gs)) (t.memo (Jp g gs) ls) t.n v r.mem ∧ ∀ θ,v.den θ = r.val.den θ):Qf P f (X5 g t out) := by
  refine JI hg fun ps ls r hr hn he => ?_
  split at hr
  · rename_i gs hgs
    have := h gs ls r hr hn he
    rw [W9 hgs] at this
    exact this
  · cases hr
section
variable (r:List Int) (l:List GC)
def J1:List GC:= [.i (xi l 0),.i (xi l 1),.i (xi l 2),.i (xi l 3),.i (xi l 4),.i (xi l 5),.i (xi l 6),.i (xi l 7),.i (xi l 8),.i (xi l 9),.i (xi l 10),.i (xi l 11),.i (xi l 12),.b (xb l 13),.i (xi l 14),.b (xb l 15),.i (xi l 16),.i (xi l 17),.i (xi l 18),.i (xi l 19),.i (xi l 20),.b (xb l 21)]
def JC:List GC:= [.i (r.getD 0 0),.i (r.getD 1 0),.i (r.getD 2 0),.i (r.getD 3 0),.i (r.getD 4 0),.i (r.getD 5 0),.i (r.getD 6 0),.i (r.getD 7 0),.i (r.getD 8 0),.i (r.getD 9 0),.i (r.getD 10 0),.i (r.getD 11 0),.i (r.getD 12 0),.b (r.getD 13 0 != 0),.i (r.getD 14 0),.b (r.getD 15 0 != 0),.i (r.getD 16 0),.i (r.getD 17 0),.i (r.getD 18 0),.i (r.getD 19 0),.i (r.getD 20 0),.b (r.getD 21 0 != 0)]
def jI:List Int:= [xi l 0,xi l 1,xi l 2,xi l 3,xi l 4,xi l 5,xi l 6,xi l 7,xi l 8,xi l 9,xi l 10,xi l 11,xi l 12,(bif xb l 13 then 1 else 0),xi l 14,(bif xb l 15 then 1 else 0),xi l 16,xi l 17,xi l 18,xi l 19,xi l 20,(bif xb l 21 then 1 else 0)]
def JgQ:List Int:= [r.getD 0 0,r.getD 1 0,r.getD 2 0,r.getD 3 0,r.getD 4 0,r.getD 5 0,r.getD 6 0,r.getD 7 0,r.getD 8 0,r.getD 9 0,r.getD 10 0,r.getD 11 0,r.getD 12 0,(bif (r.getD 13 0 != 0) then 1 else 0),r.getD 14 0,(bif (r.getD 15 0 != 0) then 1 else 0),r.getD 16 0,r.getD 17 0,r.getD 18 0,r.getD 19 0,r.getD 20 0,(bif (r.getD 21 0 != 0) then 1 else 0)]
end
end
end Go.SX
namespace Go.Proofs.YtmbfbhimdkjkoaaGreat
noncomputable section
open Go.SX Go.RowKit
abbrev LL:=List (List Int)
theorem awc {a:Prop} {l:List Prop}:(∀ q ∈ a :: l,q) ↔ a ∧ ∀ q ∈ l,q := List.forall_mem_cons
theorem awn:(∀ q ∈ ([]:List Prop),q) ↔ True := ⟨fun _ => trivial,fun _ _ h => (by cases h)⟩
def Ci (x:Int):SC := .int .i64 (.v x)
def Cb (x:Bool):SC := .bool (.v x)
def ckI:List CK := [.int .i64,.int .i64,.int .i64,.int .i64,.int .i64,.int .i64,.int .i64,.int .i64,.int .i64,.int .i64,.int .i64,.int .i64,.int .i64,.bool,.int .i64,.bool,.int .i64,.int .i64,.int .i64,.int .i64,.int .i64,.bool]
def pI:List PC := [.int .i64,.int .i64,.int .i64,.int .i64,.int .i64,.int .i64,.int .i64,.int .i64,.int .i64,.int .i64,.int .i64,.int .i64,.int .i64,.bool,.int .i64,.bool,.int .i64,.int .i64,.int .i64,.int .i64,.int .i64,.bool]
theorem XB:Qn Tryz.prog := by
  have h : Tryz.prog.funcs.toList.all (fun fn => !(fn.name == "runtime.NumGoroutine")) = true := by kernel_rfl
  intro f fn hf
  have := List.all_eq_true.1 h fn (by simpa using List.mem_of_getElem? (by simpa using hf:Tryz.prog.funcs.toList[f]? = some fn))
  simpa using this
def QV:List Bool := [false,false,false,false,false,false,false,false,false,false,false,false,false,true,false,true,false,false,false,false,false,true]
def JZ4:List (Nat × Nat × Nat × Nat) := [(66,47,40,22),(66,55,40,22)]
def Jl (S:FuncId → Option JU) (L:FuncId → Nat → Option Q5) (f:FuncId):JU := JVL JZ4 (JTP Tryz.prog (JUC Tryz.prog S L 100 10) 100 (L f) f)
theorem JF {S:FuncId → Option JU} {L:FuncId → Nat → Option Q5} (hk:Known Tryz.prog S L) (f:FuncId):Qf Tryz.prog f (Jl S L f) := JbD JZ4 (Je4 XB hk 100 10 f)
def JE (K:List (Nat × JU)):FuncId → Option JU := fun f => SX.J6 K f
def K0:List (Nat × JU) := []
def L0:FuncId → Nat → Option Q5 := fun _ _ => none
theorem Jdg:Known Tryz.prog (JE K0) L0 := ⟨(fun _ _ h => by cases h),(fun _ _ _ _ _ _ _ _ _ _ h => by cases h)⟩
theorem J4 {K:List (Nat × JU)} {L:FuncId → Nat → Option Q5} {f:Nat} {s:JU} (hk:Known Tryz.prog (JE K) L) (hs:Qf Tryz.prog f s):Known Tryz.prog (JE ((f,s) :: K)) L := by
  refine ⟨fun g t h => ?_,hk.loops⟩
  unfold JE at h
  rw [JM] at h
  cases hb:Nat.beq f g
  · rw [hb] at h; exact hk.funcs g t h
  · rw [hb] at h
    cases h
    have := Nat.eq_of_beq_eq_true hb; subst this
    exact hs
def kR (L:FuncId → Nat → Option Q5) (f k:Nat) (s:Q5):FuncId → Nat → Option Q5 := fun g j => bif Nat.beq f g && Nat.beq k j then some s else L g j
def JCp (k i0:Nat):List (Option Nat) → Nat → Bool
  | [],_ => true
  | some x :: r,i => (!(Nat.beq x k) || Nat.beq i i0) && JCp k i0 r (i + 1)
  | none :: r,i => JCp k i0 r (i + 1)
theorem kp {k i0:Nat}:∀ {l:List (Option Nat)} {j i:Nat},JCp k i0 l j = true → l[i]? = some (some k) → j + i = i0
  | [],_,_,_,h => by cases h
  | some x :: r,j,0,h,h1 => by
    simp only [JCp,Bool.and_eq_true,Bool.or_eq_true,Bool.not_eq_true'] at h
    simp only [List.getElem?_cons_zero,Option.some.injEq] at h1
    subst h1
    rcases h.1 with h2 | h2
    · rw [SX.KY] at h2; cases h2
    · exact Nat.eq_of_beq_eq_true h2
  | none :: r,j,0,h,h1 => by simp at h1
  | some x :: r,j,i + 1,h,h1 => by
    simp only [JCp,Bool.and_eq_true] at h
    have := kp h.2 (by simpa using h1)
    omega
  | none :: r,j,i + 1,h,h1 => by
    simp only [JCp] at h
    have := kp h (by simpa using h1)
    omega
theorem Qc {K:List (Nat × JU)} {L:FuncId → Nat → Option Q5} {f k:Nat} {s:Q5} (i0:Nat) (hk:Known Tryz.prog (JE K) L) (hu:JCp k i0 ((QC Tryz.prog f).map Wy) 0 = true)
    (hs:XY Tryz.prog (Jcg Tryz.prog f) (.loop (WP Tryz.prog f i0)) s):Known Tryz.prog (JE K) (kR L f k s) := by
  refine ⟨hk.funcs,fun g fn b hf hb c hc j t h1 h2 => ?_⟩
  unfold kR at h2
  by_cases h3:f = g
  · subst h3
    by_cases h4:k = j
    · subst h4
      simp only [SX.KY,Bool.and_self,cond_true,Option.some.injEq] at h2
      subst h2
      have key:JFV Tryz.prog f (fun j => bif Nat.beq k j then some s else none) := JSJ fun i hi k' s' h5 h6 => by
        by_cases h7:k = k'
        · subst h7
          simp only [SX.KY,cond_true,Option.some.injEq] at h6
          subst h6
          have := kp hu (i := i) (by rw [List.getElem?_map]; unfold WP at h5; cases hl:(QC Tryz.prog f)[i]? with
            | none => rw [hl] at h5; cases h5
            | some d => rw [hl] at h5; simpa using h5)
          have:i = i0 := by omega
          subst this
          exact hs
        · rw [SX.ZJ h7] at h6; cases h6
      exact key fn b hf hb c hc k s h1 (by simp)
    · rw [SX.ZJ h4] at h2
      simp only [Bool.and_false,cond_false] at h2
      exact hk.loops f fn b hf hb c hc j t h1 h2
  · rw [SX.ZJ h3] at h2
    simp only [Bool.false_and,cond_false] at h2
    exact hk.loops g fn b hf hb c hc j t h1 h2
theorem Z5 {nt:Nat} {c:Code} {k:Zm → Je → Nat → Option TR} (h:∀ env mem n x,k env mem n = some x → ∃ k',XY Tryz.prog nt c k' ∧ k' env mem n = some x):XY Tryz.prog nt c k := by
  intro env mem n x hx
  obtain ⟨k',h1,h2⟩ := h env mem n x hx
  exact h1 env mem n x h2
def jl (env:Zm) (t:Nat):Option Int := match SX.J6 env t with
  | some ⟨_,_,_,.one (.int _ (.c n))⟩ => some n
  | some ⟨_,_,_,.one (.int _ (.v n))⟩ => some n
  | _ => none
def JPF (ks:List CK) (env:Zm) (mem:Je) (t:Nat):Option (List (List Int)) := match SX.J6 env t with
  | some ⟨_,_,_,.one (.wh id)⟩ => (match SX.J6 mem id with
    | some (.row _ _ _ (.lit _ rows)) => YC ks rows
    | some (.row _ _ _ (.lst _ _ xs)) => some xs
    | _ => none)
  | some ⟨_,_,_,.one .nilsl⟩ => some []
  | _ => none
def JZE:List (Nat × SC) → Option (List Int)
  | [] => some []
  | (_,.int _ (.c n)) :: r => (JZE r).map (n :: ·)
  | (_,.int _ (.v n)) :: r => (JZE r).map (n :: ·)
  | _ => none
def JI3 (mem:Je) (id:Nat):Option (List Int) := match SX.J6 mem id with
  | some (.blk _ cs) => JZE cs
  | _ => none
def orS (s t:JU):JU := fun vs mem n => match s vs mem n with
  | some r => some r
  | none => t vs mem n
theorem Jgu {f:Nat} {s t:JU} (hs:Qf Tryz.prog f s) (ht:Qf Tryz.prog f t):Qf Tryz.prog f (orS s t) := by
  intro vs mem n r h
  unfold orS at h
  split at h
  · rename_i r' h1
    cases h
    exact hs vs mem n _ h1
  · exact ht vs mem n r h
def qP:Tpl := ⟨[.one (.int .i64),.one (.int .i64)],[],0⟩
def Qk (a b:Int):Int :=
 bif a == 0 || b == 0 then 0 else bif decide (a < 0) == decide (b < 0) then 1 else -1
theorem JVq (a b:Int):Runs (Jl (JE K0) L0 155) (qP.args [.i a,.i b]) (qP.memo [.i a,.i b] []) qP.n (SV.one (Ci (Qk a b))) ([]) :=
  Runs.of1 (ps := []) (by kernel_rfl) (by simp)
def JH8:List Pm → Qs → Option CRes
  | [.i a,.i b],[] => some ⟨SV.one (Ci (Qk a b)),
 [],[],[],17⟩
  | _,_ => none
theorem JeR:Qf Tryz.prog 155 (JP qP JH8) := by
  refine JI (JF Jdg 155) fun ps ls r hr hn _ => ?_
  unfold JH8 at hr
  split at hr
  · cases hr; exact ⟨_,JVq _ _,fun _ => rfl⟩
  · cases hr
def JOZ:List (Nat × JU) := (155,JP qP JH8) :: K0
theorem JHg:Known Tryz.prog (JE JOZ) L0 := J4 Jdg JeR
def qT:Tpl := ⟨[.agg [.int .i64,.int .i64],.agg [.int .i64,.int .i64]],[],0⟩
def J3 (a c:Int):Int :=
 IntKind.i64.wrap (a - c)
theorem JWn (a b c d:Int):Runs (Jl (JE JOZ) L0 99) (qT.args [.i a,.i b,.i c,.i d]) (qT.memo [.i a,.i b,.i c,.i d] []) qT.n (SV.agg [Ci (J3 a c),Ci (J3 b d)]) ([]) :=
  Runs.of1 (ps := []) (by kernel_rfl) (by simp)
def JGb:List Pm → Qs → Option CRes
  | [.i a,.i b,.i c,.i d],[] => some ⟨SV.agg [Ci (J3 a c),Ci (J3 b d)],
 [],[],[],26⟩
  | _,_ => none
theorem Jdu:Qf Tryz.prog 99 (JP qT JGb) := by
  refine JI (JF JHg 99) fun ps ls r hr hn _ => ?_
  unfold JGb at hr
  split at hr
  · cases hr; exact ⟨_,JWn _ _ _ _,fun _ => rfl⟩
  · cases hr
def JPE:List (Nat × JU) := (99,JP qT JGb) :: JOZ
theorem JI7:Known Tryz.prog (JE JPE) L0 := J4 JHg Jdu
def Wl:Tpl := ⟨[.agg [.int .i64,.int .i64],.agg [.int .i64,.int .i64]],[],0⟩
def QQ (a b c d:Int):Int :=
 IntKind.i64.wrap (IntKind.i64.wrap (a * d) - IntKind.i64.wrap (b * c))
theorem JRr (a b c d:Int):Runs (Jl (JE JPE) L0 132) (Wl.args [.i a,.i b,.i c,.i d]) (Wl.memo [.i a,.i b,.i c,.i d] []) Wl.n (SV.one (Ci (QQ a b c d))) ([]) :=
  Runs.of1 (ps := []) (by kernel_rfl) (by simp)
def JD3:List Pm → Qs → Option CRes
  | [.i a,.i b,.i c,.i d],[] => some ⟨SV.one (Ci (QQ a b c d)),
 [],[],[],21⟩
  | _,_ => none
theorem JZz:Qf Tryz.prog 132 (JP Wl JD3) := by
  refine JI (JF JI7 132) fun ps ls r hr hn _ => ?_
  unfold JD3 at hr
  split at hr
  · cases hr; exact ⟨_,JRr _ _ _ _,fun _ => rfl⟩
  · cases hr
def JKW:List (Nat × JU) := (132,JP Wl JD3) :: JPE
theorem JDd:Known Tryz.prog (JE JKW) L0 := J4 JI7 JZz
def Wk:Tpl := ⟨[.agg [.int .i64,.int .i64],.agg [.int .i64,.int .i64]],[],0⟩
def J7 (a b c d:Int):Int :=
 IntKind.i64.wrap (IntKind.i64.wrap (a * c) + IntKind.i64.wrap (b * d))
theorem JTx (a b c d:Int):Runs (Jl (JE JKW) L0 97) (Wk.args [.i a,.i b,.i c,.i d]) (Wk.memo [.i a,.i b,.i c,.i d] []) Wk.n (SV.one (Ci (J7 a b c d))) ([]) :=
  Runs.of1 (ps := []) (by kernel_rfl) (by simp)
def JD7:List Pm → Qs → Option CRes
  | [.i a,.i b,.i c,.i d],[] => some ⟨SV.one (Ci (J7 a b c d)),
 [],[],[],21⟩
  | _,_ => none
theorem Jav:Qf Tryz.prog 97 (JP Wk JD7) := by
  refine JI (JF JDd 97) fun ps ls r hr hn _ => ?_
  unfold JD7 at hr
  split at hr
  · cases hr; exact ⟨_,JTx _ _ _ _,fun _ => rfl⟩
  · cases hr
def JKn:List (Nat × JU) := (97,JP Wk JD7) :: JKW
theorem JDZ:Known Tryz.prog (JE JKn) L0 := J4 JDd Jav
def qi:Tpl := ⟨[.one (.int .i64)],[],0⟩
def JA (a:Int):Int :=
 bif decide (a < 0) then IntKind.u64.wrap (IntKind.u64.wrap (IntKind.i64.wrap (0 - IntKind.i64.wrap (a + 1))) + 1) else IntKind.u64.wrap a
theorem JXI (a:Int):Runs (Jl (JE JKn) L0 150) (qi.args [.i a]) (qi.memo [.i a] []) qi.n (SV.one (SC.int IntKind.u64 (SI.v (JA a)))) ([]) :=
  Runs.of1 (ps := []) (by kernel_rfl) (by simp)
def JGU:List Pm → Qs → Option CRes
  | [.i a],[] => some ⟨SV.one (SC.int IntKind.u64 (SI.v (JA a))),
 [],[],[],12⟩
  | _,_ => none
theorem JeX:Qf Tryz.prog 150 (JP qi JGU) := by
  refine JI (JF JDZ 150) fun ps ls r hr hn _ => ?_
  unfold JGU at hr
  split at hr
  · cases hr; exact ⟨_,JXI _,fun _ => rfl⟩
  · cases hr
def JQe:List (Nat × JU) := (150,JP qi JGU) :: JKn
theorem JIN:Known Tryz.prog (JE JQe) L0 := J4 JDZ JeX
def jy:Tpl := ⟨[.one (.int .u64),.one (.int .u64)],[],0⟩
section
variable (a b:Int)
def JL0:Int:=
 IntKind.u64.wrap (IntKind.u64.wrap (JK BinOp.shr IntKind.u64 a 32 * Qx BinOp.and IntKind.u64 b 4294967295) + JK BinOp.shr IntKind.u64 (IntKind.u64.wrap (Qx BinOp.and IntKind.u64 a 4294967295 * Qx BinOp.and IntKind.u64 b 4294967295)) 32)
def Q4:Int:=
 IntKind.u64.wrap (IntKind.u64.wrap (IntKind.u64.wrap (JK BinOp.shr IntKind.u64 a 32 * JK BinOp.shr IntKind.u64 b 32) + JK BinOp.shr IntKind.u64 (JL0 a b) 32) + JK BinOp.shr IntKind.u64 (IntKind.u64.wrap (Qx BinOp.and IntKind.u64 (JL0 a b) 4294967295 + IntKind.u64.wrap (Qx BinOp.and IntKind.u64 a 4294967295 * JK BinOp.shr IntKind.u64 b 32))) 32)
def QA:Int:=
 IntKind.u64.wrap (a * b)
end
theorem JWI (a b:Int):Runs (Jl (JE JQe) L0 171) (jy.args [.i a,.i b]) (jy.memo [.i a,.i b] []) jy.n (SV.tup [(false,[SC.int IntKind.u64 (SI.v (Q4 a b))]),(false,[SC.int IntKind.u64 (SI.v (QA a b))])]) ([]) :=
  Runs.of1 (ps := []) (by kernel_rfl) (by simp)
def JH5:List Pm → Qs → Option CRes
  | [.i a,.i b],[] => some ⟨SV.tup [(false,[SC.int IntKind.u64 (SI.v (Q4 a b))]),(false,[SC.int IntKind.u64 (SI.v (QA a b))])],
 [],[],[],50⟩
  | _,_ => none
theorem Jd2:Qf Tryz.prog 171 (JP jy JH5) := by
  refine JI (JF JIN 171) fun ps ls r hr hn _ => ?_
  unfold JH5 at hr
  split at hr
  · cases hr; exact ⟨_,JWI _ _,fun _ => rfl⟩
  · cases hr
def JPA:List (Nat × JU) := (171,JP jy JH5) :: JQe
theorem JIS:Known Tryz.prog (JE JPA) L0 := J4 JIN Jd2
def Yb:Tpl := ⟨[.one (.int .u64),.one (.int .u64)],[],0⟩
theorem JR3 (a b:Int):Runs (Jl (JE JPA) L0 153) (Yb.args [.i a,.i b]) (Yb.memo [.i a,.i b] []) Yb.n (SV.agg [SC.int IntKind.u64 (SI.v (Q4 a b)),SC.int IntKind.u64 (SI.v (QA a b))]) ([]) :=
  Runs.of1 (ps := []) (by kernel_rfl) (by simp)
def JA5:List Pm → Qs → Option CRes
  | [.i a,.i b],[] => some ⟨SV.agg [SC.int IntKind.u64 (SI.v (Q4 a b)),SC.int IntKind.u64 (SI.v (QA a b))],
 [],[],[],68⟩
  | _,_ => none
theorem JVw:Qf Tryz.prog 153 (JP Yb JA5) := by
  refine JI (JF JIS 153) fun ps ls r hr hn _ => ?_
  unfold JA5 at hr
  split at hr
  · cases hr; exact ⟨_,JR3 _ _,fun _ => rfl⟩
  · cases hr
def JGs:List (Nat × JU) := (153,JP Yb JA5) :: JPA
theorem JBu:Known Tryz.prog (JE JGs) L0 := J4 JIS JVw
def qY:Tpl := ⟨[.agg [.int .u64,.int .u64],.agg [.int .u64,.int .u64]],[],0⟩
def JBM (a b c d:Int):Int :=
 bif decide (a < c) || a == c && decide (b < d) then -1 else bif a == c && b == d then 0 else 1
theorem JVR (a b c d:Int):Runs (Jl (JE JGs) L0 169) (qY.args [.i a,.i b,.i c,.i d]) (qY.memo [.i a,.i b,.i c,.i d] []) qY.n (SV.one (Ci (JBM a b c d))) ([]) :=
  Runs.of1 (ps := []) (by kernel_rfl) (by simp)
def JFq:List Pm → Qs → Option CRes
  | [.i a,.i b,.i c,.i d],[] => some ⟨SV.one (Ci (JBM a b c d)),
 [],[],[],36⟩
  | _,_ => none
theorem Jf3:Qf Tryz.prog 169 (JP qY JFq) := by
  refine JI (JF JBu 169) fun ps ls r hr hn _ => ?_
  unfold JFq at hr
  split at hr
  · cases hr; exact ⟨_,JVR _ _ _ _,fun _ => rfl⟩
  · cases hr
def JPz:List (Nat × JU) := (169,JP qY JFq) :: JGs
theorem JIT:Known Tryz.prog (JE JPz) L0 := J4 JBu Jf3
def JAX:Tpl := ⟨[.one (.int .i64),.one (.int .i64),.one (.int .i64),.one (.int .i64)],[],0⟩
def JCB (a b c d:Int):Int :=
 bif Qk a b != Qk c d then bif decide (Qk a b < Qk c d) then -1 else 1 else IntKind.i64.wrap (Qk a b * JBM (Q4 (JA a) (JA b)) (QA (JA a) (JA b)) (Q4 (JA c) (JA d)) (QA (JA c) (JA d)))
theorem Jbx (a b c d:Int):Runs (Jl (JE JPz) L0 149) (JAX.args [.i a,.i b,.i c,.i d]) (JAX.memo [.i a,.i b,.i c,.i d] []) JAX.n (SV.one (Ci (JCB a b c d))) ([]) :=
  Runs.of1 (ps := []) (by kernel_rfl) (by simp)
def JJO:List Pm → Qs → Option CRes
  | [.i a,.i b,.i c,.i d],[] => some ⟨SV.one (Ci (JCB a b c d)),
 [],[],[],286⟩
  | _,_ => none
theorem Jfx:Qf Tryz.prog 149 (JP JAX JJO) := by
  refine JI (JF JIT 149) fun ps ls r hr hn _ => ?_
  unfold JJO at hr
  split at hr
  · cases hr; exact ⟨_,Jbx _ _ _ _,fun _ => rfl⟩
  · cases hr
def JXL:List (Nat × JU) := (149,JP JAX JJO) :: JPz
theorem JK0:Known Tryz.prog (JE JXL) L0 := J4 JIT Jfx
def zF:Tpl := ⟨[.agg [.int .i64,.int .i64],.agg [.int .i64,.int .i64]],[],0⟩
def JD (a c:Int):Int :=
 IntKind.i64.wrap (a + c)
theorem JYB (a b c d:Int):Runs (Jl (JE JXL) L0 128) (zF.args [.i a,.i b,.i c,.i d]) (zF.memo [.i a,.i b,.i c,.i d] []) zF.n (SV.agg [Ci (JD a c),Ci (JD b d)]) ([]) :=
  Runs.of1 (ps := []) (by kernel_rfl) (by simp)
def JFv:List Pm → Qs → Option CRes
  | [.i a,.i b,.i c,.i d],[] => some ⟨SV.agg [Ci (JD a c),Ci (JD b d)],
 [],[],[],26⟩
  | _,_ => none
theorem Jcz:Qf Tryz.prog 128 (JP zF JFv) := by
  refine JI (JF JK0 128) fun ps ls r hr hn _ => ?_
  unfold JFv at hr
  split at hr
  · cases hr; exact ⟨_,JYB _ _ _ _,fun _ => rfl⟩
  · cases hr
def JQ5:List (Nat × JU) := (128,JP zF JFv) :: JXL
theorem JIf:Known Tryz.prog (JE JQ5) L0 := J4 JK0 Jcz
def JET:Tpl := ⟨[.one (.int .i64),.one (.int .i64)],[],0⟩
def JJS (a b:Int):Int :=
 bif decide (a.tmod b < 0) then IntKind.i64.wrap (a.tmod b + b) else a.tmod b
def JH6 (b:Int):List Prop :=
 [b ≠ 0]
theorem Jdx (a b:Int) (hNeeds:∀ pN ∈ (JH6 b),pN):Runs (Jl (JE JQ5) L0 16) (JET.args [.i a,.i b]) (JET.memo [.i a,.i b] []) JET.n (SV.one (Ci (JJS a b))) ([]) :=
  Runs.of1 (ps := (JH6 b)) (by kernel_rfl) hNeeds
def JR4:List Pm → Qs → Option CRes
  | [.i a,.i b],[] => some ⟨SV.one (Ci (JJS a b)),
 [],(JH6 b),[],14⟩
  | _,_ => none
theorem Jh2:Qf Tryz.prog 16 (JP JET JR4) := by
  refine JI (JF JIf 16) fun ps ls r hr hn _ => ?_
  unfold JR4 at hr
  split at hr
  · cases hr; exact ⟨_,Jdx _ _ hn,fun _ => rfl⟩
  · cases hr
def Jex:List (Nat × JU) := (16,JP JET JR4) :: JQ5
theorem JNS:Known Tryz.prog (JE Jex) L0 := J4 JIf Jh2
def YI:Tpl := ⟨[.one (.int .i64),.one (.int .i64),.one (.int .i64)],[],0⟩
def JNY (a b c:Int):Int :=
 IntKind.i64.wrap (b + JJS a (IntKind.i64.wrap (IntKind.i64.wrap (c - b) + 1)))
def jo (b c:Int):List Prop :=
 [IntKind.i64.wrap (IntKind.i64.wrap (c - b) + 1) ≠ 0]
theorem JOW (a b c:Int) (hNeeds:∀ pN ∈ (jo b c),pN):Runs (Jl (JE Jex) L0 17) (YI.args [.i a,.i b,.i c]) (YI.memo [.i a,.i b,.i c] []) YI.n (SV.one (Ci (JNY a b c))) ([]) :=
  Runs.of1 (ps := (jo b c)) (by kernel_rfl) hNeeds
def JAa:List Pm → Qs → Option CRes
  | [.i a,.i b,.i c],[] => some ⟨SV.one (Ci (JNY a b c)),
 [],(jo b c),[],24⟩
  | _,_ => none
theorem JW4:Qf Tryz.prog 17 (JP YI JAa) := by
  refine JI (JF JNS 17) fun ps ls r hr hn _ => ?_
  unfold JAa at hr
  split at hr
  · cases hr; exact ⟨_,JOW _ _ _ hn,fun _ => rfl⟩
  · cases hr
def JG7:List (Nat × JU) := (17,JP YI JAa) :: Jex
theorem JBh:Known Tryz.prog (JE JG7) L0 := J4 JNS JW4
section
variable (x:Int) (t:Nat) (v:SV)
def ent:Ent:= ⟨[],[],t,v⟩
def I:SC:= .int .i64 (.v x)
def U:SC:= .int .u64 (.v x)
end
theorem zI {x:Int} (h1:0 ≤ x) (h2:x < 18446744073709551616):IntKind.u64.wrap x = x := by
  unfold IntKind.wrap
  simp only [IntKind.bits,IntKind.signed]
  simp
  omega
theorem kC (x:Int):IntKind.u64.wrap x = x % 18446744073709551616 := by
  unfold IntKind.wrap
  simp only [IntKind.bits,IntKind.signed]
  simp
theorem JCm (a0 a1 b0 b1:Int) (h0:0 ≤ a0 ∧ a0 < 4294967296) (h1:0 ≤ a1 ∧ a1 < 4294967296) (h2:0 ≤ b0 ∧ b0 < 4294967296) (h3:0 ≤ b1 ∧ b1 < 4294967296) :
    a1 * b1 + (a1 * b0 + a0 * b0 / 4294967296) / 4294967296 + ((a1 * b0 + a0 * b0 / 4294967296) % 4294967296 + a0 * b1) / 4294967296 = ((a1 * 4294967296 + a0) * (b1 * 4294967296 + b0)) / 18446744073709551616 := by
  have e:(a1 * 4294967296 + a0) * (b1 * 4294967296 + b0) = a1 * b1 * 18446744073709551616 + (a1 * b0) * 4294967296 + (a0 * b1) * 4294967296 + a0 * b0 := by
    simp only [Int.add_mul,Int.mul_add]
    have e1:a1 * 4294967296 * (b1 * 4294967296) = a1 * b1 * 18446744073709551616 := by
      rw [Int.mul_assoc,Int.mul_comm 4294967296 (b1 * 4294967296),Int.mul_assoc b1,← Int.mul_assoc]; rfl
    have e2:a1 * 4294967296 * b0 = a1 * b0 * 4294967296 := by rw [Int.mul_assoc,Int.mul_comm 4294967296 b0,Int.mul_assoc]
    have e3:a0 * (b1 * 4294967296) = a0 * b1 * 4294967296 := by rw [Int.mul_assoc]
    rw [e1,e2,e3]; omega
  rw [e]
  have n1:0 ≤ a1 * b1 := Int.mul_nonneg h1.1 h3.1
  have n2:0 ≤ a1 * b0 := Int.mul_nonneg h1.1 h2.1
  have n3:0 ≤ a0 * b1 := Int.mul_nonneg h0.1 h3.1
  have n4:0 ≤ a0 * b0 := Int.mul_nonneg h0.1 h2.1
  generalize a1 * b1 = p at *
  generalize a1 * b0 = q at *
  generalize a0 * b1 = r at *
  generalize a0 * b0 = s at *
  omega
theorem JKa (x:Int) (h:0 ≤ x):JK .shr .u64 x 32 = x / 4294967296 := by
  have e:(2:Int) ^ min (32:Int).toNat IntKind.u64.bits = 4294967296 := by decide
  unfold JK
  simp only [e]
  exact Int.fdiv_eq_ediv_of_nonneg _ (by omega)
theorem JRW (x:Int) (h1:0 ≤ x) (h2:x < 18446744073709551616):Qx .and .u64 x 4294967295 = x % 4294967296 := by
  obtain ⟨n,rfl⟩ := Int.eq_ofNat_of_zero_le h1
  have h3:n < 18446744073709551616 := by omega
  have e:(BitVec.ofInt 64 (n:Int) &&& BitVec.ofInt 64 4294967295).toNat = n % 4294967296 := by
    rw [BitVec.toNat_and]
    have e1:(BitVec.ofInt 64 (n:Int)).toNat = n := by simp [BitVec.toNat_ofInt]; omega
    have e2:(BitVec.ofInt 64 (4294967295:Int)).toNat = 2 ^ 32 - 1 := by decide
    rw [e1,e2,Nat.and_two_pow_sub_one_eq_mod]
  show IntKind.u64.wrap ((BitVec.ofInt 64 (n:Int) &&& BitVec.ofInt 64 4294967295).toNat:Int) = _
  rw [e,zI (by omega) (by omega)]
  omega
theorem JDv {x y:Int} (m n:Int) (hx:0 ≤ x ∧ x ≤ m) (hy:0 ≤ y ∧ y ≤ n) (hm:0 ≤ m):0 ≤ x * y ∧ x * y ≤ m * n :=
  ⟨Int.mul_nonneg hx.1 hy.1,Int.mul_le_mul hx.2 hy.2 hy.1 hm⟩
theorem JEW (a b:Int):QA a b = a * b % 18446744073709551616 := kC _
theorem JFZ (a b:Int) (ha:0 ≤ a ∧ a < 18446744073709551616) (hb:0 ≤ b ∧ b < 18446744073709551616):Q4 a b = a * b / 18446744073709551616 := by
  have a0:0 ≤ a % 4294967296 ∧ a % 4294967296 < 4294967296 := by omega
  have a1:0 ≤ a / 4294967296 ∧ a / 4294967296 < 4294967296 := by omega
  have b0:0 ≤ b % 4294967296 ∧ b % 4294967296 < 4294967296 := by omega
  have b1:0 ≤ b / 4294967296 ∧ b / 4294967296 < 4294967296 := by omega
  have ea:a = a / 4294967296 * 4294967296 + a % 4294967296 := by omega
  have eb:b = b / 4294967296 * 4294967296 + b % 4294967296 := by omega
  have hh := JCm _ _ _ _ a0 a1 b0 b1
  rw [← ea,← eb] at hh
  rw [← hh]
  unfold Q4 JL0
  rw [JRW a ha.1 ha.2,JRW b hb.1 hb.2,JKa a ha.1,JKa b hb.1]
  generalize a % 4294967296 = x0 at *
  generalize a / 4294967296 = x1 at *
  generalize b % 4294967296 = y0 at *
  generalize b / 4294967296 = y1 at *
  have p1 := JDv (x := x1) (y := y1) 4294967295 4294967295 (by omega) (by omega) (by omega)
  have p2 := JDv (x := x1) (y := y0) 4294967295 4294967295 (by omega) (by omega) (by omega)
  have p3 := JDv (x := x0) (y := y1) 4294967295 4294967295 (by omega) (by omega) (by omega)
  have p4 := JDv (x := x0) (y := y0) 4294967295 4294967295 (by omega) (by omega) (by omega)
  generalize x1 * y1 = p at *
  generalize x1 * y0 = q at *
  generalize x0 * y1 = r at *
  generalize x0 * y0 = s at *
  rw [zI (x := s) (by omega) (by omega),zI (x := q) (by omega) (by omega),zI (x := p) (by omega) (by omega),zI (x := r) (by omega) (by omega),JKa s (by omega),zI (x := q + s / 4294967296) (by omega) (by omega),
    JKa _ (by omega),JRW _ (by omega) (by omega),zI (x := p + _) (by omega) (by omega),zI (x := _ % _ + r) (by omega) (by omega),JKa _ (by omega),zI (by omega) (by omega)]
def X7 (x y:Int):Int := if x < y then -1 else if x = y then 0 else 1
abbrev KI (x:Int):Prop := -9223372036854775808 ≤ x ∧ x < 9223372036854775808
theorem Wu {x:Int} (h1:-9223372036854775808 ≤ x) (h2:x < 9223372036854775808):IntKind.i64.wrap x = x := by
  unfold IntKind.wrap
  simp only [IntKind.bits,IntKind.signed]
  simp
  omega
theorem Ka (a:Int) (h:KI a):JA a = if a < 0 then -a else a := by
  obtain ⟨h1,h2⟩ := h
  unfold JA
  by_cases hn:a < 0
  · rw [decide_eq_true hn,cond_true,if_pos hn,Wu (x := a + 1) (by omega) (by omega),Wu (x := 0 - (a + 1)) (by omega) (by omega),zI (x := 0 - (a + 1)) (by omega) (by omega),zI (by omega) (by omega)]
    omega
  · rw [decide_eq_false hn,cond_false,if_neg hn,zI (by omega) (by omega)]
theorem JFF (a b:Int):(Qk a b = 0 ∧ a * b = 0) ∨ (Qk a b = 1 ∧ 0 < a * b ∧ (if a < 0 then -a else a) * (if b < 0 then -b else b) = a * b) ∨ (Qk a b = -1 ∧ a * b < 0 ∧ (if a < 0 then -a else a) * (if b < 0 then -b else b) = -(a * b)) := by
  unfold Qk
  by_cases ha:a = 0
  · subst ha; exact .inl ⟨rfl,Int.zero_mul _⟩
  by_cases hb:b = 0
  · subst hb; exact .inl ⟨by simp,Int.mul_zero _⟩
  have e:(a == 0 || b == 0) = false := by simp [ha,hb]
  rw [e,cond_false]
  right
  by_cases h1:a < 0 <;> by_cases h2:b < 0
  · refine .inl ⟨by simp [h1,h2],?_,?_⟩
    · exact Int.mul_pos_of_neg_of_neg h1 h2
    · rw [if_pos h1,if_pos h2,Int.neg_mul_neg]
  · refine .inr ⟨by simp [h1,h2],?_,?_⟩
    · exact Int.mul_neg_of_neg_of_pos h1 (by omega)
    · rw [if_pos h1,if_neg h2,Int.neg_mul]
  · refine .inr ⟨by simp [h1,h2],?_,?_⟩
    · exact Int.mul_neg_of_pos_of_neg (by omega) h2
    · rw [if_neg h1,if_pos h2,Int.mul_neg]
  · refine .inl ⟨by simp [h1,h2],?_,?_⟩
    · exact Int.mul_pos (by omega) (by omega)
    · rw [if_neg h1,if_neg h2]
theorem JTA (x y:Int) (hx:0 ≤ x) (hy:0 ≤ y):JBM (x / 18446744073709551616) (x % 18446744073709551616) (y / 18446744073709551616) (y % 18446744073709551616) = X7 x y := by
  unfold JBM X7
  by_cases h:x < y
  · rw [if_pos h]
    have:(decide (x / 18446744073709551616 < y / 18446744073709551616) || x / 18446744073709551616 == y / 18446744073709551616 && decide (x % 18446744073709551616 < y % 18446744073709551616)) = true := by
      simp only [Bool.or_eq_true,Bool.and_eq_true,decide_eq_true_eq,beq_iff_eq]; omega
    rw [this]; rfl
  · rw [if_neg h]
    have:(decide (x / 18446744073709551616 < y / 18446744073709551616) || x / 18446744073709551616 == y / 18446744073709551616 && decide (x % 18446744073709551616 < y % 18446744073709551616)) = false := by
      rw [Bool.eq_false_iff]
      simp only [ne_eq,Bool.or_eq_true,Bool.and_eq_true,decide_eq_true_eq,beq_iff_eq]; omega
    rw [this,cond_false]
    by_cases h2:x = y
    · subst h2; simp
    · rw [if_neg h2]
      have:(x / 18446744073709551616 == y / 18446744073709551616 && x % 18446744073709551616 == y % 18446744073709551616) = false := by
        rw [Bool.eq_false_iff]
        simp only [ne_eq,Bool.and_eq_true,beq_iff_eq]; omega
      rw [this]; rfl
theorem Jfi (a b c d:Int) (ha:KI a) (hb:KI b) (hc:KI c) (hd:KI d):JCB a b c d = X7 (a * b) (c * d) := by
  unfold JCB
  rw [Ka a ha,Ka b hb,Ka c hc,Ka d hd]
  have r:∀ x:Int,KI x → 0 ≤ (if x < 0 then -x else x) ∧ (if x < 0 then -x else x) < 18446744073709551616 := fun x hx => by
    obtain ⟨h1,h2⟩ := hx
    split <;> omega
  rw [JFZ _ _ (r a ha) (r b hb),JEW,JFZ _ _ (r c hc) (r d hd),JEW]
  have x0 := Int.mul_nonneg (r a ha).1 (r b hb).1
  have y0 := Int.mul_nonneg (r c hc).1 (r d hd).1
  rw [JTA _ _ x0 y0]
  have s1 := JFF a b
  have s2 := JFF c d
  generalize (if a < 0 then -a else a) * (if b < 0 then -b else b) = X at *
  generalize (if c < 0 then -c else c) * (if d < 0 then -d else d) = Y at *
  generalize a * b = P at *
  generalize c * d = Q at *
  have w:∀ x:Int,-1 ≤ x ∧ x ≤ 1 → IntKind.i64.wrap x = x := fun x h => Wu (by omega) (by omega)
  have hcm:X7 X Y = -1 ∧ X < Y ∨ X7 X Y = 0 ∧ X = Y ∨ X7 X Y = 1 ∧ Y < X := by unfold X7; (repeat' split) <;> omega
  have hcp:X7 P Q = -1 ∧ P < Q ∨ X7 P Q = 0 ∧ P = Q ∨ X7 P Q = 1 ∧ Q < P := by unfold X7; (repeat' split) <;> omega
  generalize X7 X Y = m at *
  generalize X7 P Q = n at *
  rcases s1 with ⟨e1,p1⟩ | ⟨e1,p1,q1⟩ | ⟨e1,p1,q1⟩ <;> rcases s2 with ⟨e2,p2⟩ | ⟨e2,p2,q2⟩ | ⟨e2,p2,q2⟩ <;> rw [e1,e2]
  · show IntKind.i64.wrap (0 * m) = n; rw [w _ (by omega)]; omega
  · show (-1:Int) = n; omega
  · show (1:Int) = n; omega
  · show (1:Int) = n; omega
  · show IntKind.i64.wrap (1 * m) = n; rw [w _ (by omega)]; omega
  · show (1:Int) = n; omega
  · show (-1:Int) = n; omega
  · show (-1:Int) = n; omega
  · show IntKind.i64.wrap (-1 * m) = n; rw [w _ (by omega)]; omega
abbrev Dg := LL
def dg (xs:Dg) (i:Nat):Int := (xs.getD i []).getD 0 0
def val:Dg → Int
  | [] => 0
  | r :: rs => r.getD 0 0 + 65536 * val rs
abbrev isD (x:Int):Prop := 0 ≤ x ∧ x < 65536
def rng (xs:Dg):Prop := ∀ i,isD (dg xs i)
theorem JRD (xs:Dg) (i:Nat):dg xs i = (xs[i]?.getD []).getD 0 0 := rfl
theorem JJ6 (r:List Int) (rs:Dg) (i:Nat):dg (r :: rs) (i + 1) = dg rs i := rfl
theorem JLw (v:Int):∀ (xs:Dg) (j i:Nat),j < xs.length → dg (xs.set j [v]) i = if i = j then v else dg xs i
  | [],_,_,h => by simp at h
  | r :: rs,0,0,_ => by simp [dg]
  | r :: rs,0,i + 1,_ => by simp [dg]
  | r :: rs,j + 1,0,_ => by simp [dg]
  | r :: rs,j + 1,i + 1,h => by
    have := JLw v rs j i (by simpa using h)
    rw [List.set_cons_succ,JJ6,JJ6,this]
    by_cases e:i = j
    · rw [if_pos e,if_pos (by omega)]
    · rw [if_neg e,if_neg (by omega)]
theorem JPP (v:Int):∀ (xs:Dg) (j:Nat),j < xs.length → val (xs.set j [v]) = val xs + (v - dg xs j) * 65536 ^ j
  | [],_,h => by simp at h
  | r :: rs,0,_ => by simp [dg,val]; omega
  | r :: rs,j + 1,h => by
    have := JPP v rs j (by simpa using h)
    rw [List.set_cons_succ,val,val,this,JJ6,Int.pow_succ]
    generalize (65536:Int) ^ j = p
    generalize dg rs j = d
    grind
theorem K1:∀ (xs:Dg) (k:Nat),val (xs.take (k + 1)) = val (xs.take k) + dg xs k * 65536 ^ k
  | [],k => by simp [val,dg]
  | r :: rs,0 => by simp [val,dg]
  | r :: rs,k + 1 => by
    have := K1 rs k
    rw [List.take_succ_cons,val,this,List.take_succ_cons,val,JJ6,Int.pow_succ]
    generalize (65536:Int) ^ k = p
    grind
theorem YS (k:Nat):(0:Int) < 65536 ^ k := Int.pow_pos (by omega)
theorem JKs {xs:Dg} (h:rng xs):∀ k,0 ≤ val (xs.take k) ∧ val (xs.take k) < 65536 ^ k
  | 0 => by simp [val]
  | k + 1 => by
    obtain ⟨h1,h2⟩ := JKs h k
    obtain ⟨h3,h4⟩ := h k
    have hp := YS k
    rw [K1,Int.pow_succ]
    have h5:0 ≤ dg xs k * 65536 ^ k := Int.mul_nonneg h3 (by omega)
    have h6:dg xs k * 65536 ^ k ≤ 65535 * 65536 ^ k := Int.mul_le_mul_of_nonneg_right (by omega) (by omega)
    generalize dg xs k * 65536 ^ k = q at *
    generalize (65536:Int) ^ k = p at *
    omega
theorem zx (xs:Dg):val (xs.take xs.length) = val xs := by rw [List.take_length]
def Xu (x:Int) (B O:Dg) (i:Nat):Nat → Dg × Int
  | 0 => (O,0)
  | k + 1 => ((Xu x B O i k).1.set (i + k) [(dg (Xu x B O i k).1 (i + k) + x * dg B k + (Xu x B O i k).2) % 65536],(dg (Xu x B O i k).1 (i + k) + x * dg B k + (Xu x B O i k).2) / 65536)
theorem Y5 (x:Int) (B O:Dg) (i:Nat):∀ k,(Xu x B O i k).1.length = O.length
  | 0 => rfl
  | k + 1 => by rw [Xu,List.length_set,Y5 x B O i k]
theorem JSF {x y:Int} (hx:isD x) (hy:isD y):0 ≤ x * y ∧ x * y ≤ 4294836225 := ⟨Int.mul_nonneg hx.1 hy.1,by
  have := Int.mul_le_mul (show x ≤ 65535 by omega) (show y ≤ 65535 by omega) hy.1 (by omega)
  omega⟩
theorem JJD {x:Int} {B O:Dg} {i:Nat} (hx:isD x) (hB:rng B) (hO:rng O):∀ k,i + k ≤ O.length → rng (Xu x B O i k).1 ∧ isD (Xu x B O i k).2
  | 0,_ => ⟨hO,by show isD 0; decide⟩
  | k + 1,h => by
    obtain ⟨h1,h2,h3⟩ := JJD (i := i) hx hB hO k (by omega)
    obtain ⟨h4,h5⟩ := h1 (i + k)
    obtain ⟨h6,h7⟩ := JSF hx (hB k)
    refine ⟨fun j => ?_,?_⟩
    · rw [Xu,JLw _ _ _ _ (by rw [Y5]; omega)]
      split
      · constructor <;> omega
      · exact h1 j
    · rw [Xu]
      constructor <;> simp only <;> omega
theorem JKl (x:Int) (B O:Dg) (i:Nat):∀ k j,i + k ≤ O.length → i + k ≤ j → dg (Xu x B O i k).1 j = dg O j
  | 0,_,_,_ => rfl
  | k + 1,j,h1,h2 => by rw [Xu,JLw _ _ _ _ (by rw [Y5]; omega),if_neg (by omega),JKl x B O i k j (by omega) (by omega)]
theorem JZu (x:Int) (B O:Dg) (i:Nat):∀ k,i + k ≤ O.length → val (Xu x B O i k).1 + (Xu x B O i k).2 * 65536 ^ (i + k) = val O + x * val (B.take k) * 65536 ^ i
  | 0,_ => by simp [Xu,val]
  | k + 1,h => by
    have ih := JZu x B O i k (by omega)
    rw [Xu,K1,JPP _ _ _ (by rw [Y5]; omega)]
    rw [← Nat.add_assoc,Int.pow_succ]
    have e:(65536:Int) ^ (i + k) = 65536 ^ i * 65536 ^ k := Int.pow_add _ _ _
    have dm := Int.mul_ediv_add_emod (dg (Xu x B O i k).1 (i + k) + x * dg B k + (Xu x B O i k).2) 65536
    generalize (dg (Xu x B O i k).1 (i + k) + x * dg B k + (Xu x B O i k).2) % 65536 = m at *
    generalize (dg (Xu x B O i k).1 (i + k) + x * dg B k + (Xu x B O i k).2) / 65536 = q at *
    generalize dg (Xu x B O i k).1 (i + k) = d at *
    generalize (Xu x B O i k).2 = c at *
    generalize val (Xu x B O i k).1 = v at *
    generalize dg B k = b at *
    generalize val (B.take k) = t at *
    rw [e] at ih ⊢
    generalize (65536:Int) ^ i = p at *
    generalize (65536:Int) ^ k = r at *
    simp only
    grind
def Zg (A B:Dg):Nat → Dg
  | 0 => List.replicate (A.length + B.length) [0]
  | i + 1 => (Xu (dg A i) B (Zg A B i) i B.length).1.set (i + B.length) [dg (Xu (dg A i) B (Zg A B i) i B.length).1 (i + B.length) + (Xu (dg A i) B (Zg A B i) i B.length).2]
theorem KU (A B:Dg):∀ i,(Zg A B i).length = A.length + B.length
  | 0 => by simp [Zg]
  | i + 1 => by rw [Zg,List.length_set,Y5,KU A B i]
theorem Jea (n i:Nat):dg (List.replicate n [0]) i = 0 := by
  rw [JRD,List.getElem?_replicate]
  split <;> rfl
theorem JZQ:∀ n,val (List.replicate n [0]) = 0
  | 0 => rfl
  | n + 1 => by rw [List.replicate_succ,val,JZQ n]; rfl
theorem JTj {A B:Dg}:∀ i j,i ≤ A.length → i + B.length ≤ j → dg (Zg A B i) j = 0
  | 0,j,_,_ => Jea _ _
  | i + 1,j,h1,h2 => by
    rw [Zg,JLw _ _ _ _ (by rw [Y5,KU]; omega),if_neg (by omega),JKl _ _ _ _ _ _ (by rw [KU]; omega) (by omega),JTj i j (by omega) (by omega)]
theorem JEK {A B:Dg} (hA:rng A) (hB:rng B):∀ i,i ≤ A.length → rng (Zg A B i)
  | 0,_ => fun j => by rw [Zg,Jea]; decide
  | i + 1,h => by
    have ih := JEK hA hB i (by omega)
    have hl := KU A B i
    obtain ⟨h1,h2⟩ := JJD (hA i) hB ih B.length (i := i) (by omega)
    intro j
    rw [Zg,JLw _ _ _ _ (by rw [Y5]; omega)]
    split
    · rw [JKl _ _ _ _ _ _ (by omega) (by omega),JTj i _ (by omega) (by omega),Int.zero_add]; exact h2
    · exact h1 j
theorem JTa {A B:Dg}:∀ i,i ≤ A.length → val (Zg A B i) = val (A.take i) * val B
  | 0,_ => by simp [Zg,JZQ,val]
  | i + 1,h => by
    have ih := JTa (A := A) (B := B) i (by omega)
    have hl := KU A B i
    have hv := JZu (dg A i) B (Zg A B i) i B.length (by omega)
    rw [Zg,JPP _ _ _ (by rw [Y5]; omega),K1]
    rw [zx,ih] at hv
    generalize dg (Xu (dg A i) B (Zg A B i) i B.length).1 (i + B.length) = d at *
    generalize (Xu (dg A i) B (Zg A B i) i B.length).2 = c at *
    generalize val (Xu (dg A i) B (Zg A B i) i B.length).1 = v at *
    generalize (65536:Int) ^ (i + B.length) = q at *
    generalize (65536:Int) ^ i = p at *
    generalize val (A.take i) = t at *
    generalize val B = s at *
    generalize dg A i = x at *
    grind
def jp (xs:Dg):Nat → Nat
  | 0 => 0
  | j + 1 => bif dg xs j == 0 then jp xs j else j + 1
theorem JRI (xs:Dg):∀ n,jp xs n ≤ n
  | 0 => Nat.le_refl _
  | n + 1 => by
    have := JRI xs n
    unfold jp
    cases dg xs n == 0
    · exact Nat.le_refl _
    · exact Nat.le_succ_of_le this
theorem JRi (xs:Dg):∀ n,val (xs.take (jp xs n)) = val (xs.take n)
  | 0 => rfl
  | n + 1 => by
    rw [jp,K1]
    cases h:dg xs n == 0
    · rw [cond_false,K1]
    · rw [cond_true,JRi xs n,beq_iff_eq.1 h]; simp
theorem JRT (xs:Dg):∀ n,jp xs n ≠ 0 → dg xs (jp xs n - 1) ≠ 0
  | 0,h => absurd rfl h
  | n + 1,h => by
    rw [jp] at h ⊢
    cases h1:dg xs n == 0
    · rw [cond_false]
      simpa using h1
    · rw [h1,cond_true] at h
      rw [cond_true]; exact JRT xs n h
def JCD (xs:Dg):Dg := xs.take (jp xs xs.length)
theorem JTC (xs:Dg):(JCD xs).length = jp xs xs.length := by
  have := JRI xs xs.length
  simp [JCD]; omega
theorem Jc4 (xs:Dg):val (JCD xs) = val xs := by rw [JCD,JRi,zx]
theorem JP4 (xs:Dg) (n i:Nat):dg (xs.take n) i = if i < n then dg xs i else 0 := by
  rw [JRD,JRD,List.getElem?_take]
  split
  · rfl
  · rfl
theorem JdL {xs:Dg} (h:rng xs):rng (JCD xs) := fun i => by
  rw [JCD,JP4]
  split
  · exact h i
  · decide
def JcP (xs:Dg):Prop := xs.length ≠ 0 → dg xs (xs.length - 1) ≠ 0
theorem Jb0 (xs:Dg):JcP (JCD xs) := fun h => by
  rw [JTC] at h ⊢
  rw [JCD,JP4,if_pos (by omega)]
  exact JRT xs _ h
def qL (A B:Dg):Nat → Int
  | 0 => 0
  | j + 1 => bif decide (dg A j < dg B j) then -1 else bif decide (dg B j < dg A j) then 1 else qL A B j
theorem JZS {x y:Int} (h:x < y):X7 x y = -1 := by unfold X7; rw [if_pos h]
theorem JYX {x y:Int} (h:y < x):X7 x y = 1 := by unfold X7; rw [if_neg (by omega),if_neg (by omega)]
theorem JYg {a b p x y:Int} (h:a < b) (hp:0 < p) (hx:x < p) (hy:0 ≤ y):x + a * p < y + b * p := by
  have := Int.mul_le_mul_of_nonneg_right (show a + 1 ≤ b by omega) (show 0 ≤ p by omega)
  rw [Int.add_mul] at this
  omega
theorem Je7 (x y z:Int):X7 (x + z) (y + z) = X7 x y := by
  unfold X7
  by_cases h:x < y
  · rw [if_pos h,if_pos (by omega)]
  · rw [if_neg h,if_neg (by omega)]
    by_cases h:x = y
    · rw [if_pos h,if_pos (by omega)]
    · rw [if_neg h,if_neg (by omega)]
theorem JYf {A B:Dg} (hA:rng A) (hB:rng B):∀ n,qL A B n = X7 (val (A.take n)) (val (B.take n))
  | 0 => by simp [qL,val,X7]
  | n + 1 => by
    obtain ⟨a1,a2⟩ := JKs hA n
    obtain ⟨b1,b2⟩ := JKs hB n
    have hp := YS n
    rw [qL,K1,K1]
    by_cases h1:dg A n < dg B n
    · rw [decide_eq_true h1,cond_true,JZS (JYg h1 hp a2 b1)]
    · rw [decide_eq_false h1,cond_false]
      by_cases h2:dg B n < dg A n
      · rw [decide_eq_true h2,cond_true,JYX (JYg h2 hp b2 a1)]
      · rw [decide_eq_false h2,cond_false,show dg A n = dg B n by omega,Je7,JYf hA hB n]
theorem JdV {xs:Dg} (h:rng xs) (hn:JcP xs) {k:Nat} (hk:k < xs.length):65536 ^ k ≤ val xs := by
  obtain ⟨m,hm⟩:∃ m,xs.length = m + 1 := ⟨xs.length - 1,by omega⟩
  rw [← zx xs,hm,K1]
  obtain ⟨a1,_⟩ := JKs h m
  have h1 := hn (by omega)
  rw [hm,Nat.add_sub_cancel] at h1
  have h2 := (h m).1
  have hp:(65536:Int) ^ k ≤ 65536 ^ m := by
    obtain ⟨d,hd⟩:∃ d,m = k + d := ⟨m - k,by omega⟩
    rw [hd,Int.pow_add]
    have h3:(1:Int) ≤ 65536 ^ d := by have := YS d; omega
    have := Int.mul_le_mul_of_nonneg_left h3 (show (0:Int) ≤ 65536 ^ k from Int.le_of_lt (YS k))
    omega
  have h4 := Int.mul_le_mul_of_nonneg_right (show 1 ≤ dg xs m by omega) (show (0:Int) ≤ 65536 ^ m from Int.le_of_lt (YS m))
  omega
theorem JZV {xs:Dg} (h:rng xs):0 ≤ val xs ∧ val xs < 65536 ^ xs.length := by rw [← zx xs]; simpa using JKs h xs.length
def JVn (A B:Dg):Int := bif Int.ofNat A.length != Int.ofNat B.length then (bif decide (Int.ofNat A.length < Int.ofNat B.length) then -1 else 1) else qL A B A.length
theorem JfJ {A B:Dg} (hA:rng A) (hB:rng B) (nA:JcP A) (nB:JcP B):JVn A B = X7 (val A) (val B) := by
  unfold JVn
  obtain ⟨_,a2⟩ := JZV hA
  obtain ⟨_,b2⟩ := JZV hB
  by_cases h:A.length = B.length
  · rw [h]
    simp only [bne_self_eq_false,cond_false]
    rw [JYf hA hB]
    have := zx A
    rw [h] at this
    rw [this,zx]
  · have:(Int.ofNat A.length != Int.ofNat B.length) = true := by simp; omega
    rw [this,cond_true]
    by_cases h2:A.length < B.length
    · rw [decide_eq_true (by simpa using h2),cond_true]
      have := JdV hB nB h2
      rw [JZS (by omega)]
    · rw [decide_eq_false (by simpa using h2),cond_false]
      have := JdV hA nA (show B.length < A.length by omega)
      rw [JYX (by omega)]
def Yg (n:Int) (j:Nat):Dg := (List.range j).map fun i => [n / 65536 ^ i % 65536]
theorem Yc (n:Int) (j:Nat):(Yg n j).length = j := by simp [Yg]
theorem JNI (n:Int) (j:Nat):Yg n (j + 1) = Yg n j ++ [[n / 65536 ^ j % 65536]] := by
  unfold Yg
  rw [List.range_succ,List.map_append]
  rfl
theorem JYM (n:Int) (j i:Nat):dg (Yg n j) i = if i < j then n / 65536 ^ i % 65536 else 0 := by
  rw [JRD]
  unfold Yg
  rw [List.getElem?_map]
  by_cases h:i < j
  · rw [List.getElem?_range h,if_pos h]; rfl
  · rw [List.getElem?_eq_none (by simp; omega),if_neg h]; rfl
theorem JE5 (n:Int) (j:Nat):rng (Yg n j) := fun i => by
  rw [JYM]
  split
  · constructor <;> omega
  · decide
theorem JZ6 (n:Int) (j:Nat):n / 65536 ^ (j + 1) = n / 65536 ^ j / 65536 := by
  rw [Int.pow_succ,Int.ediv_ediv_of_nonneg (Int.le_of_lt (YS j))]
theorem JSW (n:Int):∀ j,val (Yg n j) + n / 65536 ^ j * 65536 ^ j = n
  | 0 => by simp [Yg,val]
  | j + 1 => by
    have ih := JSW n j
    have e:val (Yg n (j + 1)) = val (Yg n j) + n / 65536 ^ j % 65536 * 65536 ^ j := by
      have := K1 (Yg n (j + 1)) j
      rw [JYM,if_pos (by omega)] at this
      have h1:(Yg n (j + 1)).take (j + 1) = Yg n (j + 1) := List.take_of_length_le (by rw [Yc]; omega)
      have h2:(Yg n (j + 1)).take j = Yg n j := by
        rw [JNI,List.take_append_of_le_length (by rw [Yc]; omega),List.take_of_length_le (by rw [Yc]; omega)]
      rw [h1,h2] at this
      exact this
    rw [e,JZ6,Int.pow_succ]
    have dm := Int.mul_ediv_add_emod (n / 65536 ^ j) 65536
    generalize n / 65536 ^ j / 65536 = q at *
    generalize n / 65536 ^ j % 65536 = m at *
    generalize n / 65536 ^ j = s at *
    generalize val (Yg n j) = v at *
    generalize (65536:Int) ^ j = p at *
    grind
def nd (n:Int):Nat := bif decide (0 < n) then (bif decide (0 < n / 65536 ^ 1) then (bif decide (0 < n / 65536 ^ 2) then (bif decide (0 < n / 65536 ^ 3) then 4 else 3) else 2) else 1) else 0
theorem Jeq {n:Int} (h:0 ≤ n) (h2:n < 18446744073709551616):(nd n = 0 ∧ n = 0) ∨ (nd n = 1 ∧ 0 < n ∧ n < 65536) ∨ (nd n = 2 ∧ 65536 ≤ n ∧ n < 4294967296) ∨ (nd n = 3 ∧ 4294967296 ≤ n ∧ n < 281474976710656) ∨ (nd n = 4 ∧ 281474976710656 ≤ n) := by
  unfold nd
  have e1:(65536:Int) ^ 1 = 65536 := rfl
  have e2:(65536:Int) ^ 2 = 4294967296 := rfl
  have e3:(65536:Int) ^ 3 = 281474976710656 := rfl
  rw [e1,e2,e3]
  by_cases k0:0 < n
  · by_cases k1:0 < n / 65536
    · by_cases k2:0 < n / 4294967296
      · by_cases k3:0 < n / 281474976710656
        · rw [decide_eq_true k0,decide_eq_true k1,decide_eq_true k2,decide_eq_true k3]; exact .inr (.inr (.inr (.inr ⟨rfl,by omega⟩)))
        · rw [decide_eq_true k0,decide_eq_true k1,decide_eq_true k2,decide_eq_false k3]; exact .inr (.inr (.inr (.inl ⟨rfl,by omega,by omega⟩)))
      · rw [decide_eq_true k0,decide_eq_true k1,decide_eq_false k2]; exact .inr (.inr (.inl ⟨rfl,by omega,by omega⟩))
    · rw [decide_eq_true k0,decide_eq_false k1]; exact .inr (.inl ⟨rfl,by omega,by omega⟩)
  · rw [decide_eq_false k0]; exact .inl ⟨rfl,by omega⟩
theorem jY {n:Int} (h:0 ≤ n) (h2:n < 18446744073709551616) {j:Nat} (hj:j ≤ 4):(0 < n / 65536 ^ j ↔ j < nd n) ∧ nd n ≤ 4 := by
  have e0:(65536:Int) ^ 0 = 1 := rfl
  have e1:(65536:Int) ^ 1 = 65536 := rfl
  have e2:(65536:Int) ^ 2 = 4294967296 := rfl
  have e3:(65536:Int) ^ 3 = 281474976710656 := rfl
  have e4:(65536:Int) ^ 4 = 18446744073709551616 := rfl
  have hc := Jeq h h2
  generalize nd n = k at *
  have:j = 0 ∨ j = 1 ∨ j = 2 ∨ j = 3 ∨ j = 4 := by omega
  rcases this with rfl | rfl | rfl | rfl | rfl <;> simp only [e0,e1,e2,e3,e4] <;> refine ⟨⟨fun _ => ?_,fun _ => ?_⟩,?_⟩ <;> omega
def Z7 (n:Int):Dg := Yg n (nd n)
theorem JNP {n:Int} (h:0 ≤ n) (h2:n < 18446744073709551616):val (Z7 n) = n := by
  have h4 := (jY h h2 (j := 0) (by omega)).2
  have h3 := (jY h h2 h4).1
  have := JSW n (nd n)
  have h5:¬ 0 < n / 65536 ^ nd n := fun h => by have := h3.1 h; omega
  have h6:0 ≤ n / 65536 ^ nd n := Int.ediv_nonneg h (Int.le_of_lt (YS _))
  rw [show n / 65536 ^ nd n = 0 by omega,Int.zero_mul,Int.add_zero] at this
  exact this
def JUj (a b:Int):Dg := JCD (Zg (Z7 a) (Z7 b) (Z7 a).length)
theorem JU5 {a b:Int} (ha:0 ≤ a ∧ a < 18446744073709551616) (hb:0 ≤ b ∧ b < 18446744073709551616):rng (JUj a b) ∧ JcP (JUj a b) ∧ val (JUj a b) = a * b := by
  refine ⟨JdL (JEK (JE5 _ _) (JE5 _ _) _ (Nat.le_refl _)),Jb0 _,?_⟩
  unfold JUj
  rw [Jc4,JTa _ (Nat.le_refl _),zx,JNP ha.1 ha.2,JNP hb.1 hb.2]
theorem JgF (x:Int) (h:0 ≤ x):JK .shr .u64 x 16 = x / 65536 := by
  have e:(2:Int) ^ min (16:Int).toNat IntKind.u64.bits = 65536 := by decide
  unfold JK
  simp only [e]
  exact Int.fdiv_eq_ediv_of_nonneg _ (by omega)
theorem Jgf (x:Int) (h1:0 ≤ x) (h2:x < 18446744073709551616):Qx .and .u64 x 65535 = x % 65536 := by
  obtain ⟨n,rfl⟩ := Int.eq_ofNat_of_zero_le h1
  have h3:n < 18446744073709551616 := by omega
  have e:(BitVec.ofInt 64 (n:Int) &&& BitVec.ofInt 64 65535).toNat = n % 65536 := by
    rw [BitVec.toNat_and]
    have e1:(BitVec.ofInt 64 (n:Int)).toNat = n := by simp [BitVec.toNat_ofInt]; omega
    have e2:(BitVec.ofInt 64 (65535:Int)).toNat = 2 ^ 16 - 1 := by decide
    rw [e1,e2,Nat.and_two_pow_sub_one_eq_mod]
  show IntKind.u64.wrap ((BitVec.ofInt 64 (n:Int) &&& BitVec.ofInt 64 65535).toNat:Int) = _
  rw [e,zI (by omega) (by omega)]
  omega
theorem JfK {n:Int} (h:0 ≤ n) (h2:n < 18446744073709551616) (j:Nat):0 ≤ n / 65536 ^ j ∧ n / 65536 ^ j < 18446744073709551616 := by
  have hp := YS j
  refine ⟨Int.ediv_nonneg h (by omega),Int.lt_of_le_of_lt (Int.ediv_le_self _ h) h2⟩
def fr (T:Nat) (x:Int):Nat → Int
  | 0 => 0
  | j + 1 => bif decide ((fr T x j + 2 ^ (T - 1 - j)) * (fr T x j + 2 ^ (T - 1 - j)) ≤ x) then fr T x j + 2 ^ (T - 1 - j) else fr T x j
theorem XD (k:Nat):(0:Int) < 2 ^ k := Int.pow_pos (by omega)
theorem JcR {a b:Nat} (h:a ≤ b):(2:Int) ^ a ≤ 2 ^ b := by
  obtain ⟨d,rfl⟩:∃ d,b = a + d := ⟨b - a,by omega⟩
  rw [Int.pow_add]
  have h1 := XD a
  have h2 := XD d
  have := Int.mul_le_mul_of_nonneg_left (show (1:Int) ≤ 2 ^ d by omega) (show (0:Int) ≤ 2 ^ a by omega)
  omega
theorem JLM (k:Nat):(2:Int) ^ (k + 1) = 2 * 2 ^ k := by rw [Int.pow_succ]; omega
theorem JXD {T:Nat} {x:Int} (h0:0 ≤ x) (h1:x < 2 ^ T * 2 ^ T):∀ j,j ≤ T → ∃ m:Int,0 ≤ m ∧ fr T x j = 2 ^ (T - j) * m ∧ fr T x j * fr T x j ≤ x ∧ x < (fr T x j + 2 ^ (T - j)) * (fr T x j + 2 ^ (T - j)) ∧ fr T x j + 2 ^ (T - j) ≤ 2 ^ T
  | 0,_ => ⟨0,by omega,by simp [fr],by simpa [fr] using h0,by simpa [fr] using h1,by simp [fr]⟩
  | j + 1,h => by
    obtain ⟨m,m0,e,l,u,t⟩ := JXD h0 h1 j (by omega)
    have ek:T - j = (T - (j + 1)) + 1 := by omega
    have ek':T - 1 - j = T - (j + 1) := by omega
    have hp := XD (T - (j + 1))
    rw [ek,JLM] at e u t
    unfold fr
    rw [ek']
    generalize (2:Int) ^ (T - (j + 1)) = p at *
    generalize fr T x j = r at *
    by_cases hc:(r + p) * (r + p) ≤ x
    · rw [decide_eq_true hc,cond_true]
      refine ⟨2 * m + 1,by omega,by rw [e]; grind,hc,?_,by omega⟩
      have e2:r + p + p = r + 2 * p := by omega
      rw [e2]; exact u
    · rw [decide_eq_false hc,cond_false]
      exact ⟨2 * m,by omega,by rw [e]; grind,l,by omega,by omega⟩
theorem Jh0 {T:Nat} {x:Int} (h0:0 ≤ x) (h1:x < 2 ^ T * 2 ^ T):0 ≤ fr T x T ∧ fr T x T * fr T x T ≤ x ∧ x < (fr T x T + 1) * (fr T x T + 1) ∧ fr T x T + 1 ≤ 2 ^ T := by
  obtain ⟨m,m0,e,l,u,t⟩ := JXD h0 h1 T (Nat.le_refl _)
  rw [Nat.sub_self] at e u t
  have e1:(2:Int) ^ 0 = 1 := rfl
  rw [e1] at e u t
  exact ⟨by omega,l,u,t⟩
theorem JhO {r:Int} {s:Nat} {m:Int} (hm:0 ≤ m) (hs:s < 64) (e:r = 2 ^ (s + 1) * m) (h:r + 2 ^ s < 18446744073709551616):Qx .or .u64 r (2 ^ s) = r + 2 ^ s := by
  obtain ⟨n,rfl⟩ := Int.eq_ofNat_of_zero_le hm
  have er:r = ((2 ^ (s + 1) * n:Nat):Int) := by rw [e]; push_cast; rfl
  have ep:(2:Int) ^ s = ((2 ^ s:Nat):Int) := by push_cast; rfl
  have hp:2 ^ s < 2 ^ (s + 1) := Nat.pow_lt_pow_right (by omega) (by omega)
  have hor := Nat.two_pow_add_eq_or_of_lt hp n
  rw [er,ep] at h ⊢
  generalize hq:2 ^ (s + 1) * n = q at *
  generalize hp2:2 ^ s = p at *
  have b1:q < 2 ^ 64 := by omega
  have b2:p < 2 ^ 64 := by omega
  have e1:(BitVec.ofInt 64 (q:Int)).toNat = q := by simp [BitVec.toNat_ofInt]; omega
  have e2:(BitVec.ofInt 64 (p:Int)).toNat = p := by simp [BitVec.toNat_ofInt]; omega
  have e3:(BitVec.ofInt 64 (q:Int) ||| BitVec.ofInt 64 (p:Int)).toNat = q + p := by rw [BitVec.toNat_or,e1,e2,hor]
  show IntKind.u64.wrap ((BitVec.ofInt 64 (q:Int) ||| BitVec.ofInt 64 (p:Int)).toNat:Int) = _
  rw [e3,zI (by omega) (by omega)]
  push_cast; rfl
theorem JYm {s:Nat} (hs:s < 64):JK .shl .u64 1 (s:Int) = 2 ^ s := by
  have hp:(2:Int) ^ s ≤ 2 ^ 63 := JcR (by omega)
  have hq := XD s
  have e:min ((s:Int)).toNat IntKind.u64.bits = s := by
    have:IntKind.u64.bits = 64 := rfl
    rw [this,Int.toNat_natCast]
    omega
  unfold JK
  simp only [e]
  rw [Int.one_mul,zI (by omega) (by omega)]
theorem Ji2 {T:Nat} {x:Int} (h0:0 ≤ x) (h1:x < 2 ^ T * 2 ^ T) {j:Nat} (hj:j < T) (hT:T ≤ 64):Qx .or .u64 (fr T x j) (JK .shl .u64 1 ((T - 1 - j:Nat):Int)) = fr T x j + 2 ^ (T - 1 - j) ∧ 0 ≤ fr T x j + 2 ^ (T - 1 - j) ∧ fr T x j + 2 ^ (T - 1 - j) < 18446744073709551616 := by
  obtain ⟨m,m0,e,l,u,t⟩ := JXD h0 h1 j (by omega)
  have ek:T - j = (T - 1 - j) + 1 := by omega
  have hp := XD (T - 1 - j)
  have hq:(2:Int) ^ T ≤ 2 ^ 64 := JcR hT
  have hr:0 ≤ fr T x j := by rw [e]; exact Int.mul_nonneg (Int.le_of_lt (XD _)) m0
  rw [ek] at e t
  rw [JLM] at t
  rw [JYm (by omega)]
  have hb:fr T x j + 2 ^ (T - 1 - j) < 18446744073709551616 := by omega
  exact ⟨JhO m0 (by omega) e hb,by omega,hb⟩
structure AdjOk (y1 y0 u32 u q r:Int):Prop where
  h1:2147483648 ≤ y1 ∧ y1 < 4294967296
  h0:0 ≤ y0 ∧ y0 < 4294967296
  hu:0 ≤ u ∧ u < 4294967296
  hn:0 ≤ u32 ∧ u32 < y1 * 4294967296 + y0
  eq:q * y1 + r = u32
  hr:0 ≤ r ∧ r < 4294967296
  ge:(u32 * 4294967296 + u) / (y1 * 4294967296 + y0) ≤ q
  q0:0 ≤ q
theorem AdjOk.ub {y1 y0 u32 u q r:Int} (h:AdjOk y1 y0 u32 u q r):q ≤ 4294967297 := by
  obtain ⟨h1,h0,hu,hn,eq,hr,ge,q0⟩ := h
  rcases Int.lt_or_le q 4294967298 with g | g
  · omega
  · have := Int.mul_le_mul_of_nonneg_right g (show 0 ≤ y1 by omega)
    omega
theorem JCK {y1 y0 u32 u:Int} (h1:2147483648 ≤ y1 ∧ y1 < 4294967296) (h0:0 ≤ y0 ∧ y0 < 4294967296) (hu:0 ≤ u ∧ u < 4294967296) (hn:0 ≤ u32 ∧ u32 < y1 * 4294967296 + y0) :
    0 ≤ (u32 * 4294967296 + u) / (y1 * 4294967296 + y0) ∧ (u32 * 4294967296 + u) / (y1 * 4294967296 + y0) < 4294967296 := by
  have hY:0 < y1 * 4294967296 + y0 := by omega
  refine ⟨Int.ediv_nonneg (by omega) (by omega),?_⟩
  apply Int.ediv_lt_of_lt_mul hY
  have := Int.mul_le_mul_of_nonneg_right (show u32 + 1 ≤ y1 * 4294967296 + y0 by omega) (show (0:Int) ≤ 4294967296 by omega)
  omega
theorem AdjOk.fit {y1 y0 u32 u q r:Int} (h:AdjOk y1 y0 u32 u q r):0 ≤ q * y0 ∧ q * y0 < 18446744073709551616 := by
  have hq := h.ub
  have := Int.mul_nonneg h.q0 h.h0.1
  have h2 := Int.mul_le_mul hq (show y0 ≤ 4294967295 by have := h.h0; omega) h.h0.1 (by omega)
  omega
theorem JEB {y1 y0 u32 u q r:Int} (h:AdjOk y1 y0 u32 u q r) (hc:q ≥ 4294967296 ∨ q * y0 > 4294967296 * r + u):(u32 * 4294967296 + u) / (y1 * 4294967296 + y0) ≤ q - 1 := by
  have hl := JCK h.h1 h.h0 h.hu h.hn
  obtain ⟨h1,h0,hu,hn,eq,hr,ge,q0⟩ := h
  rcases hc with hc | hc
  · omega
  · have hY:0 < y1 * 4294967296 + y0 := by omega
    have:(u32 * 4294967296 + u) / (y1 * 4294967296 + y0) < q := by
      apply Int.ediv_lt_of_lt_mul hY
      have e:q * (y1 * 4294967296 + y0) = q * y1 * 4294967296 + q * y0 := by grind
      rw [e]
      generalize q * y1 = s at *
      generalize q * y0 = t at *
      omega
    omega
theorem JKt {y1 y0 u32 u q r:Int} (h:AdjOk y1 y0 u32 u q r) (hc:q * y0 ≤ 4294967296 * r + u):q = (u32 * 4294967296 + u) / (y1 * 4294967296 + y0) := by
  obtain ⟨h1,h0,hu,hn,eq,hr,ge,q0⟩ := h
  have hY:0 < y1 * 4294967296 + y0 := by omega
  have:q ≤ (u32 * 4294967296 + u) / (y1 * 4294967296 + y0) := by
    apply Int.le_ediv_of_mul_le hY
    have e:q * (y1 * 4294967296 + y0) = q * y1 * 4294967296 + q * y0 := by grind
    rw [e]
    generalize q * y1 = s at *
    generalize q * y0 = t at *
    omega
  omega
theorem AdjOk.next {y1 y0 u32 u q r:Int} (h:AdjOk y1 y0 u32 u q r) (hc:q ≥ 4294967296 ∨ q * y0 > 4294967296 * r + u) (hr':r + y1 < 4294967296):AdjOk y1 y0 u32 u (q - 1) (r + y1) := by
  have hb := JEB h hc
  have hl := JCK h.h1 h.h0 h.hu h.hn
  have e:(q - 1) * y1 = q * y1 - y1 := by rw [Int.sub_mul,Int.one_mul]
  exact ⟨h.h1,h.h0,h.hu,h.hn,by rw [e]; have := h.eq; omega,by have := h.hr; have := h.h1; omega,hb,by omega⟩
theorem JUh {y1 y0 u32 u q r:Int} (h:AdjOk y1 y0 u32 u q r) (hc:q ≥ 4294967296 ∨ q * y0 > 4294967296 * r + u) (hr':r + y1 ≥ 4294967296):q - 1 = (u32 * 4294967296 + u) / (y1 * 4294967296 + y0) := by
  have hb := JEB h hc
  have hq := h.ub
  have hl := JCK h.h1 h.h0 h.hu h.hn
  obtain ⟨h1,h0,hu,hn,eq,hr,ge,q0⟩ := h
  have hY:0 < y1 * 4294967296 + y0 := by omega
  have:q - 1 ≤ (u32 * 4294967296 + u) / (y1 * 4294967296 + y0) := by
    apply Int.le_ediv_of_mul_le hY
    have e:(q - 1) * (y1 * 4294967296 + y0) = (q * y1 - y1) * 4294967296 + (q - 1) * y0 := by grind
    have h2 := Int.mul_le_mul (show q - 1 ≤ 4294967296 by omega) (show y0 ≤ 4294967295 by omega) h0.1 (by omega)
    rw [e]
    generalize q * y1 = s at *
    generalize (q - 1) * y0 = t at *
    omega
  omega
theorem Jb5 {y1 y0 u32 u:Int} (h1:2147483648 ≤ y1 ∧ y1 < 4294967296) (h0:0 ≤ y0 ∧ y0 < 4294967296) (hu:0 ≤ u ∧ u < 4294967296) (hn:0 ≤ u32 ∧ u32 < y1 * 4294967296 + y0):AdjOk y1 y0 u32 u (u32 / y1) (u32 - u32 / y1 * y1) := by
  have hY:0 < y1 * 4294967296 + y0 := by omega
  have hd := Int.mul_ediv_add_emod u32 y1
  have hm1 := Int.emod_nonneg u32 (show y1 ≠ 0 by omega)
  have hm2 := Int.emod_lt_of_pos u32 (show 0 < y1 by omega)
  have hc:y1 * (u32 / y1) = u32 / y1 * y1 := Int.mul_comm _ _
  rw [hc] at hd
  refine ⟨h1,h0,hu,hn,by omega,by omega,?_,Int.ediv_nonneg hn.1 (by omega)⟩
  have:(u32 * 4294967296 + u) / (y1 * 4294967296 + y0) < u32 / y1 + 1 := by
    apply Int.ediv_lt_of_lt_mul hY
    have e:(u32 / y1 + 1) * (y1 * 4294967296 + y0) = (u32 / y1 * y1) * 4294967296 + y1 * 4294967296 + (u32 / y1 + 1) * y0 := by grind
    have := Int.mul_nonneg (show 0 ≤ u32 / y1 + 1 by have := Int.ediv_nonneg hn.1 (show 0 ≤ y1 by omega); omega) h0.1
    rw [e]
    generalize u32 / y1 * y1 = s at *
    generalize (u32 / y1 + 1) * y0 = t at *
    omega
  omega
theorem JJG {Y u32 u1 u0 q1 r1 q0:Int} (hY:0 < Y) (hn:0 ≤ u32) (h1:0 ≤ u1 ∧ u1 < 4294967296) (h0:0 ≤ u0 ∧ u0 < 4294967296) (e1:q1 = (u32 * 4294967296 + u1) / Y) (er:r1 = u32 * 4294967296 + u1 - q1 * Y) (e0:q0 = (r1 * 4294967296 + u0) / Y) :
    q1 * 4294967296 + q0 = ((u32 * 4294967296 + u1) * 4294967296 + u0) / Y ∧ r1 * 4294967296 + u0 - q0 * Y = ((u32 * 4294967296 + u1) * 4294967296 + u0) % Y ∧ 0 ≤ r1 ∧ r1 < Y := by
  have d1 := Int.mul_ediv_add_emod (u32 * 4294967296 + u1) Y
  have m1 := Int.emod_nonneg (u32 * 4294967296 + u1) (show Y ≠ 0 by omega)
  have m2 := Int.emod_lt_of_pos (u32 * 4294967296 + u1) hY
  have d0 := Int.mul_ediv_add_emod (r1 * 4294967296 + u0) Y
  have m3 := Int.emod_nonneg (r1 * 4294967296 + u0) (show Y ≠ 0 by omega)
  have m4 := Int.emod_lt_of_pos (r1 * 4294967296 + u0) hY
  rw [← e1] at d1
  rw [← e0] at d0
  have c1:Y * q1 = q1 * Y := Int.mul_comm _ _
  have c0:Y * q0 = q0 * Y := Int.mul_comm _ _
  rw [c1] at d1
  rw [c0] at d0
  have e:(u32 * 4294967296 + u1) * 4294967296 + u0 = (r1 * 4294967296 + u0 - q0 * Y) + Y * (q1 * 4294967296 + q0) := by
    have:Y * (q1 * 4294967296 + q0) = q1 * Y * 4294967296 + q0 * Y := by grind
    rw [this]
    generalize q1 * Y = s at *
    generalize q0 * Y = t at *
    omega
  have hlt:0 ≤ r1 * 4294967296 + u0 - q0 * Y ∧ r1 * 4294967296 + u0 - q0 * Y < Y := by omega
  refine ⟨?_,?_,by omega,by omega⟩
  · rw [e,Int.add_mul_ediv_left _ _ (show Y ≠ 0 by omega),Int.ediv_eq_zero_of_lt hlt.1 hlt.2]
    omega
  · rw [e,Int.add_mul_emod_self_left,Int.emod_eq_of_lt hlt.1 hlt.2]
def qQ:Tpl := ⟨[.one (.int .u64)],[],0⟩
section
variable (a:Int)
def Qa:Int:=
 bif decide (a ≥ 4294967296) then JK BinOp.shr IntKind.u64 a 32 else a
def Jj:Int:=
 bif decide (Qa a ≥ 65536) then JK BinOp.shr IntKind.u64 (Qa a) 16 else Qa a
def JJr:Int:=
 bif decide (a ≥ 4294967296) then 32 else 0
def Wf:Int:=
 bif decide (Qa a ≥ 65536) then IntKind.i64.wrap (JJr a + 16) else JJr a
def JDJ:Int:=
 IntKind.i64.wrap ((bif decide (Jj a ≥ 256) then IntKind.i64.wrap (Wf a + 8) else Wf a) + IntKind.i64.wrap (Wa (ByteArray.mk (([0,1,2,2,3,3,3,3,4,4,4,4,4,4,4,4,5,5,5,5,5,5,5,5,5,5,5,5,5,5,5,5,6,6,6,6,6,6,6,6,6,6,6,6,6,6,6,6,6,6,6,6,6,6,6,6,6,6,6,6,6,6,6,6].append [7,7,7,7,7,7,7,7,7,7,7,7,7,7,7,7,7,7,7,7,7,7,7,7,7,7,7,7,7,7,7,7,7,7,7,7,7,7,7,7,7,7,7,7,7,7,7,7,7,7,7,7,7,7,7,7,7,7,7,7,7,7,7,7]).append ([8,8,8,8,8,8,8,8,8,8,8,8,8,8,8,8,8,8,8,8,8,8,8,8,8,8,8,8,8,8,8,8,8,8,8,8,8,8,8,8,8,8,8,8,8,8,8,8,8,8,8,8,8,8,8,8,8,8,8,8,8,8,8,8].append [8,8,8,8,8,8,8,8,8,8,8,8,8,8,8,8,8,8,8,8,8,8,8,8,8,8,8,8,8,8,8,8,8,8,8,8,8,8,8,8,8,8,8,8,8,8,8,8,8,8,8,8,8,8,8,8,8,8,8,8,8,8,8,8])).toArray) (IntKind.u8.wrap (bif decide (Jj a ≥ 256) then JK BinOp.shr IntKind.u64 (Jj a) 8 else Jj a)).toNat))
def Zs:Int:=
 IntKind.u8.wrap (bif decide (Jj a ≥ 256) then JK BinOp.shr IntKind.u64 (Jj a) 8 else Jj a)
def jP:List Prop:=
 [0 ≤ Zs a,(Zs a).toNat < 256]
end
def JhD (T:ByteArray):Bool := (List.range 256).all fun k => decide (0 ≤ Wa T k ∧ Wa T k ≤ 8) && (Nat.beq k 0 && decide (Wa T k = 0) || decide (1 ≤ Wa T k ∧ 2 ^ ((Wa T k).toNat - 1) ≤ k ∧ k < 2 ^ (Wa T k).toNat))
theorem JX0:∃ T,JhD T = true ∧ ∀ a,JDJ a = IntKind.i64.wrap ((bif decide (Jj a ≥ 256) then IntKind.i64.wrap (Wf a + 8) else Wf a) + IntKind.i64.wrap (Wa T (Zs a).toNat)) := by
  refine ⟨_,?_,fun a => rfl⟩
  kernel_rfl
theorem JdT (x:Int) (k:Nat) (h:0 ≤ x) (hk:k < 64):JK .shr .u64 x (k:Int) = x / 2 ^ k := by
  have e:min ((k:Int)).toNat IntKind.u64.bits = k := by
    have:IntKind.u64.bits = 64 := rfl
    rw [this,Int.toNat_natCast]
    omega
  unfold JK
  simp only [e]
  exact Int.fdiv_eq_ediv_of_nonneg _ (Int.le_of_lt (XD k))
theorem JgA {a:Int} (h0:0 ≤ a) (h1:a < 18446744073709551616):Zs a = (bif decide (Jj a ≥ 256) then Jj a / 256 else Jj a) ∧ 0 ≤ (bif decide (Jj a ≥ 256) then Jj a / 256 else Jj a) ∧ (bif decide (Jj a ≥ 256) then Jj a / 256 else Jj a) < 256 := by
  have e0:Qa a = bif decide (a ≥ 4294967296) then a / 4294967296 else a := by
    unfold Qa
    have := JdT a 32 h0 (by omega)
    rw [show ((32:Nat):Int) = 32 from rfl] at this
    rw [this]
    rfl
  have r0:0 ≤ Qa a ∧ Qa a < 4294967296 := by
    rw [e0]
    by_cases h:a ≥ 4294967296
    · rw [decide_eq_true h,cond_true]; omega
    · rw [decide_eq_false h,cond_false]; omega
  have e1:Jj a = bif decide (Qa a ≥ 65536) then Qa a / 65536 else Qa a := by
    unfold Jj
    have := JdT (Qa a) 16 r0.1 (by omega)
    rw [show ((16:Nat):Int) = 16 from rfl] at this
    rw [this]
    rfl
  have r1:0 ≤ Jj a ∧ Jj a < 65536 := by
    rw [e1]
    by_cases h:Qa a ≥ 65536
    · rw [decide_eq_true h,cond_true]; omega
    · rw [decide_eq_false h,cond_false]; omega
  have r2:0 ≤ (bif decide (Jj a ≥ 256) then Jj a / 256 else Jj a) ∧ (bif decide (Jj a ≥ 256) then Jj a / 256 else Jj a) < 256 := by
    by_cases h:Jj a ≥ 256
    · rw [decide_eq_true h,cond_true]; omega
    · rw [decide_eq_false h,cond_false]; omega
  refine ⟨?_,r2⟩
  unfold Zs
  have := JdT (Jj a) 8 r1.1 (by omega)
  rw [show ((8:Nat):Int) = 8 from rfl] at this
  rw [this,show (2:Int) ^ 8 = 256 from rfl]
  generalize (bif decide (Jj a ≥ 256) then Jj a / 256 else Jj a) = z at *
  unfold IntKind.wrap
  simp only [IntKind.bits,IntKind.signed]
  simp
  omega
theorem Jfa {T:ByteArray} (h:JhD T = true) {k:Nat} (hk:k < 256) (h0:0 < k):∃ t:Nat,Wa T k = t ∧ 1 ≤ t ∧ t ≤ 8 ∧ 2 ^ (t - 1) ≤ k ∧ k < 2 ^ t := by
  unfold JhD at h
  rw [List.all_eq_true] at h
  have := h k (List.mem_range.2 hk)
  have hb:Nat.beq k 0 = false := by
    cases hh:Nat.beq k 0
    · rfl
    · have := Nat.eq_of_beq_eq_true hh; omega
  simp only [hb,Bool.false_and,Bool.false_or,Bool.and_eq_true,decide_eq_true_eq] at this
  obtain ⟨⟨p1,p2⟩,p3,p4,p5⟩ := this
  refine ⟨(Wa T k).toNat,by omega,by omega,by omega,p4,p5⟩
theorem JfH {a z:Int} {b t:Nat} (hz:z * 2 ^ b ≤ a ∧ a < (z + 1) * 2 ^ b) (ht:1 ≤ t) (h1:(2:Int) ^ (t - 1) ≤ z) (h2:z < 2 ^ t):(2:Int) ^ (b + t - 1) ≤ a ∧ a < 2 ^ (b + t) := by
  have hb := XD b
  have e1:(2:Int) ^ (b + t - 1) = 2 ^ (t - 1) * 2 ^ b := by rw [← Int.pow_add]; congr 1; omega
  have e2:(2:Int) ^ (b + t) = 2 ^ t * 2 ^ b := by rw [← Int.pow_add]; congr 1; omega
  rw [e1,e2]
  have := Int.mul_le_mul_of_nonneg_right h1 (Int.le_of_lt hb)
  have := Int.mul_le_mul_of_nonneg_right (show z + 1 ≤ 2 ^ t by omega) (Int.le_of_lt hb)
  omega
theorem Jas {a:Int} (h0:0 < a) (h1:a < 18446744073709551616):∃ l:Nat,JDJ a = l ∧ 1 ≤ l ∧ l ≤ 64 ∧ (2:Int) ^ (l - 1) ≤ a ∧ a < 2 ^ l := by
  obtain ⟨T,hT,hf⟩ := JX0
  obtain ⟨e4,r0,r1⟩ := JgA (Int.le_of_lt h0) h1
  have key:∃ b:Nat,b ≤ 56 ∧ (bif decide (Jj a ≥ 256) then IntKind.i64.wrap (Wf a + 8) else Wf a) = b ∧ Zs a * 2 ^ b ≤ a ∧ a < (Zs a + 1) * 2 ^ b ∧ 0 < Zs a := by
    have e0:Qa a = bif decide (a ≥ 4294967296) then a / 4294967296 else a := by
      unfold Qa
      have := JdT a 32 (by omega) (by omega)
      rw [show ((32:Nat):Int) = 32 from rfl] at this
      rw [this]; rfl
    have e1:0 ≤ Qa a → Jj a = bif decide (Qa a ≥ 65536) then Qa a / 65536 else Qa a := fun h => by
      unfold Jj
      have := JdT (Qa a) 16 h (by omega)
      rw [show ((16:Nat):Int) = 16 from rfl] at this
      rw [this]; rfl
    have p0:(2:Int) ^ 0 = 1 := rfl
    have p8:(2:Int) ^ 8 = 256 := rfl
    have p16:(2:Int) ^ 16 = 65536 := rfl
    have p24:(2:Int) ^ 24 = 16777216 := rfl
    have p32:(2:Int) ^ 32 = 4294967296 := rfl
    have p40:(2:Int) ^ 40 = 1099511627776 := rfl
    have p48:(2:Int) ^ 48 = 281474976710656 := rfl
    have p56:(2:Int) ^ 56 = 72057594037927936 := rfl
    unfold Wf JJr
    by_cases c0:a ≥ 4294967296
    · rw [decide_eq_true c0,cond_true] at e0
      have e1' := e1 (by omega)
      rw [decide_eq_true c0,cond_true]
      by_cases c1:Qa a ≥ 65536
      · rw [decide_eq_true c1,cond_true] at e1'
        rw [decide_eq_true c1,cond_true]
        by_cases c2:Jj a ≥ 256
        · rw [decide_eq_true c2,cond_true] at e4
          rw [decide_eq_true c2,cond_true]
          exact ⟨56,by omega,rfl,by rw [p56]; omega,by rw [p56]; omega,by omega⟩
        · rw [decide_eq_false c2,cond_false] at e4
          rw [decide_eq_false c2,cond_false]
          exact ⟨48,by omega,rfl,by rw [p48]; omega,by rw [p48]; omega,by omega⟩
      · rw [decide_eq_false c1,cond_false] at e1'
        rw [decide_eq_false c1,cond_false]
        by_cases c2:Jj a ≥ 256
        · rw [decide_eq_true c2,cond_true] at e4
          rw [decide_eq_true c2,cond_true]
          exact ⟨40,by omega,rfl,by rw [p40]; omega,by rw [p40]; omega,by omega⟩
        · rw [decide_eq_false c2,cond_false] at e4
          rw [decide_eq_false c2,cond_false]
          exact ⟨32,by omega,rfl,by rw [p32]; omega,by rw [p32]; omega,by omega⟩
    · rw [decide_eq_false c0,cond_false] at e0
      have e1' := e1 (by omega)
      rw [decide_eq_false c0,cond_false]
      by_cases c1:Qa a ≥ 65536
      · rw [decide_eq_true c1,cond_true] at e1'
        rw [decide_eq_true c1,cond_true]
        by_cases c2:Jj a ≥ 256
        · rw [decide_eq_true c2,cond_true] at e4
          rw [decide_eq_true c2,cond_true]
          exact ⟨24,by omega,rfl,by rw [p24]; omega,by rw [p24]; omega,by omega⟩
        · rw [decide_eq_false c2,cond_false] at e4
          rw [decide_eq_false c2,cond_false]
          exact ⟨16,by omega,rfl,by rw [p16]; omega,by rw [p16]; omega,by omega⟩
      · rw [decide_eq_false c1,cond_false] at e1'
        rw [decide_eq_false c1,cond_false]
        by_cases c2:Jj a ≥ 256
        · rw [decide_eq_true c2,cond_true] at e4
          rw [decide_eq_true c2,cond_true]
          exact ⟨8,by omega,rfl,by rw [p8]; omega,by rw [p8]; omega,by omega⟩
        · rw [decide_eq_false c2,cond_false] at e4
          rw [decide_eq_false c2,cond_false]
          exact ⟨0,by omega,rfl,by rw [p0]; omega,by rw [p0]; omega,by omega⟩
  obtain ⟨b,hb,eb,z1,z2,z0⟩ := key
  have hz:Zs a < 256 := by omega
  obtain ⟨t,et,t1,t2,t3,t4⟩ := Jfa hT (k := (Zs a).toNat) (by omega) (by omega)
  have t3':(2:Int) ^ (t - 1) ≤ Zs a := by
    have:((2 ^ (t - 1):Nat):Int) ≤ ((Zs a).toNat:Int) := by exact_mod_cast t3
    push_cast at this
    omega
  have t4':Zs a < (2:Int) ^ t := by
    have:((Zs a).toNat:Int) < ((2 ^ t:Nat):Int) := by exact_mod_cast t4
    push_cast at this
    omega
  obtain ⟨s1,s2⟩ := JfH ⟨z1,z2⟩ t1 t3' t4'
  refine ⟨b + t,?_,by omega,by omega,s1,s2⟩
  rw [hf,eb,et,Wu (x := (t:Int)) (by omega) (by omega),Wu (by omega) (by omega)]
  omega
theorem JYG {a:Int} (hW:∀ q ∈ ([0 ≤ a,a < 18446744073709551616]:List Prop),q):∀ q ∈ (jP a),q := by
  simp only [awc,awn,and_true] at hW
  intro q hq
  unfold jP at hq
  simp only [List.mem_cons,List.not_mem_nil,or_false] at hq
  obtain ⟨h0,h1⟩ := hW
  obtain ⟨e0,r0,r1⟩ := JgA h0 h1
  rcases hq with rfl | rfl
  · rw [e0]; exact r0
  · rw [e0]; omega
theorem JVd (a:Int) (hNeeds:∀ pN ∈ (jP a),pN):Runs (Jl (JE JG7) L0 177) (qQ.args [.i a]) (qQ.memo [.i a] []) qQ.n (SV.one (Ci (JDJ a))) ([]) :=
  Runs.of1 (ps := (jP a)) (by kernel_rfl) hNeeds
def JHE:List Pm → Qs → Option CRes
  | [.i a],[] => some ⟨SV.one (Ci (JDJ a)),
 [],[0 ≤ a,a < 18446744073709551616],[],36⟩
  | _,_ => none
theorem Jeb:Qf Tryz.prog 177 (JP qQ JHE) := by
  refine JI (JF JBh 177) fun ps ls r hr hn _ => ?_
  unfold JHE at hr
  split at hr
  · cases hr; exact ⟨_,JVd _ (JYG (by exact hn)),fun _ => rfl⟩
  · cases hr
def JPs:List (Nat × JU) := (177,JP qQ JHE) :: JG7
theorem JHf:Known Tryz.prog (JE JPs) L0 := J4 JBh Jeb
def JL6:Tpl := ⟨[.one (.int .u64)],[],0⟩
def ZC (a:Int):Int :=
 IntKind.i64.wrap (64 - JDJ a)
def JDP (a:Int):List Prop :=
 [0 ≤ a,a < 18446744073709551616]
theorem JfX {a:Int} (hW:∀ q ∈ ([0 ≤ a,a < 18446744073709551616]:List Prop),q):∀ q ∈ (JDP a),q := by
  simp only [awc,awn,and_true] at hW
  intro q hq
  unfold JDP at hq
  simp only [List.mem_cons,List.not_mem_nil,or_false] at hq
  obtain ⟨h1,h2⟩ := hW
  rcases hq with rfl | rfl
  · exact h1
  · exact h2
theorem JfG (a:Int) (hNeeds:∀ pN ∈ (JDP a),pN):Runs (Jl (JE JPs) L0 175) (JL6.args [.i a]) (JL6.memo [.i a] []) JL6.n (SV.one (Ci (ZC a))) ([]) :=
  Runs.of1 (ps := (JDP a)) (by kernel_rfl) hNeeds
def JXG:List Pm → Qs → Option CRes
  | [.i a],[] => some ⟨SV.one (Ci (ZC a)),
 [],[0 ≤ a,a < 18446744073709551616],[],41⟩
  | _,_ => none
theorem JiE:Qf Tryz.prog 175 (JP JL6 JXG) := by
  refine JI (JF JHf 175) fun ps ls r hr hn _ => ?_
  unfold JXG at hr
  split at hr
  · cases hr; exact ⟨_,JfG _ (JfX (by exact hn)),fun _ => rfl⟩
  · cases hr
def JRJ:List (Nat × JU) := (175,JP JL6 JXG) :: JPs
theorem JV0:Known Tryz.prog (JE JRJ) L0 := J4 JHf JiE
def d1F (Yn u32 y1 y0 u u0 s:Int):Fam (Int × Int) Unit where
  k := 20
  E p := [(16,ent 1000000000 (.one (U p.2))),(15,ent 1000000001 (.one (U p.1))),(14,ent 90 (.one (U u0))),(13,ent 87 (.one (U u))),(11,ent 80 (.one (U u32))),(10,ent 71 (.one (U y0))),(9,ent 68 (.one (U y1))),(2,ent 65 (.one (U Yn))),(8,ent 61 (.one (U s)))]
  M _ := []
  out _ := .leaf (.exit 0) [(15,ent 102 (.one (U ((u32 * 4294967296 + u) / (y1 * 4294967296 + y0))))),(14,ent 90 (.one (U u0))),(13,ent 87 (.one (U u))),(11,ent 80 (.one (U u32))),(10,ent 71 (.one (U y0))),(9,ent 68 (.one (U y1))),(2,ent 65 (.one (U Yn))),(8,ent 61 (.one (U s)))] []
  fin _ := ()
  next p _ := (p.1 - 1,p.2 + y1)
  J p := AdjOk y1 y0 u32 u p.1 p.2
  μ p := (4294967296 - p.2).toNat
section
variable (Yn u32 y1 y0 u u0 s:Int) (p:Int × Int)
def JZf:Int:=
 IntKind.u64.wrap (IntKind.u64.wrap (4294967296 * p.snd) + u)
def Jc8:Int:=
 IntKind.u64.wrap (p.fst - 1)
def JgD:Int:=
 ((d1F Yn u32 y1 y0 u u0 s).next p 1).fst
def Jgh:Int:=
 ((d1F Yn u32 y1 y0 u u0 s).next p 1).snd
def JKE:List Prop:=
 [(decide (p.fst ≥ 4294967296) || decide (IntKind.u64.wrap (p.fst * y0) > JZf u p)) = true → (decide (IntKind.u64.wrap (p.snd + y1) ≥ 4294967296) = true → (u32 * 4294967296 + u) / (y1 * 4294967296 + y0) = Jc8 p) ∧ (decide (IntKind.u64.wrap (p.snd + y1) ≥ 4294967296) = false → AdjOk y1 y0 u32 u (JgD Yn u32 y1 y0 u u0 s p) (Jgh Yn u32 y1 y0 u u0 s p) ∧ (d1F Yn u32 y1 y0 u u0 s).μ ((d1F Yn u32 y1 y0 u u0 s).next p 1) < (d1F Yn u32 y1 y0 u u0 s).μ p ∧ (d1F Yn u32 y1 y0 u u0 s).fin ((d1F Yn u32 y1 y0 u u0 s).next p 1) = (d1F Yn u32 y1 y0 u u0 s).fin p ∧ Jgh Yn u32 y1 y0 u u0 s p = IntKind.u64.wrap (p.snd + y1) ∧ JgD Yn u32 y1 y0 u u0 s p = Jc8 p),(decide (p.fst ≥ 4294967296) || decide (IntKind.u64.wrap (p.fst * y0) > JZf u p)) = false → (u32 * 4294967296 + u) / (y1 * 4294967296 + y0) = p.fst]
end
theorem JcG (Yn u32 y1 y0 u u0 s:Int) (p:Int × Int) (hNeeds:∀ pN ∈ (JKE Yn u32 y1 y0 u u0 s p),pN):Q3 (XF (d1F Yn u32 y1 y0 u u0 s) (QR Tryz.prog (JE JRJ) L0 170 0) 101 p) :=
  Q3.of (ps := (JKE Yn u32 y1 y0 u u0 s p)) (by kernel_rfl) (by kernel_rfl) hNeeds
theorem JhQ {p q:Prop} (hp:p) (hq:q):∀ x ∈ [p,q],x := by
  intro x hx
  rcases List.mem_cons.1 hx with rfl | hx
  · exact hp
  rcases List.mem_cons.1 hx with rfl | hx
  · exact hq
  · cases hx
theorem JaH (Yn u32 y1 y0 u u0 s:Int):Z0 (d1F Yn u32 y1 y0 u u0 s) (QR Tryz.prog (JE JRJ) L0 170 0) 101 := by
  intro p hJ
  have hJ:AdjOk y1 y0 u32 u p.1 p.2 := hJ
  have hf := hJ.fit
  have hq := hJ.ub
  have hr := hJ.hr
  have h1 := hJ.h1
  have hu := hJ.hu
  have q0 := hJ.q0
  have e0:JZf u p = 4294967296 * p.2 + u := by
    unfold JZf
    rw [zI (x := 4294967296 * p.2) (by omega) (by omega),zI (by omega) (by omega)]
  have e1:1 ≤ p.1 → Jc8 p = p.1 - 1 := fun h => zI (by omega) (by omega)
  have e2:IntKind.u64.wrap (p.1 * y0) = p.1 * y0 := zI hf.1 hf.2
  have e3:IntKind.u64.wrap (p.2 + y1) = p.2 + y1 := zI (by omega) (by omega)
  have hl := JCK h1 hJ.h0 hu hJ.hn
  refine JcG Yn u32 y1 y0 u u0 s p ?_
  unfold JKE
  rw [e0,e2,e3]
  refine JhQ ?_ ?_
  · intro hc
    rw [Bool.or_eq_true,decide_eq_true_eq,decide_eq_true_eq] at hc
    have hb := JEB hJ hc
    refine ⟨fun h => ?_,fun h => ?_⟩
    · rw [decide_eq_true_eq] at h
      rw [e1 (by omega)]
      exact (JUh hJ hc h).symm
    · rw [decide_eq_false_iff_not] at h
      refine ⟨hJ.next hc (by omega),?_,rfl,rfl,?_⟩
      · show (4294967296 - (p.2 + y1)).toNat < (4294967296 - p.2).toNat
        omega
      · rw [e1 (by omega)]; rfl
  · intro hc
    rw [Bool.or_eq_false_iff,decide_eq_false_iff_not,decide_eq_false_iff_not] at hc
    exact (JKt hJ (by omega)).symm
def d1L:Q5 := fun env mem m => match jl env 2,jl env 11,jl env 9,jl env 10,jl env 13,jl env 14,jl env 8,jl env 15,jl env 16 with
  | some Yn,some u32,some y1,some y0,some u,some u0,some s,some q,some r => qS (d1F Yn u32 y1 y0 u u0 s) 101 (fun _ _ => some (q,r)) env mem m
  | _,_,_,_,_,_,_,_,_ => none
def JfZ:FuncId → Nat → Option Q5 := kR L0 170 17 d1L
theorem JNm:Known Tryz.prog (JE JRJ) JfZ := by
  refine Qc 0 JV0 (by kernel_rfl) (Z5 fun env mem m x h => ?_)
  unfold d1L at h
  have hlen:(QC Tryz.prog 170).length = 2 := by kernel_rfl
  split at h
  · exact ⟨_,XX (Qg XB JV0 (by omega)) (JaH _ _ _ _ _ _ _),h⟩
  · cases h
def d2F (Yn u32 y1 y0 u u0 s:Int):Fam (Int × Int) Unit where
  k := 20
  E p := [(16,ent 1000000000 (.one (U p.2))),(18,ent 1000000001 (.one (U p.1))),(17,ent 129 (.one (U u32))),(15,ent 102 (.one (U u0))),(14,ent 90 (.one (U u))),(10,ent 71 (.one (U y0))),(9,ent 68 (.one (U y1))),(2,ent 65 (.one (U Yn))),(8,ent 61 (.one (U s)))]
  M _ := []
  out _ := .leaf (.exit 2) [(18,ent 141 (.one (U ((u32 * 4294967296 + u) / (y1 * 4294967296 + y0))))),(17,ent 129 (.one (U u32))),(15,ent 102 (.one (U u0))),(14,ent 90 (.one (U u))),(2,ent 65 (.one (U Yn))),(8,ent 61 (.one (U s)))] []
  fin _ := ()
  next p _ := (p.1 - 1,p.2 + y1)
  J p := AdjOk y1 y0 u32 u p.1 p.2
  μ p := (4294967296 - p.2).toNat
section
variable (Yn u32 y1 y0 u u0 s:Int) (p:Int × Int)
def JYb:Int:=
 IntKind.u64.wrap (IntKind.u64.wrap (4294967296 * p.snd) + u)
def JcJ:Int:=
 IntKind.u64.wrap (p.fst - 1)
def JgH:Int:=
 ((d2F Yn u32 y1 y0 u u0 s).next p 1).fst
def JgV:Int:=
 ((d2F Yn u32 y1 y0 u u0 s).next p 1).snd
def JK2:List Prop:=
 [(decide (p.fst ≥ 4294967296) || decide (IntKind.u64.wrap (p.fst * y0) > JYb u p)) = true → (decide (IntKind.u64.wrap (p.snd + y1) ≥ 4294967296) = true → (u32 * 4294967296 + u) / (y1 * 4294967296 + y0) = JcJ p) ∧ (decide (IntKind.u64.wrap (p.snd + y1) ≥ 4294967296) = false → AdjOk y1 y0 u32 u (JgH Yn u32 y1 y0 u u0 s p) (JgV Yn u32 y1 y0 u u0 s p) ∧ (d2F Yn u32 y1 y0 u u0 s).μ ((d2F Yn u32 y1 y0 u u0 s).next p 1) < (d2F Yn u32 y1 y0 u u0 s).μ p ∧ (d2F Yn u32 y1 y0 u u0 s).fin ((d2F Yn u32 y1 y0 u u0 s).next p 1) = (d2F Yn u32 y1 y0 u u0 s).fin p ∧ JgV Yn u32 y1 y0 u u0 s p = IntKind.u64.wrap (p.snd + y1) ∧ JgH Yn u32 y1 y0 u u0 s p = JcJ p),(decide (p.fst ≥ 4294967296) || decide (IntKind.u64.wrap (p.fst * y0) > JYb u p)) = false → (u32 * 4294967296 + u) / (y1 * 4294967296 + y0) = p.fst]
end
theorem Jc6 (Yn u32 y1 y0 u u0 s:Int) (p:Int × Int) (hNeeds:∀ pN ∈ (JK2 Yn u32 y1 y0 u u0 s p),pN):Q3 (XF (d2F Yn u32 y1 y0 u u0 s) (QR Tryz.prog (JE JRJ) JfZ 170 1) 140 p) :=
  Q3.of (ps := (JK2 Yn u32 y1 y0 u u0 s p)) (by kernel_rfl) (by kernel_rfl) hNeeds
theorem JbF (Yn u32 y1 y0 u u0 s:Int):Z0 (d2F Yn u32 y1 y0 u u0 s) (QR Tryz.prog (JE JRJ) JfZ 170 1) 140 := by
  intro p hJ
  have hJ:AdjOk y1 y0 u32 u p.1 p.2 := hJ
  have hf := hJ.fit
  have hq := hJ.ub
  have hr := hJ.hr
  have h1 := hJ.h1
  have hu := hJ.hu
  have q0 := hJ.q0
  have e0:JYb u p = 4294967296 * p.2 + u := by
    unfold JYb
    rw [zI (x := 4294967296 * p.2) (by omega) (by omega),zI (by omega) (by omega)]
  have e1:1 ≤ p.1 → JcJ p = p.1 - 1 := fun h => zI (by omega) (by omega)
  have e2:IntKind.u64.wrap (p.1 * y0) = p.1 * y0 := zI hf.1 hf.2
  have e3:IntKind.u64.wrap (p.2 + y1) = p.2 + y1 := zI (by omega) (by omega)
  have hl := JCK h1 hJ.h0 hu hJ.hn
  refine Jc6 Yn u32 y1 y0 u u0 s p ?_
  unfold JK2
  rw [e0,e2,e3]
  refine JhQ ?_ ?_
  · intro hc
    rw [Bool.or_eq_true,decide_eq_true_eq,decide_eq_true_eq] at hc
    have hb := JEB hJ hc
    refine ⟨fun h => ?_,fun h => ?_⟩
    · rw [decide_eq_true_eq] at h
      rw [e1 (by omega)]
      exact (JUh hJ hc h).symm
    · rw [decide_eq_false_iff_not] at h
      refine ⟨hJ.next hc (by omega),?_,rfl,rfl,?_⟩
      · show (4294967296 - (p.2 + y1)).toNat < (4294967296 - p.2).toNat
        omega
      · rw [e1 (by omega)]; rfl
  · intro hc
    rw [Bool.or_eq_false_iff,decide_eq_false_iff_not,decide_eq_false_iff_not] at hc
    exact (JKt hJ (by omega)).symm
def d2L:Q5 := fun env mem m => match jl env 2,jl env 17,jl env 9,jl env 10,jl env 14,jl env 15,jl env 8,jl env 18,jl env 16 with
  | some Yn,some u32,some y1,some y0,some u,some u0,some s,some q,some r => qS (d2F Yn u32 y1 y0 u u0 s) 140 (fun _ _ => some (q,r)) env mem m
  | _,_,_,_,_,_,_,_,_ => none
def Jaw:FuncId → Nat → Option Q5 := kR JfZ 170 24 d2L
theorem JNX:Known Tryz.prog (JE JRJ) Jaw := by
  refine Qc 1 JNm (by kernel_rfl) (Z5 fun env mem m x h => ?_)
  unfold d2L at h
  have hlen:(QC Tryz.prog 170).length = 2 := by kernel_rfl
  split at h
  · exact ⟨_,XX (Qg XB JNm (by omega)) (JbF _ _ _ _ _ _ _),h⟩
  · cases h
theorem JgB (x:Int) (k:Nat) (h:0 ≤ x) (hk:k ≤ 64):JK .shr .u64 x (k:Int) = x / 2 ^ k := by
  have e:min ((k:Int)).toNat IntKind.u64.bits = k := by
    have:IntKind.u64.bits = 64 := rfl
    rw [this,Int.toNat_natCast]
    omega
  unfold JK
  simp only [e]
  exact Int.fdiv_eq_ediv_of_nonneg _ (Int.le_of_lt (XD k))
theorem JhM (x:Int) (k:Nat) (hk:k ≤ 64):JK .shl .u64 x (k:Int) = (x * 2 ^ k) % 18446744073709551616 := by
  have e:min ((k:Int)).toNat IntKind.u64.bits = k := by
    have:IntKind.u64.bits = 64 := rfl
    rw [this,Int.toNat_natCast]
    omega
  unfold JK
  simp only [e]
  exact kC _
theorem orE {x y:Int} {s:Nat} {m:Int} (hm:0 ≤ m) (e:x = 2 ^ s * m) (hy:0 ≤ y ∧ y < 2 ^ s) (h:x + y < 18446744073709551616):Qx .or .u64 x y = x + y := by
  obtain ⟨n,rfl⟩ := Int.eq_ofNat_of_zero_le hm
  obtain ⟨z,rfl⟩ := Int.eq_ofNat_of_zero_le hy.1
  have er:x = ((2 ^ s * n:Nat):Int) := by rw [e]; push_cast; rfl
  have hz:z < 2 ^ s := by
    have:((z:Nat):Int) < ((2 ^ s:Nat):Int) := by push_cast; exact hy.2
    exact_mod_cast this
  have hor := Nat.two_pow_add_eq_or_of_lt hz n
  rw [er] at h ⊢
  generalize hq:2 ^ s * n = q at *
  have b1:q < 2 ^ 64 := by omega
  have b2:z < 2 ^ 64 := by omega
  have e1:(BitVec.ofInt 64 (q:Int)).toNat = q := by simp [BitVec.toNat_ofInt]; omega
  have e2:(BitVec.ofInt 64 (z:Int)).toNat = z := by simp [BitVec.toNat_ofInt]; omega
  have e3:(BitVec.ofInt 64 (q:Int) ||| BitVec.ofInt 64 (z:Int)).toNat = q + z := by rw [BitVec.toNat_or,e1,e2,hor]
  show IntKind.u64.wrap ((BitVec.ofInt 64 (q:Int) ||| BitVec.ofInt 64 (z:Int)).toNat:Int) = _
  rw [e3,zI (by omega) (by omega)]
  push_cast; rfl
theorem JhY {c:Int} (h0:0 < c) (h1:c < 18446744073709551616):∃ s:Nat,s ≤ 63 ∧ IntKind.u64.wrap (ZC c) = s ∧ 9223372036854775808 ≤ c * 2 ^ s ∧ c * 2 ^ s < 18446744073709551616 ∧ JK .shl .u64 c (IntKind.u64.wrap (ZC c)) = c * 2 ^ s := by
  obtain ⟨l,e,l1,l2,p1,p2⟩ := Jas h0 h1
  have es:IntKind.u64.wrap (ZC c) = ((64 - l:Nat):Int) := by
    unfold ZC
    rw [e,Wu (by omega) (by omega),zI (by omega) (by omega)]
    omega
  have hp := XD (64 - l)
  have q1:(2:Int) ^ (l - 1) * 2 ^ (64 - l) = 9223372036854775808 := by
    rw [← Int.pow_add,show l - 1 + (64 - l) = 63 by omega]; rfl
  have q2:(2:Int) ^ l * 2 ^ (64 - l) = 18446744073709551616 := by
    rw [← Int.pow_add,show l + (64 - l) = 64 by omega]; rfl
  have g1 := Int.mul_le_mul_of_nonneg_right p1 (Int.le_of_lt hp)
  have g2 := Int.mul_lt_mul_of_pos_right p2 hp
  refine ⟨64 - l,by omega,es,by omega,by omega,?_⟩
  rw [es,JhM _ _ (by omega)]
  exact Int.emod_eq_of_lt (by omega) (by omega)
theorem Jfb {a b c:Int} {s:Nat} (ha:0 ≤ a) (hac:a < c) (hb:0 ≤ b) (hb':b < 18446744073709551616) (hs:s ≤ 63) (hc:c * 2 ^ s < 18446744073709551616) :
    Qx .or .u64 (JK .shl .u64 a (s:Int)) (JK .shr .u64 b (IntKind.u64.wrap (64 - (s:Int)))) = a * 2 ^ s + b / 2 ^ (64 - s) ∧ 0 ≤ a * 2 ^ s + b / 2 ^ (64 - s) ∧ a * 2 ^ s + b / 2 ^ (64 - s) < c * 2 ^ s ∧
    (a * 2 ^ s + b / 2 ^ (64 - s)) * 18446744073709551616 + (b * 2 ^ s) % 18446744073709551616 = (a * 18446744073709551616 + b) * 2 ^ s := by
  have hp := XD s
  have hq := XD (64 - s)
  have e64:(2:Int) ^ (64 - s) * 2 ^ s = 18446744073709551616 := by rw [← Int.pow_add,show 64 - s + s = 64 by omega]; rfl
  have ew:IntKind.u64.wrap (64 - (s:Int)) = ((64 - s:Nat):Int) := by rw [zI (by omega) (by omega)]; omega
  have g1 := Int.mul_le_mul_of_nonneg_right (show a + 1 ≤ c by omega) (Int.le_of_lt hp)
  have g2:(a + 1) * 2 ^ s = a * 2 ^ s + 2 ^ s := by rw [Int.add_mul,Int.one_mul]
  have g3 := Int.mul_nonneg ha (Int.le_of_lt hp)
  have hr:0 ≤ b / 2 ^ (64 - s) ∧ b / 2 ^ (64 - s) < 2 ^ s := by
    refine ⟨Int.ediv_nonneg hb (Int.le_of_lt hq),Int.ediv_lt_of_lt_mul hq ?_⟩
    rw [Int.mul_comm,e64]; exact hb'
  have ed:b / 2 ^ (64 - s) = (b * 2 ^ s) / 18446744073709551616 := by
    rw [← e64,Int.mul_ediv_mul_of_pos_left _ _ hp]
  have dm := Int.mul_ediv_add_emod (b * 2 ^ s) 18446744073709551616
  refine ⟨?_,by omega,by omega,?_⟩
  · rw [ew,JhM _ _ (by omega),JgB _ _ hb (by omega),Int.emod_eq_of_lt (by omega) (by omega)]
    exact orE ha (Int.mul_comm _ _) hr (by omega)
  · rw [ed]
    have e5:(a * 18446744073709551616 + b) * 2 ^ s = a * 2 ^ s * 18446744073709551616 + b * 2 ^ s := by grind
    rw [e5,Int.add_mul]
    omega
theorem Jgt (x u z:Int):IntKind.u64.wrap (IntKind.u64.wrap (IntKind.u64.wrap x + u) - IntKind.u64.wrap z) = (x + u - z) % 18446744073709551616 := by
  rw [kC,kC,kC,kC]
  omega
structure DivParts (a b c:Int):Prop where
  ex:∃ (s:Nat) (Y u32 u1 u0 q1 r1 q0:Int),s ≤ 63 ∧ IntKind.u64.wrap (ZC c) = (s:Int) ∧ JK .shl .u64 c (IntKind.u64.wrap (ZC c)) = Y ∧ Y = c * 2 ^ s ∧ 9223372036854775808 ≤ Y ∧ Y < 18446744073709551616 ∧
    JK .shr .u64 Y 32 = Y / 4294967296 ∧ Qx .and .u64 Y 4294967295 = Y % 4294967296 ∧
    Qx .or .u64 (JK .shl .u64 a (IntKind.u64.wrap (ZC c))) (JK .shr .u64 b (IntKind.u64.wrap (64 - IntKind.u64.wrap (ZC c)))) = u32 ∧ 0 ≤ u32 ∧ u32 < Y ∧
    JK .shr .u64 (JK .shl .u64 b (IntKind.u64.wrap (ZC c))) 32 = u1 ∧ Qx .and .u64 (JK .shl .u64 b (IntKind.u64.wrap (ZC c))) 4294967295 = u0 ∧ 0 ≤ u1 ∧ u1 < 4294967296 ∧ 0 ≤ u0 ∧ u0 < 4294967296 ∧
    (u32 * 4294967296 + u1) * 4294967296 + u0 = (a * 18446744073709551616 + b) * 2 ^ s ∧
    q1 = (u32 * 4294967296 + u1) / Y ∧ r1 = u32 * 4294967296 + u1 - q1 * Y ∧ q0 = (r1 * 4294967296 + u0) / Y ∧ 0 ≤ r1 ∧ r1 < Y
theorem JMi {a b c:Int} (ha:0 ≤ a) (hac:a < c) (hb:0 ≤ b) (hb':b < 18446744073709551616) (hc:c < 18446744073709551616):DivParts a b c := by
  obtain ⟨s,s63,es,y1,y2,ey⟩ := JhY (c := c) (by omega) hc
  obtain ⟨n1,n2,n3,n4⟩ := Jfb ha hac hb hb' s63 y2
  have eb:JK .shl .u64 b (s:Int) = (b * 2 ^ s) % 18446744073709551616 := JhM _ _ (by omega)
  have m1 := Int.emod_nonneg (b * 2 ^ s) (show (18446744073709551616:Int) ≠ 0 by omega)
  have m2 := Int.emod_lt_of_pos (b * 2 ^ s) (show (0:Int) < 18446744073709551616 by omega)
  have hd := JJG (Y := c * 2 ^ s) (u32 := a * 2 ^ s + b / 2 ^ (64 - s)) (u1 := (b * 2 ^ s) % 18446744073709551616 / 4294967296) (u0 := (b * 2 ^ s) % 18446744073709551616 % 4294967296) (by omega) n2 (by omega) (by omega) rfl rfl rfl
  refine ⟨s,c * 2 ^ s,a * 2 ^ s + b / 2 ^ (64 - s),(b * 2 ^ s) % 18446744073709551616 / 4294967296,(b * 2 ^ s) % 18446744073709551616 % 4294967296,_,_,_,s63,es,ey,rfl,y1,y2,JKa _ (by omega),JRW _ (by omega) y2,?_,n2,n3,?_,?_,by omega,by omega,by omega,by omega,?_,rfl,rfl,rfl,hd.2.2.1,hd.2.2.2⟩
  · rw [es]; exact n1
  · rw [es,eb,JKa _ m1]
  · rw [es,eb,JRW _ m1 m2]
  · rw [← n4]
    generalize (b * 2 ^ s) % 18446744073709551616 = z at *
    generalize a * 2 ^ s + b / 2 ^ (64 - s) = w at *
    omega
def ju:Tpl := ⟨[.one (.int .u64),.one (.int .u64),.one (.int .u64)],[],0⟩
section
variable (a b c:Int)
def Ws:Int:=
 Qx BinOp.or IntKind.u64 (JK BinOp.shl IntKind.u64 a (IntKind.u64.wrap (ZC c))) (JK BinOp.shr IntKind.u64 b (IntKind.u64.wrap (64 - IntKind.u64.wrap (ZC c)))) * 4294967296
def WT:Int:=
 JK BinOp.shr IntKind.u64 (JK BinOp.shl IntKind.u64 c (IntKind.u64.wrap (ZC c))) 32 * 4294967296 + Qx BinOp.and IntKind.u64 (JK BinOp.shl IntKind.u64 c (IntKind.u64.wrap (ZC c))) 4294967295
def Qz:Int:=
 bif a == 0 then IntKind.u64.wrap (b.tdiv c) else IntKind.u64.wrap (IntKind.u64.wrap ((Ws a b c + JK BinOp.shr IntKind.u64 (JK BinOp.shl IntKind.u64 b (IntKind.u64.wrap (ZC c))) 32) / WT c * 4294967296) + (IntKind.u64.wrap (IntKind.u64.wrap (IntKind.u64.wrap (Ws a b c) + JK BinOp.shr IntKind.u64 (JK BinOp.shl IntKind.u64 b (IntKind.u64.wrap (ZC c))) 32) - IntKind.u64.wrap ((Ws a b c + JK BinOp.shr IntKind.u64 (JK BinOp.shl IntKind.u64 b (IntKind.u64.wrap (ZC c))) 32) / WT c * JK BinOp.shl IntKind.u64 c (IntKind.u64.wrap (ZC c)))) * 4294967296 + Qx BinOp.and IntKind.u64 (JK BinOp.shl IntKind.u64 b (IntKind.u64.wrap (ZC c))) 4294967295) / WT c)
def JE2:Int:=
 IntKind.u64.wrap (IntKind.u64.wrap (IntKind.u64.wrap (Ws a b c) + JK BinOp.shr IntKind.u64 (JK BinOp.shl IntKind.u64 b (IntKind.u64.wrap (ZC c))) 32) - IntKind.u64.wrap ((Ws a b c + JK BinOp.shr IntKind.u64 (JK BinOp.shl IntKind.u64 b (IntKind.u64.wrap (ZC c))) 32) / WT c * JK BinOp.shl IntKind.u64 c (IntKind.u64.wrap (ZC c)))) * 4294967296
def Ql:Int:=
 bif a == 0 then b.tmod c else JK BinOp.shr IntKind.u64 (IntKind.u64.wrap (IntKind.u64.wrap (IntKind.u64.wrap (JE2 a b c) + Qx BinOp.and IntKind.u64 (JK BinOp.shl IntKind.u64 b (IntKind.u64.wrap (ZC c))) 4294967295) - IntKind.u64.wrap ((JE2 a b c + Qx BinOp.and IntKind.u64 (JK BinOp.shl IntKind.u64 b (IntKind.u64.wrap (ZC c))) 4294967295) / WT c * JK BinOp.shl IntKind.u64 c (IntKind.u64.wrap (ZC c))))) (IntKind.u64.wrap (ZC c))
def Xb:Int:=
 IntKind.u64.wrap (64 - IntKind.u64.wrap (ZC c))
def Yk:Int:=
 IntKind.u64.wrap ((Qx BinOp.or IntKind.u64 (JK BinOp.shl IntKind.u64 a (IntKind.u64.wrap (ZC c))) (JK BinOp.shr IntKind.u64 b (Xb c))).tdiv (JK BinOp.shr IntKind.u64 (JK BinOp.shl IntKind.u64 c (IntKind.u64.wrap (ZC c))) 32))
def WQ:Int:=
 IntKind.u64.wrap (Qx BinOp.or IntKind.u64 (JK BinOp.shl IntKind.u64 a (IntKind.u64.wrap (ZC c))) (JK BinOp.shr IntKind.u64 b (Xb c)) - IntKind.u64.wrap (Yk a b c * JK BinOp.shr IntKind.u64 (JK BinOp.shl IntKind.u64 c (IntKind.u64.wrap (ZC c))) 32))
def JJv:Int:=
 Qx BinOp.or IntKind.u64 (JK BinOp.shl IntKind.u64 a (IntKind.u64.wrap (ZC c))) (JK BinOp.shr IntKind.u64 b (Xb c)) * 4294967296
def JAY:Int:=
 IntKind.u64.wrap (IntKind.u64.wrap (IntKind.u64.wrap (JJv a b c) + JK BinOp.shr IntKind.u64 (JK BinOp.shl IntKind.u64 b (IntKind.u64.wrap (ZC c))) 32) - IntKind.u64.wrap ((JJv a b c + JK BinOp.shr IntKind.u64 (JK BinOp.shl IntKind.u64 b (IntKind.u64.wrap (ZC c))) 32) / (JK BinOp.shr IntKind.u64 (JK BinOp.shl IntKind.u64 c (IntKind.u64.wrap (ZC c))) 32 * 4294967296 + Qx BinOp.and IntKind.u64 (JK BinOp.shl IntKind.u64 c (IntKind.u64.wrap (ZC c))) 4294967295) * JK BinOp.shl IntKind.u64 c (IntKind.u64.wrap (ZC c))))
def Yj:Int:=
 IntKind.u64.wrap ((JAY a b c).tdiv (JK BinOp.shr IntKind.u64 (JK BinOp.shl IntKind.u64 c (IntKind.u64.wrap (ZC c))) 32))
def We:Int:=
 IntKind.u64.wrap (JAY a b c - IntKind.u64.wrap (Yj a b c * JK BinOp.shr IntKind.u64 (JK BinOp.shl IntKind.u64 c (IntKind.u64.wrap (ZC c))) 32))
def ja:List Prop:=
 [(c == 0) = false,decide (c ≤ a) = false,(a == 0) = true → c ≠ 0 ∧ c ≠ 0,(a == 0) = false → 0 ≤ c ∧ c < 18446744073709551616 ∧ 0 ≤ IntKind.u64.wrap (ZC c) ∧ 0 ≤ IntKind.u64.wrap (ZC c) ∧ 0 ≤ Xb c ∧ 0 ≤ IntKind.u64.wrap (ZC c) ∧ JK BinOp.shr IntKind.u64 (JK BinOp.shl IntKind.u64 c (IntKind.u64.wrap (ZC c))) 32 ≠ 0 ∧ AdjOk (JK BinOp.shr IntKind.u64 (JK BinOp.shl IntKind.u64 c (IntKind.u64.wrap (ZC c))) 32) (Qx BinOp.and IntKind.u64 (JK BinOp.shl IntKind.u64 c (IntKind.u64.wrap (ZC c))) 4294967295) (Qx BinOp.or IntKind.u64 (JK BinOp.shl IntKind.u64 a (IntKind.u64.wrap (ZC c))) (JK BinOp.shr IntKind.u64 b (Xb c))) (JK BinOp.shr IntKind.u64 (JK BinOp.shl IntKind.u64 b (IntKind.u64.wrap (ZC c))) 32) (Yk a b c,WQ a b c).fst (Yk a b c,WQ a b c).snd ∧ (Yk a b c,WQ a b c).snd = WQ a b c ∧ (Yk a b c,WQ a b c).fst = Yk a b c ∧ JK BinOp.shr IntKind.u64 (JK BinOp.shl IntKind.u64 c (IntKind.u64.wrap (ZC c))) 32 ≠ 0 ∧ AdjOk (JK BinOp.shr IntKind.u64 (JK BinOp.shl IntKind.u64 c (IntKind.u64.wrap (ZC c))) 32) (Qx BinOp.and IntKind.u64 (JK BinOp.shl IntKind.u64 c (IntKind.u64.wrap (ZC c))) 4294967295) (JAY a b c) (Qx BinOp.and IntKind.u64 (JK BinOp.shl IntKind.u64 b (IntKind.u64.wrap (ZC c))) 4294967295) (Yj a b c,We a b c).fst (Yj a b c,We a b c).snd ∧ (Yj a b c,We a b c).snd = We a b c ∧ (Yj a b c,We a b c).fst = Yj a b c ∧ 0 ≤ IntKind.u64.wrap (ZC c)]
end
theorem JVW {a:Int} {b:Int} {c:Int} (hW:∀ q ∈ ([0 ≤ a,a < c,0 ≤ b,b < 18446744073709551616,c < 18446744073709551616]:List Prop),q):∀ q ∈ (ja a b c),q := by
  simp only [awc,awn,and_true] at hW
  unfold ja
  simp only [awc,awn,and_true]
  obtain ⟨ha,hac,hb,hb',hc⟩ := hW
  refine ⟨by simp; omega,by simp; omega,fun _ => ⟨by omega,by omega⟩,fun _ => ?_⟩
  obtain ⟨s,Y,u32,u1,u0,q1,r1,q0,s63,es,ey,eY,y1,y2,ey1,ey0,eu,v0,v1,e1,e0,p1,p2,p3,p4,en,eq1,er1,eq0,t0,t1⟩ := (JMi ha hac hb hb' hc).ex
  have ew:0 ≤ IntKind.u64.wrap (ZC c) := by rw [es]; omega
  have ew3:0 ≤ Xb c := by unfold Xb; rw [es,zI (by omega) (by omega)]; omega
  have hy1:2147483648 ≤ Y / 4294967296 ∧ Y / 4294967296 < 4294967296 := by omega
  have hy0:0 ≤ Y % 4294967296 ∧ Y % 4294967296 < 4294967296 := by omega
  have hYY:Y / 4294967296 * 4294967296 + Y % 4294967296 = Y := by omega
  have first:∀ {x u:Int},0 ≤ x → x < Y → 0 ≤ u → u < 4294967296 → AdjOk (Y / 4294967296) (Y % 4294967296) x u (IntKind.u64.wrap (x.tdiv (Y / 4294967296))) (IntKind.u64.wrap (x - IntKind.u64.wrap (IntKind.u64.wrap (x.tdiv (Y / 4294967296)) * (Y / 4294967296)))) := fun {x u} g1 g2 g3 g4 => by
    have A := Jb5 (y1 := Y / 4294967296) (y0 := Y % 4294967296) (u32 := x) (u := u) hy1 hy0 ⟨g3,g4⟩ (by omega)
    have hd := Int.mul_ediv_add_emod x (Y / 4294967296)
    have hm1 := Int.emod_nonneg x (show Y / 4294967296 ≠ 0 by omega)
    have hm2 := Int.emod_lt_of_pos x (show 0 < Y / 4294967296 by omega)
    have hcm:Y / 4294967296 * (x / (Y / 4294967296)) = x / (Y / 4294967296) * (Y / 4294967296) := Int.mul_comm _ _
    rw [hcm] at hd
    have ub := A.ub
    have q0 := A.q0
    have qn := Int.mul_nonneg q0 (show 0 ≤ Y / 4294967296 by omega)
    have e1:IntKind.u64.wrap (x.tdiv (Y / 4294967296)) = x / (Y / 4294967296) := by
      rw [Int.tdiv_eq_ediv_of_nonneg g1,zI q0 (by omega)]
    rw [e1,zI (x := x / (Y / 4294967296) * (Y / 4294967296)) (by omega) (by omega),zI (by omega) (by omega)]
    exact A
  have e4:Yk a b c = IntKind.u64.wrap (u32.tdiv (Y / 4294967296)) := by unfold Yk Xb; rw [eu,ey,ey1]
  have e5:WQ a b c = IntKind.u64.wrap (u32 - IntKind.u64.wrap (IntKind.u64.wrap (u32.tdiv (Y / 4294967296)) * (Y / 4294967296))) := by unfold WQ; rw [e4]; unfold Xb; rw [eu,ey,ey1]
  have e7:JAY a b c = r1 := by
    unfold JAY JJv Xb
    rw [eu,ey,ey1,ey0,e1,hYY,Jgt,← eq1,← er1]
    exact Int.emod_eq_of_lt t0 (by omega)
  have e8:Yj a b c = IntKind.u64.wrap (r1.tdiv (Y / 4294967296)) := by unfold Yj; rw [e7,ey,ey1]
  have e9:We a b c = IntKind.u64.wrap (r1 - IntKind.u64.wrap (IntKind.u64.wrap (r1.tdiv (Y / 4294967296)) * (Y / 4294967296))) := by unfold We; rw [e7,e8,ey,ey1]
  rw [e4,e5,e7,e8,e9]
  unfold Xb at ew3 ⊢
  rw [eu,ey,ey1,ey0,e1,e0]
  exact ⟨by omega,by omega,ew,ew,ew3,ew,by omega,first v0 v1 p1 p2,trivial,trivial,by omega,first t0 t1 p3 p4,trivial,trivial,ew⟩
theorem JWQ (a b c:Int) (hNeeds:∀ pN ∈ (ja a b c),pN):Runs (Jl (JE JRJ) Jaw 170) (ju.args [.i a,.i b,.i c]) (ju.memo [.i a,.i b,.i c] []) ju.n (SV.tup [(false,[SC.int IntKind.u64 (SI.v (Qz a b c))]),(false,[SC.int IntKind.u64 (SI.v (Ql a b c))])]) ([]) :=
  Runs.of1 (ps := (ja a b c)) (by kernel_rfl) hNeeds
def JGg:List Pm → Qs → Option CRes
  | [.i a,.i b,.i c],[] => some ⟨SV.tup [(false,[SC.int IntKind.u64 (SI.v (Qz a b c))]),(false,[SC.int IntKind.u64 (SI.v (Ql a b c))])],
 [],[0 ≤ a,a < c,0 ≤ b,b < 18446744073709551616,c < 18446744073709551616],[],176⟩
  | _,_ => none
theorem Jd5:Qf Tryz.prog 170 (JP ju JGg) := by
  refine JI (JF JNX 170) fun ps ls r hr hn _ => ?_
  unfold JGg at hr
  split at hr
  · cases hr; exact ⟨_,JWQ _ _ _ (JVW (by exact hn)),fun _ => rfl⟩
  · cases hr
def JBR:List (Nat × JU) := (170,JP ju JGg) :: JRJ
theorem JHW:Known Tryz.prog (JE JBR) Jaw := J4 JNX Jd5
theorem JGB {a b c:Int} (ha:0 ≤ a) (hac:a < c) (hb:0 ≤ b) (hb':b < 18446744073709551616) (hc:c < 18446744073709551616) :
    Qz a b c = (a * 18446744073709551616 + b) / c ∧ Ql a b c = (a * 18446744073709551616 + b) % c := by
  unfold Qz Ql
  by_cases h:a = 0
  · subst h
    rw [show ((0:Int) == 0) = true from rfl,cond_true,cond_true,Int.tdiv_eq_ediv_of_nonneg hb,Int.tmod_eq_emod_of_nonneg hb,Int.zero_mul,Int.zero_add]
    refine ⟨zI (Int.ediv_nonneg hb (by omega)) ?_,rfl⟩
    have := Int.ediv_le_self c hb
    omega
  · rw [show (a == 0) = false by simpa using h,cond_false,cond_false]
    obtain ⟨s,Y,u32,u1,u0,q1,r1,q0,s63,es,ey,eY,y1,y2,ey1,ey0,eu,v0,v1,e1,e0,p1,p2,p3,p4,en,eq1,er1,eq0,t0,t1⟩ := (JMi ha hac hb hb' hc).ex
    have hYY:Y / 4294967296 * 4294967296 + Y % 4294967296 = Y := by omega
    have hd := JJG (Y := Y) (by omega) v0 ⟨p1,p2⟩ ⟨p3,p4⟩ eq1 er1 eq0
    have es1:WT c = Y := by unfold WT; rw [ey,ey1,ey0,hYY]
    have es0:Ws a b c = u32 * 4294967296 := by unfold Ws; rw [eu]
    have er:IntKind.u64.wrap (IntKind.u64.wrap (IntKind.u64.wrap (u32 * 4294967296) + u1) - IntKind.u64.wrap (q1 * Y)) = r1 := by
      rw [Jgt,← er1]; exact Int.emod_eq_of_lt t0 (by omega)
    have es2:JE2 a b c = r1 * 4294967296 := by
      unfold JE2
      rw [es0,es1,e1,ey,← eq1,er]
    have l1 := JCK (y1 := Y / 4294967296) (y0 := Y % 4294967296) (u32 := u32) (u := u1) (by omega) (by omega) (by omega) (by omega)
    have l0 := JCK (y1 := Y / 4294967296) (y0 := Y % 4294967296) (u32 := r1) (u := u0) (by omega) (by omega) (by omega) (by omega)
    rw [hYY,← eq1] at l1
    rw [hYY,← eq0] at l0
    have hp := XD s
    have m3 := Int.emod_nonneg ((u32 * 4294967296 + u1) * 4294967296 + u0) (show Y ≠ 0 by omega)
    have m4 := Int.emod_lt_of_pos ((u32 * 4294967296 + u1) * 4294967296 + u0) (show 0 < Y by omega)
    rw [← hd.2.1] at m3 m4
    constructor
    · rw [es0,es1,e1,e0,ey,← eq1,er,← eq0,zI (x := q1 * 4294967296) (by omega) (by omega),zI (by omega) (by omega),hd.1,en,eY,Int.mul_ediv_mul_of_pos_left _ _ hp]
    · rw [es2,es1,e0,ey,← eq0,Jgt,Int.emod_eq_of_lt m3 (by omega),es,JgB _ _ m3 (by omega),hd.2.1,en,eY,Int.mul_comm _ (2 ^ s),Int.mul_comm c,Int.mul_emod_mul_of_pos _ _ hp,Int.mul_ediv_cancel_left _ (by omega)]
theorem ZH (x:Int):KI (IntKind.i64.wrap x) := by
  unfold IntKind.wrap KI
  simp only [IntKind.bits,IntKind.signed]
  simp
  omega
theorem Jff (a b:Int) (h:1 ≤ b) (hb:b ≤ 4611686018427387904):0 ≤ JJS a b ∧ JJS a b < b := by
  unfold JJS
  have h1 := Int.tmod_lt_of_pos a (b := b) (by omega)
  have h2:-b < a.tmod b := by
    have := Int.tmod_lt_of_pos (-a) (b := b) (by omega)
    rw [Int.neg_tmod] at this
    omega
  by_cases h3:a.tmod b < 0
  · simp only [h3,decide_true,cond_true]
    rw [Wu (by omega) (by omega)]
    omega
  · simp only [h3,decide_false,cond_false]
    omega
abbrev bd (m x:Int):Prop := -m ≤ x ∧ x ≤ m
theorem JTq {a c:Int} (ha:bd 1000000000 a) (hc:bd 1000000000 c):J3 a c = a - c := by unfold J3; rw [Wu (by omega) (by omega)]
theorem JX6 (x y:Int):(x < y ∧ X7 x y = -1) ∨ (x = y ∧ X7 x y = 0) ∨ (y < x ∧ X7 x y = 1) := by
  unfold X7
  by_cases h:x < y
  · exact .inl ⟨h,if_pos h⟩
  · by_cases h2:x = y
    · exact .inr (.inl ⟨h2,by rw [if_neg h,if_pos h2]⟩)
    · exact .inr (.inr ⟨by omega,by rw [if_neg h,if_neg h2]⟩)
theorem JfQ (x y:Int):decide (X7 x y ≤ 0) = decide (x ≤ y) := by
  rcases JX6 x y with ⟨h1,h2⟩ | ⟨h1,h2⟩ | ⟨h1,h2⟩ <;> rw [h2] <;> simp <;> omega
abbrev u64 (x:Int):Prop := 0 ≤ x ∧ x < 18446744073709551616
def kQ (j:Nat):Int := bif decide (j < 64) then 2 ^ (63 - j) else 0
def flF (a b:Int):Fam Nat Unit where
  k := 20
  E j := [(4,ent 1000000000 (.one (U (kQ j)))),(3,ent 1000000001 (.one (U (fr 64 (a * 18446744073709551616 + b) j)))),(1,ent 3 (.one (.ptr 0 0)))]
  M j := [(0,.blk 147 [(1,U a),(2,U b)])]
  out _ := .leaf (.exit 0) [(3,ent 8 (.one (U (fr 64 (a * 18446744073709551616 + b) 64))))] []
  fin _ := ()
  next j _ := j + 1
  J j := j ≤ 64 ∧ u64 a ∧ u64 b
  μ j := 64 - j
theorem JYu {j:Nat} (h:j < 64):kQ j = 2 ^ (64 - 1 - j) := by unfold kQ; rw [decide_eq_true h,cond_true]
theorem Jbm {j:Nat} (h:j < 64):JK .shr .u64 (kQ j) 1 = kQ (j + 1) := by
  have hp := XD (63 - j)
  have e:(2:Int) ^ min (1:Int).toNat IntKind.u64.bits = 2 := by decide
  have e2:JK .shr .u64 (kQ j) 1 = kQ j / 2 := by
    unfold JK
    simp only [e]
    exact Int.fdiv_eq_ediv_of_nonneg _ (by omega)
  rw [e2]
  unfold kQ
  rw [decide_eq_true h,cond_true]
  by_cases h1:j + 1 < 64
  · rw [decide_eq_true h1,cond_true,show 63 - j = (63 - (j + 1)) + 1 by omega,JLM]
    omega
  · rw [decide_eq_false h1,cond_false,show 63 - j = 0 by omega]
    rfl
theorem JeD:(2:Int) ^ 64 * 2 ^ 64 = 340282366920938463463374607431768211456 := rfl
section
variable (a b:Int) (j:Nat)
def JIC:Int:=
 fr 64 (a * 18446744073709551616 + b) j
def Jg7:Int:=
 JBM (Q4 (Qx BinOp.or IntKind.u64 (JIC a b j) (kQ j)) (Qx BinOp.or IntKind.u64 (JIC a b j) (kQ j))) (QA (Qx BinOp.or IntKind.u64 (JIC a b j) (kQ j)) (Qx BinOp.or IntKind.u64 (JIC a b j) (kQ j))) a b
def JKh:List Prop:=
 [decide (kQ j > 0) = true → ((flF a b).next j 0 ≤ 64 ∧ (0 ≤ a ∧ a < 18446744073709551616) ∧ 0 ≤ b ∧ b < 18446744073709551616) ∧ (flF a b).μ ((flF a b).next j 0) < (flF a b).μ j ∧ (flF a b).fin ((flF a b).next j 0) = (flF a b).fin j ∧ kQ ((flF a b).next j 0) = JK BinOp.shr IntKind.u64 (kQ j) 1 ∧ fr 64 (a * 18446744073709551616 + b) ((flF a b).next j 0) = bif decide (Jg7 a b j ≤ 0) then Qx BinOp.or IntKind.u64 (JIC a b j) (kQ j) else JIC a b j,decide (kQ j > 0) = false → fr 64 (a * 18446744073709551616 + b) 64 = JIC a b j]
end
theorem Jdw (a b:Int) (j:Nat) (hNeeds:∀ pN ∈ (JKh a b j),pN):Q3 (XF (flF a b) (QR Tryz.prog (JE JBR) Jaw 154 0) 7 j) :=
  Q3.of (ps := (JKh a b j)) (by kernel_rfl) (by kernel_rfl) hNeeds
theorem Jap (a b:Int):Z0 (flF a b) (QR Tryz.prog (JE JBR) Jaw 154 0) 7 := by
  intro j hJ
  obtain ⟨h1,ha,hb⟩:j ≤ 64 ∧ u64 a ∧ u64 b := hJ
  have hx0:0 ≤ a * 18446744073709551616 + b := by omega
  have hx1:a * 18446744073709551616 + b < 2 ^ 64 * 2 ^ 64 := by rw [JeD]; omega
  have ex1:(a * 18446744073709551616 + b) / 18446744073709551616 = a := by omega
  have ex2:(a * 18446744073709551616 + b) % 18446744073709551616 = b := by omega
  refine Jdw a b j ?_
  unfold JKh
  refine JhQ ?_ ?_
  · intro h
    have hj:j < 64 := by
      rcases Nat.lt_or_ge j 64 with g | g
      · exact g
      · unfold kQ at h
        rw [decide_eq_false (show ¬ j < 64 by omega)] at h
        simp at h
    obtain ⟨o1,o2,o3⟩ := Ji2 hx0 hx1 hj (by omega)
    rw [JYm (by omega)] at o1
    refine ⟨⟨hj,ha,hb⟩,?_,rfl,(Jbm hj).symm,?_⟩
    · show 64 - (j + 1) < 64 - j; omega
    · unfold Jg7 JIC
      rw [JYu hj,o1,JFZ _ _ ⟨o2,o3⟩ ⟨o2,o3⟩,JEW]
      have hc := JTA ((fr 64 (a * 18446744073709551616 + b) j + 2 ^ (64 - 1 - j)) * (fr 64 (a * 18446744073709551616 + b) j + 2 ^ (64 - 1 - j))) (a * 18446744073709551616 + b) (Int.mul_nonneg o2 o2) hx0
      rw [ex1,ex2] at hc
      rw [hc,JfQ]
      rfl
  · intro h
    have hj:j = 64 := by
      rcases Nat.lt_or_ge j 64 with g | g
      · exfalso
        rw [JYu g] at h
        have := XD (64 - 1 - j)
        rw [decide_eq_false_iff_not] at h
        omega
      · omega
    rw [hj]; rfl
def Jhi (env:Zm) (mem:Je) (t:Nat):Option (Int × Int) := match SX.J6 env t with
  | some ⟨_,_,_,.one (.ptr id 0)⟩ => (match JI3 mem id with
    | some [x,y] => some (x,y)
    | _ => none)
  | _ => none
def flL:Q5 := fun env mem m => match Jhi env mem 1 with
  | some (a,b) => qS (flF a b) 7 (fun _ _ => some 0) env mem m
  | none => none
def Qw:FuncId → Nat → Option Q5 := kR Jaw 154 3 flL
theorem JNf:Known Tryz.prog (JE JBR) Qw := by
  refine Qc 0 JHW (by kernel_rfl) (Z5 fun env mem m x h => ?_)
  unfold flL at h
  have hlen:(QC Tryz.prog 154).length = 1 := by kernel_rfl
  split at h
  · exact ⟨_,XX (Qg XB JHW (by omega)) (Jap _ _),h⟩
  · cases h
def Xx:Tpl := ⟨[.agg [.int .u64,.int .u64]],[],0⟩
def JV (a b:Int):Int :=
 fr 64 (a * 18446744073709551616 + b) 64
def K7 (a b:Int):List Prop :=
 [0 ≤ 64 ∧ (0 ≤ a ∧ a < 18446744073709551616) ∧ 0 ≤ b ∧ b < 18446744073709551616,Int.ofNat 9223372036854775808 = 9223372036854775808,fr 64 (a * 18446744073709551616 + b) 0 = 0]
theorem JJI {a:Int} {b:Int} (hW:∀ q ∈ ([u64 a,u64 b]:List Prop),q):∀ q ∈ (K7 a b),q := by
  simp only [awc,awn,and_true] at hW
  unfold K7
  simp only [awc,awn,and_true]
  exact ⟨⟨by omega,hW.1,hW.2⟩,rfl,rfl⟩
theorem JLh (a b:Int) (hNeeds:∀ pN ∈ (K7 a b),pN):Runs (Jl (JE JBR) Qw 154) (Xx.args [.i a,.i b]) (Xx.memo [.i a,.i b] []) Xx.n (SV.one (SC.int IntKind.u64 (SI.v (JV a b)))) ([]) :=
  Runs.of1 (ps := (K7 a b)) (by kernel_rfl) hNeeds
def jm:List Pm → Qs → Option CRes
  | [.i a,.i b],[] => some ⟨SV.one (SC.int IntKind.u64 (SI.v (JV a b))),
 [],[u64 a,u64 b],[],29⟩
  | _,_ => none
theorem JQd:Qf Tryz.prog 154 (JP Xx jm) := by
  refine JI (JF JNf 154) fun ps ls r hr hn _ => ?_
  unfold jm at hr
  split at hr
  · cases hr; exact ⟨_,JLh _ _ (JJI (by exact hn)),fun _ => rfl⟩
  · cases hr
def JAq:List (Nat × JU) := (154,JP Xx jm) :: JBR
theorem kM:Known Tryz.prog (JE JAq) Qw := J4 JNf JQd
theorem Jh9 {a b:Int} (ha:u64 a) (hb:u64 b):0 ≤ JV a b ∧ JV a b * JV a b ≤ a * 18446744073709551616 + b ∧ a * 18446744073709551616 + b < (JV a b + 1) * (JV a b + 1) ∧ JV a b < 18446744073709551616 := by
  obtain ⟨x,y,z,w⟩ := Jh0 (T := 64) (x := a * 18446744073709551616 + b) (by omega) (by rw [JeD]; omega)
  have e:(2:Int) ^ 64 = 18446744073709551616 := rfl
  exact ⟨x,y,z,by show fr 64 _ 64 < _; omega⟩
theorem JZY (x:Int):u64 (x % 18446744073709551616) := by omega
theorem JX4 (x y:Int):u64 (QA x y) := by rw [JEW]; exact JZY _
theorem JY6 {x y:Int} (hx:u64 x) (hy:u64 y):u64 (Q4 x y) := by
  rw [JFZ _ _ hx hy]
  obtain ⟨h1,h2⟩ := JDv 18446744073709551615 18446744073709551615 (x := x) (y := y) ⟨hx.1,by omega⟩ ⟨hy.1,by omega⟩ (by omega)
  omega
theorem JcH (x:Int):u64 (IntKind.u64.wrap x) := by rw [kC]; exact JZY _
theorem JeO (x y z:Int):0 ≤ JAm x y z ∧ JAm x y z ≤ 1 := by unfold JAm; split <;> decide
def qR:Tpl := ⟨[.agg [.int .u64,.int .u64],.one (.int .i64)],[],0⟩
section
variable (a b m:Int)
def JUE:Int:=
 JMJ a (Q4 (JV a b) (JV a b)) (JAm b (QA (JV a b) (JV a b)) 0)
def JK7:Int:=
 bif m == 1 && (decide (JUE a b > 0) || decide (JMJ b (QA (JV a b) (JV a b)) 0 > 0)) || m == 2 && (decide (JUE a b > 0) || decide (JMJ b (QA (JV a b) (JV a b)) 0 > JV a b)) then IntKind.u64.wrap (JV a b + 1) else JV a b
def JPC:Int:=
 bif decide (JK7 a b m < 9223372036854775808) then IntKind.i64.wrap (JK7 a b m) else 0
def JOQ:Bool:=
 decide (JK7 a b m < 9223372036854775808)
def jc:List Prop:=
 [0 ≤ a ∧ a < 18446744073709551616,0 ≤ b ∧ b < 18446744073709551616,0 ≤ b,0 ≤ QA (JV a b) (JV a b),Int.ofNat 0 ≤ 0 ∧ Int.ofNat 0 ≤ 1,0 ≤ a,0 ≤ Q4 (JV a b) (JV a b),0 ≤ JAm b (QA (JV a b) (JV a b)) 0 ∧ JAm b (QA (JV a b) (JV a b)) 0 ≤ 1]
end
theorem JVh {a:Int} {b:Int} (hW:∀ q ∈ ([u64 a,u64 b]:List Prop),q):∀ q ∈ (jc a b),q := by
  simp only [awc,awn,and_true] at hW
  unfold jc
  simp only [awc,awn,and_true]
  obtain ⟨ha,hb⟩ := hW
  have hf := Jh9 ha hb
  have m1 := JX4 (JV a b) (JV a b)
  have m0 := JY6 (x := JV a b) (y := JV a b) ⟨hf.1,hf.2.2.2⟩ ⟨hf.1,hf.2.2.2⟩
  exact ⟨ha,hb,hb.1,m1.1,by decide,ha.1,m0.1,JeO _ _ _⟩
theorem JWl (a b m:Int) (hNeeds:∀ pN ∈ (jc a b),pN):Runs (Jl (JE JAq) Qw 173) (qR.args [.i a,.i b,.i m]) (qR.memo [.i a,.i b,.i m] []) qR.n (SV.tup [(false,[Ci (JPC a b m)]),(false,[Cb (JOQ a b m)])]) ([]) :=
  Runs.of1 (ps := (jc a b)) (by kernel_rfl) hNeeds
def JHJ:List Pm → Qs → Option CRes
  | [.i a,.i b,.i m],[] => some ⟨SV.tup [(false,[Ci (JPC a b m)]),(false,[Cb (JOQ a b m)])],
 [],[u64 a,u64 b],[],169⟩
  | _,_ => none
theorem JcN:Qf Tryz.prog 173 (JP qR JHJ) := by
  refine JI (JF kM 173) fun ps ls r hr hn _ => ?_
  unfold JHJ at hr
  split at hr
  · cases hr; exact ⟨_,JWl _ _ _ (JVh (by exact hn)),fun _ => rfl⟩
  · cases hr
def JPc:List (Nat × JU) := (173,JP qR JHJ) :: JAq
theorem JHn:Known Tryz.prog (JE JPc) Qw := J4 kM JcN
def qW:Tpl := ⟨[.one (.int .i64),.one (.int .i64)],[],0⟩
section
variable (n m:Int)
def JFJ:Int:=
 bif decide (n < 0) || !(m == 0 || m == 1 || m == 2) then 0 else JPC 0 (IntKind.u64.wrap n) m
def JYi:Bool:=
 bif decide (n < 0) || !(m == 0 || m == 1 || m == 2) then false else JOQ 0 (IntKind.u64.wrap n) m
def je:List Prop:=
 [(decide (n < 0) || !(m == 0 || m == 1 || m == 2)) = false → (Int.ofNat 0 ≤ 0 ∧ Int.ofNat 0 < 18446744073709551616) ∧ 0 ≤ IntKind.u64.wrap n ∧ IntKind.u64.wrap n < 18446744073709551616]
end
theorem JXl {n:Int} {m:Int} (hW:∀ q ∈ ([KI n]:List Prop),q):∀ q ∈ (je n m),q := by
  simp only [awc,awn,and_true] at hW
  unfold je
  simp only [awc,awn,and_true]
  intro _
  have := JcH n
  exact ⟨by decide,this.1,this.2⟩
theorem JXS (n m:Int) (hNeeds:∀ pN ∈ (je n m),pN):Runs (Jl (JE JPc) Qw 162) (qW.args [.i n,.i m]) (qW.memo [.i n,.i m] []) qW.n (SV.tup [(false,[Ci (JFJ n m)]),(false,[Cb (JYi n m)])]) ([]) :=
  Runs.of1 (ps := (je n m)) (by kernel_rfl) hNeeds
def JGf:List Pm → Qs → Option CRes
  | [.i n,.i m],[] => some ⟨SV.tup [(false,[Ci (JFJ n m)]),(false,[Cb (JYi n m)])],
 [],[KI n],[],201⟩
  | _,_ => none
theorem JcL:Qf Tryz.prog 162 (JP qW JGf) := by
  refine JI (JF JHn 162) fun ps ls r hr hn _ => ?_
  unfold JGf at hr
  split at hr
  · cases hr; exact ⟨_,JXS _ _ (JXl (by exact hn)),fun _ => rfl⟩
  · cases hr
def JQh:List (Nat × JU) := (162,JP qW JGf) :: JPc
theorem JI4:Known Tryz.prog (JE JQh) Qw := J4 JHn JcL
def kT:Tpl := ⟨[.agg [.int .u64,.int .u64],.one (.int .u64)],[],0⟩
def JM5 (a b c:Int):Bool :=
 decide (Ql (Ql 0 a c) b c > 0)
def zK (a b c:Int):List Prop :=
 [Int.ofNat 0 ≤ 0,0 < c,0 ≤ a,a < 18446744073709551616,c < 18446744073709551616,0 ≤ Ql 0 a c,Ql 0 a c < c,0 ≤ b,b < 18446744073709551616,c < 18446744073709551616]
theorem JbI {a:Int} {b:Int} {c:Int} (hW:∀ q ∈ ([u64 a,u64 b,0 < c,c < 18446744073709551616]:List Prop),q):∀ q ∈ (zK a b c),q := by
  simp only [awc,awn,and_true] at hW
  unfold zK
  simp only [awc,awn,and_true]
  obtain ⟨ha,hb,hc,hc'⟩ := hW
  have hd := (JGB (a := 0) (b := a) (c := c) (by omega) hc ha.1 ha.2 hc').2
  have m3 := Int.emod_nonneg (0 * 18446744073709551616 + a) (show c ≠ 0 by omega)
  have m4 := Int.emod_lt_of_pos (0 * 18446744073709551616 + a) hc
  rw [← hd] at m3 m4
  exact ⟨by decide,hc,ha.1,ha.2,hc',m3,m4,hb.1,hb.2,hc'⟩
theorem Jba (a b c:Int) (hNeeds:∀ pN ∈ (zK a b c),pN):Runs (Jl (JE JQh) Qw 152) (kT.args [.i a,.i b,.i c]) (kT.memo [.i a,.i b,.i c] []) kT.n (SV.tup [(true,[SC.int IntKind.u64 (SI.v (Qz 0 a c)),SC.int IntKind.u64 (SI.v (Qz (Ql 0 a c) b c))]),(false,[Cb (JM5 a b c)])]) ([]) :=
  Runs.of1 (ps := (zK a b c)) (by kernel_rfl) hNeeds
def JL5:List Pm → Qs → Option CRes
  | [.i a,.i b,.i c],[] => some ⟨SV.tup [(true,[SC.int IntKind.u64 (SI.v (Qz 0 a c)),SC.int IntKind.u64 (SI.v (Qz (Ql 0 a c) b c))]),(false,[Cb (JM5 a b c)])],
 [],[u64 a,u64 b,0 < c,c < 18446744073709551616],[],389⟩
  | _,_ => none
theorem Jfm:Qf Tryz.prog 152 (JP kT JL5) := by
  refine JI (JF JI4 152) fun ps ls r hr hn _ => ?_
  unfold JL5 at hr
  split at hr
  · cases hr; exact ⟨_,Jba _ _ _ (JbI (by exact hn)),fun _ => rfl⟩
  · cases hr
def JV7:List (Nat × JU) := (152,JP kT JL5) :: JQh
theorem JJJ:Known Tryz.prog (JE JV7) Qw := J4 JI4 Jfm
def z7:Tpl := ⟨[.one (.int .i64),.one (.int .i64),.one (.bool),.one (.bool)],[],0⟩
def JBa (m n:Int) (p q:Bool):Bool :=
 bif m == 0 then p && q else bif m == 1 then p && !q else decide (n > 0) || n == 0 && !q
theorem JXW (m n:Int) (p q:Bool):Runs (Jl (JE JV7) Qw 156) (z7.args [.i m,.i n,.b p,.b q]) (z7.memo [.i m,.i n,.b p,.b q] []) z7.n (SV.one (Cb (JBa m n p q))) ([]) :=
  Runs.of1 (ps := []) (by kernel_rfl) (by simp)
def JGV:List Pm → Qs → Option CRes
  | [.i m,.i n,.b p,.b q],[] => some ⟨SV.one (Cb (JBa m n p q)),
 [],[],[],28⟩
  | _,_ => none
theorem Jf1:Qf Tryz.prog 156 (JP z7 JGV) := by
  refine JI (JF JJJ 156) fun ps ls r hr hn _ => ?_
  unfold JGV at hr
  split at hr
  · cases hr; exact ⟨_,JXW _ _ _ _,fun _ => rfl⟩
  · cases hr
def JQs:List (Nat × JU) := (156,JP z7 JGV) :: JV7
theorem JHb:Known Tryz.prog (JE JQs) Qw := J4 JJJ Jf1
def Wb:Tpl := ⟨[.one (.int .u64),.one (.bool)],[],0⟩
def JAl (n:Int) (p:Bool):Int :=
 bif p && decide (n ≤ 9223372036854775808) then IntKind.i64.wrap (IntKind.u64.wrap (0 - n)) else bif !p && decide (n < 9223372036854775808) then IntKind.i64.wrap n else 0
def ko (n:Int) (p:Bool):Bool :=
 p && decide (n ≤ 9223372036854775808) || !p && decide (n < 9223372036854775808)
theorem JSE (n:Int) (p:Bool):Runs (Jl (JE JQs) Qw 157) (Wb.args [.i n,.b p]) (Wb.memo [.i n,.b p] []) Wb.n (SV.tup [(false,[Ci (JAl n p)]),(false,[Cb (ko n p)])]) ([]) :=
  Runs.of1 (ps := []) (by kernel_rfl) (by simp)
def JDD:List Pm → Qs → Option CRes
  | [.i n,.b p],[] => some ⟨SV.tup [(false,[Ci (JAl n p)]),(false,[Cb (ko n p)])],
 [],[],[],26⟩
  | _,_ => none
theorem JaN:Qf Tryz.prog 157 (JP Wb JDD) := by
  refine JI (JF JHb 157) fun ps ls r hr hn _ => ?_
  unfold JDD at hr
  split at hr
  · cases hr; exact ⟨_,JSE _ _,fun _ => rfl⟩
  · cases hr
def JKg:List (Nat × JU) := (157,JP Wb JDD) :: JQs
theorem JEM:Known Tryz.prog (JE JKg) Qw := J4 JHb JaN
theorem Jew {a b c:Int} (ha:u64 a) (hb:u64 b) (hc:0 < c) (hc':c < 18446744073709551616) :
    u64 (Qz 0 a c) ∧ u64 (Qz (Ql 0 a c) b c) ∧ Qz 0 a c * 18446744073709551616 + Qz (Ql 0 a c) b c = (a * 18446744073709551616 + b) / c ∧ JM5 a b c = decide (0 < (a * 18446744073709551616 + b) % c) := by
  obtain ⟨e0,e1⟩ := JGB (a := 0) (b := a) (c := c) (by omega) hc ha.1 ha.2 hc'
  have m3 := Int.emod_nonneg (0 * 18446744073709551616 + a) (show c ≠ 0 by omega)
  have m4 := Int.emod_lt_of_pos (0 * 18446744073709551616 + a) hc
  have dm := Int.mul_ediv_add_emod (0 * 18446744073709551616 + a) c
  have q0 := Int.ediv_nonneg (show 0 ≤ 0 * 18446744073709551616 + a by omega) (show 0 ≤ c by omega)
  have q1 := Int.ediv_le_self c (show 0 ≤ 0 * 18446744073709551616 + a by omega)
  rw [← e1] at m3 m4 dm
  rw [← e0] at dm q0 q1
  obtain ⟨f0,f1⟩ := JGB (a := Ql 0 a c) (b := b) (c := c) m3 m4 hb.1 hb.2 hc'
  have hr:0 ≤ (Ql 0 a c * 18446744073709551616 + b) / c ∧ (Ql 0 a c * 18446744073709551616 + b) / c < 18446744073709551616 := by
    refine ⟨Int.ediv_nonneg (by omega) (by omega),Int.ediv_lt_of_lt_mul hc ?_⟩
    have := Int.mul_le_mul_of_nonneg_right (show Ql 0 a c + 1 ≤ c by omega) (show (0:Int) ≤ 18446744073709551616 by omega)
    have e:18446744073709551616 * c = c * 18446744073709551616 := Int.mul_comm _ _
    rw [e]
    omega
  have ex:a * 18446744073709551616 + b = (Ql 0 a c * 18446744073709551616 + b) + c * (Qz 0 a c * 18446744073709551616) := by
    have e:c * (Qz 0 a c * 18446744073709551616) = c * Qz 0 a c * 18446744073709551616 := by rw [Int.mul_assoc]
    rw [e]
    omega
  refine ⟨⟨q0,by omega⟩,by rw [f0]; exact hr,?_,?_⟩
  · rw [ex,Int.add_mul_ediv_left _ _ (show c ≠ 0 by omega),f0]
    omega
  · unfold JM5
    rw [f1,ex,Int.add_mul_emod_self_left]
def qk:Tpl := ⟨[.one (.int .i64),.one (.int .i64),.one (.int .i64),.one (.int .i64)],[],0⟩
section
variable (a b n m:Int)
def Q9:Int:=
 IntKind.u64.wrap (2 * IntKind.u64.wrap (JA a * JA b))
def JAR:Int:=
 Qz (Ql 0 (Q4 (Q9 a b) (Q9 a b)) (IntKind.u64.wrap n)) (QA (Q9 a b) (Q9 a b)) (IntKind.u64.wrap n)
def KV:Int:=
 JV (Qz 0 (Q4 (Q9 a b) (Q9 a b)) (IntKind.u64.wrap n)) (JAR a b n)
def JEj:Bool:=
 (KV a b n).tmod 2 == 1
def JED:Bool:=
 JM5 (Q4 (Q9 a b) (Q9 a b)) (QA (Q9 a b) (Q9 a b)) (IntKind.u64.wrap n) || !(Q4 (KV a b n) (KV a b n) == Qz 0 (Q4 (Q9 a b) (Q9 a b)) (IntKind.u64.wrap n) && QA (KV a b n) (KV a b n) == JAR a b n)
def JEb:Bool:=
 decide (Qk a b < 0)
def KD:Int:=
 bif decide (JA a > 2147483648) || decide (JA b > 2147483648) || decide (n < 1) || decide (n > 4611686018427387904) || !(m == 0 || m == 1 || m == 2) then 0 else JAl (bif JBa m (bif JEj a b n then bif JED a b n then 1 else 0 else -1) (JED a b n || JEj a b n) (JEb a b) then IntKind.u64.wrap (IntKind.u64.wrap ((KV a b n).tdiv 2) + 1) else IntKind.u64.wrap ((KV a b n).tdiv 2)) (JEb a b)
def JZe:Bool:=
 bif decide (JA a > 2147483648) || decide (JA b > 2147483648) || decide (n < 1) || decide (n > 4611686018427387904) || !(m == 0 || m == 1 || m == 2) then false else ko (bif JBa m (bif JEj a b n then bif JED a b n then 1 else 0 else -1) (JED a b n || JEj a b n) (JEb a b) then IntKind.u64.wrap (IntKind.u64.wrap ((KV a b n).tdiv 2) + 1) else IntKind.u64.wrap ((KV a b n).tdiv 2)) (JEb a b)
def jb:List Prop:=
 [(decide (JA a > 2147483648) || decide (JA b > 2147483648) || decide (n < 1) || decide (n > 4611686018427387904) || !(m == 0 || m == 1 || m == 2)) = false → (0 ≤ Q4 (Q9 a b) (Q9 a b) ∧ Q4 (Q9 a b) (Q9 a b) < 18446744073709551616) ∧ (0 ≤ QA (Q9 a b) (Q9 a b) ∧ QA (Q9 a b) (Q9 a b) < 18446744073709551616) ∧ 0 < IntKind.u64.wrap n ∧ IntKind.u64.wrap n < 18446744073709551616 ∧ (0 ≤ Qz 0 (Q4 (Q9 a b) (Q9 a b)) (IntKind.u64.wrap n) ∧ Qz 0 (Q4 (Q9 a b) (Q9 a b)) (IntKind.u64.wrap n) < 18446744073709551616) ∧ 0 ≤ JAR a b n ∧ JAR a b n < 18446744073709551616]
end
theorem JWv {a:Int} {b:Int} {n:Int} {m:Int} (hW:∀ q ∈ ([KI a,KI b,KI n]:List Prop),q):∀ q ∈ (jb a b n m),q := by
  simp only [awc,awn,and_true] at hW
  unfold jb
  simp only [awc,awn,and_true]
  obtain ⟨ha,hb,hn⟩ := hW
  intro h
  simp only [Bool.or_eq_false_iff,decide_eq_false_iff_not] at h
  have s0:u64 (Q9 a b) := JcH _
  have h0 := JY6 s0 s0
  have h1 := JX4 (Q9 a b) (Q9 a b)
  have ew:IntKind.u64.wrap n = n := zI (by omega) (by omega)
  have hq := Jew h0 h1 (c := n) (by omega) (by omega)
  rw [ew]
  unfold JAR
  rw [ew]
  exact ⟨h0,h1,by omega,by omega,hq.1,hq.2.1.1,hq.2.1.2⟩
theorem JY7 (a b n m:Int) (hNeeds:∀ pN ∈ (jb a b n m),pN):Runs (Jl (JE JKg) Qw 127) (qk.args [.i a,.i b,.i n,.i m]) (qk.memo [.i a,.i b,.i n,.i m] []) qk.n (SV.tup [(false,[Ci (KD a b n m)]),(false,[Cb (JZe a b n m)])]) ([]) :=
  Runs.of1 (ps := (jb a b n m)) (by kernel_rfl) hNeeds
def JGR:List Pm → Qs → Option CRes
  | [.i a,.i b,.i n,.i m],[] => some ⟨SV.tup [(false,[Ci (KD a b n m)]),(false,[Cb (JZe a b n m)])],
 [],[KI a,KI b,KI n],[],785⟩
  | _,_ => none
theorem Jej:Qf Tryz.prog 127 (JP qk JGR) := by
  refine JI (JF JEM 127) fun ps ls r hr hn _ => ?_
  unfold JGR at hr
  split at hr
  · cases hr; exact ⟨_,JY7 _ _ _ _ (JWv (by exact hn)),fun _ => rfl⟩
  · cases hr
def JP3:List (Nat × JU) := (127,JP qk JGR) :: JKg
theorem JHc:Known Tryz.prog (JE JP3) Qw := J4 JEM Jej
def JEH:Tpl := ⟨[.one (.int .i64),.one (.int .i64)],[],0⟩
def Jr (n m:Int):Bool :=
 decide (n ≥ IntKind.i64.wrap (0 - m)) && decide (n ≤ m)
theorem Jel (n m:Int):Runs (Jl (JE JP3) Qw 103) (JEH.args [.i n,.i m]) (JEH.memo [.i n,.i m] []) JEH.n (SV.one (Cb (Jr n m))) ([]) :=
  Runs.of1 (ps := []) (by kernel_rfl) (by simp)
def JP9:List Pm → Qs → Option CRes
  | [.i n,.i m],[] => some ⟨SV.one (Cb (Jr n m)),
 [],[],[],11⟩
  | _,_ => none
theorem Jh4:Qf Tryz.prog 103 (JP JEH JP9) := by
  refine JI (JF JHc 103) fun ps ls r hr hn _ => ?_
  unfold JP9 at hr
  split at hr
  · cases hr; exact ⟨_,Jel _ _,fun _ => rfl⟩
  · cases hr
def Jcs:List (Nat × JU) := (103,JP JEH JP9) :: JP3
theorem JNs:Known Tryz.prog (JE Jcs) Qw := J4 JHc Jh4
theorem JBC {n m:Int} (h:0 ≤ m) (h2:m ≤ 1000000000):Jr n m = true ↔ bd m n := by
  unfold Jr
  rw [Wu (x := 0 - m) (by omega) (by omega)]
  simp only [Bool.and_eq_true,decide_eq_true_eq]
  omega
def Yp:Tpl := ⟨[.agg [.int .i64,.int .i64],.agg [.int .i64,.int .i64],.one (.int .i64)],[],0⟩
def JBE (a b c d s:Int):Int :=
 bif QQ a b c d == 0 && decide (J7 a b c d > 0) then 0 else bif decide (QQ a b c d > 0) && decide (s > 0) || decide (QQ a b c d < 0) && decide (s < 0) then 2 else 1
theorem JQ3 (a b c d s:Int):Runs (Jl (JE Jcs) Qw 107) (Yp.args [.i a,.i b,.i c,.i d,.i s]) (Yp.memo [.i a,.i b,.i c,.i d,.i s] []) Yp.n (SV.one (Ci (JBE a b c d s))) ([]) :=
  Runs.of1 (ps := []) (by kernel_rfl) (by simp)
def JAb:List Pm → Qs → Option CRes
  | [.i a,.i b,.i c,.i d,.i s],[] => some ⟨SV.one (Ci (JBE a b c d s)),
 [],[],[],82⟩
  | _,_ => none
theorem JWa:Qf Tryz.prog 107 (JP Yp JAb) := by
  refine JI (JF JNs 107) fun ps ls r hr hn _ => ?_
  unfold JAb at hr
  split at hr
  · cases hr; exact ⟨_,JQ3 _ _ _ _ _,fun _ => rfl⟩
  · cases hr
def JGo:List (Nat × JU) := (107,JP Yp JAb) :: Jcs
theorem JBv:Known Tryz.prog (JE JGo) Qw := J4 JNs JWa
theorem JhI {p0 p1 t0 t1 r:Int} (h:(t0 == 0 && t1 == 0 || !Jr t0 4194304 || !Jr t1 4194304 || !Jr p0 1048576 || !Jr p1 1048576 || !Jr r 32768) = false):(t0 ≠ 0 ∨ t1 ≠ 0) ∧ bd 4194304 t0 ∧ bd 4194304 t1 ∧ bd 1048576 p0 ∧ bd 1048576 p1 ∧ bd 32768 r := by
  simp only [Bool.or_eq_false_iff,Bool.not_eq_false',Bool.and_eq_false_iff,beq_eq_false_iff_ne] at h
  obtain ⟨⟨⟨⟨⟨h0,h1⟩,h2⟩,h3⟩,h4⟩,h5⟩ := h
  exact ⟨h0,(JBC (by omega) (by omega)).1 h1,(JBC (by omega) (by omega)).1 h2,(JBC (by omega) (by omega)).1 h3,(JBC (by omega) (by omega)).1 h4,(JBC (by omega) (by omega)).1 h5⟩
def YW:Tpl := ⟨[.agg [.int .i64,.int .i64],.agg [.int .i64,.int .i64],.one (.int .i64)],[],0⟩
section
variable (p0 p1 t0 t1 r:Int)
def Zn:Int:=
 bif t0 == 0 && t1 == 0 || !Jr t0 4194304 || !Jr t1 4194304 || !Jr p0 1048576 || !Jr p1 1048576 || !Jr r 32768 then 0 else JD p0 (KD (IntKind.i64.wrap (0 - t1)) r (J7 t0 t1 t0 t1) 2)
def Zp:Int:=
 bif t0 == 0 && t1 == 0 || !Jr t0 4194304 || !Jr t1 4194304 || !Jr p0 1048576 || !Jr p1 1048576 || !Jr r 32768 then 0 else JD p1 (KD t0 r (J7 t0 t1 t0 t1) 2)
def JO7:Bool:=
 !(t0 == 0 && t1 == 0 || !Jr t0 4194304 || !Jr t1 4194304 || !Jr p0 1048576 || !Jr p1 1048576 || !Jr r 32768)
def JKw:Prop:=
 -9223372036854775808 ≤ J7 t0 t1 t0 t1 ∧ J7 t0 t1 t0 t1 < 9223372036854775808
def YD:List Prop:=
 [(t0 == 0 && t1 == 0 || !Jr t0 4194304 || !Jr t1 4194304 || !Jr p0 1048576 || !Jr p1 1048576 || !Jr r 32768) = false → (-9223372036854775808 ≤ IntKind.i64.wrap (0 - t1) ∧ IntKind.i64.wrap (0 - t1) < 9223372036854775808) ∧ (-9223372036854775808 ≤ r ∧ r < 9223372036854775808) ∧ JKw t0 t1 ∧ (-9223372036854775808 ≤ t0 ∧ t0 < 9223372036854775808) ∧ (-9223372036854775808 ≤ r ∧ r < 9223372036854775808) ∧ JKw t0 t1]
end
theorem JPH {p0:Int} {p1:Int} {t0:Int} {t1:Int} {r:Int}:∀ q ∈ (YD p0 p1 t0 t1 r),q := by
  unfold YD
  simp only [awc,awn,and_true]
  intro h
  obtain ⟨h0,h1,h2,h3,h4,h5⟩ := JhI h
  exact ⟨ZH _,⟨by omega,by omega⟩,ZH _,⟨by omega,by omega⟩,⟨by omega,by omega⟩,ZH _⟩
theorem JQ6 (p0 p1 t0 t1 r:Int) (hNeeds:∀ pN ∈ (YD p0 p1 t0 t1 r),pN):Runs (Jl (JE JGo) Qw 100) (YW.args [.i p0,.i p1,.i t0,.i t1,.i r]) (YW.memo [.i p0,.i p1,.i t0,.i t1,.i r] []) YW.n (SV.tup [(true,[Ci (Zn p0 p1 t0 t1 r),Ci (Zp p0 p1 t0 t1 r)]),(false,[Cb (JO7 p0 p1 t0 t1 r)])]) ([]) :=
  Runs.of1 (ps := (YD p0 p1 t0 t1 r)) (by kernel_rfl) hNeeds
def kW:List Pm → Qs → Option CRes
  | [.i p0,.i p1,.i t0,.i t1,.i r],[] => some ⟨SV.tup [(true,[Ci (Zn p0 p1 t0 t1 r),Ci (Zp p0 p1 t0 t1 r)]),(false,[Cb (JO7 p0 p1 t0 t1 r)])],
 [],[],[],1758⟩
  | _,_ => none
theorem JVu:Qf Tryz.prog 100 (JP YW kW) := by
  refine JI (JF JBv 100) fun ps ls r hr hn _ => ?_
  unfold kW at hr
  split at hr
  · cases hr; exact ⟨_,JQ6 _ _ _ _ _ (fun p hp => JPH p hp),fun _ => rfl⟩
  · cases hr
def JGY:List (Nat × JU) := (100,JP YW kW) :: JGo
theorem JBn:Known Tryz.prog (JE JGY) Qw := J4 JBv JVu
def YV:Tpl := ⟨[.agg [.int .i64,.int .i64,.int .i64,.int .i64,.int .i64,.int .i64,.int .i64,.bool],.one (.int .i64)],[],0⟩
def KK (e6 r:Int):Bool :=
 decide (e6 > 0) && decide (r ≥ 0) || decide (e6 < 0) && decide (r < 0)
theorem JQf (e0 e1 e2 e3 e4 e5 e6:Int) (e7:Bool) (r:Int):Runs (Jl (JE JGY) Qw 98) (YV.args [.i e0,.i e1,.i e2,.i e3,.i e4,.i e5,.i e6,.b e7,.i r]) (YV.memo [.i e0,.i e1,.i e2,.i e3,.i e4,.i e5,.i e6,.b e7,.i r] []) YV.n (SV.one (Cb (KK e6 r))) ([]) :=
  Runs.of1 (ps := []) (by kernel_rfl) (by simp)
def ky:List Pm → Qs → Option CRes
  | [.i e0,.i e1,.i e2,.i e3,.i e4,.i e5,.i e6,.b e7,.i r],[] => some ⟨SV.one (Cb (KK e6 r)),
 [],[],[],30⟩
  | _,_ => none
theorem JXa:Qf Tryz.prog 98 (JP YV ky) := by
  refine JI (JF JBn 98) fun ps ls r hr hn _ => ?_
  unfold ky at hr
  split at hr
  · cases hr; exact ⟨_,JQf _ _ _ _ _ _ _ _ _,fun _ => rfl⟩
  · cases hr
def JHC:List (Nat × JU) := (98,JP YV ky) :: JGY
theorem JC1:Known Tryz.prog (JE JHC) Qw := J4 JBn JXa
def YZ:Tpl := ⟨[.one (.int .i64),.one (.int .i64),.one (.int .i64)],[],0⟩
section
variable (a b c:Int)
def JCH:Int:=
 IntKind.i64.wrap (IntKind.i64.wrap (c - a) - IntKind.i64.wrap (b * b))
def JWZ:Int:=
 JCB (IntKind.i64.wrap (IntKind.i64.wrap (4 * b) * b)) a (JCH a b c) (JCH a b c)
def JAx:Bool:=
 decide (JCH a b c ≥ 0) && decide (JWZ a b c ≤ 0)
end
theorem JOX (a b c:Int):Runs (Jl (JE JHC) Qw 159) (YZ.args [.i a,.i b,.i c]) (YZ.memo [.i a,.i b,.i c] []) YZ.n (SV.one (Cb (JAx a b c))) ([]) :=
  Runs.of1 (ps := []) (by kernel_rfl) (by simp)
def JA0:List Pm → Qs → Option CRes
  | [.i a,.i b,.i c],[] => some ⟨SV.one (Cb (JAx a b c)),
 [],[],[],309⟩
  | _,_ => none
theorem JV4:Qf Tryz.prog 159 (JP YZ JA0) := by
  refine JI (JF JC1 159) fun ps ls r hr hn _ => ?_
  unfold JA0 at hr
  split at hr
  · cases hr; exact ⟨_,JOX _ _ _,fun _ => rfl⟩
  · cases hr
def JFh:List (Nat × JU) := (159,JP YZ JA0) :: JHC
theorem JBm:Known Tryz.prog (JE JFh) Qw := J4 JC1 JV4
def Wi:Tpl := ⟨[.agg [.int .i64,.int .i64,.int .i64,.int .i64,.int .i64,.int .i64,.int .i64,.bool],.agg [.int .i64,.int .i64],.one (.int .i64)],[],0⟩
section
variable (e0 e1 e2 e3 e4 e5 e6 y0 y1 r:Int)
def Jad:Int:=
 JCB (QQ (J3 e2 e0) (J3 e3 e1) (J3 y0 e0) (J3 y1 e1)) (QQ (J3 e2 e0) (J3 e3 e1) (J3 y0 e0) (J3 y1 e1)) (IntKind.i64.wrap (r * r)) (J7 (J3 e2 e0) (J3 e3 e1) (J3 e2 e0) (J3 e3 e1))
def JMk:Int:=
 if IntKind.i64.wrap (0 - r) > r then IntKind.i64.wrap (0 - r) else r
def ZA:Bool:=
 bif e6 == 0 then (decide (r ≥ 0) && decide (QQ (J3 e2 e0) (J3 e3 e1) (J3 y0 e0) (J3 y1 e1) ≥ 0) || decide (r < 0) && decide (QQ (J3 e2 e0) (J3 e3 e1) (J3 y0 e0) (J3 y1 e1) ≤ 0)) && decide (Jad e0 e1 e2 e3 y0 y1 r ≥ 0) else bif KK e6 r then JAx (J7 (J3 y0 e4) (J3 y1 e5) (J3 y0 e4) (J3 y1 e5)) (JMk r) (J7 (J3 e2 e4) (J3 e3 e5) (J3 e2 e4) (J3 e3 e5)) else JAx (J7 (J3 e2 e4) (J3 e3 e5) (J3 e2 e4) (J3 e3 e5)) (JMk r) (J7 (J3 y0 e4) (J3 y1 e5) (J3 y0 e4) (J3 y1 e5))
end
theorem JTD (e0 e1 e2 e3 e4 e5 e6:Int) (e7:Bool) (y0 y1 r:Int):Runs (Jl (JE JFh) Qw 134) (Wi.args [.i e0,.i e1,.i e2,.i e3,.i e4,.i e5,.i e6,.b e7,.i y0,.i y1,.i r]) (Wi.memo [.i e0,.i e1,.i e2,.i e3,.i e4,.i e5,.i e6,.b e7,.i y0,.i y1,.i r] []) Wi.n (SV.one (Cb (ZA e0 e1 e2 e3 e4 e5 e6 y0 y1 r))) ([]) :=
  Runs.of1 (ps := []) (by kernel_rfl) (by simp)
def JCq:List Pm → Qs → Option CRes
  | [.i e0,.i e1,.i e2,.i e3,.i e4,.i e5,.i e6,.b e7,.i y0,.i y1,.i r],[] => some ⟨SV.one (Cb (ZA e0 e1 e2 e3 e4 e5 e6 y0 y1 r)),
 [],[],[],1236⟩
  | _,_ => none
theorem JbS:Qf Tryz.prog 134 (JP Wi JCq) := by
  refine JI (JF JBm 134) fun ps ls r hr hn _ => ?_
  unfold JCq at hr
  split at hr
  · cases hr; exact ⟨_,JTD _ _ _ _ _ _ _ _ _ _ _,fun _ => rfl⟩
  · cases hr
def JL2:List (Nat × JU) := (134,JP Wi JCq) :: JFh
theorem JEw:Known Tryz.prog (JE JL2) Qw := J4 JBm JbS
def JAt:Tpl := ⟨[.one (.int .i64),.agg [.int .i64,.int .i64,.int .i64]],[],0⟩
section
variable (p a b c:Int)
def J9:Int:=
 bif p == 17 then a else bif p == 18 then c else bif p == 19 then b else 0
def J8:Int:=
 bif p == 17 then b else bif p == 18 then a else bif p == 19 then c else 0
def JY:Int:=
 bif p == 17 then c else bif p == 18 then b else bif p == 19 then a else 0
def zy:Bool:=
 p == 17 || (p == 18 || p == 19)
end
theorem Ja0 (p a b c:Int):Runs (Jl (JE JL2) Qw 96) (JAt.args [.i p,.i a,.i b,.i c]) (JAt.memo [.i p,.i a,.i b,.i c] []) JAt.n (SV.tup [(true,[Ci (J9 p a b c),Ci (J8 p a b c)]),(false,[Ci (JY p a b c)]),(false,[Cb (zy p)])]) ([]) :=
  Runs.of1 (ps := []) (by kernel_rfl) (by simp)
def JLO:List Pm → Qs → Option CRes
  | [.i p,.i a,.i b,.i c],[] => some ⟨SV.tup [(true,[Ci (J9 p a b c),Ci (J8 p a b c)]),(false,[Ci (JY p a b c)]),(false,[Cb (zy p)])],
 [],[],[],66⟩
  | _,_ => none
theorem JBB:Qf Tryz.prog 96 (JP JAt JLO) := by
  refine JI (JF JEw 96) fun ps ls r hr hn _ => ?_
  unfold JLO at hr
  split at hr
  · cases hr; exact ⟨_,Ja0 _ _ _ _,fun _ => rfl⟩
  · cases hr
def JWx:List (Nat × JU) := (96,JP JAt JLO) :: JL2
theorem JLG:Known Tryz.prog (JE JWx) Qw := J4 JEw JBB
def qd:Tpl := ⟨[.one (.int .i64),.agg [.int .i64,.int .i64],.one (.int .i64)],[],0⟩
section
variable (p u w h:Int)
def QS:Int:=
 bif p == 17 then u else bif p == 18 then w else bif p == 19 then h else 0
def QT:Int:=
 bif p == 17 then w else bif p == 18 then h else bif p == 19 then u else 0
def QU:Int:=
 bif p == 17 then h else bif p == 18 then u else bif p == 19 then w else 0
end
theorem JXg (p u w h:Int):Runs (Jl (JE JWx) Qw 131) (qd.args [.i p,.i u,.i w,.i h]) (qd.memo [.i p,.i u,.i w,.i h] []) qd.n (SV.tup [(true,[Ci (QS p u w h),Ci (QT p u w h),Ci (QU p u w h)]),(false,[Cb (zy p)])]) ([]) :=
  Runs.of1 (ps := []) (by kernel_rfl) (by simp)
def JH1:List Pm → Qs → Option CRes
  | [.i p,.i u,.i w,.i h],[] => some ⟨SV.tup [(true,[Ci (QS p u w h),Ci (QT p u w h),Ci (QU p u w h)]),(false,[Cb (zy p)])],
 [],[],[],65⟩
  | _,_ => none
theorem Jcv:Qf Tryz.prog 131 (JP qd JH1) := by
  refine JI (JF JLG 131) fun ps ls r hr hn _ => ?_
  unfold JH1 at hr
  split at hr
  · cases hr; exact ⟨_,JXg _ _ _ _,fun _ => rfl⟩
  · cases hr
def JOp:List (Nat × JU) := (131,JP qd JH1) :: JWx
theorem JI8:Known Tryz.prog (JE JOp) Qw := J4 JLG Jcv
def YM:Tpl := ⟨[.agg [.int .i64,.int .i64,.int .i64]],[],0⟩
def Za (a b c:Int):Bool :=
 decide (a ≥ -1048576) && decide (a ≤ 1048576) && (decide (b ≥ -1048576) && decide (b ≤ 1048576)) && (decide (c ≥ -1048576) && decide (c ≤ 1048576))
theorem JQP (a b c:Int):Runs (Jl (JE JOp) Qw 93) (YM.args [.i a,.i b,.i c]) (YM.memo [.i a,.i b,.i c] []) YM.n (SV.one (Cb (Za a b c))) ([]) :=
  Runs.of1 (ps := []) (by kernel_rfl) (by simp)
def JAs:List Pm → Qs → Option CRes
  | [.i a,.i b,.i c],[] => some ⟨SV.one (Cb (Za a b c)),
 [],[],[],44⟩
  | _,_ => none
theorem JWi:Qf Tryz.prog 93 (JP YM JAs) := by
  refine JI (JF JI8 93) fun ps ls r hr hn _ => ?_
  unfold JAs at hr
  split at hr
  · cases hr; exact ⟨_,JQP _ _ _,fun _ => rfl⟩
  · cases hr
def JGz:List (Nat × JU) := (93,JP YM JAs) :: JOp
theorem JBc:Known Tryz.prog (JE JGz) Qw := J4 JI8 JWi
def Yf:Tpl := ⟨[.one (.int .i64),.one (.int .i64)],[],0⟩
section
variable (a b:Int)
def KE:Int:=
 IntKind.i64.wrap (IntKind.i64.wrap ((if b > a then b else a) - if b < a then b else a) - 16)
def JL1:Int:=
 JCB (KE a b) (KE a b) 64 (if b < a then b else a)
def Kh:Bool:=
 decide (KE a b ≤ 0) || decide (JL1 a b ≤ 0)
end
theorem JR7 (a b:Int):Runs (Jl (JE JGz) Qw 125) (Yf.args [.i a,.i b]) (Yf.memo [.i a,.i b] []) Yf.n (SV.one (Cb (Kh a b))) ([]) :=
  Runs.of1 (ps := []) (by kernel_rfl) (by simp)
def kc:List Pm → Qs → Option CRes
  | [.i a,.i b],[] => some ⟨SV.one (Cb (Kh a b)),
 [],[],[],310⟩
  | _,_ => none
theorem JXN:Qf Tryz.prog 125 (JP Yf kc) := by
  refine JI (JF JBc 125) fun ps ls r hr hn _ => ?_
  unfold kc at hr
  split at hr
  · cases hr; exact ⟨_,JR7 _ _,fun _ => rfl⟩
  · cases hr
def JFn:List (Nat × JU) := (125,JP Yf kc) :: JGz
theorem JBq:Known Tryz.prog (JE JFn) Qw := J4 JBc JXN
def YH:Tpl := ⟨[.agg [.int .i64,.int .i64],.agg [.int .i64,.int .i64]],[],0⟩
def jv (a b c d:Int):Bool :=
 QQ a b c d == 0 && decide (J7 a b c d > 0)
theorem JPe (a b c d:Int):Runs (Jl (JE JFn) Qw 126) (YH.args [.i a,.i b,.i c,.i d]) (YH.memo [.i a,.i b,.i c,.i d] []) YH.n (SV.one (Cb (jv a b c d))) ([]) :=
  Runs.of1 (ps := []) (by kernel_rfl) (by simp)
def JAe:List Pm → Qs → Option CRes
  | [.i a,.i b,.i c,.i d],[] => some ⟨SV.one (Cb (jv a b c d)),
 [],[],[],62⟩
  | _,_ => none
theorem JWO:Qf Tryz.prog 126 (JP YH JAe) := by
  refine JI (JF JBq 126) fun ps ls r hr hn _ => ?_
  unfold JAe at hr
  split at hr
  · cases hr; exact ⟨_,JPe _ _ _ _,fun _ => rfl⟩
  · cases hr
def JGZ:List (Nat × JU) := (126,JP YH JAe) :: JFn
theorem JC5:Known Tryz.prog (JE JGZ) Qw := J4 JBq JWO
def qK:Tpl := ⟨[.agg [.int .i64,.int .i64,.int .i64,.int .i64,.int .i64,.int .i64,.int .i64,.bool]],[],0⟩
section
variable (e4 e6:Int) (e7:Bool)
def Jq:Int:=
 bif e6 != 0 then 3 else 2
def JJ:Int:=
 bif e6 != 0 then e4 else 0
def Jh:Int:=
 bif e6 != 0 then e6 else 0
def JQu:Bool:=
 e6 != 0 && e7
end
theorem JXv (e0 e1 e2 e3 e4 e5 e6:Int) (e7:Bool):Runs (Jl (JE JGZ) Qw 102) (qK.args [.i e0,.i e1,.i e2,.i e3,.i e4,.i e5,.i e6,.b e7]) (qK.memo [.i e0,.i e1,.i e2,.i e3,.i e4,.i e5,.i e6,.b e7] []) qK.n (SV.agg [Ci (Jq e6),SC.int IntKind.i64 (SI.c 0),Ci e0,Ci e1,SC.int IntKind.i64 (SI.c 0),Ci e2,Ci e3,SC.int IntKind.i64 (SI.c 0),SC.int IntKind.i64 (SI.c 17),Ci (JJ e4 e6),Ci (JJ e5 e6),SC.int IntKind.i64 (SI.c 0),Ci (Jh e6),Cb (JQu e6 e7),SC.int IntKind.i64 (SI.c 0),SC.bool (SB.c false),SC.int IntKind.i64 (SI.c 0),SC.int IntKind.i64 (SI.c 0),SC.int IntKind.i64 (SI.c 0),SC.int IntKind.i64 (SI.c 0),SC.int IntKind.i64 (SI.c 0),SC.bool (SB.c false)]) ([]) :=
  Runs.of1 (ps := []) (by kernel_rfl) (by simp)
def JG8:List Pm → Qs → Option CRes
  | [.i e0,.i e1,.i e2,.i e3,.i e4,.i e5,.i e6,.b e7],[] => some ⟨SV.agg [Ci (Jq e6),SC.int IntKind.i64 (SI.c 0),Ci e0,Ci e1,SC.int IntKind.i64 (SI.c 0),Ci e2,Ci e3,SC.int IntKind.i64 (SI.c 0),SC.int IntKind.i64 (SI.c 17),Ci (JJ e4 e6),Ci (JJ e5 e6),SC.int IntKind.i64 (SI.c 0),Ci (Jh e6),Cb (JQu e6 e7),SC.int IntKind.i64 (SI.c 0),SC.bool (SB.c false),SC.int IntKind.i64 (SI.c 0),SC.int IntKind.i64 (SI.c 0),SC.int IntKind.i64 (SI.c 0),SC.int IntKind.i64 (SI.c 0),SC.int IntKind.i64 (SI.c 0),SC.bool (SB.c false)],
 [],[],[],206⟩
  | _,_ => none
theorem Jdp:Qf Tryz.prog 102 (JP qK JG8) := by
  refine JI (JF JC5 102) fun ps ls r hr hn _ => ?_
  unfold JG8 at hr
  split at hr
  · cases hr; exact ⟨_,JXv _ _ _ _ _ _ _ _,fun _ => rfl⟩
  · cases hr
def JRK:List (Nat × JU) := (102,JP qK JG8) :: JGZ
theorem JHj:Known Tryz.prog (JE JRK) Qw := J4 JC5 Jdp
def YT:Tpl := ⟨[.agg pI],[],0⟩
def QE (f0 f1 f2 p c0 c1 c2:Int):Int :=
 IntKind.i64.wrap (J9 p f0 f1 f2 - J9 p c0 c1 c2)
def QF (f0 f1 f2 p c0 c1 c2:Int):Int :=
 IntKind.i64.wrap (J8 p f0 f1 f2 - J8 p c0 c1 c2)
theorem JPD (k bl f0 f1 f2 t0 t1 t2 p c0 c1 c2 d:Int) (fu:Bool) (fe:Int) (pr:Bool) (si ra be n sp:Int) (on:Bool):Runs (Jl (JE JRK) Qw 124) (YT.args [.i k,.i bl,.i f0,.i f1,.i f2,.i t0,.i t1,.i t2,.i p,.i c0,.i c1,.i c2,.i d,.b fu,.i fe,.b pr,.i si,.i ra,.i be,.i n,.i sp,.b on]) (YT.memo [.i k,.i bl,.i f0,.i f1,.i f2,.i t0,.i t1,.i t2,.i p,.i c0,.i c1,.i c2,.i d,.b fu,.i fe,.b pr,.i si,.i ra,.i be,.i n,.i sp,.b on] []) YT.n (SV.tup [(true,[Ci (QE f0 f1 f2 p c0 c1 c2),Ci (QF f0 f1 f2 p c0 c1 c2)]),(true,[Ci (QE t0 t1 t2 p c0 c1 c2),Ci (QF t0 t1 t2 p c0 c1 c2)])]) ([]) :=
  Runs.of1 (ps := []) (by kernel_rfl) (by simp)
def kX:List Pm → Qs → Option CRes
  | [.i k,.i bl,.i f0,.i f1,.i f2,.i t0,.i t1,.i t2,.i p,.i c0,.i c1,.i c2,.i d,.b fu,.i fe,.b pr,.i si,.i ra,.i be,.i n,.i sp,.b on],[] => some ⟨SV.tup [(true,[Ci (QE f0 f1 f2 p c0 c1 c2),Ci (QF f0 f1 f2 p c0 c1 c2)]),(true,[Ci (QE t0 t1 t2 p c0 c1 c2),Ci (QF t0 t1 t2 p c0 c1 c2)])],
 [],[],[],312⟩
  | _,_ => none
theorem JWs:Qf Tryz.prog 124 (JP YT kX) := by
  refine JI (JF JHj 124) fun ps ls r hr hn _ => ?_
  unfold kX at hr
  split at hr
  · cases hr; exact ⟨_,JPD _ _ _ _ _ _ _ _ _ _ _ _ _ _ _ _ _ _ _ _ _ _,fun _ => rfl⟩
  · cases hr
def JFj:List (Nat × JU) := (124,JP YT kX) :: JRK
theorem JBy:Known Tryz.prog (JE JFj) Qw := J4 JHj JWs
def z5:Tpl := ⟨[.agg pI,.one (.bool)],[],0⟩
section
variable (k f0 f1 f2 t0 t1 t2 p c0 c1 c2 d:Int) (e:Bool)
def JSH:Int:=
 bif e then QF t0 t1 t2 p c0 c1 c2 else QF f0 f1 f2 p c0 c1 c2
def Qe:Int:=
 bif k != 3 then IntKind.i64.wrap (J9 p t0 t1 t2 - J9 p f0 f1 f2) else bif decide (d < 0) then JSH f0 f1 f2 t0 t1 t2 p c0 c1 c2 e else IntKind.i64.wrap (0 - JSH f0 f1 f2 t0 t1 t2 p c0 c1 c2 e)
def JRP:Int:=
 bif e then QE t0 t1 t2 p c0 c1 c2 else QE f0 f1 f2 p c0 c1 c2
def Qd:Int:=
 bif k != 3 then IntKind.i64.wrap (J8 p t0 t1 t2 - J8 p f0 f1 f2) else bif decide (d < 0) then IntKind.i64.wrap (0 - JRP f0 f1 f2 t0 t1 t2 p c0 c1 c2 e) else JRP f0 f1 f2 t0 t1 t2 p c0 c1 c2 e
end
theorem JXE (k bl f0 f1 f2 t0 t1 t2 p c0 c1 c2 d:Int) (fu:Bool) (fe:Int) (pr:Bool) (si ra be n sp:Int) (on e:Bool):Runs (Jl (JE JFj) Qw 101) (z5.args [.i k,.i bl,.i f0,.i f1,.i f2,.i t0,.i t1,.i t2,.i p,.i c0,.i c1,.i c2,.i d,.b fu,.i fe,.b pr,.i si,.i ra,.i be,.i n,.i sp,.b on,.b e]) (z5.memo [.i k,.i bl,.i f0,.i f1,.i f2,.i t0,.i t1,.i t2,.i p,.i c0,.i c1,.i c2,.i d,.b fu,.i fe,.b pr,.i si,.i ra,.i be,.i n,.i sp,.b on,.b e] []) z5.n (SV.agg [Ci (Qe k f0 f1 f2 t0 t1 t2 p c0 c1 c2 d e),Ci (Qd k f0 f1 f2 t0 t1 t2 p c0 c1 c2 d e)]) ([]) :=
  Runs.of1 (ps := []) (by kernel_rfl) (by simp)
def JHA:List Pm → Qs → Option CRes
  | [.i k,.i bl,.i f0,.i f1,.i f2,.i t0,.i t1,.i t2,.i p,.i c0,.i c1,.i c2,.i d,.b fu,.i fe,.b pr,.i si,.i ra,.i be,.i n,.i sp,.b on,.b e],[] => some ⟨SV.agg [Ci (Qe k f0 f1 f2 t0 t1 t2 p c0 c1 c2 d e),Ci (Qd k f0 f1 f2 t0 t1 t2 p c0 c1 c2 d e)],
 [],[],[],576⟩
  | _,_ => none
theorem Jcu:Qf Tryz.prog 101 (JP z5 JHA) := by
  refine JI (JF JBy 101) fun ps ls r hr hn _ => ?_
  unfold JHA at hr
  split at hr
  · cases hr; exact ⟨_,JXE _ _ _ _ _ _ _ _ _ _ _ _ _ _ _ _ _ _ _ _ _ _ _,fun _ => rfl⟩
  · cases hr
def JPn:List (Nat × JU) := (101,JP z5 JHA) :: JFj
theorem JHq:Known Tryz.prog (JE JPn) Qw := J4 JBy Jcu
def qt:Tpl := ⟨[.agg [.int .i64,.int .i64,.int .i64,.int .i64,.int .i64,.int .i64,.int .i64,.bool],.one (.int .i64)],[],0⟩
section
variable (e0 e1 e2 e3 e4 e5 e6 r:Int)
def Qu:Int:=
 IntKind.i64.wrap ((if IntKind.i64.wrap (0 - r) > r then IntKind.i64.wrap (0 - r) else r) + 8)
def JTE:Int:=
 Zn e0 e1 (Qe (Jq e6) e0 e1 0 e2 e3 0 17 (JJ e4 e6) (JJ e5 e6) 0 (Jh e6) false) (Qd (Jq e6) e0 e1 0 e2 e3 0 17 (JJ e4 e6) (JJ e5 e6) 0 (Jh e6) false) r
def JUw:Int:=
 bif !Jr (JTE e0 e1 e2 e3 e4 e5 e6 r) 1048576 then 0 else bif !Jr (Zp e0 e1 (Qe (Jq e6) e0 e1 0 e2 e3 0 17 (JJ e4 e6) (JJ e5 e6) 0 (Jh e6) false) (Qd (Jq e6) e0 e1 0 e2 e3 0 17 (JJ e4 e6) (JJ e5 e6) 0 (Jh e6) false) r) 1048576 then 0 else bif !Jr (Zn e2 e3 (Qe (Jq e6) e0 e1 0 e2 e3 0 17 (JJ e4 e6) (JJ e5 e6) 0 (Jh e6) true) (Qd (Jq e6) e0 e1 0 e2 e3 0 17 (JJ e4 e6) (JJ e5 e6) 0 (Jh e6) true) r) 1048576 then 0 else bif !Jr (Zp e2 e3 (Qe (Jq e6) e0 e1 0 e2 e3 0 17 (JJ e4 e6) (JJ e5 e6) 0 (Jh e6) true) (Qd (Jq e6) e0 e1 0 e2 e3 0 17 (JJ e4 e6) (JJ e5 e6) 0 (Jh e6) true) r) 1048576 then 0 else JTE e0 e1 e2 e3 e4 e5 e6 r
def ZX:Int:=
 bif e6 != 0 && KK e6 r then bif decide (J7 (J3 e0 e4) (J3 e1 e5) (J3 e0 e4) (J3 e1 e5) < IntKind.i64.wrap (Qu r * Qu r)) then 0 else bif decide (J7 (J3 e2 e4) (J3 e3 e5) (J3 e2 e4) (J3 e3 e5) < IntKind.i64.wrap (Qu r * Qu r)) then 0 else JUw e0 e1 e2 e3 e4 e5 e6 r else JUw e0 e1 e2 e3 e4 e5 e6 r
def JSs:Int:=
 Zp e0 e1 (Qe (Jq e6) e0 e1 0 e2 e3 0 17 (JJ e4 e6) (JJ e5 e6) 0 (Jh e6) false) (Qd (Jq e6) e0 e1 0 e2 e3 0 17 (JJ e4 e6) (JJ e5 e6) 0 (Jh e6) false) r
def JTZ:Int:=
 bif !Jr (Zn e0 e1 (Qe (Jq e6) e0 e1 0 e2 e3 0 17 (JJ e4 e6) (JJ e5 e6) 0 (Jh e6) false) (Qd (Jq e6) e0 e1 0 e2 e3 0 17 (JJ e4 e6) (JJ e5 e6) 0 (Jh e6) false) r) 1048576 then 0 else bif !Jr (JSs e0 e1 e2 e3 e4 e5 e6 r) 1048576 then 0 else bif !Jr (Zn e2 e3 (Qe (Jq e6) e0 e1 0 e2 e3 0 17 (JJ e4 e6) (JJ e5 e6) 0 (Jh e6) true) (Qd (Jq e6) e0 e1 0 e2 e3 0 17 (JJ e4 e6) (JJ e5 e6) 0 (Jh e6) true) r) 1048576 then 0 else bif !Jr (Zp e2 e3 (Qe (Jq e6) e0 e1 0 e2 e3 0 17 (JJ e4 e6) (JJ e5 e6) 0 (Jh e6) true) (Qd (Jq e6) e0 e1 0 e2 e3 0 17 (JJ e4 e6) (JJ e5 e6) 0 (Jh e6) true) r) 1048576 then 0 else JSs e0 e1 e2 e3 e4 e5 e6 r
def ZV:Int:=
 bif e6 != 0 && KK e6 r then bif decide (J7 (J3 e0 e4) (J3 e1 e5) (J3 e0 e4) (J3 e1 e5) < IntKind.i64.wrap (Qu r * Qu r)) then 0 else bif decide (J7 (J3 e2 e4) (J3 e3 e5) (J3 e2 e4) (J3 e3 e5) < IntKind.i64.wrap (Qu r * Qu r)) then 0 else JTZ e0 e1 e2 e3 e4 e5 e6 r else JTZ e0 e1 e2 e3 e4 e5 e6 r
def JU4:Int:=
 Zn e2 e3 (Qe (Jq e6) e0 e1 0 e2 e3 0 17 (JJ e4 e6) (JJ e5 e6) 0 (Jh e6) true) (Qd (Jq e6) e0 e1 0 e2 e3 0 17 (JJ e4 e6) (JJ e5 e6) 0 (Jh e6) true) r
def JSx:Int:=
 bif !Jr (Zn e0 e1 (Qe (Jq e6) e0 e1 0 e2 e3 0 17 (JJ e4 e6) (JJ e5 e6) 0 (Jh e6) false) (Qd (Jq e6) e0 e1 0 e2 e3 0 17 (JJ e4 e6) (JJ e5 e6) 0 (Jh e6) false) r) 1048576 then 0 else bif !Jr (Zp e0 e1 (Qe (Jq e6) e0 e1 0 e2 e3 0 17 (JJ e4 e6) (JJ e5 e6) 0 (Jh e6) false) (Qd (Jq e6) e0 e1 0 e2 e3 0 17 (JJ e4 e6) (JJ e5 e6) 0 (Jh e6) false) r) 1048576 then 0 else bif !Jr (JU4 e0 e1 e2 e3 e4 e5 e6 r) 1048576 then 0 else bif !Jr (Zp e2 e3 (Qe (Jq e6) e0 e1 0 e2 e3 0 17 (JJ e4 e6) (JJ e5 e6) 0 (Jh e6) true) (Qd (Jq e6) e0 e1 0 e2 e3 0 17 (JJ e4 e6) (JJ e5 e6) 0 (Jh e6) true) r) 1048576 then 0 else JU4 e0 e1 e2 e3 e4 e5 e6 r
def Zk:Int:=
 bif e6 != 0 && KK e6 r then bif decide (J7 (J3 e0 e4) (J3 e1 e5) (J3 e0 e4) (J3 e1 e5) < IntKind.i64.wrap (Qu r * Qu r)) then 0 else bif decide (J7 (J3 e2 e4) (J3 e3 e5) (J3 e2 e4) (J3 e3 e5) < IntKind.i64.wrap (Qu r * Qu r)) then 0 else JSx e0 e1 e2 e3 e4 e5 e6 r else JSx e0 e1 e2 e3 e4 e5 e6 r
def JTm:Int:=
 Zp e2 e3 (Qe (Jq e6) e0 e1 0 e2 e3 0 17 (JJ e4 e6) (JJ e5 e6) 0 (Jh e6) true) (Qd (Jq e6) e0 e1 0 e2 e3 0 17 (JJ e4 e6) (JJ e5 e6) 0 (Jh e6) true) r
def JS3:Int:=
 bif !Jr (Zn e0 e1 (Qe (Jq e6) e0 e1 0 e2 e3 0 17 (JJ e4 e6) (JJ e5 e6) 0 (Jh e6) false) (Qd (Jq e6) e0 e1 0 e2 e3 0 17 (JJ e4 e6) (JJ e5 e6) 0 (Jh e6) false) r) 1048576 then 0 else bif !Jr (Zp e0 e1 (Qe (Jq e6) e0 e1 0 e2 e3 0 17 (JJ e4 e6) (JJ e5 e6) 0 (Jh e6) false) (Qd (Jq e6) e0 e1 0 e2 e3 0 17 (JJ e4 e6) (JJ e5 e6) 0 (Jh e6) false) r) 1048576 then 0 else bif !Jr (Zn e2 e3 (Qe (Jq e6) e0 e1 0 e2 e3 0 17 (JJ e4 e6) (JJ e5 e6) 0 (Jh e6) true) (Qd (Jq e6) e0 e1 0 e2 e3 0 17 (JJ e4 e6) (JJ e5 e6) 0 (Jh e6) true) r) 1048576 then 0 else bif !Jr (JTm e0 e1 e2 e3 e4 e5 e6 r) 1048576 then 0 else JTm e0 e1 e2 e3 e4 e5 e6 r
def Zi:Int:=
 bif e6 != 0 && KK e6 r then bif decide (J7 (J3 e0 e4) (J3 e1 e5) (J3 e0 e4) (J3 e1 e5) < IntKind.i64.wrap (Qu r * Qu r)) then 0 else bif decide (J7 (J3 e2 e4) (J3 e3 e5) (J3 e2 e4) (J3 e3 e5) < IntKind.i64.wrap (Qu r * Qu r)) then 0 else JS3 e0 e1 e2 e3 e4 e5 e6 r else JS3 e0 e1 e2 e3 e4 e5 e6 r
def JSS:Int:=
 bif !Jr (Zn e0 e1 (Qe (Jq e6) e0 e1 0 e2 e3 0 17 (JJ e4 e6) (JJ e5 e6) 0 (Jh e6) false) (Qd (Jq e6) e0 e1 0 e2 e3 0 17 (JJ e4 e6) (JJ e5 e6) 0 (Jh e6) false) r) 1048576 then 3 else bif !Jr (Zp e0 e1 (Qe (Jq e6) e0 e1 0 e2 e3 0 17 (JJ e4 e6) (JJ e5 e6) 0 (Jh e6) false) (Qd (Jq e6) e0 e1 0 e2 e3 0 17 (JJ e4 e6) (JJ e5 e6) 0 (Jh e6) false) r) 1048576 then 3 else bif !Jr (Zn e2 e3 (Qe (Jq e6) e0 e1 0 e2 e3 0 17 (JJ e4 e6) (JJ e5 e6) 0 (Jh e6) true) (Qd (Jq e6) e0 e1 0 e2 e3 0 17 (JJ e4 e6) (JJ e5 e6) 0 (Jh e6) true) r) 1048576 then 3 else bif !Jr (Zp e2 e3 (Qe (Jq e6) e0 e1 0 e2 e3 0 17 (JJ e4 e6) (JJ e5 e6) 0 (Jh e6) true) (Qd (Jq e6) e0 e1 0 e2 e3 0 17 (JJ e4 e6) (JJ e5 e6) 0 (Jh e6) true) r) 1048576 then 3 else 0
def QB:Int:=
 bif e6 != 0 && KK e6 r then bif decide (J7 (J3 e0 e4) (J3 e1 e5) (J3 e0 e4) (J3 e1 e5) < IntKind.i64.wrap (Qu r * Qu r)) then 16 else bif decide (J7 (J3 e2 e4) (J3 e3 e5) (J3 e2 e4) (J3 e3 e5) < IntKind.i64.wrap (Qu r * Qu r)) then 16 else JSS e0 e1 e2 e3 e4 e5 e6 r else JSS e0 e1 e2 e3 e4 e5 e6 r
end
theorem JW9 (e0 e1 e2 e3 e4 e5 e6:Int) (e7:Bool) (r:Int):Runs (Jl (JE JPn) Qw 66) (qt.args [.i e0,.i e1,.i e2,.i e3,.i e4,.i e5,.i e6,.b e7,.i r]) (qt.memo [.i e0,.i e1,.i e2,.i e3,.i e4,.i e5,.i e6,.b e7,.i r] []) qt.n (SV.tup [(true,[Ci (ZX e0 e1 e2 e3 e4 e5 e6 r),Ci (ZV e0 e1 e2 e3 e4 e5 e6 r)]),(true,[Ci (Zk e0 e1 e2 e3 e4 e5 e6 r),Ci (Zi e0 e1 e2 e3 e4 e5 e6 r)]),(false,[Ci (QB e0 e1 e2 e3 e4 e5 e6 r)])]) ([]) :=
  Runs.of1 (ps := []) (by kernel_rfl) (by simp)
def JFu:List Pm → Qs → Option CRes
  | [.i e0,.i e1,.i e2,.i e3,.i e4,.i e5,.i e6,.b e7,.i r],[] => some ⟨SV.tup [(true,[Ci (ZX e0 e1 e2 e3 e4 e5 e6 r),Ci (ZV e0 e1 e2 e3 e4 e5 e6 r)]),(true,[Ci (Zk e0 e1 e2 e3 e4 e5 e6 r),Ci (Zi e0 e1 e2 e3 e4 e5 e6 r)]),(false,[Ci (QB e0 e1 e2 e3 e4 e5 e6 r)])],
 [],[],[],10785⟩
  | _,_ => none
theorem JdC:Qf Tryz.prog 66 (JP qt JFu) := by
  refine JI (JF JHq 66) fun ps ls r hr hn _ => ?_
  unfold JFu at hr
  split at hr
  · cases hr; exact ⟨_,JW9 _ _ _ _ _ _ _ _ _,fun _ => rfl⟩
  · cases hr
def JPJ:List (Nat × JU) := (66,JP qt JFu) :: JPn
theorem JIO:Known Tryz.prog (JE JPJ) Qw := J4 JHq JdC
def q9:Tpl := ⟨[.agg [.int .i64,.int .i64],.agg [.int .i64,.int .i64],.one (.int .i64),.one (.int .i64)],[],0⟩
section
variable (a b c d i s:Int)
def YF:Bool:=
 decide (J7 a b c d > 0)
def Q0:Int:=
 bif YF a b c d && decide (IntKind.i64.wrap (QQ a b c d * i) > 0) then JD a c else bif YF a b c d then IntKind.i64.wrap (IntKind.i64.wrap (0 - a) - c) else IntKind.i64.wrap (i * IntKind.i64.wrap (d - b))
def Q1:Int:=
 bif YF a b c d && decide (IntKind.i64.wrap (QQ a b c d * i) > 0) then JD b d else bif YF a b c d then IntKind.i64.wrap (IntKind.i64.wrap (0 - b) - d) else IntKind.i64.wrap (IntKind.i64.wrap (0 - i) * IntKind.i64.wrap (c - a))
def jO:List Prop:=
 [-9223372036854775808 ≤ Q0 a b c d i ∧ Q0 a b c d i < 9223372036854775808,-9223372036854775808 ≤ s ∧ s < 9223372036854775808,-9223372036854775808 ≤ J7 (Q0 a b c d i) (Q1 a b c d i) (Q0 a b c d i) (Q1 a b c d i) ∧ J7 (Q0 a b c d i) (Q1 a b c d i) (Q0 a b c d i) (Q1 a b c d i) < 9223372036854775808,-9223372036854775808 ≤ Q1 a b c d i ∧ Q1 a b c d i < 9223372036854775808,-9223372036854775808 ≤ s ∧ s < 9223372036854775808,-9223372036854775808 ≤ J7 (Q0 a b c d i) (Q1 a b c d i) (Q0 a b c d i) (Q1 a b c d i) ∧ J7 (Q0 a b c d i) (Q1 a b c d i) (Q0 a b c d i) (Q1 a b c d i) < 9223372036854775808]
end
theorem JVD {a:Int} {b:Int} {c:Int} {d:Int} {i:Int} {s:Int} (hW:∀ q ∈ ([KI s]:List Prop),q):∀ q ∈ (jO a b c d i s),q := by
  simp only [awc,awn,and_true] at hW
  unfold jO
  simp only [awc,awn,and_true]
  have s1:KI (Q0 a b c d i) := by
    unfold Q0
    cases (YF a b c d && decide (IntKind.i64.wrap (QQ a b c d * i) > 0)) <;> cases YF a b c d <;> exact ZH _
  have s2:KI (Q1 a b c d i) := by
    unfold Q1
    cases (YF a b c d && decide (IntKind.i64.wrap (QQ a b c d * i) > 0)) <;> cases YF a b c d <;> exact ZH _
  exact ⟨s1,hW,ZH _,s2,hW,ZH _⟩
theorem JYC (a b c d i s:Int) (hNeeds:∀ pN ∈ (jO a b c d i s),pN):Runs (Jl (JE JPJ) Qw 163) (q9.args [.i a,.i b,.i c,.i d,.i i,.i s]) (q9.memo [.i a,.i b,.i c,.i d,.i i,.i s] []) q9.n (SV.agg [Ci (KD (Q0 a b c d i) s (J7 (Q0 a b c d i) (Q1 a b c d i) (Q0 a b c d i) (Q1 a b c d i)) 2),Ci (KD (Q1 a b c d i) s (J7 (Q0 a b c d i) (Q1 a b c d i) (Q0 a b c d i) (Q1 a b c d i)) 2)]) ([]) :=
  Runs.of1 (ps := (jO a b c d i s)) (by kernel_rfl) hNeeds
def JHD:List Pm → Qs → Option CRes
  | [.i a,.i b,.i c,.i d,.i i,.i s],[] => some ⟨SV.agg [Ci (KD (Q0 a b c d i) s (J7 (Q0 a b c d i) (Q1 a b c d i) (Q0 a b c d i) (Q1 a b c d i)) 2),Ci (KD (Q1 a b c d i) s (J7 (Q0 a b c d i) (Q1 a b c d i) (Q0 a b c d i) (Q1 a b c d i)) 2)],
 [],[KI s],[],1770⟩
  | _,_ => none
theorem JeP:Qf Tryz.prog 163 (JP q9 JHD) := by
  refine JI (JF JIO 163) fun ps ls r hr hn _ => ?_
  unfold JHD at hr
  split at hr
  · cases hr; exact ⟨_,JYC _ _ _ _ _ _ (JVD (by exact hn)),fun _ => rfl⟩
  · cases hr
def JQG:List (Nat × JU) := (163,JP q9 JHD) :: JPJ
theorem JIg:Known Tryz.prog (JE JQG) Qw := J4 JIO JeP
theorem X4 {a:Int} (h:KI a):0 ≤ JA a ∧ JA a < 18446744073709551616 := by
  rw [Ka a h]
  obtain ⟨h1,h2⟩ := h
  split <;> omega
def WY:Tpl := ⟨[.one (.int .i64),.one (.int .i64),.one (.int .i64),.one (.int .i64)],[],0⟩
section
variable (a b c m:Int)
def JB3:Int:=
 IntKind.u64.wrap (JA c - Ql (Q4 (JA a) (JA b)) (QA (JA a) (JA b)) (JA c))
def WE:Bool:=
 !decide (Qk a b < 0) == decide (c < 0) && Qk a b != 0
def JBK:Int:=
 IntKind.u64.wrap (Qz (Q4 (JA a) (JA b)) (QA (JA a) (JA b)) (JA c) + 1)
def K3:Int:=
 bif c == 0 || !(m == 0 || m == 1 || m == 2) then 0 else bif decide (Q4 (JA a) (JA b) ≥ JA c) then 0 else bif JBa m (bif decide (Ql (Q4 (JA a) (JA b)) (QA (JA a) (JA b)) (JA c) > JB3 a b c) then 1 else bif decide (Ql (Q4 (JA a) (JA b)) (QA (JA a) (JA b)) (JA c) < JB3 a b c) then -1 else 0) (decide (Ql (Q4 (JA a) (JA b)) (QA (JA a) (JA b)) (JA c) > 0)) (WE a b c) then bif JBK a b c == 0 then 0 else JAl (JBK a b c) (WE a b c) else JAl (Qz (Q4 (JA a) (JA b)) (QA (JA a) (JA b)) (JA c)) (WE a b c)
def JUa:Bool:=
 bif c == 0 || !(m == 0 || m == 1 || m == 2) then false else bif decide (Q4 (JA a) (JA b) ≥ JA c) then false else bif JBa m (bif decide (Ql (Q4 (JA a) (JA b)) (QA (JA a) (JA b)) (JA c) > JB3 a b c) then 1 else bif decide (Ql (Q4 (JA a) (JA b)) (QA (JA a) (JA b)) (JA c) < JB3 a b c) then -1 else 0) (decide (Ql (Q4 (JA a) (JA b)) (QA (JA a) (JA b)) (JA c) > 0)) (WE a b c) then bif JBK a b c == 0 then false else ko (JBK a b c) (WE a b c) else ko (Qz (Q4 (JA a) (JA b)) (QA (JA a) (JA b)) (JA c)) (WE a b c)
def W8:List Prop:=
 [(c == 0 || !(m == 0 || m == 1 || m == 2)) = false → decide (Q4 (JA a) (JA b) ≥ JA c) = false → 0 ≤ Q4 (JA a) (JA b) ∧ Q4 (JA a) (JA b) < JA c ∧ 0 ≤ QA (JA a) (JA b) ∧ QA (JA a) (JA b) < 18446744073709551616 ∧ JA c < 18446744073709551616]
end
theorem JSh {a:Int} {b:Int} {c:Int} {m:Int} (hW:∀ q ∈ ([KI a,KI b,KI c]:List Prop),q):∀ q ∈ (W8 a b c m),q := by
  simp only [awc,awn,and_true] at hW
  unfold W8
  simp only [awc,awn,and_true]
  obtain ⟨ha,hb,hc⟩ := hW
  intro _ h
  have sa := X4 ha
  have sb := X4 hb
  have sc := X4 hc
  have h0 := JY6 (x := JA a) (y := JA b) sa sb
  have h1 := JX4 (JA a) (JA b)
  rw [decide_eq_false_iff_not] at h
  exact ⟨h0.1,by omega,h1.1,h1.2,sc.2⟩
theorem JT0 (a b c m:Int) (hNeeds:∀ pN ∈ (W8 a b c m),pN):Runs (Jl (JE JQG) Qw 161) (WY.args [.i a,.i b,.i c,.i m]) (WY.memo [.i a,.i b,.i c,.i m] []) WY.n (SV.tup [(false,[Ci (K3 a b c m)]),(false,[Cb (JUa a b c m)])]) ([]) :=
  Runs.of1 (ps := (W8 a b c m)) (by kernel_rfl) hNeeds
def JCR:List Pm → Qs → Option CRes
  | [.i a,.i b,.i c,.i m],[] => some ⟨SV.tup [(false,[Ci (K3 a b c m)]),(false,[Cb (JUa a b c m)])],
 [],[KI a,KI b,KI c],[],507⟩
  | _,_ => none
theorem Jbj:Qf Tryz.prog 161 (JP WY JCR) := by
  refine JI (JF JIg 161) fun ps ls r hr hn _ => ?_
  unfold JCR at hr
  split at hr
  · cases hr; exact ⟨_,JT0 _ _ _ _ (JSh (by exact hn)),fun _ => rfl⟩
  · cases hr
def JJj:List (Nat × JU) := (161,JP WY JCR) :: JQG
theorem JFI:Known Tryz.prog (JE JJj) Qw := J4 JIg Jbj
def qD:Tpl := ⟨[.agg [.int .i64,.int .i64,.int .i64,.int .i64],.agg [.int .i64,.int .i64]],[],0⟩
def JB0 (a b c d:Int):Int :=
 bif decide (QQ a b c d > 0) || QQ a b c d == 0 && decide (J7 a b c d > 0) then 0 else 1
theorem JV2 (a b l m c d:Int):Runs (Jl (JE JJj) Qw 172) (qD.args [.i a,.i b,.i l,.i m,.i c,.i d]) (qD.memo [.i a,.i b,.i l,.i m,.i c,.i d] []) qD.n (SV.one (Ci (JB0 a b c d))) ([]) :=
  Runs.of1 (ps := []) (by kernel_rfl) (by simp)
def JGA:List Pm → Qs → Option CRes
  | [.i a,.i b,.i l,.i m,.i c,.i d],[] => some ⟨SV.one (Ci (JB0 a b c d)),
 [],[],[],73⟩
  | _,_ => none
theorem JcD:Qf Tryz.prog 172 (JP qD JGA) := by
  refine JI (JF JFI 172) fun ps ls r hr hn _ => ?_
  unfold JGA at hr
  split at hr
  · cases hr; exact ⟨_,JV2 _ _ _ _ _ _,fun _ => rfl⟩
  · cases hr
def JPh:List (Nat × JU) := (172,JP qD JGA) :: JJj
theorem JI2:Known Tryz.prog (JE JPh) Qw := J4 JFI JcD
def Kc:Tpl := ⟨[.agg [.int .i64,.int .i64,.int .i64,.int .i64],.agg [.int .i64,.int .i64]],[],0⟩
def JCn (a0 a1 b0 b1 p0 p1:Int):Bool :=
 decide (JB0 a0 a1 p0 p1 < JB0 a0 a1 b0 b1) || JB0 a0 a1 p0 p1 == JB0 a0 a1 b0 b1 && decide (QQ p0 p1 b0 b1 ≥ 0)
theorem JMX (a0 a1 b0 b1 p0 p1:Int):Runs (Jl (JE JPh) Qw 158) (Kc.args [.i a0,.i a1,.i b0,.i b1,.i p0,.i p1]) (Kc.memo [.i a0,.i a1,.i b0,.i b1,.i p0,.i p1] []) Kc.n (SV.one (Cb (JCn a0 a1 b0 b1 p0 p1))) ([]) :=
  Runs.of1 (ps := []) (by kernel_rfl) (by simp)
def zn:List Pm → Qs → Option CRes
  | [.i a0,.i a1,.i b0,.i b1,.i p0,.i p1],[] => some ⟨SV.one (Cb (JCn a0 a1 b0 b1 p0 p1)),
 [],[],[],203⟩
  | _,_ => none
theorem JUG:Qf Tryz.prog 158 (JP Kc zn) := by
  refine JI (JF JI2 158) fun ps ls r hr hn _ => ?_
  unfold zn at hr
  split at hr
  · cases hr; exact ⟨_,JMX _ _ _ _ _ _,fun _ => rfl⟩
  · cases hr
def JCC:List (Nat × JU) := (158,JP Kc zn) :: JPh
theorem ka:Known Tryz.prog (JE JCC) Qw := J4 JI2 JUG
def Ye:Tpl := ⟨[.agg pI,.agg [.int .i64,.int .i64]],[],0⟩
def WJ (f0 f1 f2 t0 t1 t2 p c0 c1 c2 d:Int) (fu:Bool) (u w:Int):Bool :=
 fu || JCn (bif decide (d < 0) then QE t0 t1 t2 p c0 c1 c2 else QE f0 f1 f2 p c0 c1 c2) (bif decide (d < 0) then QF t0 t1 t2 p c0 c1 c2 else QF f0 f1 f2 p c0 c1 c2) (bif decide (d < 0) then QE f0 f1 f2 p c0 c1 c2 else QE t0 t1 t2 p c0 c1 c2) (bif decide (d < 0) then QF f0 f1 f2 p c0 c1 c2 else QF t0 t1 t2 p c0 c1 c2) u w
theorem JPr (k bl f0 f1 f2 t0 t1 t2 p c0 c1 c2 d:Int) (fu:Bool) (fe:Int) (pr:Bool) (si ra be n sp:Int) (on:Bool) (u w:Int):Runs (Jl (JE JCC) Qw 130) (Ye.args [.i k,.i bl,.i f0,.i f1,.i f2,.i t0,.i t1,.i t2,.i p,.i c0,.i c1,.i c2,.i d,.b fu,.i fe,.b pr,.i si,.i ra,.i be,.i n,.i sp,.b on,.i u,.i w]) (Ye.memo [.i k,.i bl,.i f0,.i f1,.i f2,.i t0,.i t1,.i t2,.i p,.i c0,.i c1,.i c2,.i d,.b fu,.i fe,.b pr,.i si,.i ra,.i be,.i n,.i sp,.b on,.i u,.i w] []) Ye.n (SV.one (Cb (WJ f0 f1 f2 t0 t1 t2 p c0 c1 c2 d fu u w))) ([]) :=
  Runs.of1 (ps := []) (by kernel_rfl) (by simp)
def kt:List Pm → Qs → Option CRes
  | [.i k,.i bl,.i f0,.i f1,.i f2,.i t0,.i t1,.i t2,.i p,.i c0,.i c1,.i c2,.i d,.b fu,.i fe,.b pr,.i si,.i ra,.i be,.i n,.i sp,.b on,.i u,.i w],[] => some ⟨SV.one (Cb (WJ f0 f1 f2 t0 t1 t2 p c0 c1 c2 d fu u w)),
 [],[],[],587⟩
  | _,_ => none
theorem JX7:Qf Tryz.prog 130 (JP Ye kt) := by
  refine JI (JF ka 130) fun ps ls r hr hn _ => ?_
  unfold kt at hr
  split at hr
  · cases hr; exact ⟨_,JPr _ _ _ _ _ _ _ _ _ _ _ _ _ _ _ _ _ _ _ _ _ _ _ _,fun _ => rfl⟩
  · cases hr
def JH3:List (Nat × JU) := (130,JP Ye kt) :: JCC
theorem JBo:Known Tryz.prog (JE JH3) Qw := J4 ka JX7
def z8:Tpl := ⟨[.agg [.int .i64,.int .i64,.int .i64,.int .i64,.int .i64,.int .i64,.int .i64,.bool],.agg [.int .i64,.int .i64],.agg [.int .i64,.int .i64]],[],0⟩
def JF9 (e0 e1 e2 e3 e4 e5 e6:Int) (e7:Bool) (u w y z:Int):Bool :=
 bif e6 == 0 then decide (J7 (J3 u y) (J3 w z) (J3 e2 e0) (J3 e3 e1) > 0) else WJ e0 e1 0 e2 e3 0 17 (JJ e4 e6) (JJ e5 e6) 0 (Jh e6) (JQu e6 e7) (J3 u e4) (J3 w e5) && (QQ (J3 e0 e4) (J3 e1 e5) (J3 u e4) (J3 w e5) != 0 || decide (J7 (J3 e0 e4) (J3 e1 e5) (J3 u e4) (J3 w e5) ≤ 0))
theorem JXA (e0 e1 e2 e3 e4 e5 e6:Int) (e7:Bool) (u w y z:Int):Runs (Jl (JE JH3) Qw 137) (z8.args [.i e0,.i e1,.i e2,.i e3,.i e4,.i e5,.i e6,.b e7,.i u,.i w,.i y,.i z]) (z8.memo [.i e0,.i e1,.i e2,.i e3,.i e4,.i e5,.i e6,.b e7,.i u,.i w,.i y,.i z] []) z8.n (SV.one (Cb (JF9 e0 e1 e2 e3 e4 e5 e6 e7 u w y z))) ([]) :=
  Runs.of1 (ps := []) (by kernel_rfl) (by simp)
def JGw:List Pm → Qs → Option CRes
  | [.i e0,.i e1,.i e2,.i e3,.i e4,.i e5,.i e6,.b e7,.i u,.i w,.i y,.i z],[] => some ⟨SV.one (Cb (JF9 e0 e1 e2 e3 e4 e5 e6 e7 u w y z)),
 [],[],[],1039⟩
  | _,_ => none
theorem JdJ:Qf Tryz.prog 137 (JP z8 JGw) := by
  refine JI (JF JBo 137) fun ps ls r hr hn _ => ?_
  unfold JGw at hr
  split at hr
  · cases hr; exact ⟨_,JXA _ _ _ _ _ _ _ _ _ _ _ _,fun _ => rfl⟩
  · cases hr
def JBQ:List (Nat × JU) := (137,JP z8 JGw) :: JH3
theorem JIa:Known Tryz.prog (JE JBQ) Qw := J4 JBo JdJ
end
end Go.Proofs.YtmbfbhimdkjkoaaGreat
