/-
  Texts of one claim, laid together. Conditions: none.
-/
import Derived.Test.YtmbfbhimdkjkoaaGreatM7eb87033
import Derived.Test.YtmbfbhimdkjkoaaGreatRows
set_option linter.all false
set_option maxRecDepth 1000000
namespace Go.SX
noncomputable section
open Go.RowKit
universe u
theorem Y2 {α:Type u} (l:List α) (x:α):x ∈ l ++ [x] := List.mem_append.2 (.inr (List.mem_cons_self ..))
structure Ext (m m':MR):Prop where
  sub:∀ a b,JC m.sub a = some b → JC m'.sub a = some b
  needs:∀ p ∈ m.needs,p ∈ m'.needs
  eqs:∀ p ∈ m.eqs,p ∈ m'.eqs
theorem Ext.refl (m:MR):Ext m m := ⟨fun _ _ h => h,fun _ h => h,fun _ h => h⟩
theorem Ext.trans {a b c:MR} (h:Ext a b) (k:Ext b c):Ext a c := ⟨fun x y q => k.sub x y (h.sub x y q),fun p q => k.needs p (h.needs p q),fun p q => k.eqs p (h.eqs p q)⟩
structure Good (m:MR):Prop where
  needs:∀ p ∈ m.needs,p
  eqs:∀ p ∈ m.eqs,p.1 = p.2
def Yv (n0:Nat) (θ:Th) (sub:Sub):Th := fun i => if i < n0 then θ i else match JC sub i with | some (some b) => θ b | _ => Loc.none
def JHi (n0:Nat) (sub:Sub) (a:Nat) (b:Option Nat):Prop := (a < n0 ∧ b = some a) ∨ (n0 ≤ a ∧ JC sub a = some b)
theorem WM {n0:Nat} {θ:Th} {sub:Sub} {a b:Nat} (h:JHi n0 sub a (some b)):Yv n0 θ sub a = θ b := by
  unfold Yv
  rcases h with ⟨h1,h2⟩ | ⟨h1,h2⟩
  · cases h2; rw [if_pos h1]
  · rw [if_neg (by omega),h2]
theorem JLh {n0:Nat} {θ:Th} {sub:Sub} {a:Nat} (h:JHi n0 sub a none):Yv n0 θ sub a = Loc.none := by
  unfold Yv
  rcases h with ⟨_,h2⟩ | ⟨h1,h2⟩
  · cases h2
  · rw [if_neg (by omega),h2]
theorem JHi.ext {n0:Nat} {m m':MR} {a:Nat} {b:Option Nat} (h:JHi n0 m.sub a b) (he:Ext m m'):JHi n0 m'.sub a b :=
  h.imp (fun h => h) fun ⟨h1,h2⟩ => ⟨h1,he.sub a b h2⟩
theorem jI {n0 a:Nat} {b:Option Nat} {m m':MR} (h:JSt n0 a b m = some m'):Ext m m' ∧ JHi n0 m'.sub a b := by
  unfold JSt at h
  cases hlt:Nat.blt a n0
  · rw [hlt] at h
    have hge:n0 ≤ a := by
      rcases Nat.lt_or_ge a n0 with h' | h'
      · have:Nat.blt a n0 = true := Nat.blt_eq.mpr h'
        rw [this] at hlt; cases hlt
      · exact h'
    simp only [cond_false] at h
    split at h
    · rename_i hno
      have ext:∀ (m2:MR),m2 = { m with sub := (a,b) :: m.sub } → Ext m m2 ∧ JHi n0 m2.sub a b := by
        rintro m2 rfl
        refine ⟨⟨fun x y hxy => ?_,fun _ h => h,fun _ h => h⟩,.inr ⟨hge,by simp [Jt,JT]⟩⟩
        have hne:a ≠ x := fun e => by rw [e,hxy] at hno; cases hno
        simp only [Jt,JT,Xa hne,cond_false]; exact hxy
      cases h; exact ext _ rfl
    · rename_i b' hl
      split at h
      · rename_i x y
        cases hxy:Nat.beq x y
        · rw [hxy] at h; cases h
        · rw [hxy] at h; cases h
          have := Nat.eq_of_beq_eq_true hxy; subst this
          exact ⟨Ext.refl _,.inr ⟨hge,hl⟩⟩
      · cases h; exact ⟨Ext.refl _,.inr ⟨hge,hl⟩⟩
      · cases h
  · rw [hlt] at h
    simp only [cond_true] at h
    have hlt':a < n0 := Nat.blt_eq.mp hlt
    split at h
    · rename_i b'
      cases hb:Nat.beq a b'
      · rw [hb] at h; cases h
      · rw [hb] at h; cases h
        have := Nat.eq_of_beq_eq_true hb; subst this
        exact ⟨Ext.refl _,.inl ⟨hlt',rfl⟩⟩
    · cases h
theorem Yi (m:MR) (p:Prop):Ext m { m with needs := m.needs ++ [p] } := ⟨fun _ _ h => h,fun q hq => by simp [hq],fun _ h => h⟩
theorem Jci (m:MR) (p:EV × EV):Ext m { m with eqs := m.eqs ++ [p] } := ⟨fun _ _ h => h,fun _ h => h,fun q hq => by simp [hq]⟩
theorem JiN (same:Bool) (k:IntKind) (x y:SI) (m:MR):Ext m (Jmo same k x y m) ∧ ∀ mf,Ext (Jmo same k x y m) mf → Good mf → x.val = y.val := by
  unfold Jmo
  split
  · rename_i a b
    by_cases h:a = b
    · rw [show decide (a = b) = true from decide_eq_true h]
      exact ⟨Ext.refl _,fun _ _ _ => h⟩
    · rw [show decide (a = b) = false from decide_eq_false h]
      exact ⟨Yi _ _,fun mf he hg => hg.needs _ (he.needs _ (Y2 _ _))⟩
  · cases same
    · exact ⟨Yi _ _,fun mf he hg => hg.needs _ (he.needs _ (Y2 _ _))⟩
    · refine ⟨Jci _ _,fun mf he hg => ?_⟩
      have := JOJ (hg.eqs (.v (.one (.int k x)),.v (.one (.int k y))) (he.eqs _ (Y2 _ _)))
      injection this with this
      injection this with _ this
      rw [this]
theorem Ji1 (same:Bool) (x y:SB) (m:MR):Ext m (JmJ same x y m) ∧ ∀ mf,Ext (JmJ same x y m) mf → Good mf → x.val = y.val := by
  unfold JmJ
  split
  · rename_i a b
    cases h:(a == b)
    · exact ⟨Yi _ _,fun mf he hg => hg.needs _ (he.needs _ (Y2 _ _))⟩
    · exact ⟨Ext.refl _,fun _ _ _ => eq_of_beq h⟩
  · cases same
    · exact ⟨Yi _ _,fun mf he hg => hg.needs _ (he.needs _ (Y2 _ _))⟩
    · refine ⟨Jci _ _,fun mf he hg => ?_⟩
      have := JOJ (hg.eqs (.v (.one (.bool x)),.v (.one (.bool y))) (he.eqs _ (Y2 _ _)))
      injection this with this
      injection this with this
      rw [this]
theorem JLc (x y:SN) (m:MR):Ext m (JVO x y m) ∧ ∀ mf,Ext (JVO x y m) mf → Good mf → x.val = y.val := by
  unfold JVO
  split
  · rename_i a b
    cases h:Nat.beq a b
    · exact ⟨Yi _ _,fun mf he hg => hg.needs _ (he.needs _ (Y2 _ _))⟩
    · exact ⟨Ext.refl _,fun _ _ _ => Nat.eq_of_beq_eq_true h⟩
  · exact ⟨Yi _ _,fun mf he hg => hg.needs _ (he.needs _ (Y2 _ _))⟩
section spec
variable {n0:Nat} {θ:Th}
theorem JJC {same:Bool} {x y:SC} {m m':MR} (h:JVW n0 same x y m = some m'):Ext m m' ∧ ∀ mf,Ext m' mf → Good mf → x.den (Yv n0 θ mf.sub) = y.den θ := by
  unfold JVW at h
  split at h
  · rename_i k x j y
    cases hk:jA k j
    · rw [hk] at h; cases h
    · rw [hk] at h; cases h
      have := YY hk; subst this
      obtain ⟨h1,h2⟩ := JiN same k x y m
      exact ⟨h1,fun mf he hg => by simp only [SC.den,h2 mf he hg]⟩
  · rename_i x y
    cases h
    obtain ⟨h1,h2⟩ := Ji1 same x y m
    exact ⟨h1,fun mf he hg => by simp only [SC.den,h2 mf he hg]⟩
  · rename_i a o b p
    cases hk:Nat.beq o p
    · rw [hk] at h; cases h
    · rw [hk] at h
      simp only [cond_true] at h
      have := Nat.eq_of_beq_eq_true hk; subst this
      obtain ⟨h1,h2⟩ := jI h
      exact ⟨h1,fun mf he _ => by simp only [SC.den,WM (θ := θ) (h2.ext he)]⟩
  · obtain ⟨h1,h2⟩ := jI h
    exact ⟨h1,fun mf he _ => by simp only [SC.den,WM (θ := θ) (h2.ext he)]⟩
  · obtain ⟨h1,h2⟩ := jI h
    exact ⟨h1,fun mf he _ => by simp only [SC.den,JLh (θ := θ) (h2.ext he),Loc.none]⟩
  · rename_i a e o l b f p k
    cases hk:Nat.beq e f
    · rw [hk] at h; cases h
    · rw [hk] at h
      simp only [cond_true] at h
      have := Nat.eq_of_beq_eq_true hk; subst this
      obtain ⟨h1,h2⟩ := jI h
      obtain ⟨h3,h4⟩ := JLc o p m
      obtain ⟨h5,h6⟩ := JLc l k (JVO o p m)
      exact ⟨(h3.trans h5).trans h1,fun mf he hg => by simp only [SC.den,WM (θ := θ) (h2.ext he),h4 mf ((h5.trans h1).trans he) hg,h6 mf (h1.trans he) hg]⟩
  · rename_i a e i o b f j p
    cases hk:(Nat.beq e f && Nat.beq o p)
    · rw [hk] at h; cases h
    · rw [hk] at h
      simp only [cond_true] at h
      simp only [Bool.and_eq_true] at hk
      have e1 := Nat.eq_of_beq_eq_true hk.1
      have e2 := Nat.eq_of_beq_eq_true hk.2
      subst e1; subst e2
      obtain ⟨h1,h2⟩ := jI h
      obtain ⟨h3,h4⟩ := JLc i j m
      exact ⟨h3.trans h1,fun mf he hg => by simp only [SC.den,WM (θ := θ) (h2.ext he),h4 mf (h1.trans he) hg]⟩
  · rename_i f a g b
    cases hk:Nat.beq f g
    · rw [hk] at h; cases h
    · rw [hk] at h
      simp only [cond_true] at h
      have := Nat.eq_of_beq_eq_true hk; subst this
      obtain ⟨h1,h2⟩ := jI h
      exact ⟨h1,fun mf he _ => by simp only [SC.den,WM (θ := θ) (h2.ext he)]⟩
  · cases h; exact ⟨Ext.refl _,fun _ _ _ => rfl⟩
  · cases h; exact ⟨Ext.refl _,fun _ _ _ => rfl⟩
  · rename_i f g
    cases hk:Nat.beq f g
    · rw [hk] at h; cases h
    · rw [hk] at h; cases h
      have := Nat.eq_of_beq_eq_true hk; subst this
      exact ⟨Ext.refl _,fun _ _ _ => rfl⟩
  · cases h
theorem JH3 {same:Bool}:∀ {x y:List SC} {m m':MR},JN2 n0 same x y m = some m' → Ext m m' ∧ ∀ mf,Ext m' mf → Good mf → JK (Yv n0 θ mf.sub) x = JK θ y
  | [],[],m,m',h => by cases h; exact ⟨Ext.refl _,fun _ _ _ => rfl⟩
  | [],_ :: _,_,_,h => by cases h
  | _ :: _,[],_,_,h => by cases h
  | x :: r,y :: s,m,m',h => by
    simp only [JN2] at h
    split at h
    · rename_i m1 h1
      obtain ⟨h2,h3⟩ := JJC (θ := θ) h1
      obtain ⟨h4,h5⟩ := JH3 h
      refine ⟨h2.trans h4,fun mf he hg => ?_⟩
      have := h5 mf he hg
      simp only [JK,List.map_cons] at this ⊢
      rw [h3 mf (h4.trans he) hg,this]
    · cases h
theorem JTc {same:Bool} {x y:SV} {m m':MR} (h:Jef n0 same x y m = some m'):Ext m m' ∧ ∀ mf,Ext m' mf → Good mf → x.den (Yv n0 θ mf.sub) = y.den θ := by
  unfold Jef at h
  split at h
  · exact JJC h
  · obtain ⟨h1,h2⟩ := JH3 (θ := θ) h
    exact ⟨h1,fun mf he hg => by simp only [SV.den,h2 mf he hg]⟩
  · cases h
theorem JNL:∀ {x y:List SV} {m m':MR},JTz n0 x y m = some m' → Ext m m' ∧ ∀ mf,Ext m' mf → Good mf → x.map (SV.den (Yv n0 θ mf.sub)) = y.map (SV.den θ)
  | [],[],m,m',h => by cases h; exact ⟨Ext.refl _,fun _ _ _ => rfl⟩
  | [],_ :: _,_,_,h => by cases h
  | _ :: _,[],_,_,h => by cases h
  | x :: r,y :: s,m,m',h => by
    simp only [JTz] at h
    split at h
    · rename_i m1 h1
      obtain ⟨h2,h3⟩ := JTc (θ := θ) h1
      obtain ⟨h4,h5⟩ := JNL h
      refine ⟨h2.trans h4,fun mf he hg => ?_⟩
      simp only [List.map_cons]
      rw [h3 mf (h4.trans he) hg,h5 mf he hg]
    · cases h
theorem JSo:∀ {x y:List (Nat × SC)} {m m':MR},Jeo n0 x y m = some m' → Ext m m' ∧ ∀ mf,Ext m' mf → Good mf → JK (Yv n0 θ mf.sub) (QQ x) = JK θ (QQ y)
  | [],[],m,m',h => by cases h; exact ⟨Ext.refl _,fun _ _ _ => rfl⟩
  | [],_ :: _,_,_,h => by cases h
  | _ :: _,[],_,_,h => by cases h
  | (a,x) :: r,(b,y) :: s,m,m',h => by
    simp only [Jeo] at h
    split at h
    · rename_i m1 h1
      obtain ⟨h2,h3⟩ := JJC (θ := θ) h1
      obtain ⟨h4,h5⟩ := JSo h
      refine ⟨h2.trans h4,fun mf he hg => ?_⟩
      have := h5 mf he hg
      simp only [JK,XB,QH,List.map_cons] at this ⊢
      rw [h3 mf (h4.trans he) hg,this]
    · cases h
theorem JSg:∀ {E env:KH} {m m':MR},Jd3 n0 E env m = some m' → Ext m m' ∧ ∀ t e,(t,e) ∈ E → ∃ f,JC env t = some f ∧ f.g = [] ∧ e.g = [] ∧ ∀ mf,Ext m' mf → Good mf → e.val.den (Yv n0 θ mf.sub) = f.val.den θ
  | [],env,m,m',h => by cases h; exact ⟨Ext.refl _,fun _ _ h => by cases h⟩
  | (t,e) :: r,env,m,m',h => by
    simp only [Jd3] at h
    split at h
    · cases h
    · rename_i f hf
      split at h
      · rename_i hg1 hg2
        split at h
        · rename_i m1 h1
          obtain ⟨h2,h3⟩ := JTc (θ := θ) h1
          obtain ⟨h4,h5⟩ := JSg h
          refine ⟨h2.trans h4,fun t' e' hm => ?_⟩
          rcases List.mem_cons.1 hm with hm | hm
          · cases hm
            exact ⟨f,hf,hg2,hg1,fun mf he hg => h3 mf (h4.trans he) hg⟩
          · exact h5 t' e' hm
        · cases h
      · cases h
theorem JI1 {same:Bool}:∀ {x y:List (List SC)} {m m':MR},JK7 n0 same x y m = some m' → Ext m m' ∧ x.length = y.length ∧ (∀ r ∈ x,Qo r = []) ∧ ∀ mf,Ext m' mf → Good mf → x.map (JK (Yv n0 θ mf.sub)) = y.map (JK θ)
  | [],[],m,m',h => by cases h; exact ⟨Ext.refl _,rfl,by simp,fun _ _ _ => rfl⟩
  | [],_ :: _,_,_,h => by cases h
  | _ :: _,[],_,_,h => by cases h
  | x :: r,y :: s,m,m',h => by
    simp only [JK7] at h
    split at h
    · rename_i _ _ l m1 hl h1
      obtain ⟨h2,h3⟩ := JH3 (θ := θ) h1
      obtain ⟨h4,h5,h6,h7⟩ := JI1 h
      refine ⟨h2.trans h4,by simp [h5],fun q hq => ?_,fun mf he hg => ?_⟩
      · rcases List.mem_cons.1 hq with rfl | hq
        · exact JKT hl
        · exact h6 q hq
      · simp only [List.map_cons,List.cons.injEq]
        exact ⟨h3 mf (h4.trans he) hg,h7 mf he hg⟩
    · cases h
theorem Jh4 {x y:RowC} {m m':MR} (h:Jk5 n0 x y m = some m'):Ext m m' ∧ ∀ mf,Ext m' mf → Good mf → ∀ esz,Z5 esz y.rows → Z5 esz x.rows ∧ x.rows.length = y.rows.length ∧ ∀ φ,x.rows.map (JK φ) = y.rows.map (JK φ) := by
  unfold Jk5 at h
  split at h
  · rename_i t ks xs u js ys
    cases hk:W3 ks js
    · rw [hk] at h; cases h
    · rw [hk] at h
      have := K3 hk; subst this
      cases htu:JNv t u
      · rw [htu] at h; cases h
        refine ⟨Yi _ _,fun mf he hg esz hok => ?_⟩
        have:xs = ys := hg.needs _ (he.needs _ (Y2 _ _))
        subst this
        exact ⟨hok,rfl,fun _ => rfl⟩
      · rw [htu] at h; cases h
        refine ⟨Jci _ _,fun mf he hg esz hok => ?_⟩
        have:xs = ys := Jmf (hg.eqs (.l xs,.l ys) (he.eqs _ (Y2 _ _)))
        subst this
        exact ⟨hok,rfl,fun _ => rfl⟩
  · rename_i t ks xs tg rows
    split at h
    · rename_i ys hy
      cases h
      refine ⟨Yi _ _,fun mf he hg esz hok => ?_⟩
      have:xs = ys := hg.needs _ (he.needs _ (Y2 _ _))
      subst this
      obtain ⟨h1,h2,h3⟩ := Yo hy fun r hr => (hok.2 r hr).1
      exact ⟨⟨hok.1,h2⟩,by simp [RowC.rows,h1],h3⟩
    · cases h
  · rename_i t a u b
    obtain ⟨h1,h2,hx,h4⟩ := JI1 (θ := Th.none) h
    refine ⟨h1,fun mf he hg esz hok => ?_⟩
    have h5 := h4 mf he hg
    have h6:∀ φ,a.map (JK φ) = b.map (JK φ) := fun φ => by
      have e1:a.map (JK φ) = a.map (JK (Yv n0 Th.none mf.sub)) := List.map_congr_left fun r hr => ZL (hx r hr)
      have e2:b.map (JK φ) = b.map (JK Th.none) := List.map_congr_left fun r hr => ZL (hok.2 r hr).2
      rw [e1,e2,h5]
    refine ⟨⟨hok.1,fun r hr => ⟨?_,hx r hr⟩⟩,h2,h6⟩
    obtain ⟨i,hi⟩ := List.getElem?_of_mem (show r ∈ a from hr)
    have h7 := congrArg (fun l:List (List Value) => l[i]?) (h6 Th.none)
    simp only [List.getElem?_map] at h7
    rw [hi] at h7
    cases hb:b[i]? with
    | none => rw [hb] at h7; cases h7
    | some rb =>
      rw [hb] at h7
      simp only [Option.map_some,Option.some.injEq] at h7
      have h8 := congrArg List.length h7
      simp only [JK,List.length_map] at h8
      rw [h8]
      exact (hok.2 rb (List.mem_of_getElem? hb)).1
  · cases h
theorem Jgq {o p:Obj} {m m':MR} (h:JlI n0 o p m = some m'):Ext m m' ∧ ∀ mf,Ext m' mf → Good mf → ∀ w id b,Yv n0 θ mf.sub id = θ b → QC θ w b p → QC (Yv n0 θ mf.sub) w id o := by
  unfold JlI at h
  split at h
  · rename_i t x u y
    cases hk:Nat.beq t u
    · rw [hk] at h; cases h
    · rw [hk] at h
      have := Nat.eq_of_beq_eq_true hk; subst this
      obtain ⟨h1,h2⟩ := JSo (θ := θ) h
      refine ⟨h1,fun mf he hg w id b hid ⟨c,h3,h4⟩ => ⟨c,by rw [hid,h3],by rw [h4,h2 mf he hg]⟩⟩
  · rename_i p t e x q u f y
    cases hk:((p == q) && (Nat.beq t u && Nat.beq e f))
    · rw [hk] at h; cases h
    · rw [hk] at h
      simp only [Bool.and_eq_true] at hk
      have e1 := eq_of_beq hk.1
      have e2 := Nat.eq_of_beq_eq_true hk.2.1
      have e3 := Nat.eq_of_beq_eq_true hk.2.2
      subst e1; subst e2; subst e3
      obtain ⟨h1,h2⟩ := Jh4 h
      refine ⟨h1,fun mf he hg w id b hid ho => ?_⟩
      have h3 := JHK (h2 mf he hg e) ho
      have hrow:Z5 e x.rows := by cases p <;> exact h3.1
      cases p
      · refine ⟨hrow,?_⟩; rw [hid,ZL (θ := θ) hrow.ids]; exact h3.2
      · refine ⟨hrow,?_⟩; rw [hid,ZL (θ := θ) hrow.ids]; exact h3.2
  · obtain ⟨h1,h2⟩ := JNL (θ := θ) h
    exact ⟨h1,fun mf he hg w id b hid ho => by show _ = _; rw [hid,show θ b = _ from ho,h2 mf he hg]⟩
  · cases h
theorem JHz:∀ {M mem:Jn} {m m':MR},JYY n0 M mem m = some m' → Ext m m' ∧ ∀ id o,(id,o) ∈ M → (∃ b p,JHi n0 m'.sub id (some b) ∧ JC mem b = some p ∧ ∀ mf,Ext m' mf → Good mf → ∀ w,QC θ w b p → QC (Yv n0 θ mf.sub) w id o) ∨
      (JHi n0 m'.sub id none ∧ ∀ mf,Ext m' mf → Good mf → ∀ w,QC (Yv n0 θ mf.sub) w id o)
  | [],mem,m,m',h => by cases h; exact ⟨Ext.refl _,fun _ _ h => by cases h⟩
  | (id,o) :: r,mem,m,m',h => by
    simp only [JYY] at h
    split at h
    · cases h
    · rename_i hb
      split at h
      · rename_i ty esz tag ks xs
        cases hpos:Nat.blt 0 esz
        · rw [hpos] at h; cases h
        rw [hpos] at h
        have hpos:0 < esz := Nat.blt_eq.mp hpos
        simp only [cond_true] at h
        obtain ⟨h1,h2⟩ := JHz h
        have hbind:JHi n0 m.sub id none := by
          cases hlt:Nat.blt id n0
          · rw [hlt] at hb
            refine .inr ⟨?_,hb⟩
            rcases Nat.lt_or_ge id n0 with h' | h'
            · have:Nat.blt id n0 = true := Nat.blt_eq.mpr h'
              rw [this] at hlt; cases hlt
            · exact h'
          · rw [hlt] at hb; cases hb
        have he1 := (Yi m (xs = [])).trans h1
        refine ⟨he1,fun id' o' hm => ?_⟩
        rcases List.mem_cons.1 hm with hm | hm
        · cases hm
          refine .inr ⟨hbind.ext he1,fun mf he hg w => ?_⟩
          have hx:xs = [] := hg.needs _ (he.needs _ (h1.needs _ (Y2 _ _)))
          subst hx
          refine ⟨⟨hpos,fun r hr => by cases hr⟩,?_⟩
          rw [JLh (θ := θ) ((hbind.ext he1).ext he)]
          exact ⟨rfl,.inl ⟨rfl,rfl,rfl,rfl⟩,World.ownsRow_nil _ _ _ _⟩
        · exact h2 id' o' hm
      · cases h
    · rename_i b hb
      have hbind:JHi n0 m.sub id (some b) := by
        cases hlt:Nat.blt id n0
        · rw [hlt] at hb
          refine .inr ⟨?_,hb⟩
          rcases Nat.lt_or_ge id n0 with h' | h'
          · have:Nat.blt id n0 = true := Nat.blt_eq.mpr h'
            rw [this] at hlt; cases hlt
          · exact h'
        · rw [hlt] at hb
          simp only [cond_true,Option.some.injEq] at hb
          exact .inl ⟨Nat.blt_eq.mp hlt,by rw [hb]⟩
      split at h
      · cases h
      · rename_i p hp
        split at h
        · rename_i m1 h1
          obtain ⟨h2,h3⟩ := Jgq (θ := θ) h1
          obtain ⟨h4,h5⟩ := JHz h
          refine ⟨h2.trans h4,fun id' o' hm => ?_⟩
          rcases List.mem_cons.1 hm with hm | hm
          · cases hm
            refine .inl ⟨b,p,hbind.ext (h2.trans h4),hp,fun mf he hg w ho => h3 mf (h4.trans he) hg w id b (WM (hbind.ext ((h2.trans h4).trans he))) ho⟩
          · exact h5 id' o' hm
        · cases h
end spec
theorem JIE:∀ {E:KH} {t:Nat} {e:Ent},JaC E = true → JC E t = some e → e.g = [] ∧ e.gx = []
  | [],_,_,_,h => by cases h
  | (k,x) :: r,t,e,hp,h => by
    simp only [JaC,Bool.and_eq_true] at hp
    simp only [Jt,JT] at h
    cases hk:Nat.beq k t
    · rw [hk] at h; exact JIE hp.2 h
    · rw [hk] at h; cases h
      exact ⟨List.isEmpty_iff.1 hp.1.1,List.isEmpty_iff.1 hp.1.2⟩
theorem JNO {α:Type}:∀ {l:List (Nat × α)} {t:Nat} {x:α},JC l t = some x → (t,x) ∈ l
  | [],_,_,h => by cases h
  | (k,y) :: r,t,x,h => by
    simp only [Jt,JT] at h
    cases hk:Nat.beq k t
    · rw [hk] at h; exact List.mem_cons_of_mem _ (JNO h)
    · rw [hk] at h; cases h
      have := Nat.eq_of_beq_eq_true hk; subst this
      exact List.mem_cons_self ..
theorem JZG:∀ {E:KH} {t:Nat} {e:Ent},(t,e) ∈ E → ∀ id ∈ ZY e.val,id ∈ JVV E
  | (k,x) :: r,t,e,h,id,hid => by
    simp only [JVV,List.mem_append]
    rcases List.mem_cons.1 h with h | h
    · cases h; exact .inl hid
    · exact .inr (JZG h id hid)
theorem jZ:∀ {sub:Sub} {a b:Nat},JC sub a = some (some b) → b ∈ jQ sub
  | (k,some x) :: r,a,b,h => by
    simp only [Jt,JT] at h
    cases hk:Nat.beq k a
    · rw [hk] at h; simp [jQ,jZ h]
    · rw [hk] at h; cases h; simp [jQ]
  | (k,none) :: r,a,b,h => by
    simp only [Jt,JT] at h
    cases hk:Nat.beq k a
    · rw [hk] at h; simp [jQ,jZ h]
    · rw [hk] at h; cases h
theorem JLv:∀ {sub:Sub} {a a' b:Nat},(jQ sub).Nodup → JC sub a = some (some b) → JC sub a' = some (some b) → a = a'
  | [],_,_,_,_,h,_ => by cases h
  | (k,none) :: r,a,a',b,hn,h,h' => by
    simp only [Jt,JT] at h h'
    cases hk:Nat.beq k a
    · rw [hk] at h
      cases hk':Nat.beq k a'
      · rw [hk'] at h'; simp only [cond_false] at h h'; exact JLv (sub := r) hn h h'
      · rw [hk'] at h'; cases h'
    · rw [hk] at h; cases h
  | (k,some x) :: r,a,a',b,hn,h,h' => by
    simp only [jQ,List.nodup_cons] at hn
    simp only [Jt,JT] at h h'
    cases hk:Nat.beq k a
    · rw [hk] at h
      cases hk':Nat.beq k a'
      · rw [hk'] at h'; simp only [cond_false] at h h'; exact JLv hn.2 h h'
      · rw [hk'] at h'; simp only [cond_false] at h; cases h'; exact absurd (jZ h) hn.1
    · rw [hk] at h; cases h
      cases hk':Nat.beq k a'
      · rw [hk'] at h'; simp only [cond_false] at h'; exact absurd (jZ h') hn.1
      · rw [← Nat.eq_of_beq_eq_true hk,← Nat.eq_of_beq_eq_true hk']
theorem JHR {n0 id:Nat}:∀ {M:Jn},id ∈ domain M → id < n0 → id ∈ JMI n0 M
  | [],h,_ => by cases h
  | (k,o) :: r,h,hlt => by
    simp only [domain,List.mem_cons] at h
    simp only [JMI]
    cases hk:Nat.blt k n0
    · rcases h with rfl | h
      · rw [Nat.blt_eq.mpr hlt] at hk; cases hk
      · exact JHR h hlt
    · rcases h with rfl | h
      · simp
      · simp [JHR h hlt]
theorem JS9 {nt m n0 N:Nat} {θ0:Th} {m0:Jn} {w0:World} {E env:KH} {M mem:Jn} {p:List Prop} {q:qP} (h:JZb n0 N E M env mem = some (p,q)) (hp:∀ x ∈ p,x) (hq:∀ x ∈ q,x.1 = x.2) {a:Act} {w:World}
    (hL:YX nt m n0 θ0 m0 w0 env mem a w):YX nt N n0 θ0 m0 w0 E M a w := by
  unfold JZb at h
  cases hc:(JaC E && (YG N (JVV E) && YG N (Yw M)))
  · rw [hc] at h; cases h
  rw [hc] at h
  simp only [Bool.and_eq_true] at hc
  obtain ⟨hpl,hE,hM⟩ := hc
  have hE := K2 hE
  have hM := K2 hM
  simp only [cond_true] at h
  split at h
  · cases h
  rename_i m1 h1
  split at h
  · cases h
  rename_i m2 h2
  cases hn:(JMh (jQ m2.sub) && !(YK (jQ m2.sub) (JMI n0 M)))
  · rw [hn] at h; cases h
  rw [hn] at h
  simp only [cond_true,Option.some.injEq,Prod.mk.injEq] at h
  obtain ⟨rfl,rfl⟩ := h
  simp only [Bool.and_eq_true,Bool.not_eq_true'] at hn
  have hnd := JJH hn.1
  have hlow:∀ x,x ∈ jQ m2.sub → x ∈ JMI n0 M → False := fun x h1 h2 => by
    have := WT.2 ⟨x,h1,h2⟩
    rw [hn.2] at this; cases this
  have hg:Good m2 := ⟨hp,hq⟩
  obtain ⟨θ,R,pl,G⟩ := hL
  obtain ⟨e1,e2⟩ := JSg (θ := θ) h1
  obtain ⟨e3,e4⟩ := JHz (θ := θ) h2
  have obj:∀ id o,JC M id = some o → QC (Yv n0 θ m2.sub) w id o ∧ ((∃ b p,JHi n0 m2.sub id (some b) ∧ JC mem b = some p ∧ Yv n0 θ m2.sub id = θ b) ∨ Yv n0 θ m2.sub id = Loc.none) := by
    intro id o hl
    rcases e4 id o (JNO hl) with ⟨b,p,h3,h4,h5⟩ | ⟨h3,h5⟩
    · exact ⟨h5 m2 (Ext.refl _) hg w (R.mem.1 b p h4),.inl ⟨b,p,h3,h4,WM h3⟩⟩
    · exact ⟨h5 m2 (Ext.refl _) hg w,.inr (JLh h3)⟩
  refine ⟨Yv n0 θ m2.sub,⟨R.size,R.defers,fun t e hl id hid => hE id (JZG (JNO hl) id hid),fun id o hl => ⟨hM id (JJY hl).1,fun i hi => hM i ((JJY hl).2 i hi)⟩,fun t e hl => ?_,fun id o hl => (obj id o hl).1,fun id id' o o' b hl hl' hne hb hb' => ?_⟩,fun t e hl => (JIE hpl hl).1,?_⟩
  · obtain ⟨f,h3,h4,h5,h6⟩ := e2 t e (JNO hl)
    have h7 := Yq (R.env t f h3) h4
    have h8 := h6 m2 e3 hg
    have h9:a.tmps[t]? = some (e.val.den (Yv n0 θ m2.sub)) := by rw [h7,h8]
    obtain ⟨hg1,hg2⟩ := JIE hpl hl
    obtain ⟨g,gx,tag,v⟩ := e
    simp only at hg1 hg2
    subst hg1; subst hg2
    exact JJt h9
  · rcases (obj id o hl).2 with ⟨c,p,h3,h4,h5⟩ | h5
    · rcases (obj id' o' hl').2 with ⟨c',p',h3',h4',h5'⟩ | h5'
      · rw [h5] at hb
        rw [h5'] at hb'
        refine R.mem.2 c c' p p' b h4 h4' (fun hcc => ?_) hb hb'
        subst hcc
        rcases h3 with ⟨h6,h7⟩ | ⟨h6,h7⟩ <;> rcases h3' with ⟨h6',h7'⟩ | ⟨h6',h7'⟩
        · cases h7; cases h7'; exact hne rfl
        · cases h7; exact hlow _ (jZ h7') (JHR (Zl.2 ⟨o,hl⟩) h6)
        · cases h7'; exact hlow _ (jZ h7) (JHR (Zl.2 ⟨o',hl'⟩) h6')
        · exact hne (JLv hnd h7 h7')
      · rw [h5'] at hb'; cases hb'
    · rw [h5] at hb; cases hb
  · refine { agree := G.agree.trans (fun id hid => by unfold Yv; rw [if_pos hid]) (Nat.le_refl _),os := G.os,tape := G.tape,output := G.output,size := G.size,heap := G.heap,blks := fun id o b hl hb => ?_,eyes := fun id o b hl hb => ?_ }
    · rcases (obj id o hl).2 with ⟨c,p,_,h4,h5⟩ | h5
      · rw [h5] at hb; exact G.blks c p b h4 hb
      · rw [h5] at hb; cases hb
    · rcases (obj id o hl).2 with ⟨c,p,_,h4,h5⟩ | h5
      · rw [h5] at hb; exact G.eyes c p b h4 hb
      · rw [h5] at hb; cases hb
theorem JKJ {nt m n0 N:Nat} {θ0:Th} {m0:Jn} {w0:World} {e:SX} {env:KH} {mem:Jn}:∀ {t:Tree} {p:List Prop} {q:qP},JQm n0 N e env mem t = some (p,q) → (∀ x ∈ p,x) → (∀ x ∈ q,x.1 = x.2) → ∀ {a:Act} {w:World},
    YX nt m n0 θ0 m0 w0 env mem a w → t.sat (YX nt N n0 θ0 m0 w0) e.toExit a w
  | .leaf f E M,p,q,h,hp,hq,a,w,hL => by
    simp only [JQm] at h
    cases hef:SX.eq e f
    · rw [hef] at h; cases h
      exact absurd (hp False (by simp)) id
    · rw [hef] at h
      have := JbX hef; subst this
      exact ⟨rfl,JS9 h hp hq hL⟩
  | .ite c s t,p,q,h,hp,hq,a,w,hL => by
    simp only [JQm] at h
    split at h
    · rename_i p1 q1 p2 q2 h1 h2
      cases h
      exact ⟨fun hc => JKJ h1 (Ko hc fun x hx => hp x (List.mem_append.2 (.inl hx))) (fun x hx => hq x (List.mem_append.2 (.inl hx))) hL,
        fun hc => JKJ h2 (Ko hc fun x hx => hp x (List.mem_append.2 (.inr hx))) (fun x hx => hq x (List.mem_append.2 (.inr hx))) hL⟩
    · cases h
section loop
variable {P:Program} {σ τ:Type} {F:Fam σ τ}
theorem JlK {nt m n:Nat} {θ0:Th} {m0:Jn} {w0:World} {s:σ}:∀ {t:Tree} {i j:Nat} {p:List Prop} {q:qP},JDg F n s t i = some (p,q,j) → (∀ x ∈ p,x) → (∀ x ∈ q,x.1 = x.2) → ∀ {x:Exit} {a:Act} {w:World},
    t.sat (YX nt m n θ0 m0 w0) x a w → (x = .normal ∧ ∃ s',F.J s' ∧ F.μ s' < F.μ s ∧ F.fin s' = F.fin s ∧ YX nt (n + F.k) n θ0 m0 w0 (F.E s') (F.M s') a w) ∨ ((∀ K Q,Exit.then K Q x a w = Q x a w) ∧ (F.out (F.fin s)).sat (YX nt (n + F.k) n θ0 m0 w0) x a w) := by
  intro t
  induction t with
  | leaf e env mem =>
    intro i j p q h hp hq x a w hs
    obtain ⟨rfl,hL⟩ := hs
    cases e with
    | normal =>
      simp only [JDg] at h
      split at h
      · rename_i p' q' h1
        cases h
        exact .inl ⟨rfl,F.next s i,hp _ (by simp),hp _ (by simp),hp _ (by simp),JS9 h1 (fun x hx => hp x (by simp [hx])) hq hL⟩
      · cases h
    | exit id =>
      simp only [JDg] at h
      split at h
      · rename_i p' q' h1
        cases h
        exact .inr ⟨fun _ _ => rfl,JKJ h1 hp hq hL⟩
      · cases h
    | ret =>
      simp only [JDg] at h
      split at h
      · rename_i p' q' h1
        cases h
        exact .inr ⟨fun _ _ => rfl,JKJ h1 hp hq hL⟩
      · cases h
  | ite c s1 s2 ih1 ih2 =>
    intro i j p q h hp hq x a w hs
    simp only [JDg] at h
    split at h
    · cases h
    rename_i p1 q1 j1 h1
    split at h
    · cases h
    rename_i p2 q2 j2 h2
    cases h
    cases c
    · exact ih2 h2 (Ko (p := false = false) rfl fun x hx => hp x (List.mem_append.2 (.inr hx))) (fun x hx => hq x (List.mem_append.2 (.inr hx))) (hs.2 rfl)
    · exact ih1 h1 (Ko (p := true = true) rfl fun x hx => hp x (List.mem_append.2 (.inl hx))) (fun x hx => hq x (List.mem_append.2 (.inl hx))) (hs.1 rfl)
def Z1 (F:Fam σ τ) (body:QG) (n:Nat):Prop := ∀ s,F.J s → ∃ p q,Xh F body n s = some (p,q) ∧ (∀ x ∈ p,x) ∧ ∀ x ∈ q,x.1 = x.2
theorem JXX {nt n:Nat} {b:Code} {body:QG} (hb:YF P nt b body) (hr:Z1 F body n) {θ0:Th} {m0:Jn} {w0:World}:∀ (m:Nat) (s:σ),F.μ s < m → F.J s → ∀ a w,YX nt (n + F.k) n θ0 m0 w0 (F.E s) (F.M s) a w →
    Code.rounds P b ((F.out (F.fin s)).sat (YX nt (n + F.k) n θ0 m0 w0)) m a w
  | 0,_,h,_,_,_,_ => by omega
  | m + 1,s,hm,hJ,a,w,hL => by
    obtain ⟨p,q,h,hp,hq⟩ := hr s hJ
    unfold Xh at h
    split at h
    · cases h
    rename_i x hx
    obtain ⟨t,qc,n1,hc⟩:∃ t qc n1,KN x.t x.n = (t,qc,n1) := ⟨_,_,_,rfl⟩
    simp only [hc] at h
    split at h
    case h_2 => cases h
    rename_i p' q' j hl
    cases h
    obtain ⟨θ,R,pl,G⟩ := hL
    obtain ⟨hle,hbody⟩ := hb (F.E s) (F.M s) (n + F.k) x hx fun y hy => hq y (by simp [hy])
    have h2 := hbody (fun y hy => hp y (by simp [hy])) θ a w R pl
    rw [rounds_succ]
    refine wp_mono h2 fun ex a' w' hs => ?_
    have h3 := (K4 (nt := nt) (k := n + F.k) (θ0 := θ) (m0 := F.M s) (w0 := w) hc fun y hy => hq y (by simp [hy])).2 hs
    have h4 := Tree.sat_mono (L' := YX nt n1 n θ0 m0 w0) (fun _ _ _ _ h => JWc G (Nat.le_add_right _ _) h) h3
    rcases JlK hl (fun y hy => hp y (by simp [hy])) (fun y hy => hq y (by simp [hy])) h4 with ⟨rfl,s',h5,h6,h7,h8⟩ | ⟨h5,h6⟩
    · have := JXX hb hr m s' (by omega) h5 a' w' h8
      rw [h7] at this
      exact this
    · rw [h5]; exact h6
theorem XW {nt n0:Nat} {b:Code} {body:QG} {init:KH → Jn → Option σ} (hb:YF P nt b body) (hr:Z1 F body n0):YF P nt (.loop b) (zD F n0 init) := by
  intro env mem n r h he
  unfold zD at h
  cases hn:Nat.beq n n0
  · rw [hn] at h; cases h
  rw [hn] at h
  have := Nat.eq_of_beq_eq_true hn; subst this
  simp only [cond_true] at h
  split at h
  · cases h
  rename_i s hs
  split at h
  · rename_i p q hm
    cases h
    refine ⟨Nat.le_add_right _ _,fun hne θ a w R pl => ?_⟩
    have hL:YX nt n n θ mem w env mem a w := ⟨θ,R,pl,Grew.refl _ _ _ _⟩
    have hL' := JS9 hm (fun x hx => hne x (List.mem_cons_of_mem _ hx)) he hL
    exact wp_loop_rounds (F.μ s + 1) (JXX hb hr (F.μ s + 1) s (Nat.lt_succ_self _) (hne _ (List.mem_cons_self ..)) a w hL')
  · cases h
end loop
open Go.RowKit
structure Runs (g:JY) (vs:List SV) (mem:Jn) (n:Nat) (v:SV) (m:Jn):Prop where
  run:∃ r,g vs mem n = some r ∧ (∀ p ∈ r.needs,p) ∧ (∀ p ∈ r.eqs,p.1 = p.2) ∧ r.val = v ∧ r.mem = m
theorem Runs.of {g:JY} {vs:List SV} {mem:Jn} {n:Nat} {v:SV} {m:Jn} {ps:List Prop} (h1:(g vs mem n).map (fun r => (r.val,r.mem,r.needs)) = some (v,m,ps))
    (h2:(g vs mem n).map (fun r => r.eqs.map (·.1)) = (g vs mem n).map (fun r => r.eqs.map (·.2))) (h3:∀ p ∈ ps,p):Runs g vs mem n v m := by
  cases h:g vs mem n with
  | none => rw [h] at h1; cases h1
  | some r =>
    rw [h] at h1 h2
    simp only [Option.map_some,Option.some.injEq,Prod.mk.injEq] at h1 h2
    obtain ⟨rfl,rfl,rfl⟩ := h1
    refine ⟨r,h,h3,fun p hp => ?_,rfl,rfl⟩
    obtain ⟨i,hi⟩ := List.getElem?_of_mem hp
    have := congrArg (fun l:List EV => l[i]?) h2
    simp only [List.getElem?_map,hi,Option.map_some,Option.some.injEq] at this
    exact this
def JIP:Nat → Nat | 0 => 0 | n + 1 => n + 1
def Jr0:SI → SI | .c x => .c x | .v x => .v x
def JsX:SB → SB | .c x => .c x | .v x => .v x
def JaI:SC → SC
  | .int k n => .int k (Jr0 n)
  | .bool b => .bool (JsX b)
  | .wh a => .wh (JIP a)
  | .ptr a o => .ptr (JIP a) (JIP o)
  | c => c
def JN7:List SC → List SC
  | [] => []
  | c :: r => JaI c :: JN7 r
def JeI:List (Nat × SC) → List (Nat × SC)
  | [] => []
  | (t,c) :: r => (JIP t,JaI c) :: JeI r
def JNP:List (Bool × List SC) → List (Bool × List SC)
  | [] => []
  | (b,c) :: r => (b,JN7 c) :: JNP r
def Jj1:SV → SV
  | .one c => .one (JaI c)
  | .agg cs => .agg (JN7 cs)
  | .tup vs => .tup (JNP vs)
def Jhw:RowC → RowC
  | .lit t rows => .lit (JIP t) rows
  | .lst t ks xs => .lst (JIP t) ks xs
def JiF:Obj → Obj
  | .blk t cs => .blk t (JeI cs)
  | .row ro ty esz r => .row ro ty esz (Jhw r)
  | o => o
def JdS:Jn → Jn
  | [] => []
  | (id,o) :: r => (JIP id,JiF o) :: JdS r
theorem JJp (x:Nat):JIP x = x := by cases x <;> rfl
theorem JnT (x:SI):Jr0 x = x := by cases x <;> rfl
theorem JoF (x:SB):JsX x = x := by cases x <;> rfl
theorem JOy (x:SC):JaI x = x := by cases x <;> simp only [JaI,JnT,JoF,JJp]
theorem JLY:∀ l:List SC,JN7 l = l
  | [] => rfl
  | c :: r => by simp only [JN7,JOy,JLY r]
theorem JcA:∀ l:List (Nat × SC),JeI l = l
  | [] => rfl
  | (t,c) :: r => by simp only [JeI,JOy,JJp,JcA r]
theorem JTX:∀ l:List (Bool × List SC),JNP l = l
  | [] => rfl
  | (b,c) :: r => by simp only [JNP,JLY,JTX r]
theorem Jnj (v:SV):Jj1 v = v := by cases v <;> simp only [Jj1,JOy,JLY,JTX]
theorem Job (r:RowC):Jhw r = r := by cases r <;> simp only [Jhw,JJp]
theorem Jn0 (o:Obj):JiF o = o := by cases o <;> simp only [JiF,JcA,Job]
theorem JbA:∀ m:Jn,JdS m = m
  | [] => rfl
  | (id,o) :: r => by simp only [JdS,Jn0,JJp,JbA r]
def Jvs:Option CRes → Bool × SV × Jn × List Prop × List EV
  | some r => (true,Jj1 r.val,JdS r.mem,r.needs,r.eqs.map (·.1))
  | none => (true,.agg [],[],[],[])
def JvO (v:SV) (m:Jn) (ps:List Prop):Option CRes → Bool × SV × Jn × List Prop × List EV
  | some r => (true,v,m,ps,r.eqs.map (·.2))
  | none => (false,.agg [],[],[],[])
theorem Runs.of1 {g:JY} {vs:List SV} {mem:Jn} {n:Nat} {v:SV} {m:Jn} {ps:List Prop} (h:Jvs (g vs mem n) = JvO v m ps (g vs mem n)) (h3:∀ p ∈ ps,p):Runs g vs mem n v m := by
  cases hr:g vs mem n with
  | none => rw [hr] at h; simp [Jvs,JvO] at h
  | some r =>
    rw [hr] at h
    simp only [Jvs,JvO,Jnj,JbA,Prod.mk.injEq,true_and] at h
    obtain ⟨h1,h2,h4,h5⟩ := h
    exact Runs.of (ps := ps) (by rw [hr,Option.map_some,h1,h2,h4]) (by rw [hr,Option.map_some,Option.map_some,h5]) h3
theorem Runs.to {g:JY} {vs:List SV} {mem:Jn} {n:Nat} {v v':SV} {m m':Jn} (h:Runs g vs mem n v m) (hv:v = v') (hm:m = m'):Runs g vs mem n v' m' := by subst hv; subst hm; exact h
def Q4 (r:Option (List Prop × qP)):Prop := ∃ p q,r = some (p,q) ∧ (∀ x ∈ p,x) ∧ ∀ x ∈ q,x.1 = x.2
theorem Q4.of {r:Option (List Prop × qP)} {ps:List Prop} (h1:r.map (·.1) = some ps) (h2:r.map (fun x => x.2.map (·.1)) = r.map (fun x => x.2.map (·.2))) (h3:∀ p ∈ ps,p):Q4 r := by
  cases r with
  | none => cases h1
  | some x =>
    simp only [Option.map_some,Option.some.injEq] at h1 h2
    subst h1
    refine ⟨x.1,x.2,rfl,h3,fun p hp => ?_⟩
    obtain ⟨i,hi⟩ := List.getElem?_of_mem hp
    have := congrArg (fun l:List EV => l[i]?) h2
    simp only [List.getElem?_map,hi,Option.map_some,Option.some.injEq] at this
    exact this
section use
variable {P:Program}
theorem Jj5 {f:FuncId} {g:JY} (hg:Qg P f g) {vs:List SV} {mem m:Jn} {n:Nat} {v:SV} (h:Runs g vs mem n v m) (hwf:Qz n mem) (hi:∀ id ∈ Qd vs,id < n) {θ:Th} {w:World} (hm:Jh θ mem w) (hf:f < 1000000 := by decide) :
    Calls P f (vs.map (SV.den θ)).toArray w fun e w' => ∃ θ',e = .returned (v.den θ') ∧ Grew n θ mem w θ' m w' ∧ Jh θ' m w' := by
  obtain ⟨r,h3,h4,h5,rfl,rfl⟩ := h.run
  exact (hg _ _ _ r h3 h4 h5 hwf hi θ w hm).2.1 hf
def QU (P:Program) (f:FuncId):List Code := match P.funcs[f]? with
  | some fn => (match fn.body with
    | some b => ZD b
    | none => [])
  | none => []
def JCK (P:Program) (f i:Nat):Code := ((QU P f)[i]?).getD .skip
def Jql (P:Program) (f:FuncId):Nat := match P.funcs[f]? with
  | some fn => fn.ntmps
  | none => 0
def Jlw (P:Program) (f:FuncId) (L:Nat → Option QG):Cfg := match P.funcs[f]? with
  | some fn => (match fn.body with
    | some b => ⟨JEP (YB b ++ JF0 fn.results.toList),fn.ntmps,100,L⟩
    | none => ⟨0,fn.ntmps,100,L⟩)
  | none => ⟨0,0,100,L⟩
def QW (P:Program) (S:FuncId → Option JY) (L:FuncId → Nat → Option QG) (f i:Nat):QG := Y9 P (Jb1 P S L 100 10) (Jlw P f (L f)) (JCK P f i)
theorem YT:∀ {c b:Code},b ∈ ZD c → ∀ d ∈ ZD b,d ∈ ZD c
  | .seq x y,b,h,d,hd => by
    simp only [ZD,List.mem_append] at h ⊢
    exact h.imp (fun h => YT h d hd) fun h => YT h d hd
  | .cond _ x y,b,h,d,hd => by
    simp only [ZD,List.mem_append] at h ⊢
    exact h.imp (fun h => YT h d hd) fun h => YT h d hd
  | .block _ x,b,h,d,hd => YT (c := x) h d hd
  | .loop x,b,h,d,hd => by
    simp only [ZD,List.mem_cons] at h ⊢
    rcases h with rfl | h
    · exact .inr hd
    · exact .inr (YT h d hd)
  | .skip,_,h,_,_ => by cases h
  | .region ..,_,h,_,_ => by cases h
  | .exit _,_,h,_,_ => by cases h
  | .ret,_,h,_,_ => by cases h
  | .rangeFunc ..,_,h,_,_ => by cases h
  | .scope _,_,h,_,_ => by cases h
  | .label _,_,h,_,_ => by cases h
  | .goto _,_,h,_,_ => by cases h
  | .refuse _,_,h,_,_ => by cases h
theorem JSq {f:FuncId} {fn:Func} {b:Code} (hf:P.funcs[f]? = some fn) (hb:fn.body = some b):QU P f = ZD b ∧ Jql P f = fn.ntmps := by
  unfold QU Jql
  simp only [hf,hb,and_self]
theorem Qc (hp:Zh P) {S:FuncId → Option JY} {L:FuncId → Nat → Option QG} (hk:Known P S L) {f i:Nat} (hi:i < (QU P f).length):YF P (Jql P f) (JCK P f i) (QW P S L f i) := by
  unfold QW
  cases hf:P.funcs[f]? with
  | none => unfold QU at hi; rw [hf] at hi; simp at hi
  | some fn =>
    cases hb:fn.body with
    | none => unfold QU at hi; simp only [hf,hb] at hi; simp at hi
    | some b =>
      obtain ⟨h1,h2⟩ := JSq hf hb
      have hm:JCK P f i ∈ ZD b := by
        unfold JCK
        rw [List.getElem?_eq_getElem hi,Option.getD_some,← h1]
        exact List.getElem_mem hi
      have hcfg:Jlw P f (L f) = ⟨JEP (YB b ++ JF0 fn.results.toList),fn.ntmps,100,L f⟩ := by unfold Jlw; simp only [hf,hb]
      have := Y7 (cfg := Jlw P f (L f)) hp (JWx hp hk 100 10) (JCK P f i) (fun d hd k s h3 h4 => by
        rw [hcfg] at h4 ⊢
        exact hk.loops f fn b hf hb d (YT hm d hd) k s h3 h4)
      rw [h2]
      rw [hcfg] at this ⊢
      exact this
theorem JgP {f:FuncId} {L:Nat → Option QG} (h:∀ i,i < (QU P f).length → ∀ k s,JCu (JCK P f i) = some k → L k = some s → YF P (Jql P f) (.loop (JCK P f i)) s):JN0 P f L := by
  intro fn b hf hb c hc k s h1 h2
  obtain ⟨h3,h4⟩ := JSq hf hb
  rw [← h3] at hc
  obtain ⟨i,hi⟩ := List.getElem?_of_mem hc
  have hlt:i < (QU P f).length := (List.getElem?_eq_some_iff.1 hi).1
  have he:JCK P f i = c := by unfold JCK; rw [hi]; rfl
  have := h i hlt k s (by rw [he]; exact h1) h2
  rw [he,h4] at this
  exact this
end use
open Go.RowKit
inductive Pm where
  | i (n:Int) | b (x:Bool)
inductive PC where
  | int (k:IntKind) | bool | ptr (id off:Nat) | wh (id:Nat) | nilp | nilsl | fn (f:FuncId) | clo (f:FuncId) (id:Nat)
inductive PV where
  | one (c:PC) | agg (cs:List PC)
inductive PO where
  | blk (ty:TypeId) (cells:List (Nat × PC))
  | row (ro:Bool) (ty:TypeId) (esz tag:Nat) (ks:List CK)
  | clo (vs:List PV)
structure Tpl where
  vs:List PV
  mem:List (Nat × PO)
  n:Nat
abbrev Qm := List (List (List Int))
def PC.fit:PC → SC → Option (List Pm)
  | .int k,.int j x => bif jA k j then (match x with | .c n => some [.i n] | .v n => some [.i n]) else none
  | .bool,.bool x => (match x with | .c n => some [.b n] | .v n => some [.b n])
  | .ptr a o,.ptr b p => bif Nat.beq a b && Nat.beq o p then some [] else none
  | .wh a,.wh b => bif Nat.beq a b then some [] else none
  | .nilp,.nilp => some []
  | .nilsl,.nilsl => some []
  | .fn f,.fn g => bif Nat.beq f g then some [] else none
  | .clo f a,.clo g b => bif Nat.beq f g && Nat.beq a b then some [] else none
  | _,_ => none
def JlV:List PC → List SC → Option (List Pm)
  | [],[] => some []
  | c :: cs,x :: xs => match c.fit x,JlV cs xs with
    | some p,some q => some (p ++ q)
    | _,_ => none
  | _,_ => none
def PV.fit:PV → SV → Option (List Pm)
  | .one c,.one x => c.fit x
  | .agg cs,.agg xs => JlV cs xs
  | _,_ => none
def Jfs:List PV → List SV → Option (List Pm)
  | [],[] => some []
  | c :: cs,x :: xs => match c.fit x,Jfs cs xs with
    | some p,some q => some (p ++ q)
    | _,_ => none
  | _,_ => none
def JuI:List (Nat × PC) → List (Nat × SC) → Option (List Pm)
  | [],[] => some []
  | (t,c) :: cs,(u,x) :: xs => bif Nat.beq t u then (match c.fit x,JuI cs xs with
    | some p,some q => some (p ++ q)
    | _,_ => none) else none
  | _,_ => none
def PO.fit:PO → Obj → Option (List Pm × Qm)
  | .blk t cs,.blk u xs => bif Nat.beq t u then (JuI cs xs).map fun p => (p,[]) else none
  | .row ro ty esz tag ks,.row ro' ty' esz' r => bif (ro == ro') && (Nat.beq ty ty' && Nat.beq esz esz') then (match r with
    | .lst tag' js xs => bif Nat.beq tag tag' && W3 ks js then some ([],[xs]) else none
    | .lit tag' rows => bif Nat.beq tag tag' then (q7 ks rows).map fun xs => ([],[xs]) else none) else none
  | .clo cs,.clo xs => (Jfs cs xs).map fun p => (p,[])
  | _,_ => none
def Jd2:List (Nat × PO) → Jn → Option (List Pm × Qm)
  | [],[] => some ([],[])
  | (id,c) :: cs,(id',x) :: xs => bif Nat.beq id id' then (match c.fit x,Jd2 cs xs with
    | some (p,l),some (q,m) => some (p ++ q,l ++ m)
    | _,_ => none) else none
  | _,_ => none
def PC.mk:PC → List Pm → SC × List Pm
  | .int k,.i n :: r => (.int k (.v n),r)
  | .bool,.b x :: r => (.bool (.v x),r)
  | .int _,r => (.nilp,r)
  | .bool,r => (.nilp,r)
  | .ptr a o,r => (.ptr a o,r)
  | .wh a,r => (.wh a,r)
  | .nilp,r => (.nilp,r)
  | .nilsl,r => (.nilsl,r)
  | .fn f,r => (.fn f,r)
  | .clo f a,r => (.clo f a,r)
def Jad:List PC → List Pm → List SC × List Pm
  | [],r => ([],r)
  | c :: cs,r => ((c.mk r).1 :: (Jad cs (c.mk r).2).1,(Jad cs (c.mk r).2).2)
def PV.mk:PV → List Pm → SV × List Pm
  | .one c,r => (.one (c.mk r).1,(c.mk r).2)
  | .agg cs,r => (.agg (Jad cs r).1,(Jad cs r).2)
def JQf:List PV → List Pm → List SV × List Pm
  | [],r => ([],r)
  | c :: cs,r => ((c.mk r).1 :: (JQf cs (c.mk r).2).1,(JQf cs (c.mk r).2).2)
def mkT:List (Nat × PC) → List Pm → List (Nat × SC) × List Pm
  | [],r => ([],r)
  | (t,c) :: cs,r => ((t,(c.mk r).1) :: (mkT cs (c.mk r).2).1,(mkT cs (c.mk r).2).2)
def PO.mk:PO → List Pm → Qm → Obj × List Pm × Qm
  | .blk t cs,r,l => (.blk t (mkT cs r).1,(mkT cs r).2,l)
  | .row ro ty esz tag ks,r,xs :: l => (.row ro ty esz (.lst tag ks xs),r,l)
  | .row ..,r,[] => (.blk 0 [],r,[])
  | .clo cs,r,l => (.clo (JQf cs r).1,(JQf cs r).2,l)
def JVL:List (Nat × PO) → List Pm → Qm → Jn
  | [],_,_ => []
  | (id,c) :: cs,r,l => (id,(c.mk r l).1) :: JVL cs (c.mk r l).2.1 (c.mk r l).2.2
def Tpl.args (t:Tpl) (ps:List Pm):List SV := (JQf t.vs ps).1
def Tpl.memo (t:Tpl) (ps:List Pm) (ls:Qm):Jn := JVL t.mem (JQf t.vs ps).2 ls
def JS (t:Tpl) (out:List Pm → Qm → Option CRes):JY := fun vs mem n =>
  bif Nat.beq n t.n then (match Jfs t.vs vs,Jd2 t.mem mem with
    | some ps,some (qs,ls) => out (ps ++ qs) ls
    | _,_ => none) else none
theorem PC.fit_spec {c:PC} {x:SC} {ps:List Pm} (h:c.fit x = some ps) (rest:List Pm):∃ y,c.mk (ps ++ rest) = (y,rest) ∧ (∀ θ,y.den θ = x.den θ) ∧ Wn y = Wn x := by
  unfold PC.fit at h
  split at h
  · rename_i k j x
    cases hk:jA k j
    · rw [hk] at h; cases h
    · rw [hk] at h
      have := YY hk; subst this
      cases x <;> cases h <;> exact ⟨_,rfl,fun _ => rfl,rfl⟩
  · rename_i x
    cases x <;> cases h <;> exact ⟨_,rfl,fun _ => rfl,rfl⟩
  · rename_i a o b p
    cases hk:(Nat.beq a b && Nat.beq o p)
    · rw [hk] at h; cases h
    · rw [hk] at h
      simp only [Bool.and_eq_true] at hk
      have e1 := Nat.eq_of_beq_eq_true hk.1
      have e2 := Nat.eq_of_beq_eq_true hk.2
      subst e1; subst e2; cases h
      exact ⟨_,rfl,fun _ => rfl,rfl⟩
  · rename_i a b
    cases hk:Nat.beq a b
    · rw [hk] at h; cases h
    · rw [hk] at h
      have e1 := Nat.eq_of_beq_eq_true hk
      subst e1; cases h
      exact ⟨_,rfl,fun _ => rfl,rfl⟩
  · cases h; exact ⟨_,rfl,fun _ => rfl,rfl⟩
  · cases h; exact ⟨_,rfl,fun _ => rfl,rfl⟩
  · rename_i a b
    cases hk:Nat.beq a b
    · rw [hk] at h; cases h
    · rw [hk] at h
      have e1 := Nat.eq_of_beq_eq_true hk
      subst e1; cases h
      exact ⟨_,rfl,fun _ => rfl,rfl⟩
  · rename_i a o b p
    cases hk:(Nat.beq a b && Nat.beq o p)
    · rw [hk] at h; cases h
    · rw [hk] at h
      simp only [Bool.and_eq_true] at hk
      have e1 := Nat.eq_of_beq_eq_true hk.1
      have e2 := Nat.eq_of_beq_eq_true hk.2
      subst e1; subst e2; cases h
      exact ⟨_,rfl,fun _ => rfl,rfl⟩
  · cases h
theorem JVR:∀ {cs:List PC} {xs:List SC} {ps:List Pm},JlV cs xs = some ps → ∀ rest,∃ ys,Jad cs (ps ++ rest) = (ys,rest) ∧ (∀ θ,JK θ ys = JK θ xs) ∧ Qo ys = Qo xs
  | [],[],_,h,_ => by cases h; exact ⟨[],rfl,fun _ => rfl,rfl⟩
  | [],_ :: _,_,h,_ => by cases h
  | _ :: _,[],_,h,_ => by cases h
  | c :: cs,x :: xs,ps,h,rest => by
    simp only [JlV] at h
    split at h
    · rename_i p q h1 h2
      cases h
      obtain ⟨y,e1,e2,e3⟩ := PC.fit_spec h1 (q ++ rest)
      obtain ⟨ys,f1,f2,f3⟩ := JVR h2 rest
      refine ⟨y :: ys,by simp only [Jad,List.append_assoc,e1,f1],fun θ => ?_,by rw [Ju,Ju,e3,f3]⟩
      have := f2 θ
      simp only [JK,List.map_cons,e2 θ] at this ⊢
      rw [this]
    · cases h
theorem PV.fit_spec {c:PV} {x:SV} {ps:List Pm} (h:c.fit x = some ps) (rest:List Pm):∃ y,c.mk (ps ++ rest) = (y,rest) ∧ (∀ θ,y.den θ = x.den θ) ∧ ZY y = ZY x := by
  unfold PV.fit at h
  split at h
  · obtain ⟨y,e1,e2,e3⟩ := PC.fit_spec h rest
    exact ⟨.one y,by simp only [PV.mk,e1],e2,e3⟩
  · obtain ⟨y,e1,e2,e3⟩ := JVR h rest
    exact ⟨.agg y,by simp only [PV.mk,e1],fun θ => by simp only [SV.den,e2 θ],e3⟩
  · cases h
theorem JMV:∀ {cs:List PV} {xs:List SV} {ps:List Pm},Jfs cs xs = some ps → ∀ rest,∃ ys,JQf cs (ps ++ rest) = (ys,rest) ∧ (∀ θ,ys.map (SV.den θ) = xs.map (SV.den θ)) ∧ Qd ys = Qd xs
  | [],[],_,h,_ => by cases h; exact ⟨[],rfl,fun _ => rfl,rfl⟩
  | [],_ :: _,_,h,_ => by cases h
  | _ :: _,[],_,h,_ => by cases h
  | c :: cs,x :: xs,ps,h,rest => by
    simp only [Jfs] at h
    split at h
    · rename_i p q h1 h2
      cases h
      obtain ⟨y,e1,e2,e3⟩ := PV.fit_spec h1 (q ++ rest)
      obtain ⟨ys,f1,f2,f3⟩ := JMV h2 rest
      exact ⟨y :: ys,by simp only [JQf,List.append_assoc,e1,f1],fun θ => by simp only [List.map_cons,e2 θ,f2 θ],by simp only [Qd,e3,f3]⟩
    · cases h
theorem JbJ:∀ {cs:List (Nat × PC)} {xs:List (Nat × SC)} {ps:List Pm},JuI cs xs = some ps → ∀ rest,∃ ys,mkT cs (ps ++ rest) = (ys,rest) ∧ (∀ θ,JK θ (QQ ys) = JK θ (QQ xs)) ∧ Qo (QQ ys) = Qo (QQ xs)
  | [],[],_,h,_ => by cases h; exact ⟨[],rfl,fun _ => rfl,rfl⟩
  | [],_ :: _,_,h,_ => by cases h
  | _ :: _,[],_,h,_ => by cases h
  | (t,c) :: cs,(u,x) :: xs,ps,h,rest => by
    simp only [JuI] at h
    cases hk:Nat.beq t u
    · rw [hk] at h; cases h
    rw [hk] at h
    simp only [cond_true] at h
    split at h
    · rename_i p q h1 h2
      cases h
      obtain ⟨y,e1,e2,e3⟩ := PC.fit_spec h1 (q ++ rest)
      obtain ⟨ys,f1,f2,f3⟩ := JbJ h2 rest
      refine ⟨(t,y) :: ys,by simp only [mkT,List.append_assoc,e1,f1],fun θ => ?_,by rw [QH,QH,Ju,Ju,e3,f3]⟩
      have := f2 θ
      simp only [QH,JK,List.map_cons,e2 θ] at this ⊢
      rw [this]
    · cases h
theorem PO.fit_spec {c:PO} {x:Obj} {ps:List Pm} {ls:Qm} (h:c.fit x = some (ps,ls)) (rest:List Pm) (more:Qm):∃ y,c.mk (ps ++ rest) (ls ++ more) = (y,rest,more) ∧ (∀ θ w id,QC θ w id x → QC θ w id y) ∧ Xz y = Xz x := by
  unfold PO.fit at h
  split at h
  · rename_i t cs u xs
    cases hk:Nat.beq t u
    · rw [hk] at h; cases h
    rw [hk] at h
    have := Nat.eq_of_beq_eq_true hk; subst this
    simp only [cond_true,Option.map_eq_some_iff,Prod.mk.injEq] at h
    obtain ⟨p,h1,rfl,rfl⟩ := h
    obtain ⟨y,e1,e2,e3⟩ := JbJ h1 rest
    refine ⟨.blk t y,by simp only [PO.mk,e1,List.nil_append],fun θ w id ⟨b,q1,q2⟩ => ⟨b,q1,by rw [q2,e2 θ]⟩,e3⟩
  · rename_i ro ty esz tag ks ro' ty' esz' r
    cases hk:((ro == ro') && (Nat.beq ty ty' && Nat.beq esz esz'))
    · rw [hk] at h; cases h
    rw [hk] at h
    simp only [Bool.and_eq_true] at hk
    have e1 := eq_of_beq hk.1
    have e2 := Nat.eq_of_beq_eq_true hk.2.1
    have e3 := Nat.eq_of_beq_eq_true hk.2.2
    subst e1; subst e2; subst e3
    simp only [cond_true] at h
    split at h
    · rename_i tag' js xs
      cases hk:(Nat.beq tag tag' && W3 ks js)
      · rw [hk] at h; cases h
      rw [hk] at h
      simp only [Bool.and_eq_true] at hk
      have := K3 hk.2; subst this
      cases h
      exact ⟨_,rfl,fun θ w id h => by cases ro <;> exact h,rfl⟩
    · rename_i tag' rows
      cases hk:Nat.beq tag tag'
      · rw [hk] at h; cases h
      rw [hk] at h
      simp only [cond_true,Option.map_eq_some_iff,Prod.mk.injEq] at h
      obtain ⟨xs,h1,rfl,rfl⟩ := h
      refine ⟨_,rfl,fun θ w id h => ?_,rfl⟩
      have hrow:Z5 esz rows := by cases ro <;> exact h.1
      obtain ⟨q1,q2,q3⟩ := Yo h1 fun r hr => (hrow.2 r hr).1
      have hl:(RowC.lst tag ks xs).rows.length = (RowC.lit tag' rows).rows.length := by simp [RowC.rows,q1]
      have hf:JK θ (RowC.lst tag ks xs).rows.flatten = JK θ (RowC.lit tag' rows).rows.flatten := by rw [Xu,Xu]; exact congrArg _ (q3 θ)
      cases ro
      · exact ⟨⟨hrow.1,q2⟩,by rw [hl,hf]; exact h.2⟩
      · exact ⟨⟨hrow.1,q2⟩,by rw [hl,hf]; exact h.2⟩
  · rename_i cs xs
    simp only [Option.map_eq_some_iff,Prod.mk.injEq] at h
    obtain ⟨p,h1,rfl,rfl⟩ := h
    obtain ⟨y,e1,e2,e3⟩ := JMV h1 rest
    refine ⟨.clo y,by simp only [PO.mk,e1,List.nil_append],fun θ w id hx => ?_,e3⟩
    have hx':θ id = Loc.clo (xs.map (SV.den θ)).toArray := hx
    show θ id = Loc.clo (y.map (SV.den θ)).toArray
    rw [e2 θ]
    exact hx'
  · cases h
theorem JTF:∀ {cs:List (Nat × PO)} {xs:Jn} {ps:List Pm} {ls:Qm},Jd2 cs xs = some (ps,ls) → ∀ rest more id o,JC (JVL cs (ps ++ rest) (ls ++ more)) id = some o →
    ∃ o',JC xs id = some o' ∧ (∀ θ w,QC θ w id o' → QC θ w id o) ∧ Xz o = Xz o'
  | [],[],_,_,h,_,_,_,_,ho => by cases h; cases ho
  | [],_ :: _,_,_,h,_,_,_,_,_ => by cases h
  | _ :: _,[],_,_,h,_,_,_,_,_ => by cases h
  | (i,c) :: cs,(u,x) :: xs,ps,ls,h,rest,more,id,o,ho => by
    simp only [Jd2] at h
    cases hk:Nat.beq i u
    · rw [hk] at h; cases h
    rw [hk] at h
    have := Nat.eq_of_beq_eq_true hk; subst this
    simp only [cond_true] at h
    split at h
    · rename_i p l q m h1 h2
      cases h
      obtain ⟨y,e1,e2,e3⟩ := PO.fit_spec h1 (q ++ rest) (m ++ more)
      simp only [JVL,List.append_assoc,e1,JT] at ho
      simp only [JT]
      cases hi:Nat.beq i id
      · rw [hi] at ho
        exact JTF h2 rest more id o ho
      · rw [hi] at ho
        cases ho
        exact ⟨x,rfl,fun θ w hx => e2 θ w id hx,e3⟩
    · cases h
theorem JH {P:Program} {f:FuncId} {g:JY} (hg:Qg P f g) {t:Tpl} {out:List Pm → Qm → Option CRes}
    (h:∀ ps ls r,out ps ls = some r → (∀ p ∈ r.needs,p) → (∀ p ∈ r.eqs,p.1 = p.2) → ∃ v,Runs g (t.args ps) (t.memo ps ls) t.n v r.mem ∧ ∀ θ,v.den θ = r.val.den θ):Qg P f (JS t out) := by
  intro vs mem n r hr hn he hwf hids θ w hm
  unfold JS at hr
  cases hk:Nat.beq n t.n
  · rw [hk] at hr; cases hr
  rw [hk] at hr
  have := Nat.eq_of_beq_eq_true hk; subst this
  simp only [cond_true] at hr
  split at hr
  · rename_i ps qs ls h1 h2
    obtain ⟨v,hrun,hv⟩ := h _ _ _ hr hn he
    obtain ⟨ys,e1,e2,e3⟩ := JMV h1 qs
    have hM := JTF h2 [] []
    simp only [List.append_nil] at hM
    have ea:t.args (ps ++ qs) = ys := by unfold Tpl.args; rw [e1]
    have em:t.memo (ps ++ qs) ls = JVL t.mem qs ls := by unfold Tpl.memo; rw [e1]
    rw [ea,em] at hrun
    obtain ⟨r',h3,h4,h5,h6,h7⟩ := hrun.run
    have hwf':Qz t.n (JVL t.mem qs ls) := fun id o ho => by
      obtain ⟨o',q1,_,q3⟩ := hM id o ho
      rw [q3]; exact hwf id o' q1
    have hm':Jh θ (JVL t.mem qs ls) w := by
      refine ⟨fun id o ho => ?_,fun id id' o o' b ho ho' hne => ?_⟩
      · obtain ⟨o',q1,q2,_⟩ := hM id o ho
        exact q2 θ w (hm.1 id o' q1)
      · obtain ⟨p,q1,_,_⟩ := hM id o ho
        obtain ⟨p',q1',_,_⟩ := hM id' o' ho'
        exact hm.2 id id' p p' b q1 q1' hne
    have := hg _ _ _ r' h3 h4 h5 hwf' (by rw [e3]; exact hids) θ w hm'
    rw [e2 θ] at this
    refine ⟨this.1,this.2.mono fun e w' ⟨θ',q1,q2,q3⟩ => ⟨θ',by rw [q1,h6,hv],?_,by rw [← h7]; exact q3⟩⟩
    rw [h7] at q2
    refine { q2 with heap := fun b hb hno => q2.heap b hb fun id o ho => ?_,blks := fun id o b hl hb => ?_,eyes := fun id o b hl hb => ?_ }
    · obtain ⟨o',p1,_,_⟩ := hM id o ho
      exact hno id o' p1
    · rcases q2.blks id o b hl hb with h8 | ⟨i,x,h8,h9⟩
      · exact .inl h8
      · obtain ⟨o',p1,_,_⟩ := hM i x h8
        exact .inr ⟨i,o',p1,h9⟩
    · rcases q2.eyes id o b hl hb with h8 | ⟨i,x,h8,h9⟩
      · exact .inl h8
      · obtain ⟨o',p1,_,_⟩ := hM i x h8
        exact .inr ⟨i,o',p1,h9⟩
  · cases hr
open Go.RowKit
def JGs:List (Nat × Nat × Nat × Nat) → Nat → Jn → Nat → Jn × Nat
  | [],_,m,n => (m,n)
  | (ty,j,e,k) :: r,b,m,n => match JC m b with
    | some (.blk ty' cs) => bif Nat.beq ty ty' && Nat.blt 0 k then (match cs.drop j with
        | (_,.nilsl) :: _ => (match JMw m b j n e k with
          | some m' => JGs r b m' (n + 3)
          | none => JGs r b m n)
        | _ => JGs r b m n) else JGs r b m n
    | _ => (m,n)
def JGK (sl:List (Nat × Nat × Nat × Nat)):List Nat → Jn → Nat → Jn × Nat
  | [],m,n => (m,n)
  | b :: r,m,n => match JGs sl b m n with
    | (m',n') => JGK sl r m' n'
def wfB (n:Nat):Jn → Bool
  | [] => true
  | (id,o) :: r => Nat.blt id n && (YG n (Xz o) && wfB n r)
def Jee (sl:List (Nat × Nat × Nat × Nat)) (g:JY):JY := fun vs mem n => match g vs mem n with
  | none => none
  | some r => bif (YG r.nx (ZY r.val) && wfB r.nx r.mem) && Nat.ble n r.nx then (match JGK sl (domain r.mem) r.mem r.nx with
      | (m,k) => some ⟨r.val,m,r.needs,r.eqs,k⟩) else some r
theorem JVm {n:Nat}:∀ {m:Jn},wfB n m = true → Qz n m
  | [],_,id,o,h => by cases h
  | (a,x) :: r,h,id,o,hl => by
    simp only [wfB,Bool.and_eq_true] at h
    simp only [JT] at hl
    cases hq:Nat.beq a id
    · rw [hq] at hl; exact JVm h.2.2 id o hl
    · rw [hq] at hl; cases hl
      have := Nat.eq_of_beq_eq_true hq
      subst this
      exact ⟨Nat.le_of_ble_eq_true h.1,K2 h.2.1⟩
theorem Xt.trans {n m k:Nat} {a b c:Jn} (hnm:n ≤ m) (h1:Xt n m a b) (h2:Xt m k b c):Xt n k a c := fun θ w kk θ0 m0 w0 g hm hw hk => by
  obtain ⟨θ1,a1,g1,hm1,hw1⟩ := h1 θ w kk θ0 m0 w0 g hm hw hk
  obtain ⟨θ2,a2,g2,hm2,hw2⟩ := h2 θ1 w kk θ0 m0 w0 g1 hm1 hw1 (by omega)
  exact ⟨θ2,a1.trans a2 hnm,g2,hm2,hw2⟩
theorem JFg:∀ {sl:List (Nat × Nat × Nat × Nat)} {b:Nat} {m m':Jn} {n n':Nat},JGs sl b m n = (m',n') → n ≤ n' ∧ Xt n n' m m'
  | [],b,m,m',n,n',h => by
    simp only [JGs,Prod.mk.injEq] at h
    obtain ⟨rfl,rfl⟩ := h
    exact ⟨Nat.le_refl _,Xt.refl _ _⟩
  | (ty,j,e,k) :: r,b,m,m',n,n',h => by
    simp only [JGs] at h
    split at h
    · cases hc:(Nat.beq ty _ && Nat.blt 0 k)
      · rw [hc] at h; exact JFg h
      · rw [hc] at h
        simp only [Bool.and_eq_true] at hc
        have hpos:0 < k := Nat.le_of_ble_eq_true hc.2
        simp only [cond_true] at h
        split at h
        · split at h
          · rename_i x hx
            obtain ⟨h1,h2⟩ := JFg h
            refine ⟨by omega,fun θ w kk θ0 m0 w0 g hm hw hk => ?_⟩
            obtain ⟨l,g1,hm1,hw1⟩ := JTf hx hpos g hm hw (Nat.le_refl _) hk
            obtain ⟨θ2,a2,g2,hm2,hw2⟩ := h2 _ _ _ _ _ _ g1 hm1 (hw1.mono (by omega)) (by omega)
            exact ⟨θ2,(Th.set_agree θ n l).trans a2 (by omega),g2,hm2,hw2⟩
          · exact JFg h
        · exact JFg h
    · simp only [Prod.mk.injEq] at h
      obtain ⟨rfl,rfl⟩ := h
      exact ⟨Nat.le_refl _,Xt.refl _ _⟩
theorem JSN {sl:List (Nat × Nat × Nat × Nat)}:∀ {l:List Nat} {m m':Jn} {n n':Nat},JGK sl l m n = (m',n') → n ≤ n' ∧ Xt n n' m m'
  | [],m,m',n,n',h => by
    simp only [JGK,Prod.mk.injEq] at h
    obtain ⟨rfl,rfl⟩ := h
    exact ⟨Nat.le_refl _,Xt.refl _ _⟩
  | b :: r,m,m',n,n',h => by
    obtain ⟨m1,n1,h1⟩:∃ x y,JGs sl b m n = (x,y) := ⟨_,_,rfl⟩
    simp only [JGK,h1] at h
    obtain ⟨a1,a2⟩ := JFg h1
    obtain ⟨b1,b2⟩ := JSN h
    exact ⟨by omega,a2.trans a1 b2⟩
theorem Jb6 {P:Program} {f:FuncId} {g:JY} (sl:List (Nat × Nat × Nat × Nat)) (hg:Qg P f g):Qg P f (Jee sl g) := by
  intro vs mem n r hr hn he hwf hids θ w hm
  unfold Jee at hr
  split at hr
  · cases hr
  rename_i q hq
  cases hc:((YG q.nx (ZY q.val) && wfB q.nx q.mem) && Nat.ble n q.nx)
  · rw [hc] at hr; cases hr
    exact hg vs mem n _ hq hn he hwf hids θ w hm
  rw [hc] at hr
  simp only [Bool.and_eq_true] at hc
  obtain ⟨m1,n1,h1⟩:∃ x y,JGK sl (domain q.mem) q.mem q.nx = (x,y) := ⟨_,_,rfl⟩
  simp only [cond_true,h1,Option.some.injEq] at hr
  subst hr
  obtain ⟨_,hl⟩ := JSN h1
  obtain ⟨c1,c2⟩ := hg vs mem n _ hq hn he hwf hids θ w hm
  refine ⟨c1,c2.mono fun e w' h => ?_⟩
  obtain ⟨θ',e1,g1,hm1⟩ := h
  obtain ⟨θ2,a2,g2,hm2,_⟩ := hl θ' w' n θ mem w g1 hm1 (JVm hc.1.2) (Nat.le_of_ble_eq_true hc.2)
  exact ⟨θ2,by rw [e1,SV.den_agree a2 (K2 hc.1.1)],g2,hm2⟩
def JfA:List (Nat × Nat × Nat × Nat) → Nat → Jn → Nat → Jn × Nat
  | [],_,m,n => (m,n)
  | (ty,j,e,k) :: r,b,m,n => match JC m b with
    | some (.blk ty' _) => bif Nat.beq ty ty' && Nat.blt 0 k then (match JrY m b j with
        | some _ => JfA r b m n
        | none => match JUA m b j n e k with
          | some m' => JfA r b m' (n + 3)
          | none => JfA r b m n) else JfA r b m n
    | _ => (m,n)
def JRy (sl:List (Nat × Nat × Nat × Nat)):List Nat → Jn → Nat → Jn × Nat
  | [],m,n => (m,n)
  | b :: r,m,n => match JfA sl b m n with
    | (m',n') => JRy sl r m' n'
def JvT (sl:List (Nat × Nat × Nat × Nat)) (g:JY):JY := fun vs mem n => match g vs mem n with
  | none => none
  | some r => bif (YG r.nx (ZY r.val) && wfB r.nx r.mem) && Nat.ble n r.nx then (match JRy sl (domain r.mem) r.mem r.nx with
      | (m,k) => some ⟨r.val,m,r.needs,r.eqs,k⟩) else some r
theorem JNQ:∀ {sl:List (Nat × Nat × Nat × Nat)} {b:Nat} {m m':Jn} {n n':Nat},JfA sl b m n = (m',n') → n ≤ n' ∧ Xt n n' m m'
  | [],b,m,m',n,n',h => by
    simp only [JfA,Prod.mk.injEq] at h
    obtain ⟨rfl,rfl⟩ := h
    exact ⟨Nat.le_refl _,Xt.refl _ _⟩
  | (ty,j,e,k) :: r,b,m,m',n,n',h => by
    simp only [JfA] at h
    split at h
    · cases hc:(Nat.beq ty _ && Nat.blt 0 k)
      · rw [hc] at h; exact JNQ h
      · rw [hc] at h
        simp only [Bool.and_eq_true] at hc
        have hpos:0 < k := Nat.le_of_ble_eq_true hc.2
        simp only [cond_true] at h
        split at h
        · exact JNQ h
        · split at h
          · rename_i x hx
            obtain ⟨h1,h2⟩ := JNQ h
            refine ⟨by omega,fun θ w kk θ0 m0 w0 g hm hw hk => ?_⟩
            obtain ⟨l,g1,hm1,hw1⟩ := JZm hx hpos g hm hw (Nat.le_refl _) hk
            obtain ⟨θ2,a2,g2,hm2,hw2⟩ := h2 _ _ _ _ _ _ g1 hm1 (hw1.mono (by omega)) (by omega)
            exact ⟨θ2,(Th.set_agree θ n l).trans a2 (by omega),g2,hm2,hw2⟩
          · exact JNQ h
    · simp only [Prod.mk.injEq] at h
      obtain ⟨rfl,rfl⟩ := h
      exact ⟨Nat.le_refl _,Xt.refl _ _⟩
theorem JbS {sl:List (Nat × Nat × Nat × Nat)}:∀ {l:List Nat} {m m':Jn} {n n':Nat},JRy sl l m n = (m',n') → n ≤ n' ∧ Xt n n' m m'
  | [],m,m',n,n',h => by
    simp only [JRy,Prod.mk.injEq] at h
    obtain ⟨rfl,rfl⟩ := h
    exact ⟨Nat.le_refl _,Xt.refl _ _⟩
  | b :: r,m,m',n,n',h => by
    obtain ⟨m1,n1,h1⟩:∃ x y,JfA sl b m n = (x,y) := ⟨_,_,rfl⟩
    simp only [JRy,h1] at h
    obtain ⟨a1,a2⟩ := JNQ h1
    obtain ⟨b1,b2⟩ := JbS h
    exact ⟨by omega,a2.trans a1 b2⟩
theorem JuB {P:Program} {f:FuncId} {g:JY} (sl:List (Nat × Nat × Nat × Nat)) (hg:Qg P f g):Qg P f (JvT sl g) := by
  intro vs mem n r hr hn he hwf hids θ w hm
  unfold JvT at hr
  split at hr
  · cases hr
  rename_i q hq
  cases hc:((YG q.nx (ZY q.val) && wfB q.nx q.mem) && Nat.ble n q.nx)
  · rw [hc] at hr; cases hr
    exact hg vs mem n _ hq hn he hwf hids θ w hm
  rw [hc] at hr
  simp only [Bool.and_eq_true] at hc
  obtain ⟨m1,n1,h1⟩:∃ x y,JRy sl (domain q.mem) q.mem q.nx = (x,y) := ⟨_,_,rfl⟩
  simp only [cond_true,h1,Option.some.injEq] at hr
  subst hr
  obtain ⟨_,hl⟩ := JbS h1
  obtain ⟨c1,c2⟩ := hg vs mem n _ hq hn he hwf hids θ w hm
  refine ⟨c1,c2.mono fun e w' h => ?_⟩
  obtain ⟨θ',e1,g1,hm1⟩ := h
  obtain ⟨θ2,a2,g2,hm2,_⟩ := hl θ' w' n θ mem w g1 hm1 (JVm hc.1.2) (Nat.le_of_ble_eq_true hc.2)
  exact ⟨θ2,by rw [e1,SV.den_agree a2 (K2 hc.1.1)],g2,hm2⟩
open Go.RowKit
inductive GK where
  | i | b | v (ks:List Bool)
inductive GC where
  | i (n:Int) | b (x:Bool)
def GC.int:GC → Int
  | .i n => n
  | .b _ => 0
def GC.bit:GC → Bool
  | .b x => x
  | .i _ => false
def xi (l:List GC) (j:Nat):Int := (l.getD j (.i 0)).int
def xb (l:List GC) (j:Nat):Bool := (l.getD j (.i 0)).bit
inductive Gm where
  | i (n:Int) | b (x:Bool) | v (l:List GC)
def JYc:List Bool → List Pm → Option (List GC × List Pm)
  | [],r => some ([],r)
  | false :: ks,.i n :: r => match JYc ks r with
    | some (l,q) => some (.i n :: l,q)
    | none => none
  | true :: ks,.b x :: r => match JYc ks r with
    | some (l,q) => some (.b x :: l,q)
    | none => none
  | _,_ => none
def JHj:List GK → List Pm → Option (List Gm)
  | [],[] => some []
  | .i :: g,.i n :: r => match JHj g r with
    | some l => some (.i n :: l)
    | none => none
  | .b :: g,.b x :: r => match JHj g r with
    | some l => some (.b x :: l)
    | none => none
  | .v ks :: g,r => match JYc ks r with
    | some (l,q) => (match JHj g q with
      | some m => some (.v l :: m)
      | none => none)
    | none => none
  | _,_ => none
def JJm:List Bool → List GC → Nat → List Pm → List Pm
  | [],_,_,r => r
  | false :: ks,l,j,r => .i (xi l j) :: JJm ks l (j + 1) r
  | true :: ks,l,j,r => .b (xb l j) :: JJm ks l (j + 1) r
def Je:List GK → List Gm → List Pm
  | .i :: g,.i n :: r => .i n :: Je g r
  | .b :: g,.b x :: r => .b x :: Je g r
  | .v ks :: g,.v l :: r => JJm ks l 0 (Je g r)
  | _,_ => []
theorem Jgt (pre l:List GC) (x d:GC):(pre ++ x :: l).getD pre.length d = x := by
  simp [List.getD]
theorem JvH (pre l:List GC) (n:Int):xi (pre ++ .i n :: l) pre.length = n := by
  rw [xi,Jgt]; rfl
theorem JvE (pre l:List GC) (x:Bool):xb (pre ++ .b x :: l) pre.length = x := by
  rw [xb,Jgt]; rfl
theorem JLr:∀ {ks:List Bool} {r q:List Pm} {l:List GC},JYc ks r = some (l,q) → ∀ pre,JJm ks (pre ++ l) pre.length q = r
  | [],r,q,l,h,pre => by cases h; rfl
  | false :: ks,[],q,l,h,pre => by cases h
  | true :: ks,[],q,l,h,pre => by cases h
  | false :: ks,.b x :: r,q,l,h,pre => by cases h
  | true :: ks,.i n :: r,q,l,h,pre => by cases h
  | false :: ks,.i n :: r,q,l,h,pre => by
    simp only [JYc] at h
    split at h
    · rename_i l' q' h'
      cases h
      have := JLr h' (pre ++ [.i n])
      simp only [List.append_assoc,List.singleton_append,List.length_append,List.length_singleton] at this
      simp only [JJm,JvH,this]
    · cases h
  | true :: ks,.b x :: r,q,l,h,pre => by
    simp only [JYc] at h
    split at h
    · rename_i l' q' h'
      cases h
      have := JLr h' (pre ++ [.b x])
      simp only [List.append_assoc,List.singleton_append,List.length_append,List.length_singleton] at this
      simp only [JJm,JvE,this]
    · cases h
theorem JBY:∀ {g:List GK} {ps:List Pm} {gs:List Gm},JHj g ps = some gs → Je g gs = ps
  | [],[],gs,h => by cases h; rfl
  | [],_ :: _,gs,h => by cases h
  | .i :: g,[],gs,h => by cases h
  | .b :: g,[],gs,h => by cases h
  | .i :: g,.b x :: r,gs,h => by cases h
  | .b :: g,.i n :: r,gs,h => by cases h
  | .i :: g,.i n :: r,gs,h => by
    simp only [JHj] at h
    split at h
    · rename_i l h'
      cases h
      simp only [Je,JBY h']
    · cases h
  | .b :: g,.b x :: r,gs,h => by
    simp only [JHj] at h
    split at h
    · rename_i l h'
      cases h
      simp only [Je,JBY h']
    · cases h
  | .v ks :: g,r,gs,h => by
    have e:JHj (.v ks :: g) r = match JYc ks r with
      | some (l,q) => (match JHj g q with
        | some m => some (.v l :: m)
        | none => none)
      | none => none := by cases r <;> rfl
    rw [e] at h
    split at h
    · rename_i l q h1
      split at h
      · rename_i m h2
        cases h
        simp only [Je,JBY h2]
        exact JLr h1 []
      · cases h
    · cases h
def Z4 (g:List GK) (t:Tpl) (out:List Gm → Qm → Option CRes):JY := JS t fun ps ls => match JHj g ps with
  | some gs => out gs ls
  | none => none
theorem QZ {P:Program} {f:FuncId} {s:JY} (hg:Qg P f s) {g:List GK} {t:Tpl} {out:List Gm → Qm → Option CRes}
    (h:∀ gs ls r,out gs ls = some r → (∀ p ∈ r.needs,p) → (∀ p ∈ r.eqs,p.1 = p.2) → ∃ v,Runs s (t.args (Je g gs)) (t.memo (Je g gs) ls) t.n v r.mem ∧ ∀ θ,v.den θ = r.val.den θ):Qg P f (Z4 g t out) := by
  refine JH hg fun ps ls r hr hn he => ?_
  split at hr
  · rename_i gs hgs
    have := h gs ls r hr hn he
    rw [JBY hgs] at this
    exact this
  · cases hr
section
variable (r:List Int) (l:List GC)
def J1:List GC:= [.i (xi l 0),.i (xi l 1),.i (xi l 2),.i (xi l 3),.i (xi l 4),.i (xi l 5),.i (xi l 6),.i (xi l 7),.i (xi l 8),.i (xi l 9),.i (xi l 10),.i (xi l 11),.i (xi l 12),.b (xb l 13),.i (xi l 14),.b (xb l 15),.i (xi l 16),.i (xi l 17),.i (xi l 18),.i (xi l 19),.i (xi l 20),.b (xb l 21)]
def JX:List GC:= [.i (r.getD 0 0),.i (r.getD 1 0),.i (r.getD 2 0),.i (r.getD 3 0),.i (r.getD 4 0),.i (r.getD 5 0),.i (r.getD 6 0),.i (r.getD 7 0),.i (r.getD 8 0),.i (r.getD 9 0),.i (r.getD 10 0),.i (r.getD 11 0),.i (r.getD 12 0),.b (r.getD 13 0 != 0),.i (r.getD 14 0),.b (r.getD 15 0 != 0),.i (r.getD 16 0),.i (r.getD 17 0),.i (r.getD 18 0),.i (r.getD 19 0),.i (r.getD 20 0),.b (r.getD 21 0 != 0)]
def JHh:List Int:= [xi l 0,xi l 1,xi l 2,xi l 3,xi l 4,xi l 5,xi l 6,xi l 7,xi l 8,xi l 9,xi l 10,xi l 11,xi l 12,(bif xb l 13 then 1 else 0),xi l 14,(bif xb l 15 then 1 else 0),xi l 16,xi l 17,xi l 18,xi l 19,xi l 20,(bif xb l 21 then 1 else 0)]
def Jlp:List Int:= [r.getD 0 0,r.getD 1 0,r.getD 2 0,r.getD 3 0,r.getD 4 0,r.getD 5 0,r.getD 6 0,r.getD 7 0,r.getD 8 0,r.getD 9 0,r.getD 10 0,r.getD 11 0,r.getD 12 0,(bif (r.getD 13 0 != 0) then 1 else 0),r.getD 14 0,(bif (r.getD 15 0 != 0) then 1 else 0),r.getD 16 0,r.getD 17 0,r.getD 18 0,r.getD 19 0,r.getD 20 0,(bif (r.getD 21 0 != 0) then 1 else 0)]
end
end
end Go.SX
namespace Go.Proofs.YtmbfbhimdkjkoaaGreat
noncomputable section
open Go.SX Go.RowKit
abbrev LL:=List (List Int)
theorem awc {a:Prop} {l:List Prop}:(∀ q ∈ a :: l,q) ↔ a ∧ ∀ q ∈ l,q := List.forall_mem_cons
theorem awn:(∀ q ∈ ([]:List Prop),q) ↔ True := ⟨fun _ => trivial,fun _ _ h => (by cases h)⟩
def Ci (x:Int):SC := .int .i64 (.v x)
def Cb (x:Bool):SC := .bool (.v x)
def Wc:List CK := [.int .i64,.int .i64,.int .i64,.int .i64,.int .i64,.int .i64,.int .i64,.int .i64,.int .i64,.int .i64,.int .i64,.int .i64,.int .i64,.bool,.int .i64,.bool,.int .i64,.int .i64,.int .i64,.int .i64,.int .i64,.bool]
def pI:List PC := [.int .i64,.int .i64,.int .i64,.int .i64,.int .i64,.int .i64,.int .i64,.int .i64,.int .i64,.int .i64,.int .i64,.int .i64,.int .i64,.bool,.int .i64,.bool,.int .i64,.int .i64,.int .i64,.int .i64,.int .i64,.bool]
theorem X5:Zh Tryz.prog := by
  have h : Tryz.prog.funcs.toList.all (fun fn => !(fn.name == "runtime.NumGoroutine")) = true := by kernel_rfl
  intro f fn hf
  have := List.all_eq_true.1 h fn (by simpa using List.mem_of_getElem? (by simpa using hf:Tryz.prog.funcs.toList[f]? = some fn))
  simpa using this
def Jx:List Bool := [false,false,false,false,false,false,false,false,false,false,false,false,false,true,false,true,false,false,false,false,false,true]
def JbU:List (Nat × Nat × Nat × Nat) := [(66,47,40,22),(66,55,40,22)]
def Jr (S:FuncId → Option JY) (L:FuncId → Nat → Option QG) (f:FuncId):JY := Jee JbU (Jbk Tryz.prog (Jb1 Tryz.prog S L 100 10) 100 (L f) f)
theorem JD {S:FuncId → Option JY} {L:FuncId → Nat → Option QG} (hk:Known Tryz.prog S L) (f:FuncId):Qg Tryz.prog f (Jr S L f) := Jb6 JbU (JgC X5 hk 100 10 f)
def JB (K:List (Nat × JY)):FuncId → Option JY := fun f => SX.JC K f
def K0:List (Nat × JY) := []
def L0:FuncId → Nat → Option QG := fun _ _ => none
theorem Jt2:Known Tryz.prog (JB K0) L0 := ⟨(fun _ _ h => by cases h),(fun _ _ _ _ _ _ _ _ _ _ h => by cases h)⟩
theorem J7 {K:List (Nat × JY)} {L:FuncId → Nat → Option QG} {f:Nat} {s:JY} (hk:Known Tryz.prog (JB K) L) (hs:Qg Tryz.prog f s):Known Tryz.prog (JB ((f,s) :: K)) L := by
  refine ⟨fun g t h => ?_,hk.loops⟩
  unfold JB at h
  rw [JT] at h
  cases hb:Nat.beq f g
  · rw [hb] at h; exact hk.funcs g t h
  · rw [hb] at h
    cases h
    have := Nat.eq_of_beq_eq_true hb; subst this
    exact hs
def JB6 (L:FuncId → Nat → Option QG) (f k:Nat) (s:QG):FuncId → Nat → Option QG := fun g j => bif Nat.beq f g && Nat.beq k j then some s else L g j
def JML (k i0:Nat):List (Option Nat) → Nat → Bool
  | [],_ => true
  | some x :: r,i => (!(Nat.beq x k) || Nat.beq i i0) && JML k i0 r (i + 1)
  | none :: r,i => JML k i0 r (i + 1)
theorem JJA {k i0:Nat}:∀ {l:List (Option Nat)} {j i:Nat},JML k i0 l j = true → l[i]? = some (some k) → j + i = i0
  | [],_,_,_,h => by cases h
  | some x :: r,j,0,h,h1 => by
    simp only [JML,Bool.and_eq_true,Bool.or_eq_true,Bool.not_eq_true'] at h
    simp only [List.getElem?_cons_zero,Option.some.injEq] at h1
    subst h1
    rcases h.1 with h2 | h2
    · rw [SX.Wi] at h2; cases h2
    · exact Nat.eq_of_beq_eq_true h2
  | none :: r,j,0,h,h1 => by simp at h1
  | some x :: r,j,i + 1,h,h1 => by
    simp only [JML,Bool.and_eq_true] at h
    have := JJA h.2 (by simpa using h1)
    omega
  | none :: r,j,i + 1,h,h1 => by
    simp only [JML] at h
    have := JJA h (by simpa using h1)
    omega
theorem Qf {K:List (Nat × JY)} {L:FuncId → Nat → Option QG} {f k:Nat} {s:QG} (i0:Nat) (hk:Known Tryz.prog (JB K) L) (hu:JML k i0 ((QU Tryz.prog f).map JCu) 0 = true)
    (hs:YF Tryz.prog (Jql Tryz.prog f) (.loop (JCK Tryz.prog f i0)) s):Known Tryz.prog (JB K) (JB6 L f k s) := by
  refine ⟨hk.funcs,fun g fn b hf hb c hc j t h1 h2 => ?_⟩
  unfold JB6 at h2
  by_cases h3:f = g
  · subst h3
    by_cases h4:k = j
    · subst h4
      simp only [SX.Wi,Bool.and_self,cond_true,Option.some.injEq] at h2
      subst h2
      have key:JN0 Tryz.prog f (fun j => bif Nat.beq k j then some s else none) := JgP fun i hi k' s' h5 h6 => by
        by_cases h7:k = k'
        · subst h7
          simp only [SX.Wi,cond_true,Option.some.injEq] at h6
          subst h6
          have := JJA hu (i := i) (by rw [List.getElem?_map]; unfold JCK at h5; cases hl:(QU Tryz.prog f)[i]? with
            | none => rw [hl] at h5; cases h5
            | some d => rw [hl] at h5; simpa using h5)
          have:i = i0 := by omega
          subst this
          exact hs
        · rw [SX.Xa h7] at h6; cases h6
      exact key fn b hf hb c hc k s h1 (by simp)
    · rw [SX.Xa h4] at h2
      simp only [Bool.and_false,cond_false] at h2
      exact hk.loops f fn b hf hb c hc j t h1 h2
  · rw [SX.Xa h3] at h2
    simp only [Bool.false_and,cond_false] at h2
    exact hk.loops g fn b hf hb c hc j t h1 h2
theorem Qs {nt:Nat} {c:Code} {k:KH → Jn → Nat → Option TR} (h:∀ env mem n x,k env mem n = some x → ∃ k',YF Tryz.prog nt c k' ∧ k' env mem n = some x):YF Tryz.prog nt c k := by
  intro env mem n x hx
  obtain ⟨k',h1,h2⟩ := h env mem n x hx
  exact h1 env mem n x h2
def Wb (env:KH) (t:Nat):Option Int := match SX.JC env t with
  | some ⟨_,_,_,.one (.int _ (.c n))⟩ => some n
  | some ⟨_,_,_,.one (.int _ (.v n))⟩ => some n
  | _ => none
def JLb (ks:List CK) (env:KH) (mem:Jn) (t:Nat):Option (List (List Int)) := match SX.JC env t with
  | some ⟨_,_,_,.one (.wh id)⟩ => (match SX.JC mem id with
    | some (.row _ _ _ (.lit _ rows)) => q7 ks rows
    | some (.row _ _ _ (.lst _ _ xs)) => some xs
    | _ => none)
  | some ⟨_,_,_,.one .nilsl⟩ => some []
  | _ => none
def Jmn:List (Nat × SC) → Option (List Int)
  | [] => some []
  | (_,.int _ (.c n)) :: r => (Jmn r).map (n :: ·)
  | (_,.int _ (.v n)) :: r => (Jmn r).map (n :: ·)
  | _ => none
def JHg (mem:Jn) (id:Nat):Option (List Int) := match SX.JC mem id with
  | some (.blk _ cs) => Jmn cs
  | _ => none
def orS (s t:JY):JY := fun vs mem n => match s vs mem n with
  | some r => some r
  | none => t vs mem n
theorem JLS {f:Nat} {s t:JY} (hs:Qg Tryz.prog f s) (ht:Qg Tryz.prog f t):Qg Tryz.prog f (orS s t) := by
  intro vs mem n r h
  unfold orS at h
  split at h
  · rename_i r' h1
    cases h
    exact hs vs mem n _ h1
  · exact ht vs mem n r h
def JEZ:Tpl := ⟨[.one (.int .i64),.one (.int .i64)],[],0⟩
def Qe (a b:Int):Int :=
 bif a == 0 || b == 0 then 0 else bif decide (a < 0) == decide (b < 0) then 1 else -1
theorem JjU (a b:Int):Runs (Jr (JB K0) L0 155) (JEZ.args [.i a,.i b]) (JEZ.memo [.i a,.i b] []) JEZ.n (SV.one (Ci (Qe a b))) ([]) :=
  Runs.of1 (ps := []) (by kernel_rfl) (by simp)
def JPk:List Pm → Qm → Option CRes
  | [.i a,.i b],[] => some ⟨SV.one (Ci (Qe a b)),
 [],[],[],17⟩
  | _,_ => none
theorem Jrs:Qg Tryz.prog 155 (JS JEZ JPk) := by
  refine JH (JD Jt2 155) fun ps ls r hr hn _ => ?_
  unfold JPk at hr
  split at hr
  · cases hr; exact ⟨_,JjU _ _,fun _ => rfl⟩
  · cases hr
def Jew:List (Nat × JY) := (155,JS JEZ JPk) :: K0
theorem JT7:Known Tryz.prog (JB Jew) L0 := J7 Jt2 Jrs
def JC3:Tpl := ⟨[.agg [.int .i64,.int .i64],.agg [.int .i64,.int .i64]],[],0⟩
def J0 (a c:Int):Int :=
 IntKind.i64.wrap (a - c)
theorem Jht (a b c d:Int):Runs (Jr (JB Jew) L0 99) (JC3.args [.i a,.i b,.i c,.i d]) (JC3.memo [.i a,.i b,.i c,.i d] []) JC3.n (SV.agg [Ci (J0 a c),Ci (J0 b d)]) ([]) :=
  Runs.of1 (ps := []) (by kernel_rfl) (by simp)
def JJv:List Pm → Qm → Option CRes
  | [.i a,.i b,.i c,.i d],[] => some ⟨SV.agg [Ci (J0 a c),Ci (J0 b d)],
 [],[],[],26⟩
  | _,_ => none
theorem Jgf:Qg Tryz.prog 99 (JS JC3 JJv) := by
  refine JH (JD JT7 99) fun ps ls r hr hn _ => ?_
  unfold JJv at hr
  split at hr
  · cases hr; exact ⟨_,Jht _ _ _ _,fun _ => rfl⟩
  · cases hr
def Jf2:List (Nat × JY) := (99,JS JC3 JJv) :: Jew
theorem JTj:Known Tryz.prog (JB Jf2) L0 := J7 JT7 Jgf
def JCt:Tpl := ⟨[.agg [.int .i64,.int .i64],.agg [.int .i64,.int .i64]],[],0⟩
def JE (a b c d:Int):Int :=
 IntKind.i64.wrap (IntKind.i64.wrap (a * d) - IntKind.i64.wrap (b * c))
theorem Jg1 (a b c d:Int):Runs (Jr (JB Jf2) L0 132) (JCt.args [.i a,.i b,.i c,.i d]) (JCt.memo [.i a,.i b,.i c,.i d] []) JCt.n (SV.one (Ci (JE a b c d))) ([]) :=
  Runs.of1 (ps := []) (by kernel_rfl) (by simp)
def JLg:List Pm → Qm → Option CRes
  | [.i a,.i b,.i c,.i d],[] => some ⟨SV.one (Ci (JE a b c d)),
 [],[],[],21⟩
  | _,_ => none
theorem Jnm:Qg Tryz.prog 132 (JS JCt JLg) := by
  refine JH (JD JTj 132) fun ps ls r hr hn _ => ?_
  unfold JLg at hr
  split at hr
  · cases hr; exact ⟨_,Jg1 _ _ _ _,fun _ => rfl⟩
  · cases hr
def JWz:List (Nat × JY) := (132,JS JCt JLg) :: Jf2
theorem JNA:Known Tryz.prog (JB JWz) L0 := J7 JTj Jnm
def JCo:Tpl := ⟨[.agg [.int .i64,.int .i64],.agg [.int .i64,.int .i64]],[],0⟩
def J8 (a b c d:Int):Int :=
 IntKind.i64.wrap (IntKind.i64.wrap (a * c) + IntKind.i64.wrap (b * d))
theorem Jhi (a b c d:Int):Runs (Jr (JB JWz) L0 97) (JCo.args [.i a,.i b,.i c,.i d]) (JCo.memo [.i a,.i b,.i c,.i d] []) JCo.n (SV.one (Ci (J8 a b c d))) ([]) :=
  Runs.of1 (ps := []) (by kernel_rfl) (by simp)
def JLX:List Pm → Qm → Option CRes
  | [.i a,.i b,.i c,.i d],[] => some ⟨SV.one (Ci (J8 a b c d)),
 [],[],[],21⟩
  | _,_ => none
theorem Jn6:Qg Tryz.prog 97 (JS JCo JLX) := by
  refine JH (JD JNA 97) fun ps ls r hr hn _ => ?_
  unfold JLX at hr
  split at hr
  · cases hr; exact ⟨_,Jhi _ _ _ _,fun _ => rfl⟩
  · cases hr
def JZL:List (Nat × JY) := (97,JS JCo JLX) :: JWz
theorem JO9:Known Tryz.prog (JB JZL) L0 := J7 JNA Jn6
def JGA:Tpl := ⟨[.one (.int .i64)],[],0⟩
def J6 (a:Int):Int :=
 bif decide (a < 0) then IntKind.u64.wrap (IntKind.u64.wrap (IntKind.i64.wrap (0 - IntKind.i64.wrap (a + 1))) + 1) else IntKind.u64.wrap a
theorem Jj3 (a:Int):Runs (Jr (JB JZL) L0 150) (JGA.args [.i a]) (JGA.memo [.i a] []) JGA.n (SV.one (SC.int IntKind.u64 (SI.v (J6 a)))) ([]) :=
  Runs.of1 (ps := []) (by kernel_rfl) (by simp)
def JQ9:List Pm → Qm → Option CRes
  | [.i a],[] => some ⟨SV.one (SC.int IntKind.u64 (SI.v (J6 a))),
 [],[],[],12⟩
  | _,_ => none
theorem JsY:Qg Tryz.prog 150 (JS JGA JQ9) := by
  refine JH (JD JO9 150) fun ps ls r hr hn _ => ?_
  unfold JQ9 at hr
  split at hr
  · cases hr; exact ⟨_,Jj3 _,fun _ => rfl⟩
  · cases hr
def Jeh:List (Nat × JY) := (150,JS JGA JQ9) :: JZL
theorem JSa:Known Tryz.prog (JB Jeh) L0 := J7 JO9 JsY
def JFD:Tpl := ⟨[.one (.int .u64),.one (.int .u64)],[],0⟩
section
variable (a b:Int)
def JYX:Int:=
 IntKind.u64.wrap (IntKind.u64.wrap (JV BinOp.shr IntKind.u64 a 32 * Ze BinOp.and IntKind.u64 b 4294967295) + JV BinOp.shr IntKind.u64 (IntKind.u64.wrap (Ze BinOp.and IntKind.u64 a 4294967295 * Ze BinOp.and IntKind.u64 b 4294967295)) 32)
def QJ:Int:=
 IntKind.u64.wrap (IntKind.u64.wrap (IntKind.u64.wrap (JV BinOp.shr IntKind.u64 a 32 * JV BinOp.shr IntKind.u64 b 32) + JV BinOp.shr IntKind.u64 (JYX a b) 32) + JV BinOp.shr IntKind.u64 (IntKind.u64.wrap (Ze BinOp.and IntKind.u64 (JYX a b) 4294967295 + IntKind.u64.wrap (Ze BinOp.and IntKind.u64 a 4294967295 * JV BinOp.shr IntKind.u64 b 32))) 32)
def Qa:Int:=
 IntKind.u64.wrap (a * b)
end
theorem Jl0 (a b:Int):Runs (Jr (JB Jeh) L0 171) (JFD.args [.i a,.i b]) (JFD.memo [.i a,.i b] []) JFD.n (SV.tup [(false,[SC.int IntKind.u64 (SI.v (QJ a b))]),(false,[SC.int IntKind.u64 (SI.v (Qa a b))])]) ([]) :=
  Runs.of1 (ps := []) (by kernel_rfl) (by simp)
def JRj:List Pm → Qm → Option CRes
  | [.i a,.i b],[] => some ⟨SV.tup [(false,[SC.int IntKind.u64 (SI.v (QJ a b))]),(false,[SC.int IntKind.u64 (SI.v (Qa a b))])],
 [],[],[],50⟩
  | _,_ => none
theorem JqQ:Qg Tryz.prog 171 (JS JFD JRj) := by
  refine JH (JD JSa 171) fun ps ls r hr hn _ => ?_
  unfold JRj at hr
  split at hr
  · cases hr; exact ⟨_,Jl0 _ _,fun _ => rfl⟩
  · cases hr
def Jd4:List (Nat × JY) := (171,JS JFD JRj) :: Jeh
theorem JT4:Known Tryz.prog (JB Jd4) L0 := J7 JSa JqQ
def zw:Tpl := ⟨[.one (.int .u64),.one (.int .u64)],[],0⟩
theorem Jel (a b:Int):Runs (Jr (JB Jd4) L0 153) (zw.args [.i a,.i b]) (zw.memo [.i a,.i b] []) zw.n (SV.agg [SC.int IntKind.u64 (SI.v (QJ a b)),SC.int IntKind.u64 (SI.v (Qa a b))]) ([]) :=
  Runs.of1 (ps := []) (by kernel_rfl) (by simp)
def JJa:List Pm → Qm → Option CRes
  | [.i a,.i b],[] => some ⟨SV.agg [SC.int IntKind.u64 (SI.v (QJ a b)),SC.int IntKind.u64 (SI.v (Qa a b))],
 [],[],[],68⟩
  | _,_ => none
theorem Jke:Qg Tryz.prog 153 (JS zw JJa) := by
  refine JH (JD JT4 153) fun ps ls r hr hn _ => ?_
  unfold JJa at hr
  split at hr
  · cases hr; exact ⟨_,Jel _ _,fun _ => rfl⟩
  · cases hr
def JS7:List (Nat × JY) := (153,JS zw JJa) :: Jd4
theorem JKf:Known Tryz.prog (JB JS7) L0 := J7 JT4 Jke
def JFC:Tpl := ⟨[.agg [.int .u64,.int .u64],.agg [.int .u64,.int .u64]],[],0⟩
def JJw (a b c d:Int):Int :=
 bif decide (a < c) || a == c && decide (b < d) then -1 else bif a == c && b == d then 0 else 1
theorem Jkd (a b c d:Int):Runs (Jr (JB JS7) L0 169) (JFC.args [.i a,.i b,.i c,.i d]) (JFC.memo [.i a,.i b,.i c,.i d] []) JFC.n (SV.one (Ci (JJw a b c d))) ([]) :=
  Runs.of1 (ps := []) (by kernel_rfl) (by simp)
def JPS:List Pm → Qm → Option CRes
  | [.i a,.i b,.i c,.i d],[] => some ⟨SV.one (Ci (JJw a b c d)),
 [],[],[],36⟩
  | _,_ => none
theorem Jqq:Qg Tryz.prog 169 (JS JFC JPS) := by
  refine JH (JD JKf 169) fun ps ls r hr hn _ => ?_
  unfold JPS at hr
  split at hr
  · cases hr; exact ⟨_,Jkd _ _ _ _,fun _ => rfl⟩
  · cases hr
def JdB:List (Nat × JY) := (169,JS JFC JPS) :: JS7
theorem JSG:Known Tryz.prog (JB JdB) L0 := J7 JKf Jqq
def JJU:Tpl := ⟨[.one (.int .i64),.one (.int .i64),.one (.int .i64),.one (.int .i64)],[],0⟩
def JMD (a b c d:Int):Int :=
 bif Qe a b != Qe c d then bif decide (Qe a b < Qe c d) then -1 else 1 else IntKind.i64.wrap (Qe a b * JJw (QJ (J6 a) (J6 b)) (Qa (J6 a) (J6 b)) (QJ (J6 c) (J6 d)) (Qa (J6 c) (J6 d)))
theorem Jn1 (a b c d:Int):Runs (Jr (JB JdB) L0 149) (JJU.args [.i a,.i b,.i c,.i d]) (JJU.memo [.i a,.i b,.i c,.i d] []) JJU.n (SV.one (Ci (JMD a b c d))) ([]) :=
  Runs.of1 (ps := []) (by kernel_rfl) (by simp)
def JaB:List Pm → Qm → Option CRes
  | [.i a,.i b,.i c,.i d],[] => some ⟨SV.one (Ci (JMD a b c d)),
 [],[],[],286⟩
  | _,_ => none
theorem Jtm:Qg Tryz.prog 149 (JS JJU JaB) := by
  refine JH (JD JSG 149) fun ps ls r hr hn _ => ?_
  unfold JaB at hr
  split at hr
  · cases hr; exact ⟨_,Jn1 _ _ _ _,fun _ => rfl⟩
  · cases hr
def Jjk:List (Nat × JY) := (149,JS JJU JaB) :: JdB
theorem JZS:Known Tryz.prog (JB Jjk) L0 := J7 JSG Jtm
def JBu:Tpl := ⟨[.agg [.int .i64,.int .i64],.agg [.int .i64,.int .i64]],[],0⟩
def JI (a c:Int):Int :=
 IntKind.i64.wrap (a + c)
theorem JjS (a b c d:Int):Runs (Jr (JB Jjk) L0 128) (JBu.args [.i a,.i b,.i c,.i d]) (JBu.memo [.i a,.i b,.i c,.i d] []) JBu.n (SV.agg [Ci (JI a c),Ci (JI b d)]) ([]) :=
  Runs.of1 (ps := []) (by kernel_rfl) (by simp)
def JKF:List Pm → Qm → Option CRes
  | [.i a,.i b,.i c,.i d],[] => some ⟨SV.agg [Ci (JI a c),Ci (JI b d)],
 [],[],[],26⟩
  | _,_ => none
theorem JgU:Qg Tryz.prog 128 (JS JBu JKF) := by
  refine JH (JD JZS 128) fun ps ls r hr hn _ => ?_
  unfold JKF at hr
  split at hr
  · cases hr; exact ⟨_,JjS _ _ _ _,fun _ => rfl⟩
  · cases hr
def JdN:List (Nat × JY) := (128,JS JBu JKF) :: Jjk
theorem JSm:Known Tryz.prog (JB JdN) L0 := J7 JZS JgU
def JNJ:Tpl := ⟨[.one (.int .i64),.one (.int .i64)],[],0⟩
def JVP (a b:Int):Int :=
 bif decide (a.tmod b < 0) then IntKind.i64.wrap (a.tmod b + b) else a.tmod b
def JQq (b:Int):List Prop :=
 [b ≠ 0]
theorem Jqn (a b:Int) (hNeeds:∀ pN ∈ (JQq b),pN):Runs (Jr (JB JdN) L0 16) (JNJ.args [.i a,.i b]) (JNJ.memo [.i a,.i b] []) JNJ.n (SV.one (Ci (JVP a b))) ([]) :=
  Runs.of1 (ps := (JQq b)) (by kernel_rfl) hNeeds
def Jdh:List Pm → Qm → Option CRes
  | [.i a,.i b],[] => some ⟨SV.one (Ci (JVP a b)),
 [],(JQq b),[],14⟩
  | _,_ => none
theorem JvG:Qg Tryz.prog 16 (JS JNJ Jdh) := by
  refine JH (JD JSm 16) fun ps ls r hr hn _ => ?_
  unfold Jdh at hr
  split at hr
  · cases hr; exact ⟨_,Jqn _ _ hn,fun _ => rfl⟩
  · cases hr
def JqO:List (Nat × JY) := (16,JS JNJ Jdh) :: JdN
theorem Jbt:Known Tryz.prog (JB JqO) L0 := J7 JSm JvG
def JAC:Tpl := ⟨[.one (.int .i64),.one (.int .i64),.one (.int .i64)],[],0⟩
def Jbd (a b c:Int):Int :=
 IntKind.i64.wrap (b + JVP a (IntKind.i64.wrap (IntKind.i64.wrap (c - b) + 1)))
def JEL (b c:Int):List Prop :=
 [IntKind.i64.wrap (IntKind.i64.wrap (c - b) + 1) ≠ 0]
theorem JeA (a b c:Int) (hNeeds:∀ pN ∈ (JEL b c),pN):Runs (Jr (JB JqO) L0 17) (JAC.args [.i a,.i b,.i c]) (JAC.memo [.i a,.i b,.i c] []) JAC.n (SV.one (Ci (Jbd a b c))) ([]) :=
  Runs.of1 (ps := (JEL b c)) (by kernel_rfl) hNeeds
def JJM:List Pm → Qm → Option CRes
  | [.i a,.i b,.i c],[] => some ⟨SV.one (Ci (Jbd a b c)),
 [],(JEL b c),[],24⟩
  | _,_ => none
theorem Jie:Qg Tryz.prog 17 (JS JAC JJM) := by
  refine JH (JD Jbt 17) fun ps ls r hr hn _ => ?_
  unfold JJM at hr
  split at hr
  · cases hr; exact ⟨_,JeA _ _ _ hn,fun _ => rfl⟩
  · cases hr
def JQA:List (Nat × JY) := (17,JS JAC JJM) :: JqO
theorem JKm:Known Tryz.prog (JB JQA) L0 := J7 Jbt Jie
section
variable (x:Int) (t:Nat) (v:SV)
def ent:Ent:= ⟨[],[],t,v⟩
def I:SC:= .int .i64 (.v x)
def U:SC:= .int .u64 (.v x)
end
theorem Yy {x:Int} (h1:0 ≤ x) (h2:x < 18446744073709551616):IntKind.u64.wrap x = x := by
  unfold IntKind.wrap
  simp only [IntKind.bits,IntKind.signed]
  simp
  omega
theorem JBi (x:Int):IntKind.u64.wrap x = x % 18446744073709551616 := by
  unfold IntKind.wrap
  simp only [IntKind.bits,IntKind.signed]
  simp
theorem JIv (a0 a1 b0 b1:Int) (h0:0 ≤ a0 ∧ a0 < 4294967296) (h1:0 ≤ a1 ∧ a1 < 4294967296) (h2:0 ≤ b0 ∧ b0 < 4294967296) (h3:0 ≤ b1 ∧ b1 < 4294967296) :
    a1 * b1 + (a1 * b0 + a0 * b0 / 4294967296) / 4294967296 + ((a1 * b0 + a0 * b0 / 4294967296) % 4294967296 + a0 * b1) / 4294967296 = ((a1 * 4294967296 + a0) * (b1 * 4294967296 + b0)) / 18446744073709551616 := by
  have e:(a1 * 4294967296 + a0) * (b1 * 4294967296 + b0) = a1 * b1 * 18446744073709551616 + (a1 * b0) * 4294967296 + (a0 * b1) * 4294967296 + a0 * b0 := by
    simp only [Int.add_mul,Int.mul_add]
    have e1:a1 * 4294967296 * (b1 * 4294967296) = a1 * b1 * 18446744073709551616 := by
      rw [Int.mul_assoc,Int.mul_comm 4294967296 (b1 * 4294967296),Int.mul_assoc b1,← Int.mul_assoc]; rfl
    have e2:a1 * 4294967296 * b0 = a1 * b0 * 4294967296 := by rw [Int.mul_assoc,Int.mul_comm 4294967296 b0,Int.mul_assoc]
    have e3:a0 * (b1 * 4294967296) = a0 * b1 * 4294967296 := by rw [Int.mul_assoc]
    rw [e1,e2,e3]; omega
  rw [e]
  have n1:0 ≤ a1 * b1 := Int.mul_nonneg h1.1 h3.1
  have n2:0 ≤ a1 * b0 := Int.mul_nonneg h1.1 h2.1
  have n3:0 ≤ a0 * b1 := Int.mul_nonneg h0.1 h3.1
  have n4:0 ≤ a0 * b0 := Int.mul_nonneg h0.1 h2.1
  generalize a1 * b1 = p at *
  generalize a1 * b0 = q at *
  generalize a0 * b1 = r at *
  generalize a0 * b0 = s at *
  omega
theorem JZU (x:Int) (h:0 ≤ x):JV .shr .u64 x 32 = x / 4294967296 := by
  have e:(2:Int) ^ min (32:Int).toNat IntKind.u64.bits = 4294967296 := by decide
  unfold JV
  simp only [e]
  exact Int.fdiv_eq_ediv_of_nonneg _ (by omega)
theorem Jgp (x:Int) (h1:0 ≤ x) (h2:x < 18446744073709551616):Ze .and .u64 x 4294967295 = x % 4294967296 := by
  obtain ⟨n,rfl⟩ := Int.eq_ofNat_of_zero_le h1
  have h3:n < 18446744073709551616 := by omega
  have e:(BitVec.ofInt 64 (n:Int) &&& BitVec.ofInt 64 4294967295).toNat = n % 4294967296 := by
    rw [BitVec.toNat_and]
    have e1:(BitVec.ofInt 64 (n:Int)).toNat = n := by simp [BitVec.toNat_ofInt]; omega
    have e2:(BitVec.ofInt 64 (4294967295:Int)).toNat = 2 ^ 32 - 1 := by decide
    rw [e1,e2,Nat.and_two_pow_sub_one_eq_mod]
  show IntKind.u64.wrap ((BitVec.ofInt 64 (n:Int) &&& BitVec.ofInt 64 4294967295).toNat:Int) = _
  rw [e,Yy (by omega) (by omega)]
  omega
theorem Ke {x y:Int} (m n:Int) (hx:0 ≤ x ∧ x ≤ m) (hy:0 ≤ y ∧ y ≤ n) (hm:0 ≤ m):0 ≤ x * y ∧ x * y ≤ m * n :=
  ⟨Int.mul_nonneg hx.1 hy.1,Int.mul_le_mul hx.2 hy.2 hy.1 hm⟩
theorem zx (a b:Int):Qa a b = a * b % 18446744073709551616 := JBi _
theorem JAI (a b:Int) (ha:0 ≤ a ∧ a < 18446744073709551616) (hb:0 ≤ b ∧ b < 18446744073709551616):QJ a b = a * b / 18446744073709551616 := by
  have a0:0 ≤ a % 4294967296 ∧ a % 4294967296 < 4294967296 := by omega
  have a1:0 ≤ a / 4294967296 ∧ a / 4294967296 < 4294967296 := by omega
  have b0:0 ≤ b % 4294967296 ∧ b % 4294967296 < 4294967296 := by omega
  have b1:0 ≤ b / 4294967296 ∧ b / 4294967296 < 4294967296 := by omega
  have ea:a = a / 4294967296 * 4294967296 + a % 4294967296 := by omega
  have eb:b = b / 4294967296 * 4294967296 + b % 4294967296 := by omega
  have hh := JIv _ _ _ _ a0 a1 b0 b1
  rw [← ea,← eb] at hh
  rw [← hh]
  unfold QJ JYX
  rw [Jgp a ha.1 ha.2,Jgp b hb.1 hb.2,JZU a ha.1,JZU b hb.1]
  generalize a % 4294967296 = x0 at *
  generalize a / 4294967296 = x1 at *
  generalize b % 4294967296 = y0 at *
  generalize b / 4294967296 = y1 at *
  have p1 := Ke (x := x1) (y := y1) 4294967295 4294967295 (by omega) (by omega) (by omega)
  have p2 := Ke (x := x1) (y := y0) 4294967295 4294967295 (by omega) (by omega) (by omega)
  have p3 := Ke (x := x0) (y := y1) 4294967295 4294967295 (by omega) (by omega) (by omega)
  have p4 := Ke (x := x0) (y := y0) 4294967295 4294967295 (by omega) (by omega) (by omega)
  generalize x1 * y1 = p at *
  generalize x1 * y0 = q at *
  generalize x0 * y1 = r at *
  generalize x0 * y0 = s at *
  rw [Yy (x := s) (by omega) (by omega),Yy (x := q) (by omega) (by omega),Yy (x := p) (by omega) (by omega),Yy (x := r) (by omega) (by omega),JZU s (by omega),Yy (x := q + s / 4294967296) (by omega) (by omega),
    JZU _ (by omega),Jgp _ (by omega) (by omega),Yy (x := p + _) (by omega) (by omega),Yy (x := _ % _ + r) (by omega) (by omega),JZU _ (by omega),Yy (by omega) (by omega)]
def K6 (x y:Int):Int := if x < y then -1 else if x = y then 0 else 1
abbrev XT (x:Int):Prop := -9223372036854775808 ≤ x ∧ x < 9223372036854775808
theorem Zy {x:Int} (h1:-9223372036854775808 ≤ x) (h2:x < 9223372036854775808):IntKind.i64.wrap x = x := by
  unfold IntKind.wrap
  simp only [IntKind.bits,IntKind.signed]
  simp
  omega
theorem Xl (a:Int) (h:XT a):J6 a = if a < 0 then -a else a := by
  obtain ⟨h1,h2⟩ := h
  unfold J6
  by_cases hn:a < 0
  · rw [decide_eq_true hn,cond_true,if_pos hn,Zy (x := a + 1) (by omega) (by omega),Zy (x := 0 - (a + 1)) (by omega) (by omega),Yy (x := 0 - (a + 1)) (by omega) (by omega),Yy (by omega) (by omega)]
    omega
  · rw [decide_eq_false hn,cond_false,if_neg hn,Yy (by omega) (by omega)]
theorem JJO (a b:Int):(Qe a b = 0 ∧ a * b = 0) ∨ (Qe a b = 1 ∧ 0 < a * b ∧ (if a < 0 then -a else a) * (if b < 0 then -b else b) = a * b) ∨ (Qe a b = -1 ∧ a * b < 0 ∧ (if a < 0 then -a else a) * (if b < 0 then -b else b) = -(a * b)) := by
  unfold Qe
  by_cases ha:a = 0
  · subst ha; exact .inl ⟨rfl,Int.zero_mul _⟩
  by_cases hb:b = 0
  · subst hb; exact .inl ⟨by simp,Int.mul_zero _⟩
  have e:(a == 0 || b == 0) = false := by simp [ha,hb]
  rw [e,cond_false]
  right
  by_cases h1:a < 0 <;> by_cases h2:b < 0
  · refine .inl ⟨by simp [h1,h2],?_,?_⟩
    · exact Int.mul_pos_of_neg_of_neg h1 h2
    · rw [if_pos h1,if_pos h2,Int.neg_mul_neg]
  · refine .inr ⟨by simp [h1,h2],?_,?_⟩
    · exact Int.mul_neg_of_neg_of_pos h1 (by omega)
    · rw [if_pos h1,if_neg h2,Int.neg_mul]
  · refine .inr ⟨by simp [h1,h2],?_,?_⟩
    · exact Int.mul_neg_of_pos_of_neg (by omega) h2
    · rw [if_neg h1,if_pos h2,Int.mul_neg]
  · refine .inl ⟨by simp [h1,h2],?_,?_⟩
    · exact Int.mul_pos (by omega) (by omega)
    · rw [if_neg h1,if_neg h2]
theorem JhQ (x y:Int) (hx:0 ≤ x) (hy:0 ≤ y):JJw (x / 18446744073709551616) (x % 18446744073709551616) (y / 18446744073709551616) (y % 18446744073709551616) = K6 x y := by
  unfold JJw K6
  by_cases h:x < y
  · rw [if_pos h]
    have:(decide (x / 18446744073709551616 < y / 18446744073709551616) || x / 18446744073709551616 == y / 18446744073709551616 && decide (x % 18446744073709551616 < y % 18446744073709551616)) = true := by
      simp only [Bool.or_eq_true,Bool.and_eq_true,decide_eq_true_eq,beq_iff_eq]; omega
    rw [this]; rfl
  · rw [if_neg h]
    have:(decide (x / 18446744073709551616 < y / 18446744073709551616) || x / 18446744073709551616 == y / 18446744073709551616 && decide (x % 18446744073709551616 < y % 18446744073709551616)) = false := by
      rw [Bool.eq_false_iff]
      simp only [ne_eq,Bool.or_eq_true,Bool.and_eq_true,decide_eq_true_eq,beq_iff_eq]; omega
    rw [this,cond_false]
    by_cases h2:x = y
    · subst h2; simp
    · rw [if_neg h2]
      have:(x / 18446744073709551616 == y / 18446744073709551616 && x % 18446744073709551616 == y % 18446744073709551616) = false := by
        rw [Bool.eq_false_iff]
        simp only [ne_eq,Bool.and_eq_true,beq_iff_eq]; omega
      rw [this]; rfl
theorem JdD (a b c d:Int) (ha:XT a) (hb:XT b) (hc:XT c) (hd:XT d):JMD a b c d = K6 (a * b) (c * d) := by
  unfold JMD
  rw [Xl a ha,Xl b hb,Xl c hc,Xl d hd]
  have r:∀ x:Int,XT x → 0 ≤ (if x < 0 then -x else x) ∧ (if x < 0 then -x else x) < 18446744073709551616 := fun x hx => by
    obtain ⟨h1,h2⟩ := hx
    split <;> omega
  rw [JAI _ _ (r a ha) (r b hb),zx,JAI _ _ (r c hc) (r d hd),zx]
  have x0 := Int.mul_nonneg (r a ha).1 (r b hb).1
  have y0 := Int.mul_nonneg (r c hc).1 (r d hd).1
  rw [JhQ _ _ x0 y0]
  have s1 := JJO a b
  have s2 := JJO c d
  generalize (if a < 0 then -a else a) * (if b < 0 then -b else b) = X at *
  generalize (if c < 0 then -c else c) * (if d < 0 then -d else d) = Y at *
  generalize a * b = P at *
  generalize c * d = Q at *
  have w:∀ x:Int,-1 ≤ x ∧ x ≤ 1 → IntKind.i64.wrap x = x := fun x h => Zy (by omega) (by omega)
  have hcm:K6 X Y = -1 ∧ X < Y ∨ K6 X Y = 0 ∧ X = Y ∨ K6 X Y = 1 ∧ Y < X := by unfold K6; (repeat' split) <;> omega
  have hcp:K6 P Q = -1 ∧ P < Q ∨ K6 P Q = 0 ∧ P = Q ∨ K6 P Q = 1 ∧ Q < P := by unfold K6; (repeat' split) <;> omega
  generalize K6 X Y = m at *
  generalize K6 P Q = n at *
  rcases s1 with ⟨e1,p1⟩ | ⟨e1,p1,q1⟩ | ⟨e1,p1,q1⟩ <;> rcases s2 with ⟨e2,p2⟩ | ⟨e2,p2,q2⟩ | ⟨e2,p2,q2⟩ <;> rw [e1,e2]
  · show IntKind.i64.wrap (0 * m) = n; rw [w _ (by omega)]; omega
  · show (-1:Int) = n; omega
  · show (1:Int) = n; omega
  · show (1:Int) = n; omega
  · show IntKind.i64.wrap (1 * m) = n; rw [w _ (by omega)]; omega
  · show (1:Int) = n; omega
  · show (-1:Int) = n; omega
  · show (-1:Int) = n; omega
  · show IntKind.i64.wrap (-1 * m) = n; rw [w _ (by omega)]; omega
abbrev Dg := LL
def dg (xs:Dg) (i:Nat):Int := (xs.getD i []).getD 0 0
def val:Dg → Int
  | [] => 0
  | r :: rs => r.getD 0 0 + 65536 * val rs
abbrev isD (x:Int):Prop := 0 ≤ x ∧ x < 65536
def jB (xs:Dg):Prop := ∀ i,isD (dg xs i)
theorem Je4 (xs:Dg) (i:Nat):dg xs i = (xs[i]?.getD []).getD 0 0 := rfl
theorem JUY (r:List Int) (rs:Dg) (i:Nat):dg (r :: rs) (i + 1) = dg rs i := rfl
theorem JXo (v:Int):∀ (xs:Dg) (j i:Nat),j < xs.length → dg (xs.set j [v]) i = if i = j then v else dg xs i
  | [],_,_,h => by simp at h
  | r :: rs,0,0,_ => by simp [dg]
  | r :: rs,0,i + 1,_ => by simp [dg]
  | r :: rs,j + 1,0,_ => by simp [dg]
  | r :: rs,j + 1,i + 1,h => by
    have := JXo v rs j i (by simpa using h)
    rw [List.set_cons_succ,JUY,JUY,this]
    by_cases e:i = j
    · rw [if_pos e,if_pos (by omega)]
    · rw [if_neg e,if_neg (by omega)]
theorem JdP (v:Int):∀ (xs:Dg) (j:Nat),j < xs.length → val (xs.set j [v]) = val xs + (v - dg xs j) * 65536 ^ j
  | [],_,h => by simp at h
  | r :: rs,0,_ => by simp [dg,val]; omega
  | r :: rs,j + 1,h => by
    have := JdP v rs j (by simpa using h)
    rw [List.set_cons_succ,val,val,this,JUY,Int.pow_succ]
    generalize (65536:Int) ^ j = p
    generalize dg rs j = d
    grind
theorem W4:∀ (xs:Dg) (k:Nat),val (xs.take (k + 1)) = val (xs.take k) + dg xs k * 65536 ^ k
  | [],k => by simp [val,dg]
  | r :: rs,0 => by simp [val,dg]
  | r :: rs,k + 1 => by
    have := W4 rs k
    rw [List.take_succ_cons,val,this,List.take_succ_cons,val,JUY,Int.pow_succ]
    generalize (65536:Int) ^ k = p
    grind
theorem kx (k:Nat):(0:Int) < 65536 ^ k := Int.pow_pos (by omega)
theorem JXG {xs:Dg} (h:jB xs):∀ k,0 ≤ val (xs.take k) ∧ val (xs.take k) < 65536 ^ k
  | 0 => by simp [val]
  | k + 1 => by
    obtain ⟨h1,h2⟩ := JXG h k
    obtain ⟨h3,h4⟩ := h k
    have hp := kx k
    rw [W4,Int.pow_succ]
    have h5:0 ≤ dg xs k * 65536 ^ k := Int.mul_nonneg h3 (by omega)
    have h6:dg xs k * 65536 ^ k ≤ 65535 * 65536 ^ k := Int.mul_le_mul_of_nonneg_right (by omega) (by omega)
    generalize dg xs k * 65536 ^ k = q at *
    generalize (65536:Int) ^ k = p at *
    omega
theorem JDF (xs:Dg):val (xs.take xs.length) = val xs := by rw [List.take_length]
def Xk (x:Int) (B O:Dg) (i:Nat):Nat → Dg × Int
  | 0 => (O,0)
  | k + 1 => ((Xk x B O i k).1.set (i + k) [(dg (Xk x B O i k).1 (i + k) + x * dg B k + (Xk x B O i k).2) % 65536],(dg (Xk x B O i k).1 (i + k) + x * dg B k + (Xk x B O i k).2) / 65536)
theorem WG (x:Int) (B O:Dg) (i:Nat):∀ k,(Xk x B O i k).1.length = O.length
  | 0 => rfl
  | k + 1 => by rw [Xk,List.length_set,WG x B O i k]
theorem JYg {x y:Int} (hx:isD x) (hy:isD y):0 ≤ x * y ∧ x * y ≤ 4294836225 := ⟨Int.mul_nonneg hx.1 hy.1,by
  have := Int.mul_le_mul (show x ≤ 65535 by omega) (show y ≤ 65535 by omega) hy.1 (by omega)
  omega⟩
theorem JK9 {x:Int} {B O:Dg} {i:Nat} (hx:isD x) (hB:jB B) (hO:jB O):∀ k,i + k ≤ O.length → jB (Xk x B O i k).1 ∧ isD (Xk x B O i k).2
  | 0,_ => ⟨hO,by show isD 0; decide⟩
  | k + 1,h => by
    obtain ⟨h1,h2,h3⟩ := JK9 (i := i) hx hB hO k (by omega)
    obtain ⟨h4,h5⟩ := h1 (i + k)
    obtain ⟨h6,h7⟩ := JYg hx (hB k)
    refine ⟨fun j => ?_,?_⟩
    · rw [Xk,JXo _ _ _ _ (by rw [WG]; omega)]
      split
      · constructor <;> omega
      · exact h1 j
    · rw [Xk]
      constructor <;> simp only <;> omega
theorem JX5 (x:Int) (B O:Dg) (i:Nat):∀ k j,i + k ≤ O.length → i + k ≤ j → dg (Xk x B O i k).1 j = dg O j
  | 0,_,_,_ => rfl
  | k + 1,j,h1,h2 => by rw [Xk,JXo _ _ _ _ (by rw [WG]; omega),if_neg (by omega),JX5 x B O i k j (by omega) (by omega)]
theorem Jmb (x:Int) (B O:Dg) (i:Nat):∀ k,i + k ≤ O.length → val (Xk x B O i k).1 + (Xk x B O i k).2 * 65536 ^ (i + k) = val O + x * val (B.take k) * 65536 ^ i
  | 0,_ => by simp [Xk,val]
  | k + 1,h => by
    have ih := Jmb x B O i k (by omega)
    rw [Xk,W4,JdP _ _ _ (by rw [WG]; omega)]
    rw [← Nat.add_assoc,Int.pow_succ]
    have e:(65536:Int) ^ (i + k) = 65536 ^ i * 65536 ^ k := Int.pow_add _ _ _
    have dm := Int.mul_ediv_add_emod (dg (Xk x B O i k).1 (i + k) + x * dg B k + (Xk x B O i k).2) 65536
    generalize (dg (Xk x B O i k).1 (i + k) + x * dg B k + (Xk x B O i k).2) % 65536 = m at *
    generalize (dg (Xk x B O i k).1 (i + k) + x * dg B k + (Xk x B O i k).2) / 65536 = q at *
    generalize dg (Xk x B O i k).1 (i + k) = d at *
    generalize (Xk x B O i k).2 = c at *
    generalize val (Xk x B O i k).1 = v at *
    generalize dg B k = b at *
    generalize val (B.take k) = t at *
    rw [e] at ih ⊢
    generalize (65536:Int) ^ i = p at *
    generalize (65536:Int) ^ k = r at *
    simp only
    grind
def Qu (A B:Dg):Nat → Dg
  | 0 => List.replicate (A.length + B.length) [0]
  | i + 1 => (Xk (dg A i) B (Qu A B i) i B.length).1.set (i + B.length) [dg (Xk (dg A i) B (Qu A B i) i B.length).1 (i + B.length) + (Xk (dg A i) B (Qu A B i) i B.length).2]
theorem XP (A B:Dg):∀ i,(Qu A B i).length = A.length + B.length
  | 0 => by simp [Qu]
  | i + 1 => by rw [Qu,List.length_set,WG,XP A B i]
theorem JqI (n i:Nat):dg (List.replicate n [0]) i = 0 := by
  rw [Je4,List.getElem?_replicate]
  split <;> rfl
theorem Jmj:∀ n,val (List.replicate n [0]) = 0
  | 0 => rfl
  | n + 1 => by rw [List.replicate_succ,val,Jmj n]; rfl
theorem Jg6 {A B:Dg}:∀ i j,i ≤ A.length → i + B.length ≤ j → dg (Qu A B i) j = 0
  | 0,j,_,_ => JqI _ _
  | i + 1,j,h1,h2 => by
    rw [Qu,JXo _ _ _ _ (by rw [WG,XP]; omega),if_neg (by omega),JX5 _ _ _ _ _ _ (by rw [XP]; omega) (by omega),Jg6 i j (by omega) (by omega)]
theorem JD3 {A B:Dg} (hA:jB A) (hB:jB B):∀ i,i ≤ A.length → jB (Qu A B i)
  | 0,_ => fun j => by rw [Qu,JqI]; decide
  | i + 1,h => by
    have ih := JD3 hA hB i (by omega)
    have hl := XP A B i
    obtain ⟨h1,h2⟩ := JK9 (hA i) hB ih B.length (i := i) (by omega)
    intro j
    rw [Qu,JXo _ _ _ _ (by rw [WG]; omega)]
    split
    · rw [JX5 _ _ _ _ _ _ (by omega) (by omega),Jg6 i _ (by omega) (by omega),Int.zero_add]; exact h2
    · exact h1 j
theorem JXj {A B:Dg}:∀ i,i ≤ A.length → val (Qu A B i) = val (A.take i) * val B
  | 0,_ => by simp [Qu,Jmj,val]
  | i + 1,h => by
    have ih := JXj (A := A) (B := B) i (by omega)
    have hl := XP A B i
    have hv := Jmb (dg A i) B (Qu A B i) i B.length (by omega)
    rw [Qu,JdP _ _ _ (by rw [WG]; omega),W4]
    rw [JDF,ih] at hv
    generalize dg (Xk (dg A i) B (Qu A B i) i B.length).1 (i + B.length) = d at *
    generalize (Xk (dg A i) B (Qu A B i) i B.length).2 = c at *
    generalize val (Xk (dg A i) B (Qu A B i) i B.length).1 = v at *
    generalize (65536:Int) ^ (i + B.length) = q at *
    generalize (65536:Int) ^ i = p at *
    generalize val (A.take i) = t at *
    generalize val B = s at *
    generalize dg A i = x at *
    grind
def JEV (xs:Dg):Nat → Nat
  | 0 => 0
  | j + 1 => bif dg xs j == 0 then JEV xs j else j + 1
theorem JK5 (xs:Dg):∀ n,JEV xs n ≤ n
  | 0 => Nat.le_refl _
  | n + 1 => by
    have := JK5 xs n
    unfold JEV
    cases dg xs n == 0
    · exact Nat.le_refl _
    · exact Nat.le_succ_of_le this
theorem JfM (xs:Dg):∀ n,val (xs.take (JEV xs n)) = val (xs.take n)
  | 0 => rfl
  | n + 1 => by
    rw [JEV,W4]
    cases h:dg xs n == 0
    · rw [cond_false,W4]
    · rw [cond_true,JfM xs n,beq_iff_eq.1 h]; simp
theorem JgL (xs:Dg):∀ n,JEV xs n ≠ 0 → dg xs (JEV xs n - 1) ≠ 0
  | 0,h => absurd rfl h
  | n + 1,h => by
    rw [JEV] at h ⊢
    cases h1:dg xs n == 0
    · rw [cond_false]
      simpa using h1
    · rw [h1,cond_true] at h
      rw [cond_true]; exact JgL xs n h
def JF6 (xs:Dg):Dg := xs.take (JEV xs xs.length)
theorem JIB (xs:Dg):(JF6 xs).length = JEV xs xs.length := by
  have := JK5 xs xs.length
  simp [JF6]; omega
theorem JgS (xs:Dg):val (JF6 xs) = val xs := by rw [JF6,JfM,JDF]
theorem JdM (xs:Dg) (n i:Nat):dg (xs.take n) i = if i < n then dg xs i else 0 := by
  rw [Je4,Je4,List.getElem?_take]
  split
  · rfl
  · rfl
theorem Jh7 {xs:Dg} (h:jB xs):jB (JF6 xs) := fun i => by
  rw [JF6,JdM]
  split
  · exact h i
  · decide
def JGd (xs:Dg):Prop := xs.length ≠ 0 → dg xs (xs.length - 1) ≠ 0
theorem Jb2 (xs:Dg):JGd (JF6 xs) := fun h => by
  rw [JIB] at h ⊢
  rw [JF6,JdM,if_pos (by omega)]
  exact JgL xs _ h
def JEX (A B:Dg):Nat → Int
  | 0 => 0
  | j + 1 => bif decide (dg A j < dg B j) then -1 else bif decide (dg B j < dg A j) then 1 else JEX A B j
theorem Jf5 {x y:Int} (h:x < y):K6 x y = -1 := by unfold K6; rw [if_pos h]
theorem JeD {x y:Int} (h:y < x):K6 x y = 1 := by unfold K6; rw [if_neg (by omega),if_neg (by omega)]
theorem Jog (x:Int):K6 x x = 0 := by unfold K6; rw [if_neg (by omega),if_pos rfl]
theorem JmU {a b p x y:Int} (h:a < b) (hp:0 < p) (hx:x < p) (hy:0 ≤ y):x + a * p < y + b * p := by
  have := Int.mul_le_mul_of_nonneg_right (show a + 1 ≤ b by omega) (show 0 ≤ p by omega)
  rw [Int.add_mul] at this
  omega
theorem JpV (x y z:Int):K6 (x + z) (y + z) = K6 x y := by
  unfold K6
  by_cases h:x < y
  · rw [if_pos h,if_pos (by omega)]
  · rw [if_neg h,if_neg (by omega)]
    by_cases h:x = y
    · rw [if_pos h,if_pos (by omega)]
    · rw [if_neg h,if_neg (by omega)]
theorem Jmd {A B:Dg} (hA:jB A) (hB:jB B):∀ n,JEX A B n = K6 (val (A.take n)) (val (B.take n))
  | 0 => by simp [JEX,val,K6]
  | n + 1 => by
    obtain ⟨a1,a2⟩ := JXG hA n
    obtain ⟨b1,b2⟩ := JXG hB n
    have hp := kx n
    rw [JEX,W4,W4]
    by_cases h1:dg A n < dg B n
    · rw [decide_eq_true h1,cond_true,Jf5 (JmU h1 hp a2 b1)]
    · rw [decide_eq_false h1,cond_false]
      by_cases h2:dg B n < dg A n
      · rw [decide_eq_true h2,cond_true,JeD (JmU h2 hp b2 a1)]
      · rw [decide_eq_false h2,cond_false,show dg A n = dg B n by omega,JpV,Jmd hA hB n]
theorem JsH {xs:Dg} (h:jB xs) (hn:JGd xs) {k:Nat} (hk:k < xs.length):65536 ^ k ≤ val xs := by
  obtain ⟨m,hm⟩:∃ m,xs.length = m + 1 := ⟨xs.length - 1,by omega⟩
  rw [← JDF xs,hm,W4]
  obtain ⟨a1,_⟩ := JXG h m
  have h1 := hn (by omega)
  rw [hm,Nat.add_sub_cancel] at h1
  have h2 := (h m).1
  have hp:(65536:Int) ^ k ≤ 65536 ^ m := by
    obtain ⟨d,hd⟩:∃ d,m = k + d := ⟨m - k,by omega⟩
    rw [hd,Int.pow_add]
    have h3:(1:Int) ≤ 65536 ^ d := by have := kx d; omega
    have := Int.mul_le_mul_of_nonneg_left h3 (show (0:Int) ≤ 65536 ^ k from Int.le_of_lt (kx k))
    omega
  have h4 := Int.mul_le_mul_of_nonneg_right (show 1 ≤ dg xs m by omega) (show (0:Int) ≤ 65536 ^ m from Int.le_of_lt (kx m))
  omega
theorem JO1 {xs:Dg} (h:jB xs):0 ≤ val xs ∧ val xs < 65536 ^ xs.length := by rw [← JDF xs]; simpa using JXG h xs.length
def JGD (A B:Dg):Int := bif Int.ofNat A.length != Int.ofNat B.length then (bif decide (Int.ofNat A.length < Int.ofNat B.length) then -1 else 1) else JEX A B A.length
theorem JOH {A B:Dg} (hA:jB A) (hB:jB B) (nA:JGd A) (nB:JGd B):JGD A B = K6 (val A) (val B) := by
  unfold JGD
  obtain ⟨_,a2⟩ := JO1 hA
  obtain ⟨_,b2⟩ := JO1 hB
  by_cases h:A.length = B.length
  · rw [h]
    simp only [bne_self_eq_false,cond_false]
    rw [Jmd hA hB]
    have := JDF A
    rw [h] at this
    rw [this,JDF]
  · have:(Int.ofNat A.length != Int.ofNat B.length) = true := by simp; omega
    rw [this,cond_true]
    by_cases h2:A.length < B.length
    · rw [decide_eq_true (by simpa using h2),cond_true]
      have := JsH hB nB h2
      rw [Jf5 (by omega)]
    · rw [decide_eq_false (by simpa using h2),cond_false]
      have := JsH hA nA (show B.length < A.length by omega)
      rw [JeD (by omega)]
def j4 (n:Int) (j:Nat):Dg := (List.range j).map fun i => [n / 65536 ^ i % 65536]
theorem KI (n:Int) (j:Nat):(j4 n j).length = j := by simp [j4]
theorem Jaq (n:Int) (j:Nat):j4 n (j + 1) = j4 n j ++ [[n / 65536 ^ j % 65536]] := by
  unfold j4
  rw [List.range_succ,List.map_append]
  rfl
theorem JdC (n:Int) (j i:Nat):dg (j4 n j) i = if i < j then n / 65536 ^ i % 65536 else 0 := by
  rw [Je4]
  unfold j4
  rw [List.getElem?_map]
  by_cases h:i < j
  · rw [List.getElem?_range h,if_pos h]; rfl
  · rw [List.getElem?_eq_none (by simp; omega),if_neg h]; rfl
theorem Kh (n:Int) (j:Nat):jB (j4 n j) := fun i => by
  rw [JdC]
  split
  · constructor <;> omega
  · decide
theorem Jf1 (n:Int) (j:Nat):n / 65536 ^ (j + 1) = n / 65536 ^ j / 65536 := by
  rw [Int.pow_succ,Int.ediv_ediv_of_nonneg (Int.le_of_lt (kx j))]
theorem Jga (n:Int):∀ j,val (j4 n j) + n / 65536 ^ j * 65536 ^ j = n
  | 0 => by simp [j4,val]
  | j + 1 => by
    have ih := Jga n j
    have e:val (j4 n (j + 1)) = val (j4 n j) + n / 65536 ^ j % 65536 * 65536 ^ j := by
      have := W4 (j4 n (j + 1)) j
      rw [JdC,if_pos (by omega)] at this
      have h1:(j4 n (j + 1)).take (j + 1) = j4 n (j + 1) := List.take_of_length_le (by rw [KI]; omega)
      have h2:(j4 n (j + 1)).take j = j4 n j := by
        rw [Jaq,List.take_append_of_le_length (by rw [KI]; omega),List.take_of_length_le (by rw [KI]; omega)]
      rw [h1,h2] at this
      exact this
    rw [e,Jf1,Int.pow_succ]
    have dm := Int.mul_ediv_add_emod (n / 65536 ^ j) 65536
    generalize n / 65536 ^ j / 65536 = q at *
    generalize n / 65536 ^ j % 65536 = m at *
    generalize n / 65536 ^ j = s at *
    generalize val (j4 n j) = v at *
    generalize (65536:Int) ^ j = p at *
    grind
def nd (n:Int):Nat := bif decide (0 < n) then (bif decide (0 < n / 65536 ^ 1) then (bif decide (0 < n / 65536 ^ 2) then (bif decide (0 < n / 65536 ^ 3) then 4 else 3) else 2) else 1) else 0
theorem Js5 {n:Int} (h:0 ≤ n) (h2:n < 18446744073709551616):(nd n = 0 ∧ n = 0) ∨ (nd n = 1 ∧ 0 < n ∧ n < 65536) ∨ (nd n = 2 ∧ 65536 ≤ n ∧ n < 4294967296) ∨ (nd n = 3 ∧ 4294967296 ≤ n ∧ n < 281474976710656) ∨ (nd n = 4 ∧ 281474976710656 ≤ n) := by
  unfold nd
  have e1:(65536:Int) ^ 1 = 65536 := rfl
  have e2:(65536:Int) ^ 2 = 4294967296 := rfl
  have e3:(65536:Int) ^ 3 = 281474976710656 := rfl
  rw [e1,e2,e3]
  by_cases k0:0 < n
  · by_cases k1:0 < n / 65536
    · by_cases k2:0 < n / 4294967296
      · by_cases k3:0 < n / 281474976710656
        · rw [decide_eq_true k0,decide_eq_true k1,decide_eq_true k2,decide_eq_true k3]; exact .inr (.inr (.inr (.inr ⟨rfl,by omega⟩)))
        · rw [decide_eq_true k0,decide_eq_true k1,decide_eq_true k2,decide_eq_false k3]; exact .inr (.inr (.inr (.inl ⟨rfl,by omega,by omega⟩)))
      · rw [decide_eq_true k0,decide_eq_true k1,decide_eq_false k2]; exact .inr (.inr (.inl ⟨rfl,by omega,by omega⟩))
    · rw [decide_eq_true k0,decide_eq_false k1]; exact .inr (.inl ⟨rfl,by omega,by omega⟩)
  · rw [decide_eq_false k0]; exact .inl ⟨rfl,by omega⟩
theorem Kw {n:Int} (h:0 ≤ n) (h2:n < 18446744073709551616) {j:Nat} (hj:j ≤ 4):(0 < n / 65536 ^ j ↔ j < nd n) ∧ nd n ≤ 4 := by
  have e0:(65536:Int) ^ 0 = 1 := rfl
  have e1:(65536:Int) ^ 1 = 65536 := rfl
  have e2:(65536:Int) ^ 2 = 4294967296 := rfl
  have e3:(65536:Int) ^ 3 = 281474976710656 := rfl
  have e4:(65536:Int) ^ 4 = 18446744073709551616 := rfl
  have hc := Js5 h h2
  generalize nd n = k at *
  have:j = 0 ∨ j = 1 ∨ j = 2 ∨ j = 3 ∨ j = 4 := by omega
  rcases this with rfl | rfl | rfl | rfl | rfl <;> simp only [e0,e1,e2,e3,e4] <;> refine ⟨⟨fun _ => ?_,fun _ => ?_⟩,?_⟩ <;> omega
def JA (n:Int):Dg := j4 n (nd n)
theorem JKZ {n:Int} (h:0 ≤ n) (h2:n < 18446744073709551616):val (JA n) = n := by
  have h4 := (Kw h h2 (j := 0) (by omega)).2
  have h3 := (Kw h h2 h4).1
  have := Jga n (nd n)
  have h5:¬ 0 < n / 65536 ^ nd n := fun h => by have := h3.1 h; omega
  have h6:0 ≤ n / 65536 ^ nd n := Int.ediv_nonneg h (Int.le_of_lt (kx _))
  rw [show n / 65536 ^ nd n = 0 by omega,Int.zero_mul,Int.add_zero] at this
  exact this
def JZ1 (a b:Int):Dg := JF6 (Qu (JA a) (JA b) (JA a).length)
theorem JCz {a b:Int} (ha:0 ≤ a ∧ a < 18446744073709551616) (hb:0 ≤ b ∧ b < 18446744073709551616):jB (JZ1 a b) ∧ JGd (JZ1 a b) ∧ val (JZ1 a b) = a * b := by
  refine ⟨Jh7 (JD3 (Kh _ _) (Kh _ _) _ (Nat.le_refl _)),Jb2 _,?_⟩
  unfold JZ1
  rw [JgS,JXj _ (Nat.le_refl _),JDF,JKZ ha.1 ha.2,JKZ hb.1 hb.2]
theorem JsV (x:Int) (h:0 ≤ x):JV .shr .u64 x 16 = x / 65536 := by
  have e:(2:Int) ^ min (16:Int).toNat IntKind.u64.bits = 65536 := by decide
  unfold JV
  simp only [e]
  exact Int.fdiv_eq_ediv_of_nonneg _ (by omega)
theorem JqT (x:Int) (h1:0 ≤ x) (h2:x < 18446744073709551616):Ze .and .u64 x 65535 = x % 65536 := by
  obtain ⟨n,rfl⟩ := Int.eq_ofNat_of_zero_le h1
  have h3:n < 18446744073709551616 := by omega
  have e:(BitVec.ofInt 64 (n:Int) &&& BitVec.ofInt 64 65535).toNat = n % 65536 := by
    rw [BitVec.toNat_and]
    have e1:(BitVec.ofInt 64 (n:Int)).toNat = n := by simp [BitVec.toNat_ofInt]; omega
    have e2:(BitVec.ofInt 64 (65535:Int)).toNat = 2 ^ 16 - 1 := by decide
    rw [e1,e2,Nat.and_two_pow_sub_one_eq_mod]
  show IntKind.u64.wrap ((BitVec.ofInt 64 (n:Int) &&& BitVec.ofInt 64 65535).toNat:Int) = _
  rw [e,Yy (by omega) (by omega)]
  omega
theorem Jtu {n:Int} (h:0 ≤ n) (h2:n < 18446744073709551616) (j:Nat):0 ≤ n / 65536 ^ j ∧ n / 65536 ^ j < 18446744073709551616 := by
  have hp := kx j
  refine ⟨Int.ediv_nonneg h (by omega),Int.lt_of_le_of_lt (Int.ediv_le_self _ h) h2⟩
def fr (T:Nat) (x:Int):Nat → Int
  | 0 => 0
  | j + 1 => bif decide ((fr T x j + 2 ^ (T - 1 - j)) * (fr T x j + 2 ^ (T - 1 - j)) ≤ x) then fr T x j + 2 ^ (T - 1 - j) else fr T x j
theorem KL (k:Nat):(0:Int) < 2 ^ k := Int.pow_pos (by omega)
theorem Jsh {a b:Nat} (h:a ≤ b):(2:Int) ^ a ≤ 2 ^ b := by
  obtain ⟨d,rfl⟩:∃ d,b = a + d := ⟨b - a,by omega⟩
  rw [Int.pow_add]
  have h1 := KL a
  have h2 := KL d
  have := Int.mul_le_mul_of_nonneg_left (show (1:Int) ≤ 2 ^ d by omega) (show (0:Int) ≤ 2 ^ a by omega)
  omega
theorem JVs (k:Nat):(2:Int) ^ (k + 1) = 2 * 2 ^ k := by rw [Int.pow_succ]; omega
theorem JcQ {T:Nat} {x:Int} (h0:0 ≤ x) (h1:x < 2 ^ T * 2 ^ T):∀ j,j ≤ T → ∃ m:Int,0 ≤ m ∧ fr T x j = 2 ^ (T - j) * m ∧ fr T x j * fr T x j ≤ x ∧ x < (fr T x j + 2 ^ (T - j)) * (fr T x j + 2 ^ (T - j)) ∧ fr T x j + 2 ^ (T - j) ≤ 2 ^ T
  | 0,_ => ⟨0,by omega,by simp [fr],by simpa [fr] using h0,by simpa [fr] using h1,by simp [fr]⟩
  | j + 1,h => by
    obtain ⟨m,m0,e,l,u,t⟩ := JcQ h0 h1 j (by omega)
    have ek:T - j = (T - (j + 1)) + 1 := by omega
    have ek':T - 1 - j = T - (j + 1) := by omega
    have hp := KL (T - (j + 1))
    rw [ek,JVs] at e u t
    unfold fr
    rw [ek']
    generalize (2:Int) ^ (T - (j + 1)) = p at *
    generalize fr T x j = r at *
    by_cases hc:(r + p) * (r + p) ≤ x
    · rw [decide_eq_true hc,cond_true]
      refine ⟨2 * m + 1,by omega,by rw [e]; grind,hc,?_,by omega⟩
      have e2:r + p + p = r + 2 * p := by omega
      rw [e2]; exact u
    · rw [decide_eq_false hc,cond_false]
      exact ⟨2 * m,by omega,by rw [e]; grind,l,by omega,by omega⟩
theorem Jek {T:Nat} {x:Int} (h0:0 ≤ x) (h1:x < 2 ^ T * 2 ^ T):0 ≤ fr T x T ∧ fr T x T * fr T x T ≤ x ∧ x < (fr T x T + 1) * (fr T x T + 1) ∧ fr T x T + 1 ≤ 2 ^ T := by
  obtain ⟨m,m0,e,l,u,t⟩ := JcQ h0 h1 T (Nat.le_refl _)
  rw [Nat.sub_self] at e u t
  have e1:(2:Int) ^ 0 = 1 := rfl
  rw [e1] at e u t
  exact ⟨by omega,l,u,t⟩
theorem JgA {r s x:Int} (hr:0 ≤ r) (hs:0 ≤ s) (h1:r * r ≤ x) (h2:x < (r + 1) * (r + 1)) (h3:s * s ≤ x) (h4:x < (s + 1) * (s + 1)):r = s := by
  have key:∀ {a b:Int},0 ≤ a → 0 ≤ b → a * a ≤ x → x < (b + 1) * (b + 1) → a ≤ b := fun {a b} ha hb g1 g2 => by
    rcases Int.lt_or_le b a with h | h
    · have := Int.mul_le_mul (show b + 1 ≤ a by omega) (show b + 1 ≤ a by omega) (by omega) ha
      omega
    · exact h
  have := key hr hs h1 h4
  have := key hs hr h3 h2
  omega
theorem Jvb {r:Int} {s:Nat} {m:Int} (hm:0 ≤ m) (hs:s < 64) (e:r = 2 ^ (s + 1) * m) (h:r + 2 ^ s < 18446744073709551616):Ze .or .u64 r (2 ^ s) = r + 2 ^ s := by
  obtain ⟨n,rfl⟩ := Int.eq_ofNat_of_zero_le hm
  have er:r = ((2 ^ (s + 1) * n:Nat):Int) := by rw [e]; push_cast; rfl
  have ep:(2:Int) ^ s = ((2 ^ s:Nat):Int) := by push_cast; rfl
  have hp:2 ^ s < 2 ^ (s + 1) := Nat.pow_lt_pow_right (by omega) (by omega)
  have hor := Nat.two_pow_add_eq_or_of_lt hp n
  rw [er,ep] at h ⊢
  generalize hq:2 ^ (s + 1) * n = q at *
  generalize hp2:2 ^ s = p at *
  have b1:q < 2 ^ 64 := by omega
  have b2:p < 2 ^ 64 := by omega
  have e1:(BitVec.ofInt 64 (q:Int)).toNat = q := by simp [BitVec.toNat_ofInt]; omega
  have e2:(BitVec.ofInt 64 (p:Int)).toNat = p := by simp [BitVec.toNat_ofInt]; omega
  have e3:(BitVec.ofInt 64 (q:Int) ||| BitVec.ofInt 64 (p:Int)).toNat = q + p := by rw [BitVec.toNat_or,e1,e2,hor]
  show IntKind.u64.wrap ((BitVec.ofInt 64 (q:Int) ||| BitVec.ofInt 64 (p:Int)).toNat:Int) = _
  rw [e3,Yy (by omega) (by omega)]
  push_cast; rfl
theorem JmW {s:Nat} (hs:s < 64):JV .shl .u64 1 (s:Int) = 2 ^ s := by
  have hp:(2:Int) ^ s ≤ 2 ^ 63 := Jsh (by omega)
  have hq := KL s
  have e:min ((s:Int)).toNat IntKind.u64.bits = s := by
    have:IntKind.u64.bits = 64 := rfl
    rw [this,Int.toNat_natCast]
    omega
  unfold JV
  simp only [e]
  rw [Int.one_mul,Yy (by omega) (by omega)]
theorem Jr2 {T:Nat} {x:Int} (h0:0 ≤ x) (h1:x < 2 ^ T * 2 ^ T) {j:Nat} (hj:j < T) (hT:T ≤ 64):Ze .or .u64 (fr T x j) (JV .shl .u64 1 ((T - 1 - j:Nat):Int)) = fr T x j + 2 ^ (T - 1 - j) ∧ 0 ≤ fr T x j + 2 ^ (T - 1 - j) ∧ fr T x j + 2 ^ (T - 1 - j) < 18446744073709551616 := by
  obtain ⟨m,m0,e,l,u,t⟩ := JcQ h0 h1 j (by omega)
  have ek:T - j = (T - 1 - j) + 1 := by omega
  have hp := KL (T - 1 - j)
  have hq:(2:Int) ^ T ≤ 2 ^ 64 := Jsh hT
  have hr:0 ≤ fr T x j := by rw [e]; exact Int.mul_nonneg (Int.le_of_lt (KL _)) m0
  rw [ek] at e t
  rw [JVs] at t
  rw [JmW (by omega)]
  have hb:fr T x j + 2 ^ (T - 1 - j) < 18446744073709551616 := by omega
  exact ⟨Jvb m0 (by omega) e hb,by omega,hb⟩
theorem JsN {T:Nat} {x:Int} (h0:0 ≤ x) (h1:x < 2 ^ T * 2 ^ T) {j:Nat} (hj:j ≤ T):0 ≤ fr T x j ∧ fr T x j < 2 ^ T := by
  obtain ⟨m,m0,e,l,u,t⟩ := JcQ h0 h1 j hj
  have hr:0 ≤ fr T x j := by rw [e]; exact Int.mul_nonneg (Int.le_of_lt (KL _)) m0
  have := KL (T - j)
  omega
structure AdjOk (y1 y0 u32 u q r:Int):Prop where
  h1:2147483648 ≤ y1 ∧ y1 < 4294967296
  h0:0 ≤ y0 ∧ y0 < 4294967296
  hu:0 ≤ u ∧ u < 4294967296
  hn:0 ≤ u32 ∧ u32 < y1 * 4294967296 + y0
  eq:q * y1 + r = u32
  hr:0 ≤ r ∧ r < 4294967296
  ge:(u32 * 4294967296 + u) / (y1 * 4294967296 + y0) ≤ q
  q0:0 ≤ q
theorem AdjOk.ub {y1 y0 u32 u q r:Int} (h:AdjOk y1 y0 u32 u q r):q ≤ 4294967297 := by
  obtain ⟨h1,h0,hu,hn,eq,hr,ge,q0⟩ := h
  rcases Int.lt_or_le q 4294967298 with g | g
  · omega
  · have := Int.mul_le_mul_of_nonneg_right g (show 0 ≤ y1 by omega)
    omega
theorem JMg {y1 y0 u32 u:Int} (h1:2147483648 ≤ y1 ∧ y1 < 4294967296) (h0:0 ≤ y0 ∧ y0 < 4294967296) (hu:0 ≤ u ∧ u < 4294967296) (hn:0 ≤ u32 ∧ u32 < y1 * 4294967296 + y0) :
    0 ≤ (u32 * 4294967296 + u) / (y1 * 4294967296 + y0) ∧ (u32 * 4294967296 + u) / (y1 * 4294967296 + y0) < 4294967296 := by
  have hY:0 < y1 * 4294967296 + y0 := by omega
  refine ⟨Int.ediv_nonneg (by omega) (by omega),?_⟩
  apply Int.ediv_lt_of_lt_mul hY
  have := Int.mul_le_mul_of_nonneg_right (show u32 + 1 ≤ y1 * 4294967296 + y0 by omega) (show (0:Int) ≤ 4294967296 by omega)
  omega
theorem AdjOk.fit {y1 y0 u32 u q r:Int} (h:AdjOk y1 y0 u32 u q r):0 ≤ q * y0 ∧ q * y0 < 18446744073709551616 := by
  have hq := h.ub
  have := Int.mul_nonneg h.q0 h.h0.1
  have h2 := Int.mul_le_mul hq (show y0 ≤ 4294967295 by have := h.h0; omega) h.h0.1 (by omega)
  omega
theorem JNB {y1 y0 u32 u q r:Int} (h:AdjOk y1 y0 u32 u q r) (hc:q ≥ 4294967296 ∨ q * y0 > 4294967296 * r + u):(u32 * 4294967296 + u) / (y1 * 4294967296 + y0) ≤ q - 1 := by
  have hl := JMg h.h1 h.h0 h.hu h.hn
  obtain ⟨h1,h0,hu,hn,eq,hr,ge,q0⟩ := h
  rcases hc with hc | hc
  · omega
  · have hY:0 < y1 * 4294967296 + y0 := by omega
    have:(u32 * 4294967296 + u) / (y1 * 4294967296 + y0) < q := by
      apply Int.ediv_lt_of_lt_mul hY
      have e:q * (y1 * 4294967296 + y0) = q * y1 * 4294967296 + q * y0 := by grind
      rw [e]
      generalize q * y1 = s at *
      generalize q * y0 = t at *
      omega
    omega
theorem JZo {y1 y0 u32 u q r:Int} (h:AdjOk y1 y0 u32 u q r) (hc:q * y0 ≤ 4294967296 * r + u):q = (u32 * 4294967296 + u) / (y1 * 4294967296 + y0) := by
  obtain ⟨h1,h0,hu,hn,eq,hr,ge,q0⟩ := h
  have hY:0 < y1 * 4294967296 + y0 := by omega
  have:q ≤ (u32 * 4294967296 + u) / (y1 * 4294967296 + y0) := by
    apply Int.le_ediv_of_mul_le hY
    have e:q * (y1 * 4294967296 + y0) = q * y1 * 4294967296 + q * y0 := by grind
    rw [e]
    generalize q * y1 = s at *
    generalize q * y0 = t at *
    omega
  omega
theorem AdjOk.next {y1 y0 u32 u q r:Int} (h:AdjOk y1 y0 u32 u q r) (hc:q ≥ 4294967296 ∨ q * y0 > 4294967296 * r + u) (hr':r + y1 < 4294967296):AdjOk y1 y0 u32 u (q - 1) (r + y1) := by
  have hb := JNB h hc
  have hl := JMg h.h1 h.h0 h.hu h.hn
  have e:(q - 1) * y1 = q * y1 - y1 := by rw [Int.sub_mul,Int.one_mul]
  exact ⟨h.h1,h.h0,h.hu,h.hn,by rw [e]; have := h.eq; omega,by have := h.hr; have := h.h1; omega,hb,by omega⟩
theorem Jg8 {y1 y0 u32 u q r:Int} (h:AdjOk y1 y0 u32 u q r) (hc:q ≥ 4294967296 ∨ q * y0 > 4294967296 * r + u) (hr':r + y1 ≥ 4294967296):q - 1 = (u32 * 4294967296 + u) / (y1 * 4294967296 + y0) := by
  have hb := JNB h hc
  have hq := h.ub
  have hl := JMg h.h1 h.h0 h.hu h.hn
  obtain ⟨h1,h0,hu,hn,eq,hr,ge,q0⟩ := h
  have hY:0 < y1 * 4294967296 + y0 := by omega
  have:q - 1 ≤ (u32 * 4294967296 + u) / (y1 * 4294967296 + y0) := by
    apply Int.le_ediv_of_mul_le hY
    have e:(q - 1) * (y1 * 4294967296 + y0) = (q * y1 - y1) * 4294967296 + (q - 1) * y0 := by grind
    have h2 := Int.mul_le_mul (show q - 1 ≤ 4294967296 by omega) (show y0 ≤ 4294967295 by omega) h0.1 (by omega)
    rw [e]
    generalize q * y1 = s at *
    generalize (q - 1) * y0 = t at *
    omega
  omega
theorem Jp8 {y1 y0 u32 u:Int} (h1:2147483648 ≤ y1 ∧ y1 < 4294967296) (h0:0 ≤ y0 ∧ y0 < 4294967296) (hu:0 ≤ u ∧ u < 4294967296) (hn:0 ≤ u32 ∧ u32 < y1 * 4294967296 + y0):AdjOk y1 y0 u32 u (u32 / y1) (u32 - u32 / y1 * y1) := by
  have hY:0 < y1 * 4294967296 + y0 := by omega
  have hd := Int.mul_ediv_add_emod u32 y1
  have hm1 := Int.emod_nonneg u32 (show y1 ≠ 0 by omega)
  have hm2 := Int.emod_lt_of_pos u32 (show 0 < y1 by omega)
  have hc:y1 * (u32 / y1) = u32 / y1 * y1 := Int.mul_comm _ _
  rw [hc] at hd
  refine ⟨h1,h0,hu,hn,by omega,by omega,?_,Int.ediv_nonneg hn.1 (by omega)⟩
  have:(u32 * 4294967296 + u) / (y1 * 4294967296 + y0) < u32 / y1 + 1 := by
    apply Int.ediv_lt_of_lt_mul hY
    have e:(u32 / y1 + 1) * (y1 * 4294967296 + y0) = (u32 / y1 * y1) * 4294967296 + y1 * 4294967296 + (u32 / y1 + 1) * y0 := by grind
    have := Int.mul_nonneg (show 0 ≤ u32 / y1 + 1 by have := Int.ediv_nonneg hn.1 (show 0 ≤ y1 by omega); omega) h0.1
    rw [e]
    generalize u32 / y1 * y1 = s at *
    generalize (u32 / y1 + 1) * y0 = t at *
    omega
  omega
theorem JXf {Y u32 u1 u0 q1 r1 q0:Int} (hY:0 < Y) (hn:0 ≤ u32) (h1:0 ≤ u1 ∧ u1 < 4294967296) (h0:0 ≤ u0 ∧ u0 < 4294967296) (e1:q1 = (u32 * 4294967296 + u1) / Y) (er:r1 = u32 * 4294967296 + u1 - q1 * Y) (e0:q0 = (r1 * 4294967296 + u0) / Y) :
    q1 * 4294967296 + q0 = ((u32 * 4294967296 + u1) * 4294967296 + u0) / Y ∧ r1 * 4294967296 + u0 - q0 * Y = ((u32 * 4294967296 + u1) * 4294967296 + u0) % Y ∧ 0 ≤ r1 ∧ r1 < Y := by
  have d1 := Int.mul_ediv_add_emod (u32 * 4294967296 + u1) Y
  have m1 := Int.emod_nonneg (u32 * 4294967296 + u1) (show Y ≠ 0 by omega)
  have m2 := Int.emod_lt_of_pos (u32 * 4294967296 + u1) hY
  have d0 := Int.mul_ediv_add_emod (r1 * 4294967296 + u0) Y
  have m3 := Int.emod_nonneg (r1 * 4294967296 + u0) (show Y ≠ 0 by omega)
  have m4 := Int.emod_lt_of_pos (r1 * 4294967296 + u0) hY
  rw [← e1] at d1
  rw [← e0] at d0
  have c1:Y * q1 = q1 * Y := Int.mul_comm _ _
  have c0:Y * q0 = q0 * Y := Int.mul_comm _ _
  rw [c1] at d1
  rw [c0] at d0
  have e:(u32 * 4294967296 + u1) * 4294967296 + u0 = (r1 * 4294967296 + u0 - q0 * Y) + Y * (q1 * 4294967296 + q0) := by
    have:Y * (q1 * 4294967296 + q0) = q1 * Y * 4294967296 + q0 * Y := by grind
    rw [this]
    generalize q1 * Y = s at *
    generalize q0 * Y = t at *
    omega
  have hlt:0 ≤ r1 * 4294967296 + u0 - q0 * Y ∧ r1 * 4294967296 + u0 - q0 * Y < Y := by omega
  refine ⟨?_,?_,by omega,by omega⟩
  · rw [e,Int.add_mul_ediv_left _ _ (show Y ≠ 0 by omega),Int.ediv_eq_zero_of_lt hlt.1 hlt.2]
    omega
  · rw [e,Int.add_mul_emod_self_left,Int.emod_eq_of_lt hlt.1 hlt.2]
def JEt:Tpl := ⟨[.one (.int .u64)],[],0⟩
section
variable (a:Int)
def ZK:Int:=
 bif decide (a ≥ 4294967296) then JV BinOp.shr IntKind.u64 a 32 else a
def Q5:Int:=
 bif decide (ZK a ≥ 65536) then JV BinOp.shr IntKind.u64 (ZK a) 16 else ZK a
def JWt:Int:=
 bif decide (a ≥ 4294967296) then 32 else 0
def JCk:Int:=
 bif decide (ZK a ≥ 65536) then IntKind.i64.wrap (JWt a + 16) else JWt a
def JO7:Int:=
 IntKind.i64.wrap ((bif decide (Q5 a ≥ 256) then IntKind.i64.wrap (JCk a + 8) else JCk a) + IntKind.i64.wrap (JC8 (ByteArray.mk (([0,1,2,2,3,3,3,3,4,4,4,4,4,4,4,4,5,5,5,5,5,5,5,5,5,5,5,5,5,5,5,5,6,6,6,6,6,6,6,6,6,6,6,6,6,6,6,6,6,6,6,6,6,6,6,6,6,6,6,6,6,6,6,6].append [7,7,7,7,7,7,7,7,7,7,7,7,7,7,7,7,7,7,7,7,7,7,7,7,7,7,7,7,7,7,7,7,7,7,7,7,7,7,7,7,7,7,7,7,7,7,7,7,7,7,7,7,7,7,7,7,7,7,7,7,7,7,7,7]).append ([8,8,8,8,8,8,8,8,8,8,8,8,8,8,8,8,8,8,8,8,8,8,8,8,8,8,8,8,8,8,8,8,8,8,8,8,8,8,8,8,8,8,8,8,8,8,8,8,8,8,8,8,8,8,8,8,8,8,8,8,8,8,8,8].append [8,8,8,8,8,8,8,8,8,8,8,8,8,8,8,8,8,8,8,8,8,8,8,8,8,8,8,8,8,8,8,8,8,8,8,8,8,8,8,8,8,8,8,8,8,8,8,8,8,8,8,8,8,8,8,8,8,8,8,8,8,8,8,8])).toArray) (IntKind.u8.wrap (bif decide (Q5 a ≥ 256) then JV BinOp.shr IntKind.u64 (Q5 a) 8 else Q5 a)).toNat))
def KO:Int:=
 IntKind.u8.wrap (bif decide (Q5 a ≥ 256) then JV BinOp.shr IntKind.u64 (Q5 a) 8 else Q5 a)
def JDx:List Prop:=
 [0 ≤ KO a,(KO a).toNat < 256]
end
def Jvh (T:ByteArray):Bool := (List.range 256).all fun k => decide (0 ≤ JC8 T k ∧ JC8 T k ≤ 8) && (Nat.beq k 0 && decide (JC8 T k = 0) || decide (1 ≤ JC8 T k ∧ 2 ^ ((JC8 T k).toNat - 1) ≤ k ∧ k < 2 ^ (JC8 T k).toNat))
theorem Jir:∃ T,Jvh T = true ∧ ∀ a,JO7 a = IntKind.i64.wrap ((bif decide (Q5 a ≥ 256) then IntKind.i64.wrap (JCk a + 8) else JCk a) + IntKind.i64.wrap (JC8 T (KO a).toNat)) := by
  refine ⟨_,?_,fun a => rfl⟩
  kernel_rfl
theorem Jsm (x:Int) (k:Nat) (h:0 ≤ x) (hk:k < 64):JV .shr .u64 x (k:Int) = x / 2 ^ k := by
  have e:min ((k:Int)).toNat IntKind.u64.bits = k := by
    have:IntKind.u64.bits = 64 := rfl
    rw [this,Int.toNat_natCast]
    omega
  unfold JV
  simp only [e]
  exact Int.fdiv_eq_ediv_of_nonneg _ (Int.le_of_lt (KL k))
theorem Jut {a:Int} (h0:0 ≤ a) (h1:a < 18446744073709551616):KO a = (bif decide (Q5 a ≥ 256) then Q5 a / 256 else Q5 a) ∧ 0 ≤ (bif decide (Q5 a ≥ 256) then Q5 a / 256 else Q5 a) ∧ (bif decide (Q5 a ≥ 256) then Q5 a / 256 else Q5 a) < 256 := by
  have e0:ZK a = bif decide (a ≥ 4294967296) then a / 4294967296 else a := by
    unfold ZK
    have := Jsm a 32 h0 (by omega)
    rw [show ((32:Nat):Int) = 32 from rfl] at this
    rw [this]
    rfl
  have r0:0 ≤ ZK a ∧ ZK a < 4294967296 := by
    rw [e0]
    by_cases h:a ≥ 4294967296
    · rw [decide_eq_true h,cond_true]; omega
    · rw [decide_eq_false h,cond_false]; omega
  have e1:Q5 a = bif decide (ZK a ≥ 65536) then ZK a / 65536 else ZK a := by
    unfold Q5
    have := Jsm (ZK a) 16 r0.1 (by omega)
    rw [show ((16:Nat):Int) = 16 from rfl] at this
    rw [this]
    rfl
  have r1:0 ≤ Q5 a ∧ Q5 a < 65536 := by
    rw [e1]
    by_cases h:ZK a ≥ 65536
    · rw [decide_eq_true h,cond_true]; omega
    · rw [decide_eq_false h,cond_false]; omega
  have r2:0 ≤ (bif decide (Q5 a ≥ 256) then Q5 a / 256 else Q5 a) ∧ (bif decide (Q5 a ≥ 256) then Q5 a / 256 else Q5 a) < 256 := by
    by_cases h:Q5 a ≥ 256
    · rw [decide_eq_true h,cond_true]; omega
    · rw [decide_eq_false h,cond_false]; omega
  refine ⟨?_,r2⟩
  unfold KO
  have := Jsm (Q5 a) 8 r1.1 (by omega)
  rw [show ((8:Nat):Int) = 8 from rfl] at this
  rw [this,show (2:Int) ^ 8 = 256 from rfl]
  generalize (bif decide (Q5 a ≥ 256) then Q5 a / 256 else Q5 a) = z at *
  unfold IntKind.wrap
  simp only [IntKind.bits,IntKind.signed]
  simp
  omega
theorem JtV {T:ByteArray} (h:Jvh T = true) {k:Nat} (hk:k < 256) (h0:0 < k):∃ t:Nat,JC8 T k = t ∧ 1 ≤ t ∧ t ≤ 8 ∧ 2 ^ (t - 1) ≤ k ∧ k < 2 ^ t := by
  unfold Jvh at h
  rw [List.all_eq_true] at h
  have := h k (List.mem_range.2 hk)
  have hb:Nat.beq k 0 = false := by
    cases hh:Nat.beq k 0
    · rfl
    · have := Nat.eq_of_beq_eq_true hh; omega
  simp only [hb,Bool.false_and,Bool.false_or,Bool.and_eq_true,decide_eq_true_eq] at this
  obtain ⟨⟨p1,p2⟩,p3,p4,p5⟩ := this
  refine ⟨(JC8 T k).toNat,by omega,by omega,by omega,p4,p5⟩
theorem Jtv {a z:Int} {b t:Nat} (hz:z * 2 ^ b ≤ a ∧ a < (z + 1) * 2 ^ b) (ht:1 ≤ t) (h1:(2:Int) ^ (t - 1) ≤ z) (h2:z < 2 ^ t):(2:Int) ^ (b + t - 1) ≤ a ∧ a < 2 ^ (b + t) := by
  have hb := KL b
  have e1:(2:Int) ^ (b + t - 1) = 2 ^ (t - 1) * 2 ^ b := by rw [← Int.pow_add]; congr 1; omega
  have e2:(2:Int) ^ (b + t) = 2 ^ t * 2 ^ b := by rw [← Int.pow_add]; congr 1; omega
  rw [e1,e2]
  have := Int.mul_le_mul_of_nonneg_right h1 (Int.le_of_lt hb)
  have := Int.mul_le_mul_of_nonneg_right (show z + 1 ≤ 2 ^ t by omega) (Int.le_of_lt hb)
  omega
theorem JoA {a:Int} (h0:0 < a) (h1:a < 18446744073709551616):∃ l:Nat,JO7 a = l ∧ 1 ≤ l ∧ l ≤ 64 ∧ (2:Int) ^ (l - 1) ≤ a ∧ a < 2 ^ l := by
  obtain ⟨T,hT,hf⟩ := Jir
  obtain ⟨e4,r0,r1⟩ := Jut (Int.le_of_lt h0) h1
  have key:∃ b:Nat,b ≤ 56 ∧ (bif decide (Q5 a ≥ 256) then IntKind.i64.wrap (JCk a + 8) else JCk a) = b ∧ KO a * 2 ^ b ≤ a ∧ a < (KO a + 1) * 2 ^ b ∧ 0 < KO a := by
    have e0:ZK a = bif decide (a ≥ 4294967296) then a / 4294967296 else a := by
      unfold ZK
      have := Jsm a 32 (by omega) (by omega)
      rw [show ((32:Nat):Int) = 32 from rfl] at this
      rw [this]; rfl
    have e1:0 ≤ ZK a → Q5 a = bif decide (ZK a ≥ 65536) then ZK a / 65536 else ZK a := fun h => by
      unfold Q5
      have := Jsm (ZK a) 16 h (by omega)
      rw [show ((16:Nat):Int) = 16 from rfl] at this
      rw [this]; rfl
    have p0:(2:Int) ^ 0 = 1 := rfl
    have p8:(2:Int) ^ 8 = 256 := rfl
    have p16:(2:Int) ^ 16 = 65536 := rfl
    have p24:(2:Int) ^ 24 = 16777216 := rfl
    have p32:(2:Int) ^ 32 = 4294967296 := rfl
    have p40:(2:Int) ^ 40 = 1099511627776 := rfl
    have p48:(2:Int) ^ 48 = 281474976710656 := rfl
    have p56:(2:Int) ^ 56 = 72057594037927936 := rfl
    unfold JCk JWt
    by_cases c0:a ≥ 4294967296
    · rw [decide_eq_true c0,cond_true] at e0
      have e1' := e1 (by omega)
      rw [decide_eq_true c0,cond_true]
      by_cases c1:ZK a ≥ 65536
      · rw [decide_eq_true c1,cond_true] at e1'
        rw [decide_eq_true c1,cond_true]
        by_cases c2:Q5 a ≥ 256
        · rw [decide_eq_true c2,cond_true] at e4
          rw [decide_eq_true c2,cond_true]
          exact ⟨56,by omega,rfl,by rw [p56]; omega,by rw [p56]; omega,by omega⟩
        · rw [decide_eq_false c2,cond_false] at e4
          rw [decide_eq_false c2,cond_false]
          exact ⟨48,by omega,rfl,by rw [p48]; omega,by rw [p48]; omega,by omega⟩
      · rw [decide_eq_false c1,cond_false] at e1'
        rw [decide_eq_false c1,cond_false]
        by_cases c2:Q5 a ≥ 256
        · rw [decide_eq_true c2,cond_true] at e4
          rw [decide_eq_true c2,cond_true]
          exact ⟨40,by omega,rfl,by rw [p40]; omega,by rw [p40]; omega,by omega⟩
        · rw [decide_eq_false c2,cond_false] at e4
          rw [decide_eq_false c2,cond_false]
          exact ⟨32,by omega,rfl,by rw [p32]; omega,by rw [p32]; omega,by omega⟩
    · rw [decide_eq_false c0,cond_false] at e0
      have e1' := e1 (by omega)
      rw [decide_eq_false c0,cond_false]
      by_cases c1:ZK a ≥ 65536
      · rw [decide_eq_true c1,cond_true] at e1'
        rw [decide_eq_true c1,cond_true]
        by_cases c2:Q5 a ≥ 256
        · rw [decide_eq_true c2,cond_true] at e4
          rw [decide_eq_true c2,cond_true]
          exact ⟨24,by omega,rfl,by rw [p24]; omega,by rw [p24]; omega,by omega⟩
        · rw [decide_eq_false c2,cond_false] at e4
          rw [decide_eq_false c2,cond_false]
          exact ⟨16,by omega,rfl,by rw [p16]; omega,by rw [p16]; omega,by omega⟩
      · rw [decide_eq_false c1,cond_false] at e1'
        rw [decide_eq_false c1,cond_false]
        by_cases c2:Q5 a ≥ 256
        · rw [decide_eq_true c2,cond_true] at e4
          rw [decide_eq_true c2,cond_true]
          exact ⟨8,by omega,rfl,by rw [p8]; omega,by rw [p8]; omega,by omega⟩
        · rw [decide_eq_false c2,cond_false] at e4
          rw [decide_eq_false c2,cond_false]
          exact ⟨0,by omega,rfl,by rw [p0]; omega,by rw [p0]; omega,by omega⟩
  obtain ⟨b,hb,eb,z1,z2,z0⟩ := key
  have hz:KO a < 256 := by omega
  obtain ⟨t,et,t1,t2,t3,t4⟩ := JtV hT (k := (KO a).toNat) (by omega) (by omega)
  have t3':(2:Int) ^ (t - 1) ≤ KO a := by
    have:((2 ^ (t - 1):Nat):Int) ≤ ((KO a).toNat:Int) := by exact_mod_cast t3
    push_cast at this
    omega
  have t4':KO a < (2:Int) ^ t := by
    have:((KO a).toNat:Int) < ((2 ^ t:Nat):Int) := by exact_mod_cast t4
    push_cast at this
    omega
  obtain ⟨s1,s2⟩ := Jtv ⟨z1,z2⟩ t1 t3' t4'
  refine ⟨b + t,?_,by omega,by omega,s1,s2⟩
  rw [hf,eb,et,Zy (x := (t:Int)) (by omega) (by omega),Zy (by omega) (by omega)]
  omega
theorem Jkp {a:Int} (hW:∀ q ∈ ([0 ≤ a,a < 18446744073709551616]:List Prop),q):∀ q ∈ (JDx a),q := by
  simp only [awc,awn,and_true] at hW
  intro q hq
  unfold JDx at hq
  simp only [List.mem_cons,List.not_mem_nil,or_false] at hq
  obtain ⟨h0,h1⟩ := hW
  obtain ⟨e0,r0,r1⟩ := Jut h0 h1
  rcases hq with rfl | rfl
  · rw [e0]; exact r0
  · rw [e0]; omega
theorem JiU (a:Int) (hNeeds:∀ pN ∈ (JDx a),pN):Runs (Jr (JB JQA) L0 177) (JEt.args [.i a]) (JEt.memo [.i a] []) JEt.n (SV.one (Ci (JO7 a))) ([]) :=
  Runs.of1 (ps := (JDx a)) (by kernel_rfl) hNeeds
def JQI:List Pm → Qm → Option CRes
  | [.i a],[] => some ⟨SV.one (Ci (JO7 a)),
 [],[0 ≤ a,a < 18446744073709551616],[],36⟩
  | _,_ => none
theorem JsC:Qg Tryz.prog 177 (JS JEt JQI) := by
  refine JH (JD JKm 177) fun ps ls r hr hn _ => ?_
  unfold JQI at hr
  split at hr
  · cases hr; exact ⟨_,JiU _ (Jkp (by exact hn)),fun _ => rfl⟩
  · cases hr
def Jcf:List (Nat × JY) := (177,JS JEt JQI) :: JQA
theorem JSX:Known Tryz.prog (JB Jcf) L0 := J7 JKm JsC
def JVp:Tpl := ⟨[.one (.int .u64)],[],0⟩
def XC (a:Int):Int :=
 IntKind.i64.wrap (64 - JO7 a)
def JOg (a:Int):List Prop :=
 [0 ≤ a,a < 18446744073709551616]
theorem JtM {a:Int} (hW:∀ q ∈ ([0 ≤ a,a < 18446744073709551616]:List Prop),q):∀ q ∈ (JOg a),q := by
  simp only [awc,awn,and_true] at hW
  intro q hq
  unfold JOg at hq
  simp only [List.mem_cons,List.not_mem_nil,or_false] at hq
  obtain ⟨h1,h2⟩ := hW
  rcases hq with rfl | rfl
  · exact h1
  · exact h2
theorem JtU (a:Int) (hNeeds:∀ pN ∈ (JOg a),pN):Runs (Jr (JB Jcf) L0 175) (JVp.args [.i a]) (JVp.memo [.i a] []) JVp.n (SV.one (Ci (XC a))) ([]) :=
  Runs.of1 (ps := (JOg a)) (by kernel_rfl) hNeeds
def Jiz:List Pm → Qm → Option CRes
  | [.i a],[] => some ⟨SV.one (Ci (XC a)),
 [],[0 ≤ a,a < 18446744073709551616],[],41⟩
  | _,_ => none
theorem JwN:Qg Tryz.prog 175 (JS JVp Jiz) := by
  refine JH (JD JSX 175) fun ps ls r hr hn _ => ?_
  unfold Jiz at hr
  split at hr
  · cases hr; exact ⟨_,JtU _ (JtM (by exact hn)),fun _ => rfl⟩
  · cases hr
def Jf3:List (Nat × JY) := (175,JS JVp Jiz) :: Jcf
theorem JgF:Known Tryz.prog (JB Jf3) L0 := J7 JSX JwN
def d1F (Yn u32 y1 y0 u u0 s:Int):Fam (Int × Int) Unit where
  k := 20
  E p := [(16,ent 1000000000 (.one (U p.2))),(15,ent 1000000001 (.one (U p.1))),(14,ent 90 (.one (U u0))),(13,ent 87 (.one (U u))),(11,ent 80 (.one (U u32))),(10,ent 71 (.one (U y0))),(9,ent 68 (.one (U y1))),(2,ent 65 (.one (U Yn))),(8,ent 61 (.one (U s)))]
  M _ := []
  out _ := .leaf (.exit 0) [(15,ent 102 (.one (U ((u32 * 4294967296 + u) / (y1 * 4294967296 + y0))))),(14,ent 90 (.one (U u0))),(13,ent 87 (.one (U u))),(11,ent 80 (.one (U u32))),(10,ent 71 (.one (U y0))),(9,ent 68 (.one (U y1))),(2,ent 65 (.one (U Yn))),(8,ent 61 (.one (U s)))] []
  fin _ := ()
  next p _ := (p.1 - 1,p.2 + y1)
  J p := AdjOk y1 y0 u32 u p.1 p.2
  μ p := (4294967296 - p.2).toNat
section
variable (Yn u32 y1 y0 u u0 s:Int) (p:Int × Int)
def Jlx:Int:=
 IntKind.u64.wrap (IntKind.u64.wrap (4294967296 * p.snd) + u)
def JsK:Int:=
 IntKind.u64.wrap (p.fst - 1)
def Jus:Int:=
 ((d1F Yn u32 y1 y0 u u0 s).next p 1).fst
def Jup:Int:=
 ((d1F Yn u32 y1 y0 u u0 s).next p 1).snd
def JW4:List Prop:=
 [(decide (p.fst ≥ 4294967296) || decide (IntKind.u64.wrap (p.fst * y0) > Jlx u p)) = true → (decide (IntKind.u64.wrap (p.snd + y1) ≥ 4294967296) = true → (u32 * 4294967296 + u) / (y1 * 4294967296 + y0) = JsK p) ∧ (decide (IntKind.u64.wrap (p.snd + y1) ≥ 4294967296) = false → AdjOk y1 y0 u32 u (Jus Yn u32 y1 y0 u u0 s p) (Jup Yn u32 y1 y0 u u0 s p) ∧ (d1F Yn u32 y1 y0 u u0 s).μ ((d1F Yn u32 y1 y0 u u0 s).next p 1) < (d1F Yn u32 y1 y0 u u0 s).μ p ∧ (d1F Yn u32 y1 y0 u u0 s).fin ((d1F Yn u32 y1 y0 u u0 s).next p 1) = (d1F Yn u32 y1 y0 u u0 s).fin p ∧ Jup Yn u32 y1 y0 u u0 s p = IntKind.u64.wrap (p.snd + y1) ∧ Jus Yn u32 y1 y0 u u0 s p = JsK p),(decide (p.fst ≥ 4294967296) || decide (IntKind.u64.wrap (p.fst * y0) > Jlx u p)) = false → (u32 * 4294967296 + u) / (y1 * 4294967296 + y0) = p.fst]
end
theorem Jrh (Yn u32 y1 y0 u u0 s:Int) (p:Int × Int) (hNeeds:∀ pN ∈ (JW4 Yn u32 y1 y0 u u0 s p),pN):Q4 (Xh (d1F Yn u32 y1 y0 u u0 s) (QW Tryz.prog (JB Jf3) L0 170 0) 101 p) :=
  Q4.of (ps := (JW4 Yn u32 y1 y0 u u0 s p)) (by kernel_rfl) (by kernel_rfl) hNeeds
theorem JvS {p q:Prop} (hp:p) (hq:q):∀ x ∈ [p,q],x := by
  intro x hx
  rcases List.mem_cons.1 hx with rfl | hx
  · exact hp
  rcases List.mem_cons.1 hx with rfl | hx
  · exact hq
  · cases hx
theorem Joe (Yn u32 y1 y0 u u0 s:Int):Z1 (d1F Yn u32 y1 y0 u u0 s) (QW Tryz.prog (JB Jf3) L0 170 0) 101 := by
  intro p hJ
  have hJ:AdjOk y1 y0 u32 u p.1 p.2 := hJ
  have hf := hJ.fit
  have hq := hJ.ub
  have hr := hJ.hr
  have h1 := hJ.h1
  have hu := hJ.hu
  have q0 := hJ.q0
  have e0:Jlx u p = 4294967296 * p.2 + u := by
    unfold Jlx
    rw [Yy (x := 4294967296 * p.2) (by omega) (by omega),Yy (by omega) (by omega)]
  have e1:1 ≤ p.1 → JsK p = p.1 - 1 := fun h => Yy (by omega) (by omega)
  have e2:IntKind.u64.wrap (p.1 * y0) = p.1 * y0 := Yy hf.1 hf.2
  have e3:IntKind.u64.wrap (p.2 + y1) = p.2 + y1 := Yy (by omega) (by omega)
  have hl := JMg h1 hJ.h0 hu hJ.hn
  refine Jrh Yn u32 y1 y0 u u0 s p ?_
  unfold JW4
  rw [e0,e2,e3]
  refine JvS ?_ ?_
  · intro hc
    rw [Bool.or_eq_true,decide_eq_true_eq,decide_eq_true_eq] at hc
    have hb := JNB hJ hc
    refine ⟨fun h => ?_,fun h => ?_⟩
    · rw [decide_eq_true_eq] at h
      rw [e1 (by omega)]
      exact (Jg8 hJ hc h).symm
    · rw [decide_eq_false_iff_not] at h
      refine ⟨hJ.next hc (by omega),?_,rfl,rfl,?_⟩
      · show (4294967296 - (p.2 + y1)).toNat < (4294967296 - p.2).toNat
        omega
      · rw [e1 (by omega)]; rfl
  · intro hc
    rw [Bool.or_eq_false_iff,decide_eq_false_iff_not,decide_eq_false_iff_not] at hc
    exact (JZo hJ (by omega)).symm
def d1L:QG := fun env mem m => match Wb env 2,Wb env 11,Wb env 9,Wb env 10,Wb env 13,Wb env 14,Wb env 8,Wb env 15,Wb env 16 with
  | some Yn,some u32,some y1,some y0,some u,some u0,some s,some q,some r => zD (d1F Yn u32 y1 y0 u u0 s) 101 (fun _ _ => some (q,r)) env mem m
  | _,_,_,_,_,_,_,_,_ => none
def JuO:FuncId → Nat → Option QG := JB6 L0 170 17 d1L
theorem JbV:Known Tryz.prog (JB Jf3) JuO := by
  refine Qf 0 JgF (by kernel_rfl) (Qs fun env mem m x h => ?_)
  unfold d1L at h
  have hlen:(QU Tryz.prog 170).length = 2 := by kernel_rfl
  split at h
  · exact ⟨_,XW (Qc X5 JgF (by omega)) (Joe _ _ _ _ _ _ _),h⟩
  · cases h
def d2F (Yn u32 y1 y0 u u0 s:Int):Fam (Int × Int) Unit where
  k := 20
  E p := [(16,ent 1000000000 (.one (U p.2))),(18,ent 1000000001 (.one (U p.1))),(17,ent 129 (.one (U u32))),(15,ent 102 (.one (U u0))),(14,ent 90 (.one (U u))),(10,ent 71 (.one (U y0))),(9,ent 68 (.one (U y1))),(2,ent 65 (.one (U Yn))),(8,ent 61 (.one (U s)))]
  M _ := []
  out _ := .leaf (.exit 2) [(18,ent 141 (.one (U ((u32 * 4294967296 + u) / (y1 * 4294967296 + y0))))),(17,ent 129 (.one (U u32))),(15,ent 102 (.one (U u0))),(14,ent 90 (.one (U u))),(2,ent 65 (.one (U Yn))),(8,ent 61 (.one (U s)))] []
  fin _ := ()
  next p _ := (p.1 - 1,p.2 + y1)
  J p := AdjOk y1 y0 u32 u p.1 p.2
  μ p := (4294967296 - p.2).toNat
section
variable (Yn u32 y1 y0 u u0 s:Int) (p:Int × Int)
def JmD:Int:=
 IntKind.u64.wrap (IntKind.u64.wrap (4294967296 * p.snd) + u)
def JsJ:Int:=
 IntKind.u64.wrap (p.fst - 1)
def Juw:Int:=
 ((d2F Yn u32 y1 y0 u u0 s).next p 1).fst
def Jv2:Int:=
 ((d2F Yn u32 y1 y0 u u0 s).next p 1).snd
def JWn:List Prop:=
 [(decide (p.fst ≥ 4294967296) || decide (IntKind.u64.wrap (p.fst * y0) > JmD u p)) = true → (decide (IntKind.u64.wrap (p.snd + y1) ≥ 4294967296) = true → (u32 * 4294967296 + u) / (y1 * 4294967296 + y0) = JsJ p) ∧ (decide (IntKind.u64.wrap (p.snd + y1) ≥ 4294967296) = false → AdjOk y1 y0 u32 u (Juw Yn u32 y1 y0 u u0 s p) (Jv2 Yn u32 y1 y0 u u0 s p) ∧ (d2F Yn u32 y1 y0 u u0 s).μ ((d2F Yn u32 y1 y0 u u0 s).next p 1) < (d2F Yn u32 y1 y0 u u0 s).μ p ∧ (d2F Yn u32 y1 y0 u u0 s).fin ((d2F Yn u32 y1 y0 u u0 s).next p 1) = (d2F Yn u32 y1 y0 u u0 s).fin p ∧ Jv2 Yn u32 y1 y0 u u0 s p = IntKind.u64.wrap (p.snd + y1) ∧ Juw Yn u32 y1 y0 u u0 s p = JsJ p),(decide (p.fst ≥ 4294967296) || decide (IntKind.u64.wrap (p.fst * y0) > JmD u p)) = false → (u32 * 4294967296 + u) / (y1 * 4294967296 + y0) = p.fst]
end
theorem Jpa (Yn u32 y1 y0 u u0 s:Int) (p:Int × Int) (hNeeds:∀ pN ∈ (JWn Yn u32 y1 y0 u u0 s p),pN):Q4 (Xh (d2F Yn u32 y1 y0 u u0 s) (QW Tryz.prog (JB Jf3) JuO 170 1) 140 p) :=
  Q4.of (ps := (JWn Yn u32 y1 y0 u u0 s p)) (by kernel_rfl) (by kernel_rfl) hNeeds
theorem Jp6 (Yn u32 y1 y0 u u0 s:Int):Z1 (d2F Yn u32 y1 y0 u u0 s) (QW Tryz.prog (JB Jf3) JuO 170 1) 140 := by
  intro p hJ
  have hJ:AdjOk y1 y0 u32 u p.1 p.2 := hJ
  have hf := hJ.fit
  have hq := hJ.ub
  have hr := hJ.hr
  have h1 := hJ.h1
  have hu := hJ.hu
  have q0 := hJ.q0
  have e0:JmD u p = 4294967296 * p.2 + u := by
    unfold JmD
    rw [Yy (x := 4294967296 * p.2) (by omega) (by omega),Yy (by omega) (by omega)]
  have e1:1 ≤ p.1 → JsJ p = p.1 - 1 := fun h => Yy (by omega) (by omega)
  have e2:IntKind.u64.wrap (p.1 * y0) = p.1 * y0 := Yy hf.1 hf.2
  have e3:IntKind.u64.wrap (p.2 + y1) = p.2 + y1 := Yy (by omega) (by omega)
  have hl := JMg h1 hJ.h0 hu hJ.hn
  refine Jpa Yn u32 y1 y0 u u0 s p ?_
  unfold JWn
  rw [e0,e2,e3]
  refine JvS ?_ ?_
  · intro hc
    rw [Bool.or_eq_true,decide_eq_true_eq,decide_eq_true_eq] at hc
    have hb := JNB hJ hc
    refine ⟨fun h => ?_,fun h => ?_⟩
    · rw [decide_eq_true_eq] at h
      rw [e1 (by omega)]
      exact (Jg8 hJ hc h).symm
    · rw [decide_eq_false_iff_not] at h
      refine ⟨hJ.next hc (by omega),?_,rfl,rfl,?_⟩
      · show (4294967296 - (p.2 + y1)).toNat < (4294967296 - p.2).toNat
        omega
      · rw [e1 (by omega)]; rfl
  · intro hc
    rw [Bool.or_eq_false_iff,decide_eq_false_iff_not,decide_eq_false_iff_not] at hc
    exact (JZo hJ (by omega)).symm
def d2L:QG := fun env mem m => match Wb env 2,Wb env 17,Wb env 9,Wb env 10,Wb env 14,Wb env 15,Wb env 8,Wb env 18,Wb env 16 with
  | some Yn,some u32,some y1,some y0,some u,some u0,some s,some q,some r => zD (d2F Yn u32 y1 y0 u u0 s) 140 (fun _ _ => some (q,r)) env mem m
  | _,_,_,_,_,_,_,_,_ => none
def JnA:FuncId → Nat → Option QG := JB6 JuO 170 24 d2L
theorem Jb7:Known Tryz.prog (JB Jf3) JnA := by
  refine Qf 1 JbV (by kernel_rfl) (Qs fun env mem m x h => ?_)
  unfold d2L at h
  have hlen:(QU Tryz.prog 170).length = 2 := by kernel_rfl
  split at h
  · exact ⟨_,XW (Qc X5 JbV (by omega)) (Jp6 _ _ _ _ _ _ _),h⟩
  · cases h
theorem Juf (x:Int) (k:Nat) (h:0 ≤ x) (hk:k ≤ 64):JV .shr .u64 x (k:Int) = x / 2 ^ k := by
  have e:min ((k:Int)).toNat IntKind.u64.bits = k := by
    have:IntKind.u64.bits = 64 := rfl
    rw [this,Int.toNat_natCast]
    omega
  unfold JV
  simp only [e]
  exact Int.fdiv_eq_ediv_of_nonneg _ (Int.le_of_lt (KL k))
theorem Jvl (x:Int) (k:Nat) (hk:k ≤ 64):JV .shl .u64 x (k:Int) = (x * 2 ^ k) % 18446744073709551616 := by
  have e:min ((k:Int)).toNat IntKind.u64.bits = k := by
    have:IntKind.u64.bits = 64 := rfl
    rw [this,Int.toNat_natCast]
    omega
  unfold JV
  simp only [e]
  exact JBi _
theorem orE {x y:Int} {s:Nat} {m:Int} (hm:0 ≤ m) (e:x = 2 ^ s * m) (hy:0 ≤ y ∧ y < 2 ^ s) (h:x + y < 18446744073709551616):Ze .or .u64 x y = x + y := by
  obtain ⟨n,rfl⟩ := Int.eq_ofNat_of_zero_le hm
  obtain ⟨z,rfl⟩ := Int.eq_ofNat_of_zero_le hy.1
  have er:x = ((2 ^ s * n:Nat):Int) := by rw [e]; push_cast; rfl
  have hz:z < 2 ^ s := by
    have:((z:Nat):Int) < ((2 ^ s:Nat):Int) := by push_cast; exact hy.2
    exact_mod_cast this
  have hor := Nat.two_pow_add_eq_or_of_lt hz n
  rw [er] at h ⊢
  generalize hq:2 ^ s * n = q at *
  have b1:q < 2 ^ 64 := by omega
  have b2:z < 2 ^ 64 := by omega
  have e1:(BitVec.ofInt 64 (q:Int)).toNat = q := by simp [BitVec.toNat_ofInt]; omega
  have e2:(BitVec.ofInt 64 (z:Int)).toNat = z := by simp [BitVec.toNat_ofInt]; omega
  have e3:(BitVec.ofInt 64 (q:Int) ||| BitVec.ofInt 64 (z:Int)).toNat = q + z := by rw [BitVec.toNat_or,e1,e2,hor]
  show IntKind.u64.wrap ((BitVec.ofInt 64 (q:Int) ||| BitVec.ofInt 64 (z:Int)).toNat:Int) = _
  rw [e3,Yy (by omega) (by omega)]
  push_cast; rfl
theorem Jvx {c:Int} (h0:0 < c) (h1:c < 18446744073709551616):∃ s:Nat,s ≤ 63 ∧ IntKind.u64.wrap (XC c) = s ∧ 9223372036854775808 ≤ c * 2 ^ s ∧ c * 2 ^ s < 18446744073709551616 ∧ JV .shl .u64 c (IntKind.u64.wrap (XC c)) = c * 2 ^ s := by
  obtain ⟨l,e,l1,l2,p1,p2⟩ := JoA h0 h1
  have es:IntKind.u64.wrap (XC c) = ((64 - l:Nat):Int) := by
    unfold XC
    rw [e,Zy (by omega) (by omega),Yy (by omega) (by omega)]
    omega
  have hp := KL (64 - l)
  have q1:(2:Int) ^ (l - 1) * 2 ^ (64 - l) = 9223372036854775808 := by
    rw [← Int.pow_add,show l - 1 + (64 - l) = 63 by omega]; rfl
  have q2:(2:Int) ^ l * 2 ^ (64 - l) = 18446744073709551616 := by
    rw [← Int.pow_add,show l + (64 - l) = 64 by omega]; rfl
  have g1 := Int.mul_le_mul_of_nonneg_right p1 (Int.le_of_lt hp)
  have g2 := Int.mul_lt_mul_of_pos_right p2 hp
  refine ⟨64 - l,by omega,es,by omega,by omega,?_⟩
  rw [es,Jvl _ _ (by omega)]
  exact Int.emod_eq_of_lt (by omega) (by omega)
theorem Jtw {a b c:Int} {s:Nat} (ha:0 ≤ a) (hac:a < c) (hb:0 ≤ b) (hb':b < 18446744073709551616) (hs:s ≤ 63) (hc:c * 2 ^ s < 18446744073709551616) :
    Ze .or .u64 (JV .shl .u64 a (s:Int)) (JV .shr .u64 b (IntKind.u64.wrap (64 - (s:Int)))) = a * 2 ^ s + b / 2 ^ (64 - s) ∧ 0 ≤ a * 2 ^ s + b / 2 ^ (64 - s) ∧ a * 2 ^ s + b / 2 ^ (64 - s) < c * 2 ^ s ∧
    (a * 2 ^ s + b / 2 ^ (64 - s)) * 18446744073709551616 + (b * 2 ^ s) % 18446744073709551616 = (a * 18446744073709551616 + b) * 2 ^ s := by
  have hp := KL s
  have hq := KL (64 - s)
  have e64:(2:Int) ^ (64 - s) * 2 ^ s = 18446744073709551616 := by rw [← Int.pow_add,show 64 - s + s = 64 by omega]; rfl
  have ew:IntKind.u64.wrap (64 - (s:Int)) = ((64 - s:Nat):Int) := by rw [Yy (by omega) (by omega)]; omega
  have g1 := Int.mul_le_mul_of_nonneg_right (show a + 1 ≤ c by omega) (Int.le_of_lt hp)
  have g2:(a + 1) * 2 ^ s = a * 2 ^ s + 2 ^ s := by rw [Int.add_mul,Int.one_mul]
  have g3 := Int.mul_nonneg ha (Int.le_of_lt hp)
  have hr:0 ≤ b / 2 ^ (64 - s) ∧ b / 2 ^ (64 - s) < 2 ^ s := by
    refine ⟨Int.ediv_nonneg hb (Int.le_of_lt hq),Int.ediv_lt_of_lt_mul hq ?_⟩
    rw [Int.mul_comm,e64]; exact hb'
  have ed:b / 2 ^ (64 - s) = (b * 2 ^ s) / 18446744073709551616 := by
    rw [← e64,Int.mul_ediv_mul_of_pos_left _ _ hp]
  have dm := Int.mul_ediv_add_emod (b * 2 ^ s) 18446744073709551616
  refine ⟨?_,by omega,by omega,?_⟩
  · rw [ew,Jvl _ _ (by omega),Juf _ _ hb (by omega),Int.emod_eq_of_lt (by omega) (by omega)]
    exact orE ha (Int.mul_comm _ _) hr (by omega)
  · rw [ed]
    have e5:(a * 18446744073709551616 + b) * 2 ^ s = a * 2 ^ s * 18446744073709551616 + b * 2 ^ s := by grind
    rw [e5,Int.add_mul]
    omega
theorem JvV (x u z:Int):IntKind.u64.wrap (IntKind.u64.wrap (IntKind.u64.wrap x + u) - IntKind.u64.wrap z) = (x + u - z) % 18446744073709551616 := by
  rw [JBi,JBi,JBi,JBi]
  omega
structure DivParts (a b c:Int):Prop where
  ex:∃ (s:Nat) (Y u32 u1 u0 q1 r1 q0:Int),s ≤ 63 ∧ IntKind.u64.wrap (XC c) = (s:Int) ∧ JV .shl .u64 c (IntKind.u64.wrap (XC c)) = Y ∧ Y = c * 2 ^ s ∧ 9223372036854775808 ≤ Y ∧ Y < 18446744073709551616 ∧
    JV .shr .u64 Y 32 = Y / 4294967296 ∧ Ze .and .u64 Y 4294967295 = Y % 4294967296 ∧
    Ze .or .u64 (JV .shl .u64 a (IntKind.u64.wrap (XC c))) (JV .shr .u64 b (IntKind.u64.wrap (64 - IntKind.u64.wrap (XC c)))) = u32 ∧ 0 ≤ u32 ∧ u32 < Y ∧
    JV .shr .u64 (JV .shl .u64 b (IntKind.u64.wrap (XC c))) 32 = u1 ∧ Ze .and .u64 (JV .shl .u64 b (IntKind.u64.wrap (XC c))) 4294967295 = u0 ∧ 0 ≤ u1 ∧ u1 < 4294967296 ∧ 0 ≤ u0 ∧ u0 < 4294967296 ∧
    (u32 * 4294967296 + u1) * 4294967296 + u0 = (a * 18446744073709551616 + b) * 2 ^ s ∧
    q1 = (u32 * 4294967296 + u1) / Y ∧ r1 = u32 * 4294967296 + u1 - q1 * Y ∧ q0 = (r1 * 4294967296 + u0) / Y ∧ 0 ≤ r1 ∧ r1 < Y
theorem Jba {a b c:Int} (ha:0 ≤ a) (hac:a < c) (hb:0 ≤ b) (hb':b < 18446744073709551616) (hc:c < 18446744073709551616):DivParts a b c := by
  obtain ⟨s,s63,es,y1,y2,ey⟩ := Jvx (c := c) (by omega) hc
  obtain ⟨n1,n2,n3,n4⟩ := Jtw ha hac hb hb' s63 y2
  have eb:JV .shl .u64 b (s:Int) = (b * 2 ^ s) % 18446744073709551616 := Jvl _ _ (by omega)
  have m1 := Int.emod_nonneg (b * 2 ^ s) (show (18446744073709551616:Int) ≠ 0 by omega)
  have m2 := Int.emod_lt_of_pos (b * 2 ^ s) (show (0:Int) < 18446744073709551616 by omega)
  have hd := JXf (Y := c * 2 ^ s) (u32 := a * 2 ^ s + b / 2 ^ (64 - s)) (u1 := (b * 2 ^ s) % 18446744073709551616 / 4294967296) (u0 := (b * 2 ^ s) % 18446744073709551616 % 4294967296) (by omega) n2 (by omega) (by omega) rfl rfl rfl
  refine ⟨s,c * 2 ^ s,a * 2 ^ s + b / 2 ^ (64 - s),(b * 2 ^ s) % 18446744073709551616 / 4294967296,(b * 2 ^ s) % 18446744073709551616 % 4294967296,_,_,_,s63,es,ey,rfl,y1,y2,JZU _ (by omega),Jgp _ (by omega) y2,?_,n2,n3,?_,?_,by omega,by omega,by omega,by omega,?_,rfl,rfl,rfl,hd.2.2.1,hd.2.2.2⟩
  · rw [es]; exact n1
  · rw [es,eb,JZU _ m1]
  · rw [es,eb,Jgp _ m1 m2]
  · rw [← n4]
    generalize (b * 2 ^ s) % 18446744073709551616 = z at *
    generalize a * 2 ^ s + b / 2 ^ (64 - s) = w at *
    omega
def JG7:Tpl := ⟨[.one (.int .u64),.one (.int .u64),.one (.int .u64)],[],0⟩
section
variable (a b c:Int)
def JCn:Int:=
 Ze BinOp.or IntKind.u64 (JV BinOp.shl IntKind.u64 a (IntKind.u64.wrap (XC c))) (JV BinOp.shr IntKind.u64 b (IntKind.u64.wrap (64 - IntKind.u64.wrap (XC c)))) * 4294967296
def JCs:Int:=
 JV BinOp.shr IntKind.u64 (JV BinOp.shl IntKind.u64 c (IntKind.u64.wrap (XC c))) 32 * 4294967296 + Ze BinOp.and IntKind.u64 (JV BinOp.shl IntKind.u64 c (IntKind.u64.wrap (XC c))) 4294967295
def ZE:Int:=
 bif a == 0 then IntKind.u64.wrap (b.tdiv c) else IntKind.u64.wrap (IntKind.u64.wrap ((JCn a b c + JV BinOp.shr IntKind.u64 (JV BinOp.shl IntKind.u64 b (IntKind.u64.wrap (XC c))) 32) / JCs c * 4294967296) + (IntKind.u64.wrap (IntKind.u64.wrap (IntKind.u64.wrap (JCn a b c) + JV BinOp.shr IntKind.u64 (JV BinOp.shl IntKind.u64 b (IntKind.u64.wrap (XC c))) 32) - IntKind.u64.wrap ((JCn a b c + JV BinOp.shr IntKind.u64 (JV BinOp.shl IntKind.u64 b (IntKind.u64.wrap (XC c))) 32) / JCs c * JV BinOp.shl IntKind.u64 c (IntKind.u64.wrap (XC c)))) * 4294967296 + Ze BinOp.and IntKind.u64 (JV BinOp.shl IntKind.u64 b (IntKind.u64.wrap (XC c))) 4294967295) / JCs c)
def JNY:Int:=
 IntKind.u64.wrap (IntKind.u64.wrap (IntKind.u64.wrap (JCn a b c) + JV BinOp.shr IntKind.u64 (JV BinOp.shl IntKind.u64 b (IntKind.u64.wrap (XC c))) 32) - IntKind.u64.wrap ((JCn a b c + JV BinOp.shr IntKind.u64 (JV BinOp.shl IntKind.u64 b (IntKind.u64.wrap (XC c))) 32) / JCs c * JV BinOp.shl IntKind.u64 c (IntKind.u64.wrap (XC c)))) * 4294967296
def ZF:Int:=
 bif a == 0 then b.tmod c else JV BinOp.shr IntKind.u64 (IntKind.u64.wrap (IntKind.u64.wrap (IntKind.u64.wrap (JNY a b c) + Ze BinOp.and IntKind.u64 (JV BinOp.shl IntKind.u64 b (IntKind.u64.wrap (XC c))) 4294967295) - IntKind.u64.wrap ((JNY a b c + Ze BinOp.and IntKind.u64 (JV BinOp.shl IntKind.u64 b (IntKind.u64.wrap (XC c))) 4294967295) / JCs c * JV BinOp.shl IntKind.u64 c (IntKind.u64.wrap (XC c))))) (IntKind.u64.wrap (XC c))
def Yf:Int:=
 IntKind.u64.wrap (64 - IntKind.u64.wrap (XC c))
def kQ:Int:=
 IntKind.u64.wrap ((Ze BinOp.or IntKind.u64 (JV BinOp.shl IntKind.u64 a (IntKind.u64.wrap (XC c))) (JV BinOp.shr IntKind.u64 b (Yf c))).tdiv (JV BinOp.shr IntKind.u64 (JV BinOp.shl IntKind.u64 c (IntKind.u64.wrap (XC c))) 32))
def JCm:Int:=
 IntKind.u64.wrap (Ze BinOp.or IntKind.u64 (JV BinOp.shl IntKind.u64 a (IntKind.u64.wrap (XC c))) (JV BinOp.shr IntKind.u64 b (Yf c)) - IntKind.u64.wrap (kQ a b c * JV BinOp.shr IntKind.u64 (JV BinOp.shl IntKind.u64 c (IntKind.u64.wrap (XC c))) 32))
def JXN:Int:=
 Ze BinOp.or IntKind.u64 (JV BinOp.shl IntKind.u64 a (IntKind.u64.wrap (XC c))) (JV BinOp.shr IntKind.u64 b (Yf c)) * 4294967296
def JIV:Int:=
 IntKind.u64.wrap (IntKind.u64.wrap (IntKind.u64.wrap (JXN a b c) + JV BinOp.shr IntKind.u64 (JV BinOp.shl IntKind.u64 b (IntKind.u64.wrap (XC c))) 32) - IntKind.u64.wrap ((JXN a b c + JV BinOp.shr IntKind.u64 (JV BinOp.shl IntKind.u64 b (IntKind.u64.wrap (XC c))) 32) / (JV BinOp.shr IntKind.u64 (JV BinOp.shl IntKind.u64 c (IntKind.u64.wrap (XC c))) 32 * 4294967296 + Ze BinOp.and IntKind.u64 (JV BinOp.shl IntKind.u64 c (IntKind.u64.wrap (XC c))) 4294967295) * JV BinOp.shl IntKind.u64 c (IntKind.u64.wrap (XC c))))
def JAE:Int:=
 IntKind.u64.wrap ((JIV a b c).tdiv (JV BinOp.shr IntKind.u64 (JV BinOp.shl IntKind.u64 c (IntKind.u64.wrap (XC c))) 32))
def JCE:Int:=
 IntKind.u64.wrap (JIV a b c - IntKind.u64.wrap (JAE a b c * JV BinOp.shr IntKind.u64 (JV BinOp.shl IntKind.u64 c (IntKind.u64.wrap (XC c))) 32))
def JDI:List Prop:=
 [(c == 0) = false,decide (c ≤ a) = false,(a == 0) = true → c ≠ 0 ∧ c ≠ 0,(a == 0) = false → 0 ≤ c ∧ c < 18446744073709551616 ∧ 0 ≤ IntKind.u64.wrap (XC c) ∧ 0 ≤ IntKind.u64.wrap (XC c) ∧ 0 ≤ Yf c ∧ 0 ≤ IntKind.u64.wrap (XC c) ∧ JV BinOp.shr IntKind.u64 (JV BinOp.shl IntKind.u64 c (IntKind.u64.wrap (XC c))) 32 ≠ 0 ∧ AdjOk (JV BinOp.shr IntKind.u64 (JV BinOp.shl IntKind.u64 c (IntKind.u64.wrap (XC c))) 32) (Ze BinOp.and IntKind.u64 (JV BinOp.shl IntKind.u64 c (IntKind.u64.wrap (XC c))) 4294967295) (Ze BinOp.or IntKind.u64 (JV BinOp.shl IntKind.u64 a (IntKind.u64.wrap (XC c))) (JV BinOp.shr IntKind.u64 b (Yf c))) (JV BinOp.shr IntKind.u64 (JV BinOp.shl IntKind.u64 b (IntKind.u64.wrap (XC c))) 32) (kQ a b c,JCm a b c).fst (kQ a b c,JCm a b c).snd ∧ (kQ a b c,JCm a b c).snd = JCm a b c ∧ (kQ a b c,JCm a b c).fst = kQ a b c ∧ JV BinOp.shr IntKind.u64 (JV BinOp.shl IntKind.u64 c (IntKind.u64.wrap (XC c))) 32 ≠ 0 ∧ AdjOk (JV BinOp.shr IntKind.u64 (JV BinOp.shl IntKind.u64 c (IntKind.u64.wrap (XC c))) 32) (Ze BinOp.and IntKind.u64 (JV BinOp.shl IntKind.u64 c (IntKind.u64.wrap (XC c))) 4294967295) (JIV a b c) (Ze BinOp.and IntKind.u64 (JV BinOp.shl IntKind.u64 b (IntKind.u64.wrap (XC c))) 4294967295) (JAE a b c,JCE a b c).fst (JAE a b c,JCE a b c).snd ∧ (JAE a b c,JCE a b c).snd = JCE a b c ∧ (JAE a b c,JCE a b c).fst = JAE a b c ∧ 0 ≤ IntKind.u64.wrap (XC c)]
end
theorem JiA {a:Int} {b:Int} {c:Int} (hW:∀ q ∈ ([0 ≤ a,a < c,0 ≤ b,b < 18446744073709551616,c < 18446744073709551616]:List Prop),q):∀ q ∈ (JDI a b c),q := by
  simp only [awc,awn,and_true] at hW
  unfold JDI
  simp only [awc,awn,and_true]
  obtain ⟨ha,hac,hb,hb',hc⟩ := hW
  refine ⟨by simp; omega,by simp; omega,fun _ => ⟨by omega,by omega⟩,fun _ => ?_⟩
  obtain ⟨s,Y,u32,u1,u0,q1,r1,q0,s63,es,ey,eY,y1,y2,ey1,ey0,eu,v0,v1,e1,e0,p1,p2,p3,p4,en,eq1,er1,eq0,t0,t1⟩ := (Jba ha hac hb hb' hc).ex
  have ew:0 ≤ IntKind.u64.wrap (XC c) := by rw [es]; omega
  have ew3:0 ≤ Yf c := by unfold Yf; rw [es,Yy (by omega) (by omega)]; omega
  have hy1:2147483648 ≤ Y / 4294967296 ∧ Y / 4294967296 < 4294967296 := by omega
  have hy0:0 ≤ Y % 4294967296 ∧ Y % 4294967296 < 4294967296 := by omega
  have hYY:Y / 4294967296 * 4294967296 + Y % 4294967296 = Y := by omega
  have first:∀ {x u:Int},0 ≤ x → x < Y → 0 ≤ u → u < 4294967296 → AdjOk (Y / 4294967296) (Y % 4294967296) x u (IntKind.u64.wrap (x.tdiv (Y / 4294967296))) (IntKind.u64.wrap (x - IntKind.u64.wrap (IntKind.u64.wrap (x.tdiv (Y / 4294967296)) * (Y / 4294967296)))) := fun {x u} g1 g2 g3 g4 => by
    have A := Jp8 (y1 := Y / 4294967296) (y0 := Y % 4294967296) (u32 := x) (u := u) hy1 hy0 ⟨g3,g4⟩ (by omega)
    have hd := Int.mul_ediv_add_emod x (Y / 4294967296)
    have hm1 := Int.emod_nonneg x (show Y / 4294967296 ≠ 0 by omega)
    have hm2 := Int.emod_lt_of_pos x (show 0 < Y / 4294967296 by omega)
    have hcm:Y / 4294967296 * (x / (Y / 4294967296)) = x / (Y / 4294967296) * (Y / 4294967296) := Int.mul_comm _ _
    rw [hcm] at hd
    have ub := A.ub
    have q0 := A.q0
    have qn := Int.mul_nonneg q0 (show 0 ≤ Y / 4294967296 by omega)
    have e1:IntKind.u64.wrap (x.tdiv (Y / 4294967296)) = x / (Y / 4294967296) := by
      rw [Int.tdiv_eq_ediv_of_nonneg g1,Yy q0 (by omega)]
    rw [e1,Yy (x := x / (Y / 4294967296) * (Y / 4294967296)) (by omega) (by omega),Yy (by omega) (by omega)]
    exact A
  have e4:kQ a b c = IntKind.u64.wrap (u32.tdiv (Y / 4294967296)) := by unfold kQ Yf; rw [eu,ey,ey1]
  have e5:JCm a b c = IntKind.u64.wrap (u32 - IntKind.u64.wrap (IntKind.u64.wrap (u32.tdiv (Y / 4294967296)) * (Y / 4294967296))) := by unfold JCm; rw [e4]; unfold Yf; rw [eu,ey,ey1]
  have e7:JIV a b c = r1 := by
    unfold JIV JXN Yf
    rw [eu,ey,ey1,ey0,e1,hYY,JvV,← eq1,← er1]
    exact Int.emod_eq_of_lt t0 (by omega)
  have e8:JAE a b c = IntKind.u64.wrap (r1.tdiv (Y / 4294967296)) := by unfold JAE; rw [e7,ey,ey1]
  have e9:JCE a b c = IntKind.u64.wrap (r1 - IntKind.u64.wrap (IntKind.u64.wrap (r1.tdiv (Y / 4294967296)) * (Y / 4294967296))) := by unfold JCE; rw [e7,e8,ey,ey1]
  rw [e4,e5,e7,e8,e9]
  unfold Yf at ew3 ⊢
  rw [eu,ey,ey1,ey0,e1,e0]
  exact ⟨by omega,by omega,ew,ew,ew3,ew,by omega,first v0 v1 p1 p2,trivial,trivial,by omega,first t0 t1 p3 p4,trivial,trivial,ew⟩
theorem Jkm (a b c:Int) (hNeeds:∀ pN ∈ (JDI a b c),pN):Runs (Jr (JB Jf3) JnA 170) (JG7.args [.i a,.i b,.i c]) (JG7.memo [.i a,.i b,.i c] []) JG7.n (SV.tup [(false,[SC.int IntKind.u64 (SI.v (ZE a b c))]),(false,[SC.int IntKind.u64 (SI.v (ZF a b c))])]) ([]) :=
  Runs.of1 (ps := (JDI a b c)) (by kernel_rfl) hNeeds
def JS1:List Pm → Qm → Option CRes
  | [.i a,.i b,.i c],[] => some ⟨SV.tup [(false,[SC.int IntKind.u64 (SI.v (ZE a b c))]),(false,[SC.int IntKind.u64 (SI.v (ZF a b c))])],
 [],[0 ≤ a,a < c,0 ≤ b,b < 18446744073709551616,c < 18446744073709551616],[],176⟩
  | _,_ => none
theorem Jsc:Qg Tryz.prog 170 (JS JG7 JS1) := by
  refine JH (JD Jb7 170) fun ps ls r hr hn _ => ?_
  unfold JS1 at hr
  split at hr
  · cases hr; exact ⟨_,Jkm _ _ _ (JiA (by exact hn)),fun _ => rfl⟩
  · cases hr
def JK2:List (Nat × JY) := (170,JS JG7 JS1) :: Jf3
theorem JSd:Known Tryz.prog (JB JK2) JnA := J7 Jb7 Jsc
theorem JKI {a b c:Int} (ha:0 ≤ a) (hac:a < c) (hb:0 ≤ b) (hb':b < 18446744073709551616) (hc:c < 18446744073709551616) :
    ZE a b c = (a * 18446744073709551616 + b) / c ∧ ZF a b c = (a * 18446744073709551616 + b) % c := by
  unfold ZE ZF
  by_cases h:a = 0
  · subst h
    rw [show ((0:Int) == 0) = true from rfl,cond_true,cond_true,Int.tdiv_eq_ediv_of_nonneg hb,Int.tmod_eq_emod_of_nonneg hb,Int.zero_mul,Int.zero_add]
    refine ⟨Yy (Int.ediv_nonneg hb (by omega)) ?_,rfl⟩
    have := Int.ediv_le_self c hb
    omega
  · rw [show (a == 0) = false by simpa using h,cond_false,cond_false]
    obtain ⟨s,Y,u32,u1,u0,q1,r1,q0,s63,es,ey,eY,y1,y2,ey1,ey0,eu,v0,v1,e1,e0,p1,p2,p3,p4,en,eq1,er1,eq0,t0,t1⟩ := (Jba ha hac hb hb' hc).ex
    have hYY:Y / 4294967296 * 4294967296 + Y % 4294967296 = Y := by omega
    have hd := JXf (Y := Y) (by omega) v0 ⟨p1,p2⟩ ⟨p3,p4⟩ eq1 er1 eq0
    have es1:JCs c = Y := by unfold JCs; rw [ey,ey1,ey0,hYY]
    have es0:JCn a b c = u32 * 4294967296 := by unfold JCn; rw [eu]
    have er:IntKind.u64.wrap (IntKind.u64.wrap (IntKind.u64.wrap (u32 * 4294967296) + u1) - IntKind.u64.wrap (q1 * Y)) = r1 := by
      rw [JvV,← er1]; exact Int.emod_eq_of_lt t0 (by omega)
    have es2:JNY a b c = r1 * 4294967296 := by
      unfold JNY
      rw [es0,es1,e1,ey,← eq1,er]
    have l1 := JMg (y1 := Y / 4294967296) (y0 := Y % 4294967296) (u32 := u32) (u := u1) (by omega) (by omega) (by omega) (by omega)
    have l0 := JMg (y1 := Y / 4294967296) (y0 := Y % 4294967296) (u32 := r1) (u := u0) (by omega) (by omega) (by omega) (by omega)
    rw [hYY,← eq1] at l1
    rw [hYY,← eq0] at l0
    have hp := KL s
    have m3 := Int.emod_nonneg ((u32 * 4294967296 + u1) * 4294967296 + u0) (show Y ≠ 0 by omega)
    have m4 := Int.emod_lt_of_pos ((u32 * 4294967296 + u1) * 4294967296 + u0) (show 0 < Y by omega)
    rw [← hd.2.1] at m3 m4
    constructor
    · rw [es0,es1,e1,e0,ey,← eq1,er,← eq0,Yy (x := q1 * 4294967296) (by omega) (by omega),Yy (by omega) (by omega),hd.1,en,eY,Int.mul_ediv_mul_of_pos_left _ _ hp]
    · rw [es2,es1,e0,ey,← eq0,JvV,Int.emod_eq_of_lt m3 (by omega),es,Juf _ _ m3 (by omega),hd.2.1,en,eY,Int.mul_comm _ (2 ^ s),Int.mul_comm c,Int.mul_emod_mul_of_pos _ _ hp,Int.mul_ediv_cancel_left _ (by omega)]
theorem Jk (x:Int):XT (IntKind.i64.wrap x) := by
  unfold IntKind.wrap XT
  simp only [IntKind.bits,IntKind.signed]
  simp
  omega
theorem Ju4 (a b:Int) (h:1 ≤ b) (hb:b ≤ 4611686018427387904):0 ≤ JVP a b ∧ JVP a b < b := by
  unfold JVP
  have h1 := Int.tmod_lt_of_pos a (b := b) (by omega)
  have h2:-b < a.tmod b := by
    have := Int.tmod_lt_of_pos (-a) (b := b) (by omega)
    rw [Int.neg_tmod] at this
    omega
  by_cases h3:a.tmod b < 0
  · simp only [h3,decide_true,cond_true]
    rw [Zy (by omega) (by omega)]
    omega
  · simp only [h3,decide_false,cond_false]
    omega
abbrev bd (m x:Int):Prop := -m ≤ x ∧ x ≤ m
theorem XR {a c:Int} (ha:bd 1000000000 a) (hc:bd 1000000000 c):J0 a c = a - c := by unfold J0; rw [Zy (by omega) (by omega)]
theorem JXc {a c:Int} (ha:bd 1000000000 a) (hc:bd 1000000000 c):JI a c = a + c := by unfold JI; rw [Zy (by omega) (by omega)]
theorem JGf {m n x y:Int} (hx:bd m x) (hy:bd n y) (hm:0 ≤ m) (hn:0 ≤ n):bd (m * n) (x * y) := by
  have h:∀ u v:Int,0 ≤ u → u ≤ m → 0 ≤ v → v ≤ n → 0 ≤ u * v ∧ u * v ≤ m * n := fun u v h1 h2 h3 h4 => ⟨Int.mul_nonneg h1 h3,Int.mul_le_mul h2 h4 h3 hm⟩
  by_cases h1:0 ≤ x <;> by_cases h2:0 ≤ y
  · have := h x y h1 (by omega) h2 (by omega); constructor <;> omega
  · have := h x (-y) h1 (by omega) (by omega) (by omega); rw [Int.mul_neg] at this; constructor <;> omega
  · have := h (-x) y (by omega) (by omega) h2 (by omega); rw [Int.neg_mul] at this; constructor <;> omega
  · have := h (-x) (-y) (by omega) (by omega) (by omega) (by omega); rw [Int.neg_mul_neg] at this; constructor <;> omega
theorem Zx {a b c d:Int} (ha:bd 1000000000 a) (hb:bd 1000000000 b) (hc:bd 1000000000 c) (hd:bd 1000000000 d):JE a b c d = a * d - b * c := by
  have h1 := JGf ha hd (by omega) (by omega)
  have h2 := JGf hb hc (by omega) (by omega)
  unfold JE
  generalize a * d = p at *
  generalize b * c = q at *
  rw [Zy (x := p) (by omega) (by omega),Zy (x := q) (by omega) (by omega),Zy (by omega) (by omega)]
theorem Kf {a b c d:Int} (ha:bd 1000000000 a) (hb:bd 1000000000 b) (hc:bd 1000000000 c) (hd:bd 1000000000 d):J8 a b c d = a * c + b * d := by
  have h1 := JGf ha hc (by omega) (by omega)
  have h2 := JGf hb hd (by omega) (by omega)
  unfold J8
  generalize a * c = p at *
  generalize b * d = q at *
  rw [Zy (x := p) (by omega) (by omega),Zy (x := q) (by omega) (by omega),Zy (by omega) (by omega)]
theorem JCH (x y:Int):(x < y ∧ K6 x y = -1) ∨ (x = y ∧ K6 x y = 0) ∨ (y < x ∧ K6 x y = 1) := by
  unfold K6
  by_cases h:x < y
  · exact .inl ⟨h,if_pos h⟩
  · by_cases h2:x = y
    · exact .inr (.inl ⟨h2,by rw [if_neg h,if_pos h2]⟩)
    · exact .inr (.inr ⟨by omega,by rw [if_neg h,if_neg h2]⟩)
theorem JWU {x y:Int} (h:x ≠ 0 ∨ y ≠ 0):0 < x * x + y * y := by
  have h1:∀ z:Int,0 ≤ z * z := fun z => by
    rcases Int.le_total 0 z with h | h
    · exact Int.mul_nonneg h h
    · have := Int.mul_nonneg (show 0 ≤ -z by omega) (show 0 ≤ -z by omega)
      rwa [Int.neg_mul_neg] at this
  have h2:∀ z:Int,z ≠ 0 → 0 < z * z := fun z hz => by
    have := h1 z
    have:z * z ≠ 0 := Int.mul_ne_zero hz hz
    omega
  rcases h with h | h
  · have := h2 x h; have := h1 y; omega
  · have := h2 y h; have := h1 x; omega
theorem qD {c n:Int} (hn:0 < n) (h:0 < c * n):0 < c := by
  rcases Int.lt_or_le 0 c with h1 | h1
  · exact h1
  · have := Int.mul_nonneg (show 0 ≤ -c by omega) (show 0 ≤ n by omega)
    rw [Int.neg_mul] at this
    omega
theorem JaT {c n:Int} (hn:0 < n) (h:c * n < 0):c < 0 := by
  have := qD (c := -c) hn (by rw [Int.neg_mul]; omega)
  omega
theorem JW6 {c n:Int} (hn:0 < n) (h:0 < c):0 < c * n := Int.mul_pos h hn
theorem Jiu {c n:Int} (hn:0 < n) (h:c < 0):c * n < 0 := by
  have := Int.mul_pos (show 0 < -c by omega) hn
  rw [Int.neg_mul] at this
  omega
theorem Jri {x y u v:Int} (hc:x * v = y * u) (hs:0 < y * v):0 < x * u + y * v := by
  have hv:v ≠ 0 := fun h => by rw [h,Int.mul_zero] at hs; omega
  have h1 := JWU (x := u) (y := v) (.inr hv)
  have h2:(x * u + y * v) * (v * v) = (y * v) * (u * u + v * v) := by grind
  have h3:0 < v * v := by have := JWU (x := 0) (y := v) (.inr hv); simpa using this
  exact qD h3 (by rw [h2]; exact Int.mul_pos hs h1)
theorem Jjp {x y u v c d:Int} (hp:x ≠ 0 ∨ y ≠ 0) (hb:u ≠ 0 ∨ v ≠ 0) (hc1:0 < c ↔ 0 < x * v - y * u) (hc2:c < 0 ↔ x * v - y * u < 0) (hd:0 < d ↔ 0 < x * u + y * v) :
    (((c < 0 ∨ c = 0 ∧ 0 < d) ∧ (¬ (v < 0 ∨ v = 0 ∧ 0 < u) ∨ y ≤ 0)) ∨ (¬ (c < 0 ∨ c = 0 ∧ 0 < d) ∧ ¬ (v < 0 ∨ v = 0 ∧ 0 < u) ∧ y ≤ 0)) ↔
    (((y < 0 ∨ y = 0 ∧ 0 < x) ∧ (¬ (v < 0 ∨ v = 0 ∧ 0 < u) ∨ c ≤ 0)) ∨ (¬ (y < 0 ∨ y = 0 ∧ 0 < x) ∧ ¬ (v < 0 ∨ v = 0 ∧ 0 < u) ∧ c ≤ 0)) := by
  have key:c = 0 → 0 < y * v → 0 < d := fun h1 h2 => hd.2 (Jri (by omega) h2)
  have zl:∀ {s:Int} (r:Int),s = 0 → s * r = 0 := fun r h => by rw [h,Int.zero_mul]
  have zr:∀ {s:Int} (r:Int),s = 0 → r * s = 0 := fun r h => by rw [h,Int.mul_zero]
  rcases Int.lt_trichotomy y 0 with hy | hy | hy <;> rcases Int.lt_trichotomy v 0 with hv | hv | hv
  · have := Int.mul_pos_of_neg_of_neg hy hv; have := key; omega
  · have := zr x hv; have := zr y hv
    rcases Int.lt_trichotomy u 0 with hu | hu | hu
    · have := Int.mul_pos_of_neg_of_neg hy hu; omega
    · omega
    · have := Int.mul_neg_of_neg_of_pos hy hu; omega
  · omega
  · have := zl u hy; have := zl v hy
    rcases Int.lt_trichotomy x 0 with hx | hx | hx
    · have := Int.mul_pos_of_neg_of_neg hx hv; omega
    · omega
    · have := Int.mul_neg_of_pos_of_neg hx hv; omega
  · have := zl u hy; have := zl v hy; have := zr x hv
    rcases Int.lt_trichotomy x 0 with hx | hx | hx <;> rcases Int.lt_trichotomy u 0 with hu | hu | hu
    · have := Int.mul_pos_of_neg_of_neg hx hu; omega
    · omega
    · have := Int.mul_neg_of_neg_of_pos hx hu; omega
    · omega
    · omega
    · omega
    · have := Int.mul_neg_of_pos_of_neg hx hu; omega
    · omega
    · have := Int.mul_pos hx hu; omega
  · have := zl u hy; have := zl v hy
    rcases Int.lt_trichotomy x 0 with hx | hx | hx
    · have := Int.mul_neg_of_neg_of_pos hx hv; omega
    · omega
    · have := Int.mul_pos hx hv; omega
  · omega
  · have := zr x hv; have := zr y hv
    rcases Int.lt_trichotomy u 0 with hu | hu | hu
    · have := Int.mul_neg_of_pos_of_neg hy hu; omega
    · omega
    · have := Int.mul_pos hy hu; omega
  · have := Int.mul_pos hy hv; have := key; omega
theorem Jw6 (x y:Int):0 ≤ x * x + y * y := by
  by_cases h:x ≠ 0 ∨ y ≠ 0
  · have := JWU h; omega
  · have h1:x = 0 := by omega
    have h2:y = 0 := by omega
    subst h1; subst h2; decide
theorem JcK (x y:Int):decide (K6 x y ≤ 0) = decide (x ≤ y) := by
  rcases JCH x y with ⟨h1,h2⟩ | ⟨h1,h2⟩ | ⟨h1,h2⟩ <;> rw [h2] <;> simp <;> omega
abbrev u64 (x:Int):Prop := 0 ≤ x ∧ x < 18446744073709551616
def JHn (j:Nat):Int := bif decide (j < 64) then 2 ^ (63 - j) else 0
def flF (a b:Int):Fam Nat Unit where
  k := 20
  E j := [(4,ent 1000000000 (.one (U (JHn j)))),(3,ent 1000000001 (.one (U (fr 64 (a * 18446744073709551616 + b) j)))),(1,ent 3 (.one (.ptr 0 0)))]
  M j := [(0,.blk 147 [(1,U a),(2,U b)])]
  out _ := .leaf (.exit 0) [(3,ent 8 (.one (U (fr 64 (a * 18446744073709551616 + b) 64))))] []
  fin _ := ()
  next j _ := j + 1
  J j := j ≤ 64 ∧ u64 a ∧ u64 b
  μ j := 64 - j
theorem JmB {j:Nat} (h:j < 64):JHn j = 2 ^ (64 - 1 - j) := by unfold JHn; rw [decide_eq_true h,cond_true]
theorem JnM {j:Nat} (h:j < 64):JV .shr .u64 (JHn j) 1 = JHn (j + 1) := by
  have hp := KL (63 - j)
  have e:(2:Int) ^ min (1:Int).toNat IntKind.u64.bits = 2 := by decide
  have e2:JV .shr .u64 (JHn j) 1 = JHn j / 2 := by
    unfold JV
    simp only [e]
    exact Int.fdiv_eq_ediv_of_nonneg _ (by omega)
  rw [e2]
  unfold JHn
  rw [decide_eq_true h,cond_true]
  by_cases h1:j + 1 < 64
  · rw [decide_eq_true h1,cond_true,show 63 - j = (63 - (j + 1)) + 1 by omega,JVs]
    omega
  · rw [decide_eq_false h1,cond_false,show 63 - j = 0 by omega]
    rfl
theorem Jr4:(2:Int) ^ 64 * 2 ^ 64 = 340282366920938463463374607431768211456 := rfl
section
variable (a b:Int) (j:Nat)
def JSf:Int:=
 fr 64 (a * 18446744073709551616 + b) j
def Jv4:Int:=
 JJw (QJ (Ze BinOp.or IntKind.u64 (JSf a b j) (JHn j)) (Ze BinOp.or IntKind.u64 (JSf a b j) (JHn j))) (Qa (Ze BinOp.or IntKind.u64 (JSf a b j) (JHn j)) (Ze BinOp.or IntKind.u64 (JSf a b j) (JHn j))) a b
def JXq:List Prop:=
 [decide (JHn j > 0) = true → ((flF a b).next j 0 ≤ 64 ∧ (0 ≤ a ∧ a < 18446744073709551616) ∧ 0 ≤ b ∧ b < 18446744073709551616) ∧ (flF a b).μ ((flF a b).next j 0) < (flF a b).μ j ∧ (flF a b).fin ((flF a b).next j 0) = (flF a b).fin j ∧ JHn ((flF a b).next j 0) = JV BinOp.shr IntKind.u64 (JHn j) 1 ∧ fr 64 (a * 18446744073709551616 + b) ((flF a b).next j 0) = bif decide (Jv4 a b j ≤ 0) then Ze BinOp.or IntKind.u64 (JSf a b j) (JHn j) else JSf a b j,decide (JHn j > 0) = false → fr 64 (a * 18446744073709551616 + b) 64 = JSf a b j]
end
theorem JqH (a b:Int) (j:Nat) (hNeeds:∀ pN ∈ (JXq a b j),pN):Q4 (Xh (flF a b) (QW Tryz.prog (JB JK2) JnA 154 0) 7 j) :=
  Q4.of (ps := (JXq a b j)) (by kernel_rfl) (by kernel_rfl) hNeeds
theorem Jop (a b:Int):Z1 (flF a b) (QW Tryz.prog (JB JK2) JnA 154 0) 7 := by
  intro j hJ
  obtain ⟨h1,ha,hb⟩:j ≤ 64 ∧ u64 a ∧ u64 b := hJ
  have hx0:0 ≤ a * 18446744073709551616 + b := by omega
  have hx1:a * 18446744073709551616 + b < 2 ^ 64 * 2 ^ 64 := by rw [Jr4]; omega
  have ex1:(a * 18446744073709551616 + b) / 18446744073709551616 = a := by omega
  have ex2:(a * 18446744073709551616 + b) % 18446744073709551616 = b := by omega
  refine JqH a b j ?_
  unfold JXq
  refine JvS ?_ ?_
  · intro h
    have hj:j < 64 := by
      rcases Nat.lt_or_ge j 64 with g | g
      · exact g
      · unfold JHn at h
        rw [decide_eq_false (show ¬ j < 64 by omega)] at h
        simp at h
    obtain ⟨o1,o2,o3⟩ := Jr2 hx0 hx1 hj (by omega)
    rw [JmW (by omega)] at o1
    refine ⟨⟨hj,ha,hb⟩,?_,rfl,(JnM hj).symm,?_⟩
    · show 64 - (j + 1) < 64 - j; omega
    · unfold Jv4 JSf
      rw [JmB hj,o1,JAI _ _ ⟨o2,o3⟩ ⟨o2,o3⟩,zx]
      have hc := JhQ ((fr 64 (a * 18446744073709551616 + b) j + 2 ^ (64 - 1 - j)) * (fr 64 (a * 18446744073709551616 + b) j + 2 ^ (64 - 1 - j))) (a * 18446744073709551616 + b) (Int.mul_nonneg o2 o2) hx0
      rw [ex1,ex2] at hc
      rw [hc,JcK]
      rfl
  · intro h
    have hj:j = 64 := by
      rcases Nat.lt_or_ge j 64 with g | g
      · exfalso
        rw [JmB g] at h
        have := KL (64 - 1 - j)
        rw [decide_eq_false_iff_not] at h
        omega
      · omega
    rw [hj]; rfl
def JwM (env:KH) (mem:Jn) (t:Nat):Option (Int × Int) := match SX.JC env t with
  | some ⟨_,_,_,.one (.ptr id 0)⟩ => (match JHg mem id with
    | some [x,y] => some (x,y)
    | _ => none)
  | _ => none
def flL:QG := fun env mem m => match JwM env mem 1 with
  | some (a,b) => zD (flF a b) 7 (fun _ _ => some 0) env mem m
  | none => none
def Zs:FuncId → Nat → Option QG := JB6 JnA 154 3 flL
theorem Jay:Known Tryz.prog (JB JK2) Zs := by
  refine Qf 0 JSd (by kernel_rfl) (Qs fun env mem m x h => ?_)
  unfold flL at h
  have hlen:(QU Tryz.prog 154).length = 1 := by kernel_rfl
  split at h
  · exact ⟨_,XW (Qc X5 JSd (by omega)) (Jop _ _),h⟩
  · cases h
def W0:Tpl := ⟨[.agg [.int .u64,.int .u64]],[],0⟩
def Jl (a b:Int):Int :=
 fr 64 (a * 18446744073709551616 + b) 64
def WD (a b:Int):List Prop :=
 [0 ≤ 64 ∧ (0 ≤ a ∧ a < 18446744073709551616) ∧ 0 ≤ b ∧ b < 18446744073709551616,Int.ofNat 9223372036854775808 = 9223372036854775808,fr 64 (a * 18446744073709551616 + b) 0 = 0]
theorem JYF {a:Int} {b:Int} (hW:∀ q ∈ ([u64 a,u64 b]:List Prop),q):∀ q ∈ (WD a b),q := by
  simp only [awc,awn,and_true] at hW
  unfold WD
  simp only [awc,awn,and_true]
  exact ⟨⟨by omega,hW.1,hW.2⟩,rfl,rfl⟩
theorem JZF (a b:Int) (hNeeds:∀ pN ∈ (WD a b),pN):Runs (Jr (JB JK2) Zs 154) (W0.args [.i a,.i b]) (W0.memo [.i a,.i b] []) W0.n (SV.one (SC.int IntKind.u64 (SI.v (Jl a b)))) ([]) :=
  Runs.of1 (ps := (WD a b)) (by kernel_rfl) hNeeds
def JEJ:List Pm → Qm → Option CRes
  | [.i a,.i b],[] => some ⟨SV.one (SC.int IntKind.u64 (SI.v (Jl a b))),
 [],[u64 a,u64 b],[],29⟩
  | _,_ => none
theorem Jdd:Qg Tryz.prog 154 (JS W0 JEJ) := by
  refine JH (JD Jay 154) fun ps ls r hr hn _ => ?_
  unfold JEJ at hr
  split at hr
  · cases hr; exact ⟨_,JZF _ _ (JYF (by exact hn)),fun _ => rfl⟩
  · cases hr
def JID:List (Nat × JY) := (154,JS W0 JEJ) :: JK2
theorem JHk:Known Tryz.prog (JB JID) Zs := J7 Jay Jdd
theorem Jt9 {a b:Int} (ha:u64 a) (hb:u64 b):0 ≤ Jl a b ∧ Jl a b * Jl a b ≤ a * 18446744073709551616 + b ∧ a * 18446744073709551616 + b < (Jl a b + 1) * (Jl a b + 1) ∧ Jl a b < 18446744073709551616 := by
  obtain ⟨x,y,z,w⟩ := Jek (T := 64) (x := a * 18446744073709551616 + b) (by omega) (by rw [Jr4]; omega)
  have e:(2:Int) ^ 64 = 18446744073709551616 := rfl
  exact ⟨x,y,z,by show fr 64 _ 64 < _; omega⟩
theorem Jm3 (x:Int):u64 (x % 18446744073709551616) := by omega
theorem Jdf (x y:Int):u64 (Qa x y) := by rw [zx]; exact Jm3 _
theorem Jet {x y:Int} (hx:u64 x) (hy:u64 y):u64 (QJ x y) := by
  rw [JAI _ _ hx hy]
  obtain ⟨h1,h2⟩ := Ke 18446744073709551615 18446744073709551615 (x := x) (y := y) ⟨hx.1,by omega⟩ ⟨hy.1,by omega⟩ (by omega)
  omega
theorem JqP (x:Int):u64 (IntKind.u64.wrap x) := by rw [JBi]; exact Jm3 _
theorem JqL (x y z:Int):0 ≤ JEO x y z ∧ JEO x y z ≤ 1 := by unfold JEO; split <;> decide
def JFH:Tpl := ⟨[.agg [.int .u64,.int .u64],.one (.int .i64)],[],0⟩
section
variable (a b m:Int)
def JWP:Int:=
 JJ6 a (QJ (Jl a b) (Jl a b)) (JEO b (Qa (Jl a b) (Jl a b)) 0)
def JJN:Int:=
 bif m == 1 && (decide (JWP a b > 0) || decide (JJ6 b (Qa (Jl a b) (Jl a b)) 0 > 0)) || m == 2 && (decide (JWP a b > 0) || decide (JJ6 b (Qa (Jl a b) (Jl a b)) 0 > Jl a b)) then IntKind.u64.wrap (Jl a b + 1) else Jl a b
def JUc:Int:=
 bif decide (JJN a b m < 9223372036854775808) then IntKind.i64.wrap (JJN a b m) else 0
def JUd:Bool:=
 decide (JJN a b m < 9223372036854775808)
def JDc:List Prop:=
 [0 ≤ a ∧ a < 18446744073709551616,0 ≤ b ∧ b < 18446744073709551616,0 ≤ b,0 ≤ Qa (Jl a b) (Jl a b),Int.ofNat 0 ≤ 0 ∧ Int.ofNat 0 ≤ 1,0 ≤ a,0 ≤ QJ (Jl a b) (Jl a b),0 ≤ JEO b (Qa (Jl a b) (Jl a b)) 0 ∧ JEO b (Qa (Jl a b) (Jl a b)) 0 ≤ 1]
end
theorem JkZ {a:Int} {b:Int} (hW:∀ q ∈ ([u64 a,u64 b]:List Prop),q):∀ q ∈ (JDc a b),q := by
  simp only [awc,awn,and_true] at hW
  unfold JDc
  simp only [awc,awn,and_true]
  obtain ⟨ha,hb⟩ := hW
  have hf := Jt9 ha hb
  have m1 := Jdf (Jl a b) (Jl a b)
  have m0 := Jet (x := Jl a b) (y := Jl a b) ⟨hf.1,hf.2.2.2⟩ ⟨hf.1,hf.2.2.2⟩
  exact ⟨ha,hb,hb.1,m1.1,by decide,ha.1,m0.1,JqL _ _ _⟩
theorem Jil (a b m:Int) (hNeeds:∀ pN ∈ (JDc a b),pN):Runs (Jr (JB JID) Zs 173) (JFH.args [.i a,.i b,.i m]) (JFH.memo [.i a,.i b,.i m] []) JFH.n (SV.tup [(false,[Ci (JUc a b m)]),(false,[Cb (JUd a b m)])]) ([]) :=
  Runs.of1 (ps := (JDc a b)) (by kernel_rfl) hNeeds
def JPK:List Pm → Qm → Option CRes
  | [.i a,.i b,.i m],[] => some ⟨SV.tup [(false,[Ci (JUc a b m)]),(false,[Cb (JUd a b m)])],
 [],[u64 a,u64 b],[],169⟩
  | _,_ => none
theorem JrD:Qg Tryz.prog 173 (JS JFH JPK) := by
  refine JH (JD JHk 173) fun ps ls r hr hn _ => ?_
  unfold JPK at hr
  split at hr
  · cases hr; exact ⟨_,Jil _ _ _ (JkZ (by exact hn)),fun _ => rfl⟩
  · cases hr
def JeV:List (Nat × JY) := (173,JS JFH JPK) :: JID
theorem JSM:Known Tryz.prog (JB JeV) Zs := J7 JHk JrD
def JFw:Tpl := ⟨[.one (.int .i64),.one (.int .i64)],[],0⟩
section
variable (n m:Int)
def JE5:Int:=
 bif decide (n < 0) || !(m == 0 || m == 1 || m == 2) then 0 else JUc 0 (IntKind.u64.wrap n) m
def JOK:Bool:=
 bif decide (n < 0) || !(m == 0 || m == 1 || m == 2) then false else JUd 0 (IntKind.u64.wrap n) m
def JDb:List Prop:=
 [(decide (n < 0) || !(m == 0 || m == 1 || m == 2)) = false → (Int.ofNat 0 ≤ 0 ∧ Int.ofNat 0 < 18446744073709551616) ∧ 0 ≤ IntKind.u64.wrap n ∧ IntKind.u64.wrap n < 18446744073709551616]
end
theorem JkG {n:Int} {m:Int} (hW:∀ q ∈ ([XT n]:List Prop),q):∀ q ∈ (JDb n m),q := by
  simp only [awc,awn,and_true] at hW
  unfold JDb
  simp only [awc,awn,and_true]
  intro _
  have := JqP n
  exact ⟨by decide,this.1,this.2⟩
theorem Jl8 (n m:Int) (hNeeds:∀ pN ∈ (JDb n m),pN):Runs (Jr (JB JeV) Zs 162) (JFw.args [.i n,.i m]) (JFw.memo [.i n,.i m] []) JFw.n (SV.tup [(false,[Ci (JE5 n m)]),(false,[Cb (JOK n m)])]) ([]) :=
  Runs.of1 (ps := (JDb n m)) (by kernel_rfl) hNeeds
def JPV:List Pm → Qm → Option CRes
  | [.i n,.i m],[] => some ⟨SV.tup [(false,[Ci (JE5 n m)]),(false,[Cb (JOK n m)])],
 [],[XT n],[],201⟩
  | _,_ => none
theorem Jr7:Qg Tryz.prog 162 (JS JFw JPV) := by
  refine JH (JD JSM 162) fun ps ls r hr hn _ => ?_
  unfold JPV at hr
  split at hr
  · cases hr; exact ⟨_,Jl8 _ _ (JkG (by exact hn)),fun _ => rfl⟩
  · cases hr
def Jcb:List (Nat × JY) := (162,JS JFw JPV) :: JeV
theorem JTk:Known Tryz.prog (JB Jcb) Zs := J7 JSM Jr7
def JIr:Tpl := ⟨[.agg [.int .u64,.int .u64],.one (.int .u64)],[],0⟩
def JXQ (a b c:Int):Bool :=
 decide (ZF (ZF 0 a c) b c > 0)
def JGv (a b c:Int):List Prop :=
 [Int.ofNat 0 ≤ 0,0 < c,0 ≤ a,a < 18446744073709551616,c < 18446744073709551616,0 ≤ ZF 0 a c,ZF 0 a c < c,0 ≤ b,b < 18446744073709551616,c < 18446744073709551616]
theorem JoQ {a:Int} {b:Int} {c:Int} (hW:∀ q ∈ ([u64 a,u64 b,0 < c,c < 18446744073709551616]:List Prop),q):∀ q ∈ (JGv a b c),q := by
  simp only [awc,awn,and_true] at hW
  unfold JGv
  simp only [awc,awn,and_true]
  obtain ⟨ha,hb,hc,hc'⟩ := hW
  have hd := (JKI (a := 0) (b := a) (c := c) (by omega) hc ha.1 ha.2 hc').2
  have m3 := Int.emod_nonneg (0 * 18446744073709551616 + a) (show c ≠ 0 by omega)
  have m4 := Int.emod_lt_of_pos (0 * 18446744073709551616 + a) hc
  rw [← hd] at m3 m4
  exact ⟨by decide,hc,ha.1,ha.2,hc',m3,m4,hb.1,hb.2,hc'⟩
theorem Jos (a b c:Int) (hNeeds:∀ pN ∈ (JGv a b c),pN):Runs (Jr (JB Jcb) Zs 152) (JIr.args [.i a,.i b,.i c]) (JIr.memo [.i a,.i b,.i c] []) JIr.n (SV.tup [(true,[SC.int IntKind.u64 (SI.v (ZE 0 a c)),SC.int IntKind.u64 (SI.v (ZE (ZF 0 a c) b c))]),(false,[Cb (JXQ a b c)])]) ([]) :=
  Runs.of1 (ps := (JGv a b c)) (by kernel_rfl) hNeeds
def JXa:List Pm → Qm → Option CRes
  | [.i a,.i b,.i c],[] => some ⟨SV.tup [(true,[SC.int IntKind.u64 (SI.v (ZE 0 a c)),SC.int IntKind.u64 (SI.v (ZE (ZF 0 a c) b c))]),(false,[Cb (JXQ a b c)])],
 [],[u64 a,u64 b,0 < c,c < 18446744073709551616],[],389⟩
  | _,_ => none
theorem Jtz:Qg Tryz.prog 152 (JS JIr JXa) := by
  refine JH (JD JTk 152) fun ps ls r hr hn _ => ?_
  unfold JXa at hr
  split at hr
  · cases hr; exact ⟨_,Jos _ _ _ (JoQ (by exact hn)),fun _ => rfl⟩
  · cases hr
def JiO:List (Nat × JY) := (152,JS JIr JXa) :: Jcb
theorem JXE:Known Tryz.prog (JB JiO) Zs := J7 JTk Jtz
def JF9:Tpl := ⟨[.one (.int .i64),.one (.int .i64),.one (.bool),.one (.bool)],[],0⟩
def JBe (m n:Int) (p q:Bool):Bool :=
 bif m == 0 then p && q else bif m == 1 then p && !q else decide (n > 0) || n == 0 && !q
theorem Jhq (m n:Int) (p q:Bool):Runs (Jr (JB JiO) Zs 156) (JF9.args [.i m,.i n,.b p,.b q]) (JF9.memo [.i m,.i n,.b p,.b q] []) JF9.n (SV.one (Cb (JBe m n p q))) ([]) :=
  Runs.of1 (ps := []) (by kernel_rfl) (by simp)
def JP9:List Pm → Qm → Option CRes
  | [.i m,.i n,.b p,.b q],[] => some ⟨SV.one (Cb (JBe m n p q)),
 [],[],[],28⟩
  | _,_ => none
theorem JrW:Qg Tryz.prog 156 (JS JF9 JP9) := by
  refine JH (JD JXE 156) fun ps ls r hr hn _ => ?_
  unfold JP9 at hr
  split at hr
  · cases hr; exact ⟨_,Jhq _ _ _ _,fun _ => rfl⟩
  · cases hr
def JeS:List (Nat × JY) := (156,JS JF9 JP9) :: JiO
theorem JSn:Known Tryz.prog (JB JeS) Zs := J7 JXE JrW
def JCj:Tpl := ⟨[.one (.int .u64),.one (.bool)],[],0⟩
def Ya (n:Int) (p:Bool):Int :=
 bif p && decide (n ≤ 9223372036854775808) then IntKind.i64.wrap (IntKind.u64.wrap (0 - n)) else bif !p && decide (n < 9223372036854775808) then IntKind.i64.wrap n else 0
def JCx (n:Int) (p:Bool):Bool :=
 p && decide (n ≤ 9223372036854775808) || !p && decide (n < 9223372036854775808)
theorem Jfw (n:Int) (p:Bool):Runs (Jr (JB JeS) Zs 157) (JCj.args [.i n,.b p]) (JCj.memo [.i n,.b p] []) JCj.n (SV.tup [(false,[Ci (Ya n p)]),(false,[Cb (JCx n p)])]) ([]) :=
  Runs.of1 (ps := []) (by kernel_rfl) (by simp)
def JLp:List Pm → Qm → Option CRes
  | [.i n,.b p],[] => some ⟨SV.tup [(false,[Ci (Ya n p)]),(false,[Cb (JCx n p)])],
 [],[],[],26⟩
  | _,_ => none
theorem Jom:Qg Tryz.prog 157 (JS JCj JLp) := by
  refine JH (JD JSn 157) fun ps ls r hr hn _ => ?_
  unfold JLp at hr
  split at hr
  · cases hr; exact ⟨_,Jfw _ _,fun _ => rfl⟩
  · cases hr
def JX3:List (Nat × JY) := (157,JS JCj JLp) :: JeS
theorem JMq:Known Tryz.prog (JB JX3) Zs := J7 JSn Jom
theorem JhV {a b c:Int} (ha:u64 a) (hb:u64 b) (hc:0 < c) (hc':c < 18446744073709551616) :
    u64 (ZE 0 a c) ∧ u64 (ZE (ZF 0 a c) b c) ∧ ZE 0 a c * 18446744073709551616 + ZE (ZF 0 a c) b c = (a * 18446744073709551616 + b) / c ∧ JXQ a b c = decide (0 < (a * 18446744073709551616 + b) % c) := by
  obtain ⟨e0,e1⟩ := JKI (a := 0) (b := a) (c := c) (by omega) hc ha.1 ha.2 hc'
  have m3 := Int.emod_nonneg (0 * 18446744073709551616 + a) (show c ≠ 0 by omega)
  have m4 := Int.emod_lt_of_pos (0 * 18446744073709551616 + a) hc
  have dm := Int.mul_ediv_add_emod (0 * 18446744073709551616 + a) c
  have q0 := Int.ediv_nonneg (show 0 ≤ 0 * 18446744073709551616 + a by omega) (show 0 ≤ c by omega)
  have q1 := Int.ediv_le_self c (show 0 ≤ 0 * 18446744073709551616 + a by omega)
  rw [← e1] at m3 m4 dm
  rw [← e0] at dm q0 q1
  obtain ⟨f0,f1⟩ := JKI (a := ZF 0 a c) (b := b) (c := c) m3 m4 hb.1 hb.2 hc'
  have hr:0 ≤ (ZF 0 a c * 18446744073709551616 + b) / c ∧ (ZF 0 a c * 18446744073709551616 + b) / c < 18446744073709551616 := by
    refine ⟨Int.ediv_nonneg (by omega) (by omega),Int.ediv_lt_of_lt_mul hc ?_⟩
    have := Int.mul_le_mul_of_nonneg_right (show ZF 0 a c + 1 ≤ c by omega) (show (0:Int) ≤ 18446744073709551616 by omega)
    have e:18446744073709551616 * c = c * 18446744073709551616 := Int.mul_comm _ _
    rw [e]
    omega
  have ex:a * 18446744073709551616 + b = (ZF 0 a c * 18446744073709551616 + b) + c * (ZE 0 a c * 18446744073709551616) := by
    have e:c * (ZE 0 a c * 18446744073709551616) = c * ZE 0 a c * 18446744073709551616 := by rw [Int.mul_assoc]
    rw [e]
    omega
  refine ⟨⟨q0,by omega⟩,by rw [f0]; exact hr,?_,?_⟩
  · rw [ex,Int.add_mul_ediv_left _ _ (show c ≠ 0 by omega),f0]
    omega
  · unfold JXQ
    rw [f1,ex,Int.add_mul_emod_self_left]
def JEY:Tpl := ⟨[.one (.int .i64),.one (.int .i64),.one (.int .i64),.one (.int .i64)],[],0⟩
section
variable (a b n m:Int)
def Jp:Int:=
 IntKind.u64.wrap (2 * IntKind.u64.wrap (J6 a * J6 b))
def JCq:Int:=
 ZE (ZF 0 (QJ (Jp a b) (Jp a b)) (IntKind.u64.wrap n)) (Qa (Jp a b) (Jp a b)) (IntKind.u64.wrap n)
def YV:Int:=
 Jl (ZE 0 (QJ (Jp a b) (Jp a b)) (IntKind.u64.wrap n)) (JCq a b n)
def JEm:Bool:=
 (YV a b n).tmod 2 == 1
def JGG:Bool:=
 JXQ (QJ (Jp a b) (Jp a b)) (Qa (Jp a b) (Jp a b)) (IntKind.u64.wrap n) || !(QJ (YV a b n) (YV a b n) == ZE 0 (QJ (Jp a b) (Jp a b)) (IntKind.u64.wrap n) && Qa (YV a b n) (YV a b n) == JCq a b n)
def JJD:Bool:=
 decide (Qe a b < 0)
def Xg:Int:=
 bif decide (J6 a > 2147483648) || decide (J6 b > 2147483648) || decide (n < 1) || decide (n > 4611686018427387904) || !(m == 0 || m == 1 || m == 2) then 0 else Ya (bif JBe m (bif JEm a b n then bif JGG a b n then 1 else 0 else -1) (JGG a b n || JEm a b n) (JJD a b) then IntKind.u64.wrap (IntKind.u64.wrap ((YV a b n).tdiv 2) + 1) else IntKind.u64.wrap ((YV a b n).tdiv 2)) (JJD a b)
def JUi:Bool:=
 bif decide (J6 a > 2147483648) || decide (J6 b > 2147483648) || decide (n < 1) || decide (n > 4611686018427387904) || !(m == 0 || m == 1 || m == 2) then false else JCx (bif JBe m (bif JEm a b n then bif JGG a b n then 1 else 0 else -1) (JGG a b n || JEm a b n) (JJD a b) then IntKind.u64.wrap (IntKind.u64.wrap ((YV a b n).tdiv 2) + 1) else IntKind.u64.wrap ((YV a b n).tdiv 2)) (JJD a b)
def JDS:List Prop:=
 [(decide (J6 a > 2147483648) || decide (J6 b > 2147483648) || decide (n < 1) || decide (n > 4611686018427387904) || !(m == 0 || m == 1 || m == 2)) = false → (0 ≤ QJ (Jp a b) (Jp a b) ∧ QJ (Jp a b) (Jp a b) < 18446744073709551616) ∧ (0 ≤ Qa (Jp a b) (Jp a b) ∧ Qa (Jp a b) (Jp a b) < 18446744073709551616) ∧ 0 < IntKind.u64.wrap n ∧ IntKind.u64.wrap n < 18446744073709551616 ∧ (0 ≤ ZE 0 (QJ (Jp a b) (Jp a b)) (IntKind.u64.wrap n) ∧ ZE 0 (QJ (Jp a b) (Jp a b)) (IntKind.u64.wrap n) < 18446744073709551616) ∧ 0 ≤ JCq a b n ∧ JCq a b n < 18446744073709551616]
end
theorem Jjz {a:Int} {b:Int} {n:Int} {m:Int} (hW:∀ q ∈ ([XT a,XT b,XT n]:List Prop),q):∀ q ∈ (JDS a b n m),q := by
  simp only [awc,awn,and_true] at hW
  unfold JDS
  simp only [awc,awn,and_true]
  obtain ⟨ha,hb,hn⟩ := hW
  intro h
  simp only [Bool.or_eq_false_iff,decide_eq_false_iff_not] at h
  have s0:u64 (Jp a b) := JqP _
  have h0 := Jet s0 s0
  have h1 := Jdf (Jp a b) (Jp a b)
  have ew:IntKind.u64.wrap n = n := Yy (by omega) (by omega)
  have hq := JhV h0 h1 (c := n) (by omega) (by omega)
  rw [ew]
  unfold JCq
  rw [ew]
  exact ⟨h0,h1,by omega,by omega,hq.1,hq.2.1.1,hq.2.1.2⟩
theorem Jjq (a b n m:Int) (hNeeds:∀ pN ∈ (JDS a b n m),pN):Runs (Jr (JB JX3) Zs 127) (JEY.args [.i a,.i b,.i n,.i m]) (JEY.memo [.i a,.i b,.i n,.i m] []) JEY.n (SV.tup [(false,[Ci (Xg a b n m)]),(false,[Cb (JUi a b n m)])]) ([]) :=
  Runs.of1 (ps := (JDS a b n m)) (by kernel_rfl) hNeeds
def JRx:List Pm → Qm → Option CRes
  | [.i a,.i b,.i n,.i m],[] => some ⟨SV.tup [(false,[Ci (Xg a b n m)]),(false,[Cb (JUi a b n m)])],
 [],[XT a,XT b,XT n],[],785⟩
  | _,_ => none
theorem Jsg:Qg Tryz.prog 127 (JS JEY JRx) := by
  refine JH (JD JMq 127) fun ps ls r hr hn _ => ?_
  unfold JRx at hr
  split at hr
  · cases hr; exact ⟨_,Jjq _ _ _ _ (Jjz (by exact hn)),fun _ => rfl⟩
  · cases hr
def Jdu:List (Nat × JY) := (127,JS JEY JRx) :: JX3
theorem JSc:Known Tryz.prog (JB Jdu) Zs := J7 JMq Jsg
def JOU:Tpl := ⟨[.one (.int .i64),.one (.int .i64)],[],0⟩
def Jc (n m:Int):Bool :=
 decide (n ≥ IntKind.i64.wrap (0 - m)) && decide (n ≤ m)
theorem Jpj (n m:Int):Runs (Jr (JB Jdu) Zs 103) (JOU.args [.i n,.i m]) (JOU.memo [.i n,.i m] []) JOU.n (SV.one (Cb (Jc n m))) ([]) :=
  Runs.of1 (ps := []) (by kernel_rfl) (by simp)
def Jdl:List Pm → Qm → Option CRes
  | [.i n,.i m],[] => some ⟨SV.one (Cb (Jc n m)),
 [],[],[],11⟩
  | _,_ => none
theorem Jvy:Qg Tryz.prog 103 (JS JOU Jdl) := by
  refine JH (JD JSc 103) fun ps ls r hr hn _ => ?_
  unfold Jdl at hr
  split at hr
  · cases hr; exact ⟨_,Jpj _ _,fun _ => rfl⟩
  · cases hr
def Jsl:List (Nat × JY) := (103,JS JOU Jdl) :: Jdu
theorem JbF:Known Tryz.prog (JB Jsl) Zs := J7 JSc Jvy
theorem Wm {n m:Int} (h:0 ≤ m) (h2:m ≤ 1000000000):Jc n m = true ↔ bd m n := by
  unfold Jc
  rw [Zy (x := 0 - m) (by omega) (by omega)]
  simp only [Bool.and_eq_true,decide_eq_true_eq]
  omega
def zQ:Tpl := ⟨[.agg [.int .i64,.int .i64],.agg [.int .i64,.int .i64],.one (.int .i64)],[],0⟩
def JBz (a b c d s:Int):Int :=
 bif JE a b c d == 0 && decide (J8 a b c d > 0) then 0 else bif decide (JE a b c d > 0) && decide (s > 0) || decide (JE a b c d < 0) && decide (s < 0) then 2 else 1
theorem Jdq (a b c d s:Int):Runs (Jr (JB Jsl) Zs 107) (zQ.args [.i a,.i b,.i c,.i d,.i s]) (zQ.memo [.i a,.i b,.i c,.i d,.i s] []) zQ.n (SV.one (Ci (JBz a b c d s))) ([]) :=
  Runs.of1 (ps := []) (by kernel_rfl) (by simp)
def JIJ:List Pm → Qm → Option CRes
  | [.i a,.i b,.i c,.i d,.i s],[] => some ⟨SV.one (Ci (JBz a b c d s)),
 [],[],[],82⟩
  | _,_ => none
theorem Jks:Qg Tryz.prog 107 (JS zQ JIJ) := by
  refine JH (JD JbF 107) fun ps ls r hr hn _ => ?_
  unfold JIJ at hr
  split at hr
  · cases hr; exact ⟨_,Jdq _ _ _ _ _,fun _ => rfl⟩
  · cases hr
def JRI:List (Nat × JY) := (107,JS zQ JIJ) :: Jsl
theorem JL7:Known Tryz.prog (JB JRI) Zs := J7 JbF Jks
theorem JlJ {p0 p1 t0 t1 r:Int} (h:(t0 == 0 && t1 == 0 || !Jc t0 4194304 || !Jc t1 4194304 || !Jc p0 1048576 || !Jc p1 1048576 || !Jc r 32768) = false):(t0 ≠ 0 ∨ t1 ≠ 0) ∧ bd 4194304 t0 ∧ bd 4194304 t1 ∧ bd 1048576 p0 ∧ bd 1048576 p1 ∧ bd 32768 r := by
  simp only [Bool.or_eq_false_iff,Bool.not_eq_false',Bool.and_eq_false_iff,beq_eq_false_iff_ne] at h
  obtain ⟨⟨⟨⟨⟨h0,h1⟩,h2⟩,h3⟩,h4⟩,h5⟩ := h
  exact ⟨h0,(Wm (by omega) (by omega)).1 h1,(Wm (by omega) (by omega)).1 h2,(Wm (by omega) (by omega)).1 h3,(Wm (by omega) (by omega)).1 h4,(Wm (by omega) (by omega)).1 h5⟩
def kR:Tpl := ⟨[.agg [.int .i64,.int .i64],.agg [.int .i64,.int .i64],.one (.int .i64)],[],0⟩
section
variable (p0 p1 t0 t1 r:Int)
def XE:Int:=
 bif t0 == 0 && t1 == 0 || !Jc t0 4194304 || !Jc t1 4194304 || !Jc p0 1048576 || !Jc p1 1048576 || !Jc r 32768 then 0 else JI p0 (Xg (IntKind.i64.wrap (0 - t1)) r (J8 t0 t1 t0 t1) 2)
def XD:Int:=
 bif t0 == 0 && t1 == 0 || !Jc t0 4194304 || !Jc t1 4194304 || !Jc p0 1048576 || !Jc p1 1048576 || !Jc r 32768 then 0 else JI p1 (Xg t0 r (J8 t0 t1 t0 t1) 2)
def JKE:Bool:=
 !(t0 == 0 && t1 == 0 || !Jc t0 4194304 || !Jc t1 4194304 || !Jc p0 1048576 || !Jc p1 1048576 || !Jc r 32768)
def JZ9:Prop:=
 -9223372036854775808 ≤ J8 t0 t1 t0 t1 ∧ J8 t0 t1 t0 t1 < 9223372036854775808
def qN:List Prop:=
 [(t0 == 0 && t1 == 0 || !Jc t0 4194304 || !Jc t1 4194304 || !Jc p0 1048576 || !Jc p1 1048576 || !Jc r 32768) = false → (-9223372036854775808 ≤ IntKind.i64.wrap (0 - t1) ∧ IntKind.i64.wrap (0 - t1) < 9223372036854775808) ∧ (-9223372036854775808 ≤ r ∧ r < 9223372036854775808) ∧ JZ9 t0 t1 ∧ (-9223372036854775808 ≤ t0 ∧ t0 < 9223372036854775808) ∧ (-9223372036854775808 ≤ r ∧ r < 9223372036854775808) ∧ JZ9 t0 t1]
end
theorem Jeb {p0:Int} {p1:Int} {t0:Int} {t1:Int} {r:Int}:∀ q ∈ (qN p0 p1 t0 t1 r),q := by
  unfold qN
  simp only [awc,awn,and_true]
  intro h
  obtain ⟨h0,h1,h2,h3,h4,h5⟩ := JlJ h
  exact ⟨Jk _,⟨by omega,by omega⟩,Jk _,⟨by omega,by omega⟩,⟨by omega,by omega⟩,Jk _⟩
theorem JeH (p0 p1 t0 t1 r:Int) (hNeeds:∀ pN ∈ (qN p0 p1 t0 t1 r),pN):Runs (Jr (JB JRI) Zs 100) (kR.args [.i p0,.i p1,.i t0,.i t1,.i r]) (kR.memo [.i p0,.i p1,.i t0,.i t1,.i r] []) kR.n (SV.tup [(true,[Ci (XE p0 p1 t0 t1 r),Ci (XD p0 p1 t0 t1 r)]),(false,[Cb (JKE p0 p1 t0 t1 r)])]) ([]) :=
  Runs.of1 (ps := (qN p0 p1 t0 t1 r)) (by kernel_rfl) hNeeds
def JJF:List Pm → Qm → Option CRes
  | [.i p0,.i p1,.i t0,.i t1,.i r],[] => some ⟨SV.tup [(true,[Ci (XE p0 p1 t0 t1 r),Ci (XD p0 p1 t0 t1 r)]),(false,[Cb (JKE p0 p1 t0 t1 r)])],
 [],[],[],1758⟩
  | _,_ => none
theorem Jhu:Qg Tryz.prog 100 (JS kR JJF) := by
  refine JH (JD JL7 100) fun ps ls r hr hn _ => ?_
  unfold JJF at hr
  split at hr
  · cases hr; exact ⟨_,JeH _ _ _ _ _ (fun p hp => Jeb p hp),fun _ => rfl⟩
  · cases hr
def JPF:List (Nat × JY) := (100,JS kR JJF) :: JRI
theorem JLI:Known Tryz.prog (JB JPF) Zs := J7 JL7 Jhu
def zX:Tpl := ⟨[.agg [.int .i64,.int .i64,.int .i64,.int .i64,.int .i64,.int .i64,.int .i64,.bool],.one (.int .i64)],[],0⟩
def YC (e6 r:Int):Bool :=
 decide (e6 > 0) && decide (r ≥ 0) || decide (e6 < 0) && decide (r < 0)
theorem JeG (e0 e1 e2 e3 e4 e5 e6:Int) (e7:Bool) (r:Int):Runs (Jr (JB JPF) Zs 98) (zX.args [.i e0,.i e1,.i e2,.i e3,.i e4,.i e5,.i e6,.b e7,.i r]) (zX.memo [.i e0,.i e1,.i e2,.i e3,.i e4,.i e5,.i e6,.b e7,.i r] []) zX.n (SV.one (Cb (YC e6 r))) ([]) :=
  Runs.of1 (ps := []) (by kernel_rfl) (by simp)
def JId:List Pm → Qm → Option CRes
  | [.i e0,.i e1,.i e2,.i e3,.i e4,.i e5,.i e6,.b e7,.i r],[] => some ⟨SV.one (Cb (YC e6 r)),
 [],[],[],30⟩
  | _,_ => none
theorem JlH:Qg Tryz.prog 98 (JS zX JId) := by
  refine JH (JD JLI 98) fun ps ls r hr hn _ => ?_
  unfold JId at hr
  split at hr
  · cases hr; exact ⟨_,JeG _ _ _ _ _ _ _ _ _,fun _ => rfl⟩
  · cases hr
def JPE:List (Nat × JY) := (98,JS zX JId) :: JPF
theorem JLB:Known Tryz.prog (JB JPE) Zs := J7 JLI JlH
def zW:Tpl := ⟨[.one (.int .i64),.one (.int .i64),.one (.int .i64)],[],0⟩
section
variable (a b c:Int)
def JGR:Int:=
 IntKind.i64.wrap (IntKind.i64.wrap (c - a) - IntKind.i64.wrap (b * b))
def JZY:Int:=
 JMD (IntKind.i64.wrap (IntKind.i64.wrap (4 * b) * b)) a (JGR a b c) (JGR a b c)
def JBv:Bool:=
 decide (JGR a b c ≥ 0) && decide (JZY a b c ≤ 0)
end
theorem Jen (a b c:Int):Runs (Jr (JB JPE) Zs 159) (zW.args [.i a,.i b,.i c]) (zW.memo [.i a,.i b,.i c] []) zW.n (SV.one (Cb (JBv a b c))) ([]) :=
  Runs.of1 (ps := []) (by kernel_rfl) (by simp)
def JJG:List Pm → Qm → Option CRes
  | [.i a,.i b,.i c],[] => some ⟨SV.one (Cb (JBv a b c)),
 [],[],[],309⟩
  | _,_ => none
theorem Jib:Qg Tryz.prog 159 (JS zW JJG) := by
  refine JH (JD JLB 159) fun ps ls r hr hn _ => ?_
  unfold JJG at hr
  split at hr
  · cases hr; exact ⟨_,Jen _ _ _,fun _ => rfl⟩
  · cases hr
def JQv:List (Nat × JY) := (159,JS zW JJG) :: JPE
theorem JKg:Known Tryz.prog (JB JQv) Zs := J7 JLB Jib
def JCp:Tpl := ⟨[.agg [.int .i64,.int .i64,.int .i64,.int .i64,.int .i64,.int .i64,.int .i64,.bool],.agg [.int .i64,.int .i64],.one (.int .i64)],[],0⟩
section
variable (e0 e1 e2 e3 e4 e5 e6 y0 y1 r:Int)
def JRJ:Int:=
 JMD (JE (J0 e2 e0) (J0 e3 e1) (J0 y0 e0) (J0 y1 e1)) (JE (J0 e2 e0) (J0 e3 e1) (J0 y0 e0) (J0 y1 e1)) (IntKind.i64.wrap (r * r)) (J8 (J0 e2 e0) (J0 e3 e1) (J0 e2 e0) (J0 e3 e1))
def YE:Int:=
 if IntKind.i64.wrap (0 - r) > r then IntKind.i64.wrap (0 - r) else r
def ZW:Bool:=
 bif e6 == 0 then (decide (r ≥ 0) && decide (JE (J0 e2 e0) (J0 e3 e1) (J0 y0 e0) (J0 y1 e1) ≥ 0) || decide (r < 0) && decide (JE (J0 e2 e0) (J0 e3 e1) (J0 y0 e0) (J0 y1 e1) ≤ 0)) && decide (JRJ e0 e1 e2 e3 y0 y1 r ≥ 0) else bif YC e6 r then JBv (J8 (J0 y0 e4) (J0 y1 e5) (J0 y0 e4) (J0 y1 e5)) (YE r) (J8 (J0 e2 e4) (J0 e3 e5) (J0 e2 e4) (J0 e3 e5)) else JBv (J8 (J0 e2 e4) (J0 e3 e5) (J0 e2 e4) (J0 e3 e5)) (YE r) (J8 (J0 y0 e4) (J0 y1 e5) (J0 y0 e4) (J0 y1 e5))
end
theorem JgT (e0 e1 e2 e3 e4 e5 e6:Int) (e7:Bool) (y0 y1 r:Int):Runs (Jr (JB JQv) Zs 134) (JCp.args [.i e0,.i e1,.i e2,.i e3,.i e4,.i e5,.i e6,.b e7,.i y0,.i y1,.i r]) (JCp.memo [.i e0,.i e1,.i e2,.i e3,.i e4,.i e5,.i e6,.b e7,.i y0,.i y1,.i r] []) JCp.n (SV.one (Cb (ZW e0 e1 e2 e3 e4 e5 e6 y0 y1 r))) ([]) :=
  Runs.of1 (ps := []) (by kernel_rfl) (by simp)
def JMO:List Pm → Qm → Option CRes
  | [.i e0,.i e1,.i e2,.i e3,.i e4,.i e5,.i e6,.b e7,.i y0,.i y1,.i r],[] => some ⟨SV.one (Cb (ZW e0 e1 e2 e3 e4 e5 e6 y0 y1 r)),
 [],[],[],1236⟩
  | _,_ => none
theorem JpK:Qg Tryz.prog 134 (JS JCp JMO) := by
  refine JH (JD JKg 134) fun ps ls r hr hn _ => ?_
  unfold JMO at hr
  split at hr
  · cases hr; exact ⟨_,JgT _ _ _ _ _ _ _ _ _ _ _,fun _ => rfl⟩
  · cases hr
def JZV:List (Nat × JY) := (134,JS JCp JMO) :: JQv
theorem JNp:Known Tryz.prog (JB JZV) Zs := J7 JKg JpK
def JIi:Tpl := ⟨[.one (.int .i64),.agg [.int .i64,.int .i64,.int .i64]],[],0⟩
section
variable (p a b c:Int)
def J3:Int:=
 bif p == 17 then a else bif p == 18 then c else bif p == 19 then b else 0
def J4:Int:=
 bif p == 17 then b else bif p == 18 then a else bif p == 19 then c else 0
def J9:Int:=
 bif p == 17 then c else bif p == 18 then b else bif p == 19 then a else 0
def Kg:Bool:=
 p == 17 || (p == 18 || p == 19)
end
theorem Jnn (p a b c:Int):Runs (Jr (JB JZV) Zs 96) (JIi.args [.i p,.i a,.i b,.i c]) (JIi.memo [.i p,.i a,.i b,.i c] []) JIi.n (SV.tup [(true,[Ci (J3 p a b c),Ci (J4 p a b c)]),(false,[Ci (J9 p a b c)]),(false,[Cb (Kg p)])]) ([]) :=
  Runs.of1 (ps := []) (by kernel_rfl) (by simp)
def JY1:List Pm → Qm → Option CRes
  | [.i p,.i a,.i b,.i c],[] => some ⟨SV.tup [(true,[Ci (J3 p a b c),Ci (J4 p a b c)]),(false,[Ci (J9 p a b c)]),(false,[Cb (Kg p)])],
 [],[],[],66⟩
  | _,_ => none
theorem JKW:Qg Tryz.prog 96 (JS JIi JY1) := by
  refine JH (JD JNp 96) fun ps ls r hr hn _ => ?_
  unfold JY1 at hr
  split at hr
  · cases hr; exact ⟨_,Jnn _ _ _ _,fun _ => rfl⟩
  · cases hr
def Jhp:List (Nat × JY) := (96,JS JIi JY1) :: JZV
theorem JYk:Known Tryz.prog (JB Jhp) Zs := J7 JNp JKW
def JEd:Tpl := ⟨[.one (.int .i64),.agg [.int .i64,.int .i64],.one (.int .i64)],[],0⟩
section
variable (p u w h:Int)
def JR:Int:=
 bif p == 17 then u else bif p == 18 then w else bif p == 19 then h else 0
def JP:Int:=
 bif p == 17 then w else bif p == 18 then h else bif p == 19 then u else 0
def JQ:Int:=
 bif p == 17 then h else bif p == 18 then u else bif p == 19 then w else 0
end
theorem Jl3 (p u w h:Int):Runs (Jr (JB Jhp) Zs 131) (JEd.args [.i p,.i u,.i w,.i h]) (JEd.memo [.i p,.i u,.i w,.i h] []) JEd.n (SV.tup [(true,[Ci (JR p u w h),Ci (JP p u w h),Ci (JQ p u w h)]),(false,[Cb (Kg p)])]) ([]) :=
  Runs.of1 (ps := []) (by kernel_rfl) (by simp)
def JQb:List Pm → Qm → Option CRes
  | [.i p,.i u,.i w,.i h],[] => some ⟨SV.tup [(true,[Ci (JR p u w h),Ci (JP p u w h),Ci (JQ p u w h)]),(false,[Cb (Kg p)])],
 [],[],[],65⟩
  | _,_ => none
theorem Jqt:Qg Tryz.prog 131 (JS JEd JQb) := by
  refine JH (JD JYk 131) fun ps ls r hr hn _ => ?_
  unfold JQb at hr
  split at hr
  · cases hr; exact ⟨_,Jl3 _ _ _ _,fun _ => rfl⟩
  · cases hr
def Jf6:List (Nat × JY) := (131,JS JEd JQb) :: Jhp
theorem JTG:Known Tryz.prog (JB Jf6) Zs := J7 JYk Jqt
def zg:Tpl := ⟨[.agg [.int .i64,.int .i64,.int .i64]],[],0⟩
def XG (a b c:Int):Bool :=
 decide (a ≥ -1048576) && decide (a ≤ 1048576) && (decide (b ≥ -1048576) && decide (b ≤ 1048576)) && (decide (c ≥ -1048576) && decide (c ≤ 1048576))
theorem Jcw (a b c:Int):Runs (Jr (JB Jf6) Zs 93) (zg.args [.i a,.i b,.i c]) (zg.memo [.i a,.i b,.i c] []) zg.n (SV.one (Cb (XG a b c))) ([]) :=
  Runs.of1 (ps := []) (by kernel_rfl) (by simp)
def JIF:List Pm → Qm → Option CRes
  | [.i a,.i b,.i c],[] => some ⟨SV.one (Cb (XG a b c)),
 [],[],[],44⟩
  | _,_ => none
theorem JlA:Qg Tryz.prog 93 (JS zg JIF) := by
  refine JH (JD JTG 93) fun ps ls r hr hn _ => ?_
  unfold JIF at hr
  split at hr
  · cases hr; exact ⟨_,Jcw _ _ _,fun _ => rfl⟩
  · cases hr
def JQG:List (Nat × JY) := (93,JS zg JIF) :: Jf6
theorem JL2:Known Tryz.prog (JB JQG) Zs := J7 JTG JlA
def JAR:Tpl := ⟨[.one (.int .i64),.one (.int .i64)],[],0⟩
section
variable (a b:Int)
def WN:Int:=
 IntKind.i64.wrap (IntKind.i64.wrap ((if b > a then b else a) - if b < a then b else a) - 16)
def JZJ:Int:=
 JMD (WN a b) (WN a b) 64 (if b < a then b else a)
def jL:Bool:=
 decide (WN a b ≤ 0) || decide (JZJ a b ≤ 0)
end
theorem Jem (a b:Int):Runs (Jr (JB JQG) Zs 125) (JAR.args [.i a,.i b]) (JAR.memo [.i a,.i b] []) JAR.n (SV.one (Cb (jL a b))) ([]) :=
  Runs.of1 (ps := []) (by kernel_rfl) (by simp)
def JIZ:List Pm → Qm → Option CRes
  | [.i a,.i b],[] => some ⟨SV.one (Cb (jL a b)),
 [],[],[],310⟩
  | _,_ => none
theorem JkT:Qg Tryz.prog 125 (JS JAR JIZ) := by
  refine JH (JD JL2 125) fun ps ls r hr hn _ => ?_
  unfold JIZ at hr
  split at hr
  · cases hr; exact ⟨_,Jem _ _,fun _ => rfl⟩
  · cases hr
def JS0:List (Nat × JY) := (125,JS JAR JIZ) :: JQG
theorem JKj:Known Tryz.prog (JB JS0) Zs := J7 JL2 JkT
def JAJ:Tpl := ⟨[.agg [.int .i64,.int .i64],.agg [.int .i64,.int .i64]],[],0⟩
def XF (a b c d:Int):Bool :=
 JE a b c d == 0 && decide (J8 a b c d > 0)
theorem Jd6 (a b c d:Int):Runs (Jr (JB JS0) Zs 126) (JAJ.args [.i a,.i b,.i c,.i d]) (JAJ.memo [.i a,.i b,.i c,.i d] []) JAJ.n (SV.one (Cb (XF a b c d))) ([]) :=
  Runs.of1 (ps := []) (by kernel_rfl) (by simp)
def JIy:List Pm → Qm → Option CRes
  | [.i a,.i b,.i c,.i d],[] => some ⟨SV.one (Cb (XF a b c d)),
 [],[],[],62⟩
  | _,_ => none
theorem JiX:Qg Tryz.prog 126 (JS JAJ JIy) := by
  refine JH (JD JKj 126) fun ps ls r hr hn _ => ?_
  unfold JIy at hr
  split at hr
  · cases hr; exact ⟨_,Jd6 _ _ _ _,fun _ => rfl⟩
  · cases hr
def JRz:List (Nat × JY) := (126,JS JAJ JIy) :: JS0
theorem JKx:Known Tryz.prog (JB JRz) Zs := J7 JKj JiX
def JGH:Tpl := ⟨[.agg [.int .i64,.int .i64,.int .i64,.int .i64,.int .i64,.int .i64,.int .i64,.bool]],[],0⟩
section
variable (e4 e6:Int) (e7:Bool)
def Q0:Int:=
 bif e6 != 0 then 3 else 2
def JN:Int:=
 bif e6 != 0 then e4 else 0
def Jo:Int:=
 bif e6 != 0 then e6 else 0
def JMv:Bool:=
 e6 != 0 && e7
end
theorem Jjb (e0 e1 e2 e3 e4 e5 e6:Int) (e7:Bool):Runs (Jr (JB JRz) Zs 102) (JGH.args [.i e0,.i e1,.i e2,.i e3,.i e4,.i e5,.i e6,.b e7]) (JGH.memo [.i e0,.i e1,.i e2,.i e3,.i e4,.i e5,.i e6,.b e7] []) JGH.n (SV.agg [Ci (Q0 e6),SC.int IntKind.i64 (SI.c 0),Ci e0,Ci e1,SC.int IntKind.i64 (SI.c 0),Ci e2,Ci e3,SC.int IntKind.i64 (SI.c 0),SC.int IntKind.i64 (SI.c 17),Ci (JN e4 e6),Ci (JN e5 e6),SC.int IntKind.i64 (SI.c 0),Ci (Jo e6),Cb (JMv e6 e7),SC.int IntKind.i64 (SI.c 0),SC.bool (SB.c false),SC.int IntKind.i64 (SI.c 0),SC.int IntKind.i64 (SI.c 0),SC.int IntKind.i64 (SI.c 0),SC.int IntKind.i64 (SI.c 0),SC.int IntKind.i64 (SI.c 0),SC.bool (SB.c false)]) ([]) :=
  Runs.of1 (ps := []) (by kernel_rfl) (by simp)
def JRf:List Pm → Qm → Option CRes
  | [.i e0,.i e1,.i e2,.i e3,.i e4,.i e5,.i e6,.b e7],[] => some ⟨SV.agg [Ci (Q0 e6),SC.int IntKind.i64 (SI.c 0),Ci e0,Ci e1,SC.int IntKind.i64 (SI.c 0),Ci e2,Ci e3,SC.int IntKind.i64 (SI.c 0),SC.int IntKind.i64 (SI.c 17),Ci (JN e4 e6),Ci (JN e5 e6),SC.int IntKind.i64 (SI.c 0),Ci (Jo e6),Cb (JMv e6 e7),SC.int IntKind.i64 (SI.c 0),SC.bool (SB.c false),SC.int IntKind.i64 (SI.c 0),SC.int IntKind.i64 (SI.c 0),SC.int IntKind.i64 (SI.c 0),SC.int IntKind.i64 (SI.c 0),SC.int IntKind.i64 (SI.c 0),SC.bool (SB.c false)],
 [],[],[],206⟩
  | _,_ => none
theorem Jq2:Qg Tryz.prog 102 (JS JGH JRf) := by
  refine JH (JD JKx 102) fun ps ls r hr hn _ => ?_
  unfold JRf at hr
  split at hr
  · cases hr; exact ⟨_,Jjb _ _ _ _ _ _ _ _,fun _ => rfl⟩
  · cases hr
def Jdw:List (Nat × JY) := (102,JS JGH JRf) :: JRz
theorem JSz:Known Tryz.prog (JB Jdw) Zs := J7 JKx Jq2
def kE:Tpl := ⟨[.agg pI],[],0⟩
def Jf (f0 f1 f2 p c0 c1 c2:Int):Int :=
 IntKind.i64.wrap (J3 p f0 f1 f2 - J3 p c0 c1 c2)
def Ji (f0 f1 f2 p c0 c1 c2:Int):Int :=
 IntKind.i64.wrap (J4 p f0 f1 f2 - J4 p c0 c1 c2)
theorem JdX (k bl f0 f1 f2 t0 t1 t2 p c0 c1 c2 d:Int) (fu:Bool) (fe:Int) (pr:Bool) (si ra be n sp:Int) (on:Bool):Runs (Jr (JB Jdw) Zs 124) (kE.args [.i k,.i bl,.i f0,.i f1,.i f2,.i t0,.i t1,.i t2,.i p,.i c0,.i c1,.i c2,.i d,.b fu,.i fe,.b pr,.i si,.i ra,.i be,.i n,.i sp,.b on]) (kE.memo [.i k,.i bl,.i f0,.i f1,.i f2,.i t0,.i t1,.i t2,.i p,.i c0,.i c1,.i c2,.i d,.b fu,.i fe,.b pr,.i si,.i ra,.i be,.i n,.i sp,.b on] []) kE.n (SV.tup [(true,[Ci (Jf f0 f1 f2 p c0 c1 c2),Ci (Ji f0 f1 f2 p c0 c1 c2)]),(true,[Ci (Jf t0 t1 t2 p c0 c1 c2),Ci (Ji t0 t1 t2 p c0 c1 c2)])]) ([]) :=
  Runs.of1 (ps := []) (by kernel_rfl) (by simp)
def JIh:List Pm → Qm → Option CRes
  | [.i k,.i bl,.i f0,.i f1,.i f2,.i t0,.i t1,.i t2,.i p,.i c0,.i c1,.i c2,.i d,.b fu,.i fe,.b pr,.i si,.i ra,.i be,.i n,.i sp,.b on],[] => some ⟨SV.tup [(true,[Ci (Jf f0 f1 f2 p c0 c1 c2),Ci (Ji f0 f1 f2 p c0 c1 c2)]),(true,[Ci (Jf t0 t1 t2 p c0 c1 c2),Ci (Ji t0 t1 t2 p c0 c1 c2)])],
 [],[],[],312⟩
  | _,_ => none
theorem Jl1:Qg Tryz.prog 124 (JS kE JIh) := by
  refine JH (JD JSz 124) fun ps ls r hr hn _ => ?_
  unfold JIh at hr
  split at hr
  · cases hr; exact ⟨_,JdX _ _ _ _ _ _ _ _ _ _ _ _ _ _ _ _ _ _ _ _ _ _,fun _ => rfl⟩
  · cases hr
def JR2:List (Nat × JY) := (124,JS kE JIh) :: Jdw
theorem JLG:Known Tryz.prog (JB JR2) Zs := J7 JSz Jl1
def JEz:Tpl := ⟨[.agg pI,.one (.bool)],[],0⟩
section
variable (k f0 f1 f2 t0 t1 t2 p c0 c1 c2 d:Int) (e:Bool)
def Jgm:Int:=
 bif e then Ji t0 t1 t2 p c0 c1 c2 else Ji f0 f1 f2 p c0 c1 c2
def Z2:Int:=
 bif k != 3 then IntKind.i64.wrap (J3 p t0 t1 t2 - J3 p f0 f1 f2) else bif decide (d < 0) then Jgm f0 f1 f2 t0 t1 t2 p c0 c1 c2 e else IntKind.i64.wrap (0 - Jgm f0 f1 f2 t0 t1 t2 p c0 c1 c2 e)
def Jfi:Int:=
 bif e then Jf t0 t1 t2 p c0 c1 c2 else Jf f0 f1 f2 p c0 c1 c2
def Z3:Int:=
 bif k != 3 then IntKind.i64.wrap (J4 p t0 t1 t2 - J4 p f0 f1 f2) else bif decide (d < 0) then IntKind.i64.wrap (0 - Jfi f0 f1 f2 t0 t1 t2 p c0 c1 c2 e) else Jfi f0 f1 f2 t0 t1 t2 p c0 c1 c2 e
end
theorem JkK (k bl f0 f1 f2 t0 t1 t2 p c0 c1 c2 d:Int) (fu:Bool) (fe:Int) (pr:Bool) (si ra be n sp:Int) (on e:Bool):Runs (Jr (JB JR2) Zs 101) (JEz.args [.i k,.i bl,.i f0,.i f1,.i f2,.i t0,.i t1,.i t2,.i p,.i c0,.i c1,.i c2,.i d,.b fu,.i fe,.b pr,.i si,.i ra,.i be,.i n,.i sp,.b on,.b e]) (JEz.memo [.i k,.i bl,.i f0,.i f1,.i f2,.i t0,.i t1,.i t2,.i p,.i c0,.i c1,.i c2,.i d,.b fu,.i fe,.b pr,.i si,.i ra,.i be,.i n,.i sp,.b on,.b e] []) JEz.n (SV.agg [Ci (Z2 k f0 f1 f2 t0 t1 t2 p c0 c1 c2 d e),Ci (Z3 k f0 f1 f2 t0 t1 t2 p c0 c1 c2 d e)]) ([]) :=
  Runs.of1 (ps := []) (by kernel_rfl) (by simp)
def JQY:List Pm → Qm → Option CRes
  | [.i k,.i bl,.i f0,.i f1,.i f2,.i t0,.i t1,.i t2,.i p,.i c0,.i c1,.i c2,.i d,.b fu,.i fe,.b pr,.i si,.i ra,.i be,.i n,.i sp,.b on,.b e],[] => some ⟨SV.agg [Ci (Z2 k f0 f1 f2 t0 t1 t2 p c0 c1 c2 d e),Ci (Z3 k f0 f1 f2 t0 t1 t2 p c0 c1 c2 d e)],
 [],[],[],576⟩
  | _,_ => none
theorem Jra:Qg Tryz.prog 101 (JS JEz JQY) := by
  refine JH (JD JLG 101) fun ps ls r hr hn _ => ?_
  unfold JQY at hr
  split at hr
  · cases hr; exact ⟨_,JkK _ _ _ _ _ _ _ _ _ _ _ _ _ _ _ _ _ _ _ _ _ _ _,fun _ => rfl⟩
  · cases hr
def Je1:List (Nat × JY) := (101,JS JEz JQY) :: JR2
theorem JST:Known Tryz.prog (JB Je1) Zs := J7 JLG Jra
def JFc:Tpl := ⟨[.agg [.int .i64,.int .i64,.int .i64,.int .i64,.int .i64,.int .i64,.int .i64,.bool],.one (.int .i64)],[],0⟩
section
variable (e0 e1 e2 e3 e4 e5 e6 r:Int)
def Zb:Int:=
 IntKind.i64.wrap ((if IntKind.i64.wrap (0 - r) > r then IntKind.i64.wrap (0 - r) else r) + 8)
def JZB:Int:=
 XE e0 e1 (Z2 (Q0 e6) e0 e1 0 e2 e3 0 17 (JN e4 e6) (JN e5 e6) 0 (Jo e6) false) (Z3 (Q0 e6) e0 e1 0 e2 e3 0 17 (JN e4 e6) (JN e5 e6) 0 (Jo e6) false) r
def JVJ:Int:=
 bif !Jc (JZB e0 e1 e2 e3 e4 e5 e6 r) 1048576 then 0 else bif !Jc (XD e0 e1 (Z2 (Q0 e6) e0 e1 0 e2 e3 0 17 (JN e4 e6) (JN e5 e6) 0 (Jo e6) false) (Z3 (Q0 e6) e0 e1 0 e2 e3 0 17 (JN e4 e6) (JN e5 e6) 0 (Jo e6) false) r) 1048576 then 0 else bif !Jc (XE e2 e3 (Z2 (Q0 e6) e0 e1 0 e2 e3 0 17 (JN e4 e6) (JN e5 e6) 0 (Jo e6) true) (Z3 (Q0 e6) e0 e1 0 e2 e3 0 17 (JN e4 e6) (JN e5 e6) 0 (Jo e6) true) r) 1048576 then 0 else bif !Jc (XD e2 e3 (Z2 (Q0 e6) e0 e1 0 e2 e3 0 17 (JN e4 e6) (JN e5 e6) 0 (Jo e6) true) (Z3 (Q0 e6) e0 e1 0 e2 e3 0 17 (JN e4 e6) (JN e5 e6) 0 (Jo e6) true) r) 1048576 then 0 else JZB e0 e1 e2 e3 e4 e5 e6 r
def XM:Int:=
 bif e6 != 0 && YC e6 r then bif decide (J8 (J0 e0 e4) (J0 e1 e5) (J0 e0 e4) (J0 e1 e5) < IntKind.i64.wrap (Zb r * Zb r)) then 0 else bif decide (J8 (J0 e2 e4) (J0 e3 e5) (J0 e2 e4) (J0 e3 e5) < IntKind.i64.wrap (Zb r * Zb r)) then 0 else JVJ e0 e1 e2 e3 e4 e5 e6 r else JVJ e0 e1 e2 e3 e4 e5 e6 r
def JYH:Int:=
 XD e0 e1 (Z2 (Q0 e6) e0 e1 0 e2 e3 0 17 (JN e4 e6) (JN e5 e6) 0 (Jo e6) false) (Z3 (Q0 e6) e0 e1 0 e2 e3 0 17 (JN e4 e6) (JN e5 e6) 0 (Jo e6) false) r
def JZp:Int:=
 bif !Jc (XE e0 e1 (Z2 (Q0 e6) e0 e1 0 e2 e3 0 17 (JN e4 e6) (JN e5 e6) 0 (Jo e6) false) (Z3 (Q0 e6) e0 e1 0 e2 e3 0 17 (JN e4 e6) (JN e5 e6) 0 (Jo e6) false) r) 1048576 then 0 else bif !Jc (JYH e0 e1 e2 e3 e4 e5 e6 r) 1048576 then 0 else bif !Jc (XE e2 e3 (Z2 (Q0 e6) e0 e1 0 e2 e3 0 17 (JN e4 e6) (JN e5 e6) 0 (Jo e6) true) (Z3 (Q0 e6) e0 e1 0 e2 e3 0 17 (JN e4 e6) (JN e5 e6) 0 (Jo e6) true) r) 1048576 then 0 else bif !Jc (XD e2 e3 (Z2 (Q0 e6) e0 e1 0 e2 e3 0 17 (JN e4 e6) (JN e5 e6) 0 (Jo e6) true) (Z3 (Q0 e6) e0 e1 0 e2 e3 0 17 (JN e4 e6) (JN e5 e6) 0 (Jo e6) true) r) 1048576 then 0 else JYH e0 e1 e2 e3 e4 e5 e6 r
def XJ:Int:=
 bif e6 != 0 && YC e6 r then bif decide (J8 (J0 e0 e4) (J0 e1 e5) (J0 e0 e4) (J0 e1 e5) < IntKind.i64.wrap (Zb r * Zb r)) then 0 else bif decide (J8 (J0 e2 e4) (J0 e3 e5) (J0 e2 e4) (J0 e3 e5) < IntKind.i64.wrap (Zb r * Zb r)) then 0 else JZp e0 e1 e2 e3 e4 e5 e6 r else JZp e0 e1 e2 e3 e4 e5 e6 r
def JV0:Int:=
 XE e2 e3 (Z2 (Q0 e6) e0 e1 0 e2 e3 0 17 (JN e4 e6) (JN e5 e6) 0 (Jo e6) true) (Z3 (Q0 e6) e0 e1 0 e2 e3 0 17 (JN e4 e6) (JN e5 e6) 0 (Jo e6) true) r
def JZu:Int:=
 bif !Jc (XE e0 e1 (Z2 (Q0 e6) e0 e1 0 e2 e3 0 17 (JN e4 e6) (JN e5 e6) 0 (Jo e6) false) (Z3 (Q0 e6) e0 e1 0 e2 e3 0 17 (JN e4 e6) (JN e5 e6) 0 (Jo e6) false) r) 1048576 then 0 else bif !Jc (XD e0 e1 (Z2 (Q0 e6) e0 e1 0 e2 e3 0 17 (JN e4 e6) (JN e5 e6) 0 (Jo e6) false) (Z3 (Q0 e6) e0 e1 0 e2 e3 0 17 (JN e4 e6) (JN e5 e6) 0 (Jo e6) false) r) 1048576 then 0 else bif !Jc (JV0 e0 e1 e2 e3 e4 e5 e6 r) 1048576 then 0 else bif !Jc (XD e2 e3 (Z2 (Q0 e6) e0 e1 0 e2 e3 0 17 (JN e4 e6) (JN e5 e6) 0 (Jo e6) true) (Z3 (Q0 e6) e0 e1 0 e2 e3 0 17 (JN e4 e6) (JN e5 e6) 0 (Jo e6) true) r) 1048576 then 0 else JV0 e0 e1 e2 e3 e4 e5 e6 r
def Xc:Int:=
 bif e6 != 0 && YC e6 r then bif decide (J8 (J0 e0 e4) (J0 e1 e5) (J0 e0 e4) (J0 e1 e5) < IntKind.i64.wrap (Zb r * Zb r)) then 0 else bif decide (J8 (J0 e2 e4) (J0 e3 e5) (J0 e2 e4) (J0 e3 e5) < IntKind.i64.wrap (Zb r * Zb r)) then 0 else JZu e0 e1 e2 e3 e4 e5 e6 r else JZu e0 e1 e2 e3 e4 e5 e6 r
def Ja2:Int:=
 XD e2 e3 (Z2 (Q0 e6) e0 e1 0 e2 e3 0 17 (JN e4 e6) (JN e5 e6) 0 (Jo e6) true) (Z3 (Q0 e6) e0 e1 0 e2 e3 0 17 (JN e4 e6) (JN e5 e6) 0 (Jo e6) true) r
def JV9:Int:=
 bif !Jc (XE e0 e1 (Z2 (Q0 e6) e0 e1 0 e2 e3 0 17 (JN e4 e6) (JN e5 e6) 0 (Jo e6) false) (Z3 (Q0 e6) e0 e1 0 e2 e3 0 17 (JN e4 e6) (JN e5 e6) 0 (Jo e6) false) r) 1048576 then 0 else bif !Jc (XD e0 e1 (Z2 (Q0 e6) e0 e1 0 e2 e3 0 17 (JN e4 e6) (JN e5 e6) 0 (Jo e6) false) (Z3 (Q0 e6) e0 e1 0 e2 e3 0 17 (JN e4 e6) (JN e5 e6) 0 (Jo e6) false) r) 1048576 then 0 else bif !Jc (XE e2 e3 (Z2 (Q0 e6) e0 e1 0 e2 e3 0 17 (JN e4 e6) (JN e5 e6) 0 (Jo e6) true) (Z3 (Q0 e6) e0 e1 0 e2 e3 0 17 (JN e4 e6) (JN e5 e6) 0 (Jo e6) true) r) 1048576 then 0 else bif !Jc (Ja2 e0 e1 e2 e3 e4 e5 e6 r) 1048576 then 0 else Ja2 e0 e1 e2 e3 e4 e5 e6 r
def Xd:Int:=
 bif e6 != 0 && YC e6 r then bif decide (J8 (J0 e0 e4) (J0 e1 e5) (J0 e0 e4) (J0 e1 e5) < IntKind.i64.wrap (Zb r * Zb r)) then 0 else bif decide (J8 (J0 e2 e4) (J0 e3 e5) (J0 e2 e4) (J0 e3 e5) < IntKind.i64.wrap (Zb r * Zb r)) then 0 else JV9 e0 e1 e2 e3 e4 e5 e6 r else JV9 e0 e1 e2 e3 e4 e5 e6 r
def JZI:Int:=
 bif !Jc (XE e0 e1 (Z2 (Q0 e6) e0 e1 0 e2 e3 0 17 (JN e4 e6) (JN e5 e6) 0 (Jo e6) false) (Z3 (Q0 e6) e0 e1 0 e2 e3 0 17 (JN e4 e6) (JN e5 e6) 0 (Jo e6) false) r) 1048576 then 3 else bif !Jc (XD e0 e1 (Z2 (Q0 e6) e0 e1 0 e2 e3 0 17 (JN e4 e6) (JN e5 e6) 0 (Jo e6) false) (Z3 (Q0 e6) e0 e1 0 e2 e3 0 17 (JN e4 e6) (JN e5 e6) 0 (Jo e6) false) r) 1048576 then 3 else bif !Jc (XE e2 e3 (Z2 (Q0 e6) e0 e1 0 e2 e3 0 17 (JN e4 e6) (JN e5 e6) 0 (Jo e6) true) (Z3 (Q0 e6) e0 e1 0 e2 e3 0 17 (JN e4 e6) (JN e5 e6) 0 (Jo e6) true) r) 1048576 then 3 else bif !Jc (XD e2 e3 (Z2 (Q0 e6) e0 e1 0 e2 e3 0 17 (JN e4 e6) (JN e5 e6) 0 (Jo e6) true) (Z3 (Q0 e6) e0 e1 0 e2 e3 0 17 (JN e4 e6) (JN e5 e6) 0 (Jo e6) true) r) 1048576 then 3 else 0
def Qk:Int:=
 bif e6 != 0 && YC e6 r then bif decide (J8 (J0 e0 e4) (J0 e1 e5) (J0 e0 e4) (J0 e1 e5) < IntKind.i64.wrap (Zb r * Zb r)) then 16 else bif decide (J8 (J0 e2 e4) (J0 e3 e5) (J0 e2 e4) (J0 e3 e5) < IntKind.i64.wrap (Zb r * Zb r)) then 16 else JZI e0 e1 e2 e3 e4 e5 e6 r else JZI e0 e1 e2 e3 e4 e5 e6 r
end
theorem Jk1 (e0 e1 e2 e3 e4 e5 e6:Int) (e7:Bool) (r:Int):Runs (Jr (JB Je1) Zs 66) (JFc.args [.i e0,.i e1,.i e2,.i e3,.i e4,.i e5,.i e6,.b e7,.i r]) (JFc.memo [.i e0,.i e1,.i e2,.i e3,.i e4,.i e5,.i e6,.b e7,.i r] []) JFc.n (SV.tup [(true,[Ci (XM e0 e1 e2 e3 e4 e5 e6 r),Ci (XJ e0 e1 e2 e3 e4 e5 e6 r)]),(true,[Ci (Xc e0 e1 e2 e3 e4 e5 e6 r),Ci (Xd e0 e1 e2 e3 e4 e5 e6 r)]),(false,[Ci (Qk e0 e1 e2 e3 e4 e5 e6 r)])]) ([]) :=
  Runs.of1 (ps := []) (by kernel_rfl) (by simp)
def JQo:List Pm → Qm → Option CRes
  | [.i e0,.i e1,.i e2,.i e3,.i e4,.i e5,.i e6,.b e7,.i r],[] => some ⟨SV.tup [(true,[Ci (XM e0 e1 e2 e3 e4 e5 e6 r),Ci (XJ e0 e1 e2 e3 e4 e5 e6 r)]),(true,[Ci (Xc e0 e1 e2 e3 e4 e5 e6 r),Ci (Xd e0 e1 e2 e3 e4 e5 e6 r)]),(false,[Ci (Qk e0 e1 e2 e3 e4 e5 e6 r)])],
 [],[],[],10785⟩
  | _,_ => none
theorem Jpr:Qg Tryz.prog 66 (JS JFc JQo) := by
  refine JH (JD JST 66) fun ps ls r hr hn _ => ?_
  unfold JQo at hr
  split at hr
  · cases hr; exact ⟨_,Jk1 _ _ _ _ _ _ _ _ _,fun _ => rfl⟩
  · cases hr
def Jdj:List (Nat × JY) := (66,JS JFc JQo) :: Je1
theorem JSQ:Known Tryz.prog (JB Jdj) Zs := J7 JST Jpr
def JF3:Tpl := ⟨[.agg [.int .i64,.int .i64],.agg [.int .i64,.int .i64],.one (.int .i64),.one (.int .i64)],[],0⟩
section
variable (a b c d i s:Int)
def Kk:Bool:=
 decide (J8 a b c d > 0)
def QL:Int:=
 bif Kk a b c d && decide (IntKind.i64.wrap (JE a b c d * i) > 0) then JI a c else bif Kk a b c d then IntKind.i64.wrap (IntKind.i64.wrap (0 - a) - c) else IntKind.i64.wrap (i * IntKind.i64.wrap (d - b))
def QM:Int:=
 bif Kk a b c d && decide (IntKind.i64.wrap (JE a b c d * i) > 0) then JI b d else bif Kk a b c d then IntKind.i64.wrap (IntKind.i64.wrap (0 - b) - d) else IntKind.i64.wrap (IntKind.i64.wrap (0 - i) * IntKind.i64.wrap (c - a))
def JDY:List Prop:=
 [-9223372036854775808 ≤ QL a b c d i ∧ QL a b c d i < 9223372036854775808,-9223372036854775808 ≤ s ∧ s < 9223372036854775808,-9223372036854775808 ≤ J8 (QL a b c d i) (QM a b c d i) (QL a b c d i) (QM a b c d i) ∧ J8 (QL a b c d i) (QM a b c d i) (QL a b c d i) (QM a b c d i) < 9223372036854775808,-9223372036854775808 ≤ QM a b c d i ∧ QM a b c d i < 9223372036854775808,-9223372036854775808 ≤ s ∧ s < 9223372036854775808,-9223372036854775808 ≤ J8 (QL a b c d i) (QM a b c d i) (QL a b c d i) (QM a b c d i) ∧ J8 (QL a b c d i) (QM a b c d i) (QL a b c d i) (QM a b c d i) < 9223372036854775808]
end
theorem Jka {a:Int} {b:Int} {c:Int} {d:Int} {i:Int} {s:Int} (hW:∀ q ∈ ([XT s]:List Prop),q):∀ q ∈ (JDY a b c d i s),q := by
  simp only [awc,awn,and_true] at hW
  unfold JDY
  simp only [awc,awn,and_true]
  have s1:XT (QL a b c d i) := by
    unfold QL
    cases (Kk a b c d && decide (IntKind.i64.wrap (JE a b c d * i) > 0)) <;> cases Kk a b c d <;> exact Jk _
  have s2:XT (QM a b c d i) := by
    unfold QM
    cases (Kk a b c d && decide (IntKind.i64.wrap (JE a b c d * i) > 0)) <;> cases Kk a b c d <;> exact Jk _
  exact ⟨s1,hW,Jk _,s2,hW,Jk _⟩
theorem Jii (a b c d i s:Int) (hNeeds:∀ pN ∈ (JDY a b c d i s),pN):Runs (Jr (JB Jdj) Zs 163) (JF3.args [.i a,.i b,.i c,.i d,.i i,.i s]) (JF3.memo [.i a,.i b,.i c,.i d,.i i,.i s] []) JF3.n (SV.agg [Ci (Xg (QL a b c d i) s (J8 (QL a b c d i) (QM a b c d i) (QL a b c d i) (QM a b c d i)) 2),Ci (Xg (QM a b c d i) s (J8 (QL a b c d i) (QM a b c d i) (QL a b c d i) (QM a b c d i)) 2)]) ([]) :=
  Runs.of1 (ps := (JDY a b c d i s)) (by kernel_rfl) hNeeds
def JOs:List Pm → Qm → Option CRes
  | [.i a,.i b,.i c,.i d,.i i,.i s],[] => some ⟨SV.agg [Ci (Xg (QL a b c d i) s (J8 (QL a b c d i) (QM a b c d i) (QL a b c d i) (QM a b c d i)) 2),Ci (Xg (QM a b c d i) s (J8 (QL a b c d i) (QM a b c d i) (QL a b c d i) (QM a b c d i)) 2)],
 [],[XT s],[],1770⟩
  | _,_ => none
theorem Jq4:Qg Tryz.prog 163 (JS JF3 JOs) := by
  refine JH (JD JSQ 163) fun ps ls r hr hn _ => ?_
  unfold JOs at hr
  split at hr
  · cases hr; exact ⟨_,Jii _ _ _ _ _ _ (Jka (by exact hn)),fun _ => rfl⟩
  · cases hr
def JeL:List (Nat × JY) := (163,JS JF3 JOs) :: Jdj
theorem JSZ:Known Tryz.prog (JB JeL) Zs := J7 JSQ Jq4
theorem Qn {a:Int} (h:XT a):0 ≤ J6 a ∧ J6 a < 18446744073709551616 := by
  rw [Xl a h]
  obtain ⟨h1,h2⟩ := h
  split <;> omega
def JD4:Tpl := ⟨[.one (.int .i64),.one (.int .i64),.one (.int .i64),.one (.int .i64)],[],0⟩
section
variable (a b c m:Int)
def JFq:Int:=
 IntKind.u64.wrap (J6 c - ZF (QJ (J6 a) (J6 b)) (Qa (J6 a) (J6 b)) (J6 c))
def ja:Bool:=
 !decide (Qe a b < 0) == decide (c < 0) && Qe a b != 0
def JFF:Int:=
 IntKind.u64.wrap (ZE (QJ (J6 a) (J6 b)) (Qa (J6 a) (J6 b)) (J6 c) + 1)
def X8:Int:=
 bif c == 0 || !(m == 0 || m == 1 || m == 2) then 0 else bif decide (QJ (J6 a) (J6 b) ≥ J6 c) then 0 else bif JBe m (bif decide (ZF (QJ (J6 a) (J6 b)) (Qa (J6 a) (J6 b)) (J6 c) > JFq a b c) then 1 else bif decide (ZF (QJ (J6 a) (J6 b)) (Qa (J6 a) (J6 b)) (J6 c) < JFq a b c) then -1 else 0) (decide (ZF (QJ (J6 a) (J6 b)) (Qa (J6 a) (J6 b)) (J6 c) > 0)) (ja a b c) then bif JFF a b c == 0 then 0 else Ya (JFF a b c) (ja a b c) else Ya (ZE (QJ (J6 a) (J6 b)) (Qa (J6 a) (J6 b)) (J6 c)) (ja a b c)
def JhO:Bool:=
 bif c == 0 || !(m == 0 || m == 1 || m == 2) then false else bif decide (QJ (J6 a) (J6 b) ≥ J6 c) then false else bif JBe m (bif decide (ZF (QJ (J6 a) (J6 b)) (Qa (J6 a) (J6 b)) (J6 c) > JFq a b c) then 1 else bif decide (ZF (QJ (J6 a) (J6 b)) (Qa (J6 a) (J6 b)) (J6 c) < JFq a b c) then -1 else 0) (decide (ZF (QJ (J6 a) (J6 b)) (Qa (J6 a) (J6 b)) (J6 c) > 0)) (ja a b c) then bif JFF a b c == 0 then false else JCx (JFF a b c) (ja a b c) else JCx (ZE (QJ (J6 a) (J6 b)) (Qa (J6 a) (J6 b)) (J6 c)) (ja a b c)
def JBl:List Prop:=
 [(c == 0 || !(m == 0 || m == 1 || m == 2)) = false → decide (QJ (J6 a) (J6 b) ≥ J6 c) = false → 0 ≤ QJ (J6 a) (J6 b) ∧ QJ (J6 a) (J6 b) < J6 c ∧ 0 ≤ Qa (J6 a) (J6 b) ∧ Qa (J6 a) (J6 b) < 18446744073709551616 ∧ J6 c < 18446744073709551616]
end
theorem JgB {a:Int} {b:Int} {c:Int} {m:Int} (hW:∀ q ∈ ([XT a,XT b,XT c]:List Prop),q):∀ q ∈ (JBl a b c m),q := by
  simp only [awc,awn,and_true] at hW
  unfold JBl
  simp only [awc,awn,and_true]
  obtain ⟨ha,hb,hc⟩ := hW
  intro _ h
  have sa := Qn ha
  have sb := Qn hb
  have sc := Qn hc
  have h0 := Jet (x := J6 a) (y := J6 b) sa sb
  have h1 := Jdf (J6 a) (J6 b)
  rw [decide_eq_false_iff_not] at h
  exact ⟨h0.1,by omega,h1.1,h1.2,sc.2⟩
theorem JfN (a b c m:Int) (hNeeds:∀ pN ∈ (JBl a b c m),pN):Runs (Jr (JB JeL) Zs 161) (JD4.args [.i a,.i b,.i c,.i m]) (JD4.memo [.i a,.i b,.i c,.i m] []) JD4.n (SV.tup [(false,[Ci (X8 a b c m)]),(false,[Cb (JhO a b c m)])]) ([]) :=
  Runs.of1 (ps := (JBl a b c m)) (by kernel_rfl) hNeeds
def JMd:List Pm → Qm → Option CRes
  | [.i a,.i b,.i c,.i m],[] => some ⟨SV.tup [(false,[Ci (X8 a b c m)]),(false,[Cb (JhO a b c m)])],
 [],[XT a,XT b,XT c],[],507⟩
  | _,_ => none
theorem Jmx:Qg Tryz.prog 161 (JS JD4 JMd) := by
  refine JH (JD JSZ 161) fun ps ls r hr hn _ => ?_
  unfold JMd at hr
  split at hr
  · cases hr; exact ⟨_,JfN _ _ _ _ (JgB (by exact hn)),fun _ => rfl⟩
  · cases hr
def JZN:List (Nat × JY) := (161,JS JD4 JMd) :: JeL
theorem JOO:Known Tryz.prog (JB JZN) Zs := J7 JSZ Jmx
def JEo:Tpl := ⟨[.agg [.int .i64,.int .i64,.int .i64,.int .i64],.agg [.int .i64,.int .i64]],[],0⟩
def KB (a b c d:Int):Int :=
 bif decide (JE a b c d > 0) || JE a b c d == 0 && decide (J8 a b c d > 0) then 0 else 1
theorem JlQ (a b l m c d:Int):Runs (Jr (JB JZN) Zs 172) (JEo.args [.i a,.i b,.i l,.i m,.i c,.i d]) (JEo.memo [.i a,.i b,.i l,.i m,.i c,.i d] []) JEo.n (SV.one (Ci (KB a b c d))) ([]) :=
  Runs.of1 (ps := []) (by kernel_rfl) (by simp)
def JPB:List Pm → Qm → Option CRes
  | [.i a,.i b,.i l,.i m,.i c,.i d],[] => some ⟨SV.one (Ci (KB a b c d)),
 [],[],[],73⟩
  | _,_ => none
theorem Jpz:Qg Tryz.prog 172 (JS JEo JPB) := by
  refine JH (JD JOO 172) fun ps ls r hr hn _ => ?_
  unfold JPB at hr
  split at hr
  · cases hr; exact ⟨_,JlQ _ _ _ _ _ _,fun _ => rfl⟩
  · cases hr
def Jce:List (Nat × JY) := (172,JS JEo JPB) :: JZN
theorem JT0:Known Tryz.prog (JB Jce) Zs := J7 JOO Jpz
def Wj:Tpl := ⟨[.agg [.int .i64,.int .i64,.int .i64,.int .i64],.agg [.int .i64,.int .i64]],[],0⟩
def K7 (a0 a1 b0 b1 p0 p1:Int):Bool :=
 decide (KB a0 a1 p0 p1 < KB a0 a1 b0 b1) || KB a0 a1 p0 p1 == KB a0 a1 b0 b1 && decide (JE p0 p1 b0 b1 ≥ 0)
theorem JaP (a0 a1 b0 b1 p0 p1:Int):Runs (Jr (JB Jce) Zs 158) (Wj.args [.i a0,.i a1,.i b0,.i b1,.i p0,.i p1]) (Wj.memo [.i a0,.i a1,.i b0,.i b1,.i p0,.i p1] []) Wj.n (SV.one (Cb (K7 a0 a1 b0 b1 p0 p1))) ([]) :=
  Runs.of1 (ps := []) (by kernel_rfl) (by simp)
def JH2:List Pm → Qm → Option CRes
  | [.i a0,.i a1,.i b0,.i b1,.i p0,.i p1],[] => some ⟨SV.one (Cb (K7 a0 a1 b0 b1 p0 p1)),
 [],[],[],203⟩
  | _,_ => none
theorem JhW:Qg Tryz.prog 158 (JS Wj JH2) := by
  refine JH (JD JT0 158) fun ps ls r hr hn _ => ?_
  unfold JH2 at hr
  split at hr
  · cases hr; exact ⟨_,JaP _ _ _ _ _ _,fun _ => rfl⟩
  · cases hr
def JM7:List (Nat × JY) := (158,JS Wj JH2) :: Jce
theorem JI3:Known Tryz.prog (JB JM7) Zs := J7 JT0 JhW
def JAK:Tpl := ⟨[.agg pI,.agg [.int .i64,.int .i64]],[],0⟩
def KG (f0 f1 f2 t0 t1 t2 p c0 c1 c2 d:Int) (fu:Bool) (u w:Int):Bool :=
 fu || K7 (bif decide (d < 0) then Jf t0 t1 t2 p c0 c1 c2 else Jf f0 f1 f2 p c0 c1 c2) (bif decide (d < 0) then Ji t0 t1 t2 p c0 c1 c2 else Ji f0 f1 f2 p c0 c1 c2) (bif decide (d < 0) then Jf f0 f1 f2 p c0 c1 c2 else Jf t0 t1 t2 p c0 c1 c2) (bif decide (d < 0) then Ji f0 f1 f2 p c0 c1 c2 else Ji t0 t1 t2 p c0 c1 c2) u w
theorem JeR (k bl f0 f1 f2 t0 t1 t2 p c0 c1 c2 d:Int) (fu:Bool) (fe:Int) (pr:Bool) (si ra be n sp:Int) (on:Bool) (u w:Int):Runs (Jr (JB JM7) Zs 130) (JAK.args [.i k,.i bl,.i f0,.i f1,.i f2,.i t0,.i t1,.i t2,.i p,.i c0,.i c1,.i c2,.i d,.b fu,.i fe,.b pr,.i si,.i ra,.i be,.i n,.i sp,.b on,.i u,.i w]) (JAK.memo [.i k,.i bl,.i f0,.i f1,.i f2,.i t0,.i t1,.i t2,.i p,.i c0,.i c1,.i c2,.i d,.b fu,.i fe,.b pr,.i si,.i ra,.i be,.i n,.i sp,.b on,.i u,.i w] []) JAK.n (SV.one (Cb (KG f0 f1 f2 t0 t1 t2 p c0 c1 c2 d fu u w))) ([]) :=
  Runs.of1 (ps := []) (by kernel_rfl) (by simp)
def JI7:List Pm → Qm → Option CRes
  | [.i k,.i bl,.i f0,.i f1,.i f2,.i t0,.i t1,.i t2,.i p,.i c0,.i c1,.i c2,.i d,.b fu,.i fe,.b pr,.i si,.i ra,.i be,.i n,.i sp,.b on,.i u,.i w],[] => some ⟨SV.one (Cb (KG f0 f1 f2 t0 t1 t2 p c0 c1 c2 d fu u w)),
 [],[],[],587⟩
  | _,_ => none
theorem Jk3:Qg Tryz.prog 130 (JS JAK JI7) := by
  refine JH (JD JI3 130) fun ps ls r hr hn _ => ?_
  unfold JI7 at hr
  split at hr
  · cases hr; exact ⟨_,JeR _ _ _ _ _ _ _ _ _ _ _ _ _ _ _ _ _ _ _ _ _ _ _ _,fun _ => rfl⟩
  · cases hr
def JPL:List (Nat × JY) := (130,JS JAK JI7) :: JM7
theorem JKp:Known Tryz.prog (JB JPL) Zs := J7 JI3 Jk3
def JGJ:Tpl := ⟨[.agg [.int .i64,.int .i64,.int .i64,.int .i64,.int .i64,.int .i64,.int .i64,.bool],.agg [.int .i64,.int .i64],.agg [.int .i64,.int .i64]],[],0⟩
def JHW (e0 e1 e2 e3 e4 e5 e6:Int) (e7:Bool) (u w y z:Int):Bool :=
 bif e6 == 0 then decide (J8 (J0 u y) (J0 w z) (J0 e2 e0) (J0 e3 e1) > 0) else KG e0 e1 0 e2 e3 0 17 (JN e4 e6) (JN e5 e6) 0 (Jo e6) (JMv e6 e7) (J0 u e4) (J0 w e5) && (JE (J0 e0 e4) (J0 e1 e5) (J0 u e4) (J0 w e5) != 0 || decide (J8 (J0 e0 e4) (J0 e1 e5) (J0 u e4) (J0 w e5) ≤ 0))
theorem Jkh (e0 e1 e2 e3 e4 e5 e6:Int) (e7:Bool) (u w y z:Int):Runs (Jr (JB JPL) Zs 137) (JGJ.args [.i e0,.i e1,.i e2,.i e3,.i e4,.i e5,.i e6,.b e7,.i u,.i w,.i y,.i z]) (JGJ.memo [.i e0,.i e1,.i e2,.i e3,.i e4,.i e5,.i e6,.b e7,.i u,.i w,.i y,.i z] []) JGJ.n (SV.one (Cb (JHW e0 e1 e2 e3 e4 e5 e6 e7 u w y z))) ([]) :=
  Runs.of1 (ps := []) (by kernel_rfl) (by simp)
def JRA:List Pm → Qm → Option CRes
  | [.i e0,.i e1,.i e2,.i e3,.i e4,.i e5,.i e6,.b e7,.i u,.i w,.i y,.i z],[] => some ⟨SV.one (Cb (JHW e0 e1 e2 e3 e4 e5 e6 e7 u w y z)),
 [],[],[],1039⟩
  | _,_ => none
theorem JrF:Qg Tryz.prog 137 (JS JGJ JRA) := by
  refine JH (JD JKp 137) fun ps ls r hr hn _ => ?_
  unfold JRA at hr
  split at hr
  · cases hr; exact ⟨_,Jkh _ _ _ _ _ _ _ _ _ _ _ _,fun _ => rfl⟩
  · cases hr
def JKS:List (Nat × JY) := (137,JS JGJ JRA) :: JPL
theorem JSu:Known Tryz.prog (JB JKS) Zs := J7 JKp JrF
end
end Go.Proofs.YtmbfbhimdkjkoaaGreat
