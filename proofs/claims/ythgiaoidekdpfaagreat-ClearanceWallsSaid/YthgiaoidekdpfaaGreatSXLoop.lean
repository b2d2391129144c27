/-
  LOOPS: a family of states that holds in front of each round. Conditions: each round leads back into the family, or to what is said of the end.
-/
import Derived.Test.YthgiaoidekdpfaaGreatSXCanon
set_option linter.all false
namespace Go.SX
open Go.RowKit
universe u

theorem mem_last {α : Type u} (l : List α) (x : α) : x ∈ l ++ [x] := List.mem_append.2 (.inr (List.mem_cons_self ..))
structure Ext (m m' : MR) : Prop where
  sub : ∀ a b, look m.sub a = some b → look m'.sub a = some b
  needs : ∀ p ∈ m.needs, p ∈ m'.needs
  eqs : ∀ p ∈ m.eqs, p ∈ m'.eqs
theorem Ext.refl (m : MR) : Ext m m := ⟨fun _ _ h => h, fun _ h => h, fun _ h => h⟩
theorem Ext.trans {a b c : MR} (h : Ext a b) (k : Ext b c) : Ext a c := ⟨fun x y q => k.sub x y (h.sub x y q), fun p q => k.needs p (h.needs p q), fun p q => k.eqs p (h.eqs p q)⟩
structure Good (m : MR) : Prop where
  needs : ∀ p ∈ m.needs, p
  eqs : ∀ p ∈ m.eqs, p.1 = p.2
/-- Where the family's names lie. -/
noncomputable def subAt (n0 : Nat) (θ : Th) (sub : Sub) : Th := fun i => if i < n0 then θ i else match look sub i with | some (some b) => θ b | _ => Loc.none
/-- The name a stands for b, or for no row. -/
noncomputable def Binds (n0 : Nat) (sub : Sub) (a : Nat) (b : Option Nat) : Prop := (a < n0 ∧ b = some a) ∨ (n0 ≤ a ∧ look sub a = some b)
theorem subAt_some {n0 : Nat} {θ : Th} {sub : Sub} {a b : Nat} (h : Binds n0 sub a (some b)) : subAt n0 θ sub a = θ b := by
  unfold subAt
  rcases h with ⟨h1, h2⟩ | ⟨h1, h2⟩
  · cases h2; rw [if_pos h1]
  · rw [if_neg (by omega), h2]
theorem subAt_none {n0 : Nat} {θ : Th} {sub : Sub} {a : Nat} (h : Binds n0 sub a none) : subAt n0 θ sub a = Loc.none := by
  unfold subAt
  rcases h with ⟨_, h2⟩ | ⟨h1, h2⟩
  · cases h2
  · rw [if_neg (by omega), h2]
theorem Binds.ext {n0 : Nat} {m m' : MR} {a : Nat} {b : Option Nat} (h : Binds n0 m.sub a b) (he : Ext m m') : Binds n0 m'.sub a b :=
  h.imp (fun h => h) fun ⟨h1, h2⟩ => ⟨h1, he.sub a b h2⟩
theorem bindN_spec {n0 a : Nat} {b : Option Nat} {m m' : MR} (h : bindN n0 a b m = some m') : Ext m m' ∧ Binds n0 m'.sub a b := by
  unfold bindN at h
  cases hlt : Nat.blt a n0
  · rw [hlt] at h
    have hge : n0 ≤ a := by
      rcases Nat.lt_or_ge a n0 with h' | h'
      · have : Nat.blt a n0 = true := Nat.blt_eq.mpr h'
        rw [this] at hlt; cases hlt
      · exact h'
    simp only [cond_false] at h
    split at h
    · rename_i hno
      have ext : ∀ (m2 : MR), m2 = { m with sub := (a, b) :: m.sub } → Ext m m2 ∧ Binds n0 m2.sub a b := by
        rintro m2 rfl
        refine ⟨⟨fun x y hxy => ?_, fun _ h => h, fun _ h => h⟩, .inr ⟨hge, by simp [look_nil, look_cons]⟩⟩
        have hne : a ≠ x := fun e => by rw [e, hxy] at hno; cases hno
        simp only [look_nil, look_cons, beq_ne hne, cond_false]; exact hxy
      cases h; exact ext _ rfl
    · rename_i b' hl
      split at h
      · rename_i x y
        cases hxy : Nat.beq x y
        · rw [hxy] at h; cases h
        · rw [hxy] at h; cases h
          have := Nat.eq_of_beq_eq_true hxy; subst this
          exact ⟨Ext.refl _, .inr ⟨hge, hl⟩⟩
      · cases h; exact ⟨Ext.refl _, .inr ⟨hge, hl⟩⟩
      · cases h
  · rw [hlt] at h
    simp only [cond_true] at h
    have hlt' : a < n0 := Nat.blt_eq.mp hlt
    split at h
    · rename_i b'
      cases hb : Nat.beq a b'
      · rw [hb] at h; cases h
      · rw [hb] at h; cases h
        have := Nat.eq_of_beq_eq_true hb; subst this
        exact ⟨Ext.refl _, .inl ⟨hlt', rfl⟩⟩
    · cases h
theorem ext_needs (m : MR) (p : Prop) : Ext m { m with needs := m.needs ++ [p] } := ⟨fun _ _ h => h, fun q hq => by simp [hq], fun _ h => h⟩
theorem ext_eqs (m : MR) (p : EV × EV) : Ext m { m with eqs := m.eqs ++ [p] } := ⟨fun _ _ h => h, fun _ h => h, fun q hq => by simp [hq]⟩
theorem needI_spec (same : Bool) (k : IntKind) (x y : SI) (m : MR) : Ext m (needI same k x y m) ∧ ∀ mf, Ext (needI same k x y m) mf → Good mf → x.val = y.val := by
  unfold needI
  split
  · rename_i a b
    by_cases h : a = b
    · rw [show decide (a = b) = true from decide_eq_true h]
      exact ⟨Ext.refl _, fun _ _ _ => h⟩
    · rw [show decide (a = b) = false from decide_eq_false h]
      exact ⟨ext_needs _ _, fun mf he hg => hg.needs _ (he.needs _ (mem_last _ _))⟩
  · cases same
    · exact ⟨ext_needs _ _, fun mf he hg => hg.needs _ (he.needs _ (mem_last _ _))⟩
    · refine ⟨ext_eqs _ _, fun mf he hg => ?_⟩
      have := EVv_inj (hg.eqs (.v (.one (.int k x)), .v (.one (.int k y))) (he.eqs _ (mem_last _ _)))
      injection this with this
      injection this with _ this
      rw [this]
theorem needB_spec (same : Bool) (x y : SB) (m : MR) : Ext m (needB same x y m) ∧ ∀ mf, Ext (needB same x y m) mf → Good mf → x.val = y.val := by
  unfold needB
  split
  · rename_i a b
    cases h : (a == b)
    · exact ⟨ext_needs _ _, fun mf he hg => hg.needs _ (he.needs _ (mem_last _ _))⟩
    · exact ⟨Ext.refl _, fun _ _ _ => eq_of_beq h⟩
  · cases same
    · exact ⟨ext_needs _ _, fun mf he hg => hg.needs _ (he.needs _ (mem_last _ _))⟩
    · refine ⟨ext_eqs _ _, fun mf he hg => ?_⟩
      have := EVv_inj (hg.eqs (.v (.one (.bool x)), .v (.one (.bool y))) (he.eqs _ (mem_last _ _)))
      injection this with this
      injection this with this
      rw [this]
theorem needN_spec (x y : SN) (m : MR) : Ext m (needN x y m) ∧ ∀ mf, Ext (needN x y m) mf → Good mf → x.val = y.val := by
  unfold needN
  split
  · rename_i a b
    cases h : Nat.beq a b
    · exact ⟨ext_needs _ _, fun mf he hg => hg.needs _ (he.needs _ (mem_last _ _))⟩
    · exact ⟨Ext.refl _, fun _ _ _ => Nat.eq_of_beq_eq_true h⟩
  · exact ⟨ext_needs _ _, fun mf he hg => hg.needs _ (he.needs _ (mem_last _ _))⟩

section spec
variable {n0 : Nat} {θ : Th}
theorem matchC_spec {same : Bool} {x y : SC} {m m' : MR} (h : matchC n0 same x y m = some m') : Ext m m' ∧ ∀ mf, Ext m' mf → Good mf → x.den (subAt n0 θ mf.sub) = y.den θ := by
  unfold matchC at h
  split at h
  · rename_i k x j y
    cases hk : kindEq k j
    · rw [hk] at h; cases h
    · rw [hk] at h; cases h
      have := kindEq_spec hk; subst this
      obtain ⟨h1, h2⟩ := needI_spec same k x y m
      exact ⟨h1, fun mf he hg => by simp only [SC.den, h2 mf he hg]⟩
  · rename_i x y
    cases h
    obtain ⟨h1, h2⟩ := needB_spec same x y m
    exact ⟨h1, fun mf he hg => by simp only [SC.den, h2 mf he hg]⟩
  · rename_i a o b p
    cases hk : Nat.beq o p
    · rw [hk] at h; cases h
    · rw [hk] at h
      simp only [cond_true] at h
      have := Nat.eq_of_beq_eq_true hk; subst this
      obtain ⟨h1, h2⟩ := bindN_spec h
      exact ⟨h1, fun mf he _ => by simp only [SC.den, subAt_some (θ := θ) (h2.ext he)]⟩
  · obtain ⟨h1, h2⟩ := bindN_spec h
    exact ⟨h1, fun mf he _ => by simp only [SC.den, subAt_some (θ := θ) (h2.ext he)]⟩
  · obtain ⟨h1, h2⟩ := bindN_spec h
    exact ⟨h1, fun mf he _ => by simp only [SC.den, subAt_none (θ := θ) (h2.ext he), Loc.none]⟩
  · rename_i a e o l b f p k
    cases hk : Nat.beq e f
    · rw [hk] at h; cases h
    · rw [hk] at h
      simp only [cond_true] at h
      have := Nat.eq_of_beq_eq_true hk; subst this
      obtain ⟨h1, h2⟩ := bindN_spec h
      obtain ⟨h3, h4⟩ := needN_spec o p m
      obtain ⟨h5, h6⟩ := needN_spec l k (needN o p m)
      exact ⟨(h3.trans h5).trans h1, fun mf he hg => by simp only [SC.den, subAt_some (θ := θ) (h2.ext he), h4 mf ((h5.trans h1).trans he) hg, h6 mf (h1.trans he) hg]⟩
  · rename_i a e i o b f j p
    cases hk : (Nat.beq e f && Nat.beq o p)
    · rw [hk] at h; cases h
    · rw [hk] at h
      simp only [cond_true] at h
      simp only [Bool.and_eq_true] at hk
      have e1 := Nat.eq_of_beq_eq_true hk.1
      have e2 := Nat.eq_of_beq_eq_true hk.2
      subst e1; subst e2
      obtain ⟨h1, h2⟩ := bindN_spec h
      obtain ⟨h3, h4⟩ := needN_spec i j m
      exact ⟨h3.trans h1, fun mf he hg => by simp only [SC.den, subAt_some (θ := θ) (h2.ext he), h4 mf (h1.trans he) hg]⟩
  · rename_i f a g b
    cases hk : Nat.beq f g
    · rw [hk] at h; cases h
    · rw [hk] at h
      simp only [cond_true] at h
      have := Nat.eq_of_beq_eq_true hk; subst this
      obtain ⟨h1, h2⟩ := bindN_spec h
      exact ⟨h1, fun mf he _ => by simp only [SC.den, subAt_some (θ := θ) (h2.ext he)]⟩
  · cases h; exact ⟨Ext.refl _, fun _ _ _ => rfl⟩
  · cases h; exact ⟨Ext.refl _, fun _ _ _ => rfl⟩
  · rename_i f g
    cases hk : Nat.beq f g
    · rw [hk] at h; cases h
    · rw [hk] at h; cases h
      have := Nat.eq_of_beq_eq_true hk; subst this
      exact ⟨Ext.refl _, fun _ _ _ => rfl⟩
  · cases h
theorem matchCs_spec {same : Bool} : ∀ {x y : List SC} {m m' : MR}, matchCs n0 same x y m = some m' → Ext m m' ∧ ∀ mf, Ext m' mf → Good mf → dens (subAt n0 θ mf.sub) x = dens θ y
  | [], [], m, m', h => by cases h; exact ⟨Ext.refl _, fun _ _ _ => rfl⟩
  | [], _ :: _, _, _, h => by cases h
  | _ :: _, [], _, _, h => by cases h
  | x :: r, y :: s, m, m', h => by
    simp only [matchCs] at h
    split at h
    · rename_i m1 h1
      obtain ⟨h2, h3⟩ := matchC_spec (θ := θ) h1
      obtain ⟨h4, h5⟩ := matchCs_spec h
      refine ⟨h2.trans h4, fun mf he hg => ?_⟩
      have := h5 mf he hg
      simp only [dens, List.map_cons] at this ⊢
      rw [h3 mf (h4.trans he) hg, this]
    · cases h
theorem matchV_spec {same : Bool} {x y : SV} {m m' : MR} (h : matchV n0 same x y m = some m') : Ext m m' ∧ ∀ mf, Ext m' mf → Good mf → x.den (subAt n0 θ mf.sub) = y.den θ := by
  unfold matchV at h
  split at h
  · exact matchC_spec h
  · obtain ⟨h1, h2⟩ := matchCs_spec (θ := θ) h
    exact ⟨h1, fun mf he hg => by simp only [SV.den, h2 mf he hg]⟩
  · cases h
theorem matchVs_spec : ∀ {x y : List SV} {m m' : MR}, matchVs n0 x y m = some m' → Ext m m' ∧ ∀ mf, Ext m' mf → Good mf → x.map (SV.den (subAt n0 θ mf.sub)) = y.map (SV.den θ)
  | [], [], m, m', h => by cases h; exact ⟨Ext.refl _, fun _ _ _ => rfl⟩
  | [], _ :: _, _, _, h => by cases h
  | _ :: _, [], _, _, h => by cases h
  | x :: r, y :: s, m, m', h => by
    simp only [matchVs] at h
    split at h
    · rename_i m1 h1
      obtain ⟨h2, h3⟩ := matchV_spec (θ := θ) h1
      obtain ⟨h4, h5⟩ := matchVs_spec h
      refine ⟨h2.trans h4, fun mf he hg => ?_⟩
      simp only [List.map_cons]
      rw [h3 mf (h4.trans he) hg, h5 mf he hg]
    · cases h
theorem matchT_spec : ∀ {x y : List (Nat × SC)} {m m' : MR}, matchT n0 x y m = some m' → Ext m m' ∧ ∀ mf, Ext m' mf → Good mf → dens (subAt n0 θ mf.sub) (untag x) = dens θ (untag y)
  | [], [], m, m', h => by cases h; exact ⟨Ext.refl _, fun _ _ _ => rfl⟩
  | [], _ :: _, _, _, h => by cases h
  | _ :: _, [], _, _, h => by cases h
  | (a, x) :: r, (b, y) :: s, m, m', h => by
    simp only [matchT] at h
    split at h
    · rename_i m1 h1
      obtain ⟨h2, h3⟩ := matchC_spec (θ := θ) h1
      obtain ⟨h4, h5⟩ := matchT_spec h
      refine ⟨h2.trans h4, fun mf he hg => ?_⟩
      have := h5 mf he hg
      simp only [dens, untag_nil, untag_cons, List.map_cons] at this ⊢
      rw [h3 mf (h4.trans he) hg, this]
    · cases h
theorem matchE_spec : ∀ {E env : Env} {m m' : MR}, matchE n0 E env m = some m' → Ext m m' ∧ ∀ t e, (t, e) ∈ E → ∃ f, look env t = some f ∧ f.g = [] ∧ e.g = [] ∧ ∀ mf, Ext m' mf → Good mf → e.val.den (subAt n0 θ mf.sub) = f.val.den θ
  | [], env, m, m', h => by cases h; exact ⟨Ext.refl _, fun _ _ h => by cases h⟩
  | (t, e) :: r, env, m, m', h => by
    simp only [matchE] at h
    split at h
    · cases h
    · rename_i f hf
      split at h
      · rename_i hg1 hg2
        split at h
        · rename_i m1 h1
          obtain ⟨h2, h3⟩ := matchV_spec (θ := θ) h1
          obtain ⟨h4, h5⟩ := matchE_spec h
          refine ⟨h2.trans h4, fun t' e' hm => ?_⟩
          rcases List.mem_cons.1 hm with hm | hm
          · cases hm
            exact ⟨f, hf, hg2, hg1, fun mf he hg => h3 mf (h4.trans he) hg⟩
          · exact h5 t' e' hm
        · cases h
      · cases h
theorem matchRows_spec {same : Bool} : ∀ {x y : List (List SC)} {m m' : MR}, matchRows n0 same x y m = some m' → Ext m m' ∧ x.length = y.length ∧ (∀ r ∈ x, idsCs r = []) ∧ ∀ mf, Ext m' mf → Good mf → x.map (dens (subAt n0 θ mf.sub)) = y.map (dens θ)
  | [], [], m, m', h => by cases h; exact ⟨Ext.refl _, rfl, by simp, fun _ _ _ => rfl⟩
  | [], _ :: _, _, _, h => by cases h
  | _ :: _, [], _, _, h => by cases h
  | x :: r, y :: s, m, m', h => by
    simp only [matchRows] at h
    split at h
    · rename_i _ _ l m1 hl h1
      obtain ⟨h2, h3⟩ := matchCs_spec (θ := θ) h1
      obtain ⟨h4, h5, h6, h7⟩ := matchRows_spec h
      refine ⟨h2.trans h4, by simp [h5], fun q hq => ?_, fun mf he hg => ?_⟩
      · rcases List.mem_cons.1 hq with rfl | hq
        · exact encCs_ids hl
        · exact h6 q hq
      · simp only [List.map_cons, List.cons.injEq]
        exact ⟨h3 mf (h4.trans he) hg, h7 mf he hg⟩
    · cases h
theorem matchR_spec {x y : RowC} {m m' : MR} (h : matchR n0 x y m = some m') : Ext m m' ∧ ∀ mf, Ext m' mf → Good mf → ∀ esz, rowOk esz y.rows → rowOk esz x.rows ∧ x.rows.length = y.rows.length ∧ ∀ φ, x.rows.map (dens φ) = y.rows.map (dens φ) := by
  unfold matchR at h
  split at h
  · rename_i t ks xs u js ys
    cases hk : cksEq ks js
    · rw [hk] at h; cases h
    · rw [hk] at h
      have := cksEq_spec hk; subst this
      cases htu : sameTag t u
      · rw [htu] at h; cases h
        refine ⟨ext_needs _ _, fun mf he hg esz hok => ?_⟩
        have : xs = ys := hg.needs _ (he.needs _ (mem_last _ _))
        subst this
        exact ⟨hok, rfl, fun _ => rfl⟩
      · rw [htu] at h; cases h
        refine ⟨ext_eqs _ _, fun mf he hg esz hok => ?_⟩
        have : xs = ys := EVl_inj (hg.eqs (.l xs, .l ys) (he.eqs _ (mem_last _ _)))
        subst this
        exact ⟨hok, rfl, fun _ => rfl⟩
  · rename_i t ks xs tg rows
    split at h
    · rename_i ys hy
      cases h
      refine ⟨ext_needs _ _, fun mf he hg esz hok => ?_⟩
      have : xs = ys := hg.needs _ (he.needs _ (mem_last _ _))
      subst this
      obtain ⟨h1, h2, h3⟩ := encRows_spec hy fun r hr => (hok.2 r hr).1
      exact ⟨⟨hok.1, h2⟩, by simp [RowC.rows, h1], h3⟩
    · cases h
  · rename_i t a u b
    obtain ⟨h1, h2, hx, h4⟩ := matchRows_spec (θ := Th.none) h
    refine ⟨h1, fun mf he hg esz hok => ?_⟩
    have h5 := h4 mf he hg
    have h6 : ∀ φ, a.map (dens φ) = b.map (dens φ) := fun φ => by
      have e1 : a.map (dens φ) = a.map (dens (subAt n0 Th.none mf.sub)) := List.map_congr_left fun r hr => dens_plain (hx r hr)
      have e2 : b.map (dens φ) = b.map (dens Th.none) := List.map_congr_left fun r hr => dens_plain (hok.2 r hr).2
      rw [e1, e2, h5]
    refine ⟨⟨hok.1, fun r hr => ⟨?_, hx r hr⟩⟩, h2, h6⟩
    obtain ⟨i, hi⟩ := List.getElem?_of_mem (show r ∈ a from hr)
    have h7 := congrArg (fun l : List (List Value) => l[i]?) (h6 Th.none)
    simp only [List.getElem?_map] at h7
    rw [hi] at h7
    cases hb : b[i]? with
    | none => rw [hb] at h7; cases h7
    | some rb =>
      rw [hb] at h7
      simp only [Option.map_some, Option.some.injEq] at h7
      have h8 := congrArg List.length h7
      simp only [dens, List.length_map] at h8
      rw [h8]
      exact (hok.2 rb (List.mem_of_getElem? hb)).1
  · cases h
theorem matchO_spec {o p : Obj} {m m' : MR} (h : matchO n0 o p m = some m') : Ext m m' ∧ ∀ mf, Ext m' mf → Good mf → ∀ w id b, subAt n0 θ mf.sub id = θ b → objRel θ w b p → objRel (subAt n0 θ mf.sub) w id o := by
  unfold matchO at h
  split at h
  · rename_i t x u y
    cases hk : Nat.beq t u
    · rw [hk] at h; cases h
    · rw [hk] at h
      have := Nat.eq_of_beq_eq_true hk; subst this
      obtain ⟨h1, h2⟩ := matchT_spec (θ := θ) h
      refine ⟨h1, fun mf he hg w id b hid ⟨c, h3, h4⟩ => ⟨c, by rw [hid, h3], by rw [h4, h2 mf he hg]⟩⟩
  · rename_i p t e x q u f y
    cases hk : ((p == q) && (Nat.beq t u && Nat.beq e f))
    · rw [hk] at h; cases h
    · rw [hk] at h
      simp only [Bool.and_eq_true] at hk
      have e1 := eq_of_beq hk.1
      have e2 := Nat.eq_of_beq_eq_true hk.2.1
      have e3 := Nat.eq_of_beq_eq_true hk.2.2
      subst e1; subst e2; subst e3
      obtain ⟨h1, h2⟩ := matchR_spec h
      refine ⟨h1, fun mf he hg w id b hid ho => ?_⟩
      have h3 := objRel_row (h2 mf he hg e) ho
      have hrow : rowOk e x.rows := by cases p <;> exact h3.1
      cases p
      · refine ⟨hrow, ?_⟩; rw [hid, dens_plain (θ := θ) hrow.ids]; exact h3.2
      · refine ⟨hrow, ?_⟩; rw [hid, dens_plain (θ := θ) hrow.ids]; exact h3.2
  · rename_i t e l x u f k y
    cases hk : (Nat.beq t u && (Nat.beq e f && Nat.beq l k))
    · rw [hk] at h; cases h
    · rw [hk] at h
      simp only [Bool.and_eq_true] at hk
      have e1 := Nat.eq_of_beq_eq_true hk.1
      have e2 := Nat.eq_of_beq_eq_true hk.2.1
      have e3 := Nat.eq_of_beq_eq_true hk.2.2
      subst e1; subst e2; subst e3
      obtain ⟨h1, h2⟩ := matchT_spec (θ := θ) h
      exact ⟨h1, fun mf he hg w id b hid ho => ⟨ho.1, by rw [hid, h2 mf he hg]; exact ho.2⟩⟩
  · obtain ⟨h1, h2⟩ := matchVs_spec (θ := θ) h
    exact ⟨h1, fun mf he hg w id b hid ho => by show _ = _; rw [hid, show θ b = _ from ho, h2 mf he hg]⟩
  · cases h
theorem matchM_spec : ∀ {M mem : Mem} {m m' : MR}, matchM n0 M mem m = some m' → Ext m m' ∧ ∀ id o, (id, o) ∈ M → (∃ b p, Binds n0 m'.sub id (some b) ∧ look mem b = some p ∧ ∀ mf, Ext m' mf → Good mf → ∀ w, objRel θ w b p → objRel (subAt n0 θ mf.sub) w id o) ∨
      (Binds n0 m'.sub id none ∧ ∀ mf, Ext m' mf → Good mf → ∀ w, objRel (subAt n0 θ mf.sub) w id o)
  | [], mem, m, m', h => by cases h; exact ⟨Ext.refl _, fun _ _ h => by cases h⟩
  | (id, o) :: r, mem, m, m', h => by
    simp only [matchM] at h
    split at h
    · cases h
    · rename_i hb
      split at h
      · rename_i ty esz tag ks xs
        cases hpos : Nat.blt 0 esz
        · rw [hpos] at h; cases h
        rw [hpos] at h
        have hpos : 0 < esz := Nat.blt_eq.mp hpos
        simp only [cond_true] at h
        obtain ⟨h1, h2⟩ := matchM_spec h
        have hbind : Binds n0 m.sub id none := by
          cases hlt : Nat.blt id n0
          · rw [hlt] at hb
            refine .inr ⟨?_, hb⟩
            rcases Nat.lt_or_ge id n0 with h' | h'
            · have : Nat.blt id n0 = true := Nat.blt_eq.mpr h'
              rw [this] at hlt; cases hlt
            · exact h'
          · rw [hlt] at hb; cases hb
        have he1 := (ext_needs m (xs = [])).trans h1
        refine ⟨he1, fun id' o' hm => ?_⟩
        rcases List.mem_cons.1 hm with hm | hm
        · cases hm
          refine .inr ⟨hbind.ext he1, fun mf he hg w => ?_⟩
          have hx : xs = [] := hg.needs _ (he.needs _ (h1.needs _ (mem_last _ _)))
          subst hx
          refine ⟨⟨hpos, fun r hr => by cases hr⟩, ?_⟩
          rw [subAt_none (θ := θ) ((hbind.ext he1).ext he)]
          exact ⟨rfl, .inl ⟨rfl, rfl, rfl, rfl⟩, World.ownsRow_nil _ _ _ _⟩
        · exact h2 id' o' hm
      · cases h
    · rename_i b hb
      have hbind : Binds n0 m.sub id (some b) := by
        cases hlt : Nat.blt id n0
        · rw [hlt] at hb
          refine .inr ⟨?_, hb⟩
          rcases Nat.lt_or_ge id n0 with h' | h'
          · have : Nat.blt id n0 = true := Nat.blt_eq.mpr h'
            rw [this] at hlt; cases hlt
          · exact h'
        · rw [hlt] at hb
          simp only [cond_true, Option.some.injEq] at hb
          exact .inl ⟨Nat.blt_eq.mp hlt, by rw [hb]⟩
      split at h
      · cases h
      · rename_i p hp
        split at h
        · rename_i m1 h1
          obtain ⟨h2, h3⟩ := matchO_spec (θ := θ) h1
          obtain ⟨h4, h5⟩ := matchM_spec h
          refine ⟨h2.trans h4, fun id' o' hm => ?_⟩
          rcases List.mem_cons.1 hm with hm | hm
          · cases hm
            refine .inl ⟨b, p, hbind.ext (h2.trans h4), hp, fun mf he hg w ho => h3 mf (h4.trans he) hg w id b (subAt_some (hbind.ext ((h2.trans h4).trans he))) ho⟩
          · exact h5 id' o' hm
        · cases h
end spec

theorem plainE_spec : ∀ {E : Env} {t : Nat} {e : Ent}, plainE E = true → look E t = some e → e.g = [] ∧ e.gx = []
  | [], _, _, _, h => by cases h
  | (k, x) :: r, t, e, hp, h => by
    simp only [plainE, Bool.and_eq_true] at hp
    simp only [look_nil, look_cons] at h
    cases hk : Nat.beq k t
    · rw [hk] at h; exact plainE_spec hp.2 h
    · rw [hk] at h; cases h
      exact ⟨List.isEmpty_iff.1 hp.1.1, List.isEmpty_iff.1 hp.1.2⟩
theorem look_mem {α : Type} : ∀ {l : List (Nat × α)} {t : Nat} {x : α}, look l t = some x → (t, x) ∈ l
  | [], _, _, h => by cases h
  | (k, y) :: r, t, x, h => by
    simp only [look_nil, look_cons] at h
    cases hk : Nat.beq k t
    · rw [hk] at h; exact List.mem_cons_of_mem _ (look_mem h)
    · rw [hk] at h; cases h
      have := Nat.eq_of_beq_eq_true hk; subst this
      exact List.mem_cons_self ..
theorem idsEnv_mem : ∀ {E : Env} {t : Nat} {e : Ent}, (t, e) ∈ E → ∀ id ∈ idsV e.val, id ∈ idsEnv E
  | (k, x) :: r, t, e, h, id, hid => by
    simp only [idsEnv, List.mem_append]
    rcases List.mem_cons.1 h with h | h
    · cases h; exact .inl hid
    · exact .inr (idsEnv_mem h id hid)
theorem images_mem : ∀ {sub : Sub} {a b : Nat}, look sub a = some (some b) → b ∈ images sub
  | (k, some x) :: r, a, b, h => by
    simp only [look_nil, look_cons] at h
    cases hk : Nat.beq k a
    · rw [hk] at h; simp [images, images_mem h]
    · rw [hk] at h; cases h; simp [images]
  | (k, none) :: r, a, b, h => by
    simp only [look_nil, look_cons] at h
    cases hk : Nat.beq k a
    · rw [hk] at h; simp [images, images_mem h]
    · rw [hk] at h; cases h
theorem images_inj : ∀ {sub : Sub} {a a' b : Nat}, (images sub).Nodup → look sub a = some (some b) → look sub a' = some (some b) → a = a'
  | [], _, _, _, _, h, _ => by cases h
  | (k, none) :: r, a, a', b, hn, h, h' => by
    simp only [look_nil, look_cons] at h h'
    cases hk : Nat.beq k a
    · rw [hk] at h
      cases hk' : Nat.beq k a'
      · rw [hk'] at h'; simp only [cond_false] at h h'; exact images_inj (sub := r) hn h h'
      · rw [hk'] at h'; cases h'
    · rw [hk] at h; cases h
  | (k, some x) :: r, a, a', b, hn, h, h' => by
    simp only [images, List.nodup_cons] at hn
    simp only [look_nil, look_cons] at h h'
    cases hk : Nat.beq k a
    · rw [hk] at h
      cases hk' : Nat.beq k a'
      · rw [hk'] at h'; simp only [cond_false] at h h'; exact images_inj hn.2 h h'
      · rw [hk'] at h'; simp only [cond_false] at h; cases h'; exact absurd (images_mem h) hn.1
    · rw [hk] at h; cases h
      cases hk' : Nat.beq k a'
      · rw [hk'] at h'; simp only [cond_false] at h'; exact absurd (images_mem h') hn.1
      · rw [← Nat.eq_of_beq_eq_true hk, ← Nat.eq_of_beq_eq_true hk']
theorem lowDom_mem {n0 id : Nat} : ∀ {M : Mem}, id ∈ domain M → id < n0 → id ∈ lowDom n0 M
  | [], h, _ => by cases h
  | (k, o) :: r, h, hlt => by
    simp only [domain, List.mem_cons] at h
    simp only [lowDom]
    cases hk : Nat.blt k n0
    · rcases h with rfl | h
      · rw [Nat.blt_eq.mpr hlt] at hk; cases hk
      · exact lowDom_mem h hlt
    · rcases h with rfl | h
      · simp
      · simp [lowDom_mem h hlt]

/-- A STATE IS ONE OF THE FAMILY'S. -/
theorem matchS_ok {nt m n0 N : Nat} {θ0 : Th} {m0 : Mem} {w0 : World} {E env : Env} {M mem : Mem} {p : List Prop} {q : Eqs} (h : matchS n0 N E M env mem = some (p, q)) (hp : ∀ x ∈ p, x) (hq : ∀ x ∈ q, x.1 = x.2) {a : Act} {w : World}
    (hL : Leaf nt m n0 θ0 m0 w0 env mem a w) : Leaf nt N n0 θ0 m0 w0 E M a w := by
  unfold matchS at h
  cases hc : (plainE E && (noNew N (idsEnv E) && noNew N (idsMem M)))
  · rw [hc] at h; cases h
  rw [hc] at h
  simp only [Bool.and_eq_true] at hc
  obtain ⟨hpl, hE, hM⟩ := hc
  have hE := noNew_spec hE
  have hM := noNew_spec hM
  simp only [cond_true] at h
  split at h
  · cases h
  rename_i m1 h1
  split at h
  · cases h
  rename_i m2 h2
  cases hn : (nodupB (images m2.sub) && !(meets (images m2.sub) (lowDom n0 M)))
  · rw [hn] at h; cases h
  rw [hn] at h
  simp only [cond_true, Option.some.injEq, Prod.mk.injEq] at h
  obtain ⟨rfl, rfl⟩ := h
  simp only [Bool.and_eq_true, Bool.not_eq_true'] at hn
  have hnd := nodupB_spec hn.1
  have hlow : ∀ x, x ∈ images m2.sub → x ∈ lowDom n0 M → False := fun x h1 h2 => by
    have := meets_iff.2 ⟨x, h1, h2⟩
    rw [hn.2] at this; cases this
  have hg : Good m2 := ⟨hp, hq⟩
  obtain ⟨θ, R, pl, G⟩ := hL
  obtain ⟨e1, e2⟩ := matchE_spec (θ := θ) h1
  obtain ⟨e3, e4⟩ := matchM_spec (θ := θ) h2
  -- an object of the family
  have obj : ∀ id o, look M id = some o → objRel (subAt n0 θ m2.sub) w id o ∧ ((∃ b p, Binds n0 m2.sub id (some b) ∧ look mem b = some p ∧ subAt n0 θ m2.sub id = θ b) ∨ subAt n0 θ m2.sub id = Loc.none) := by
    intro id o hl
    rcases e4 id o (look_mem hl) with ⟨b, p, h3, h4, h5⟩ | ⟨h3, h5⟩
    · exact ⟨h5 m2 (Ext.refl _) hg w (R.mem.1 b p h4), .inl ⟨b, p, h3, h4, subAt_some h3⟩⟩
    · exact ⟨h5 m2 (Ext.refl _) hg w, .inr (subAt_none h3)⟩
  refine ⟨subAt n0 θ m2.sub, ⟨R.size, R.defers, fun t e hl id hid => hE id (idsEnv_mem (look_mem hl) id hid), fun id o hl => ⟨hM id (look_ids hl).1, fun i hi => hM i ((look_ids hl).2 i hi)⟩, fun t e hl => ?_, fun id o hl => (obj id o hl).1, fun id id' o o' b hl hl' hne hb hb' => ?_⟩, fun t e hl => (plainE_spec hpl hl).1, ?_⟩
  · obtain ⟨f, h3, h4, h5, h6⟩ := e2 t e (look_mem hl)
    have h7 := entRel_plain (R.env t f h3) h4
    have h8 := h6 m2 e3 hg
    have h9 : a.tmps[t]? = some (e.val.den (subAt n0 θ m2.sub)) := by rw [h7, h8]
    obtain ⟨hg1, hg2⟩ := plainE_spec hpl hl
    obtain ⟨g, gx, tag, v⟩ := e
    simp only at hg1 hg2
    subst hg1; subst hg2
    exact entRel_of h9
  · rcases (obj id o hl).2 with ⟨c, p, h3, h4, h5⟩ | h5
    · rcases (obj id' o' hl').2 with ⟨c', p', h3', h4', h5'⟩ | h5'
      · rw [h5] at hb
        rw [h5'] at hb'
        refine R.mem.2 c c' p p' b h4 h4' (fun hcc => ?_) hb hb'
        subst hcc
        rcases h3 with ⟨h6, h7⟩ | ⟨h6, h7⟩ <;> rcases h3' with ⟨h6', h7'⟩ | ⟨h6', h7'⟩
        · cases h7; cases h7'; exact hne rfl
        · cases h7; exact hlow _ (images_mem h7') (lowDom_mem (look_domain.2 ⟨o, hl⟩) h6)
        · cases h7'; exact hlow _ (images_mem h7) (lowDom_mem (look_domain.2 ⟨o', hl'⟩) h6')
        · exact hne (images_inj hnd h7 h7')
      · rw [h5'] at hb'; cases hb'
    · rw [h5] at hb; cases hb
  · refine { agree := G.agree.trans (fun id hid => by unfold subAt; rw [if_pos hid]) (Nat.le_refl _), os := G.os, tape := G.tape, output := G.output, size := G.size, heap := G.heap, blks := fun id o b hl hb => ?_, eyes := fun id o b hl hb => ?_ }
    · rcases (obj id o hl).2 with ⟨c, p, _, h4, h5⟩ | h5
      · rw [h5] at hb; exact G.blks c p b h4 hb
      · rw [h5] at hb; cases hb
    · rcases (obj id o hl).2 with ⟨c, p, _, h4, h5⟩ | h5
      · rw [h5] at hb; exact G.eyes c p b h4 hb
      · rw [h5] at hb; cases hb
/-- A LEAF IS ONE OF A TREE'S. -/
theorem matchL_ok {nt m n0 N : Nat} {θ0 : Th} {m0 : Mem} {w0 : World} {e : SX} {env : Env} {mem : Mem} : ∀ {t : Tree} {p : List Prop} {q : Eqs}, matchL n0 N e env mem t = some (p, q) → (∀ x ∈ p, x) → (∀ x ∈ q, x.1 = x.2) → ∀ {a : Act} {w : World},
    Leaf nt m n0 θ0 m0 w0 env mem a w → t.sat (Leaf nt N n0 θ0 m0 w0) e.toExit a w
  | .leaf f E M, p, q, h, hp, hq, a, w, hL => by
    simp only [matchL] at h
    cases hef : SX.eq e f
    · rw [hef] at h; cases h
      exact absurd (hp False (by simp)) id
    · rw [hef] at h
      have := SXeq_spec hef; subst this
      exact ⟨rfl, matchS_ok h hp hq hL⟩
  | .ite c s t, p, q, h, hp, hq, a, w, hL => by
    simp only [matchL] at h
    split at h
    · rename_i p1 q1 p2 q2 h1 h2
      cases h
      exact ⟨fun hc => matchL_ok h1 (impAll_spec hc fun x hx => hp x (List.mem_append.2 (.inl hx))) (fun x hx => hq x (List.mem_append.2 (.inl hx))) hL,
        fun hc => matchL_ok h2 (impAll_spec hc fun x hx => hp x (List.mem_append.2 (.inr hx))) (fun x hx => hq x (List.mem_append.2 (.inr hx))) hL⟩
    · cases h
section loop
variable {P : Program} {σ τ : Type} {F : Fam σ τ}
theorem leavesC_ok {nt m n : Nat} {θ0 : Th} {m0 : Mem} {w0 : World} {s : σ} : ∀ {t : Tree} {i j : Nat} {p : List Prop} {q : Eqs}, leavesC F n s t i = some (p, q, j) → (∀ x ∈ p, x) → (∀ x ∈ q, x.1 = x.2) → ∀ {x : Exit} {a : Act} {w : World},
    t.sat (Leaf nt m n θ0 m0 w0) x a w → (x = .normal ∧ ∃ s', F.J s' ∧ F.μ s' < F.μ s ∧ F.fin s' = F.fin s ∧ Leaf nt (n + F.k) n θ0 m0 w0 (F.E s') (F.M s') a w) ∨ ((∀ K Q, Exit.then K Q x a w = Q x a w) ∧ (F.out (F.fin s)).sat (Leaf nt (n + F.k) n θ0 m0 w0) x a w) := by
  intro t
  induction t with
  | leaf e env mem =>
    intro i j p q h hp hq x a w hs
    obtain ⟨rfl, hL⟩ := hs
    cases e with
    | normal =>
      simp only [leavesC] at h
      split at h
      · rename_i p' q' h1
        cases h
        exact .inl ⟨rfl, F.next s i, hp _ (by simp), hp _ (by simp), hp _ (by simp), matchS_ok h1 (fun x hx => hp x (by simp [hx])) hq hL⟩
      · cases h; exact (hp False (by simp)).elim
    | exit id =>
      simp only [leavesC] at h
      split at h
      · rename_i p' q' h1
        cases h
        exact .inr ⟨fun _ _ => rfl, matchL_ok h1 hp hq hL⟩
      · cases h; exact (hp False (by simp)).elim
    | ret =>
      simp only [leavesC] at h
      split at h
      · rename_i p' q' h1
        cases h
        exact .inr ⟨fun _ _ => rfl, matchL_ok h1 hp hq hL⟩
      · cases h; exact (hp False (by simp)).elim
  | ite c s1 s2 ih1 ih2 =>
    intro i j p q h hp hq x a w hs
    simp only [leavesC] at h
    split at h
    · cases h
    rename_i p1 q1 j1 h1
    split at h
    · cases h
    rename_i p2 q2 j2 h2
    cases h
    cases c
    · exact ih2 h2 (impAll_spec (p := false = false) rfl fun x hx => hp x (List.mem_append.2 (.inr hx))) (fun x hx => hq x (List.mem_append.2 (.inr hx))) (hs.2 rfl)
    · exact ih1 h1 (impAll_spec (p := true = true) rfl fun x hx => hp x (List.mem_append.2 (.inl hx))) (fun x hx => hq x (List.mem_append.2 (.inl hx))) (hs.1 rfl)

/-- Each round is right. -/
noncomputable def RoundsOk (F : Fam σ τ) (body : LoopS) (n : Nat) : Prop := ∀ s, F.J s → ∃ p q, roundC F body n s = some (p, q) ∧ (∀ x ∈ p, x) ∧ ∀ x ∈ q, x.1 = x.2
theorem rounds_fam {nt n : Nat} {b : Code} {body : LoopS} (hb : CodeOk P nt b body) (hr : RoundsOk F body n) {θ0 : Th} {m0 : Mem} {w0 : World} : ∀ (m : Nat) (s : σ), F.μ s < m → F.J s → ∀ a w, Leaf nt (n + F.k) n θ0 m0 w0 (F.E s) (F.M s) a w →
    Code.rounds P b ((F.out (F.fin s)).sat (Leaf nt (n + F.k) n θ0 m0 w0)) m a w
  | 0, _, h, _, _, _, _ => by omega
  | m + 1, s, hm, hJ, a, w, hL => by
    obtain ⟨p, q, h, hp, hq⟩ := hr s hJ
    unfold roundC at h
    split at h
    · cases h
    rename_i x hx
    obtain ⟨t, qc, n1, hc⟩ : ∃ t qc n1, collapse x.t x.n = (t, qc, n1) := ⟨_, _, _, rfl⟩
    simp only [hc] at h
    split at h
    case h_2 => cases h
    rename_i p' q' j hl
    cases h
    obtain ⟨θ, R, pl, G⟩ := hL
    obtain ⟨hle, hbody⟩ := hb (F.E s) (F.M s) (n + F.k) x hx fun y hy => hq y (by simp [hy])
    have h2 := hbody (fun y hy => hp y (by simp [hy])) θ a w R pl
    rw [rounds_succ]
    refine wp_mono h2 fun ex a' w' hs => ?_
    have h3 := (collapse_sound (nt := nt) (k := n + F.k) (θ0 := θ) (m0 := F.M s) (w0 := w) hc fun y hy => hq y (by simp [hy])).2 hs
    have h4 := Tree.sat_mono (L' := Leaf nt n1 n θ0 m0 w0) (fun _ _ _ _ h => leaf_trans G (Nat.le_add_right _ _) h) h3
    rcases leavesC_ok hl (fun y hy => hp y (by simp [hy])) (fun y hy => hq y (by simp [hy])) h4 with ⟨rfl, s', h5, h6, h7, h8⟩ | ⟨h5, h6⟩
    · have := rounds_fam hb hr m s' (by omega) h5 a' w' h8
      rw [h7] at this
      exact this
    · rw [h5]; exact h6
/-- A LOOP OF WHICH A FAMILY IS KNOWN. -/
theorem fam_ok {nt n0 : Nat} {b : Code} {body : LoopS} {init : Env → Mem → Option σ} (hb : CodeOk P nt b body) (hr : RoundsOk F body n0) : CodeOk P nt (.loop b) (famS F n0 init) := by
  intro env mem n r h he
  unfold famS at h
  cases hn : Nat.beq n n0
  · rw [hn] at h; cases h
  rw [hn] at h
  have := Nat.eq_of_beq_eq_true hn; subst this
  simp only [cond_true] at h
  split at h
  · cases h
  rename_i s hs
  split at h
  · rename_i p q hm
    cases h
    refine ⟨Nat.le_add_right _ _, fun hne θ a w R pl => ?_⟩
    have hL : Leaf nt n n θ mem w env mem a w := ⟨θ, R, pl, Grew.refl _ _ _ _⟩
    have hL' := matchS_ok hm (fun x hx => hne x (List.mem_cons_of_mem _ hx)) he hL
    exact wp_loop_rounds (F.μ s + 1) (rounds_fam hb hr (F.μ s + 1) s (Nat.lt_succ_self _) (hne _ (List.mem_cons_self ..)) a w hL')
  · cases h
end loop
end Go.SX
