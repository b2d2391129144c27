/-
  SUMMARIES BY PATTERNS: the arguments and the memory of a function have a form; the numbers, truth values and lists in it are open. Conditions: none.
-/
import Derived.Test.YthgiaoidekdpfaaGreatSXUse
set_option linter.all false
namespace Go.SX
open Go.RowKit

inductive Pm where
  | i (n : Int) | b (x : Bool)
inductive PC where
  | int (k : IntKind) | bool | ptr (id off : Nat) | wh (id : Nat) | nilp | nilsl | fn (f : FuncId) | clo (f : FuncId) (id : Nat) | ci (k : IntKind) (n : Int) | cb (b : Bool)
inductive PV where
  | one (c : PC) | agg (cs : List PC)
inductive PO where
  | blk (ty : TypeId) (cells : List (Nat × PC))
  | row (ro : Bool) (ty : TypeId) (esz tag : Nat) (ks : List CK)
  | clo (vs : List PV)
structure Tpl where
  vs : List PV
  mem : List (Nat × PO)
  n : Nat
abbrev Lss := List (List (List Int))

/-! ### What is open in it -/
noncomputable def PC.fit : PC → SC → Option (List Pm)
  | .int k, .int j x => bif kindEq k j then (match x with | .c n => some [.i n] | .v n => some [.i n]) else none
  | .bool, .bool x => (match x with | .c n => some [.b n] | .v n => some [.b n])
  | .ptr a o, .ptr b p => bif Nat.beq a b && Nat.beq o p then some [] else none
  | .wh a, .wh b => bif Nat.beq a b then some [] else none
  | .nilp, .nilp => some []
  | .nilsl, .nilsl => some []
  | .fn f, .fn g => bif Nat.beq f g then some [] else none
  | .clo f a, .clo g b => bif Nat.beq f g && Nat.beq a b then some [] else none
  | .ci k m, .int j x => bif kindEq k j then (match x with | .c n => bif decide (m = n) then some [] else none | .v _ => none) else none
  | .cb a, .bool x => (match x with | .c b => bif (a == b) then some [] else none | .v _ => none)
  | _, _ => none
noncomputable def fitCs : List PC → List SC → Option (List Pm)
  | [], [] => some []
  | c :: cs, x :: xs => match c.fit x, fitCs cs xs with
    | some p, some q => some (p ++ q)
    | _, _ => none
  | _, _ => none
noncomputable def PV.fit : PV → SV → Option (List Pm)
  | .one c, .one x => c.fit x
  | .agg cs, .agg xs => fitCs cs xs
  | _, _ => none
noncomputable def fitPs : List PV → List SV → Option (List Pm)
  | [], [] => some []
  | c :: cs, x :: xs => match c.fit x, fitPs cs xs with
    | some p, some q => some (p ++ q)
    | _, _ => none
  | _, _ => none
noncomputable def fitT : List (Nat × PC) → List (Nat × SC) → Option (List Pm)
  | [], [] => some []
  | (t, c) :: cs, (u, x) :: xs => bif Nat.beq t u then (match c.fit x, fitT cs xs with
    | some p, some q => some (p ++ q)
    | _, _ => none) else none
  | _, _ => none
noncomputable def PO.fit : PO → Obj → Option (List Pm × Lss)
  | .blk t cs, .blk u xs => bif Nat.beq t u then (fitT cs xs).map fun p => (p, []) else none
  | .row ro ty esz tag ks, .row ro' ty' esz' r => bif (ro == ro') && (Nat.beq ty ty' && Nat.beq esz esz') then (match r with
    | .lst tag' js xs => bif Nat.beq tag tag' && cksEq ks js then some ([], [xs]) else none
    | .lit tag' rows => bif Nat.beq tag tag' then (encRows ks rows).map fun xs => ([], [xs]) else none) else none
  | .clo cs, .clo xs => (fitPs cs xs).map fun p => (p, [])
  | _, _ => none
noncomputable def fitMem : List (Nat × PO) → Mem → Option (List Pm × Lss)
  | [], [] => some ([], [])
  | (id, c) :: cs, (id', x) :: xs => bif Nat.beq id id' then (match c.fit x, fitMem cs xs with
    | some (p, l), some (q, m) => some (p ++ q, l ++ m)
    | _, _ => none) else none
  | _, _ => none

/-! ### What stands there -/
noncomputable def PC.mk : PC → List Pm → SC × List Pm
  | .int k, .i n :: r => (.int k (.v n), r)
  | .bool, .b x :: r => (.bool (.v x), r)
  | .int _, r => (.nilp, r)
  | .bool, r => (.nilp, r)
  | .ptr a o, r => (.ptr a o, r)
  | .wh a, r => (.wh a, r)
  | .nilp, r => (.nilp, r)
  | .nilsl, r => (.nilsl, r)
  | .fn f, r => (.fn f, r)
  | .clo f a, r => (.clo f a, r)
  | .ci k n, r => (.int k (.c n), r)
  | .cb b, r => (.bool (.c b), r)
noncomputable def mkCs : List PC → List Pm → List SC × List Pm
  | [], r => ([], r)
  | c :: cs, r => ((c.mk r).1 :: (mkCs cs (c.mk r).2).1, (mkCs cs (c.mk r).2).2)
noncomputable def PV.mk : PV → List Pm → SV × List Pm
  | .one c, r => (.one (c.mk r).1, (c.mk r).2)
  | .agg cs, r => (.agg (mkCs cs r).1, (mkCs cs r).2)
noncomputable def mkPs : List PV → List Pm → List SV × List Pm
  | [], r => ([], r)
  | c :: cs, r => ((c.mk r).1 :: (mkPs cs (c.mk r).2).1, (mkPs cs (c.mk r).2).2)
noncomputable def mkT : List (Nat × PC) → List Pm → List (Nat × SC) × List Pm
  | [], r => ([], r)
  | (t, c) :: cs, r => ((t, (c.mk r).1) :: (mkT cs (c.mk r).2).1, (mkT cs (c.mk r).2).2)
noncomputable def PO.mk : PO → List Pm → Lss → Obj × List Pm × Lss
  | .blk t cs, r, l => (.blk t (mkT cs r).1, (mkT cs r).2, l)
  | .row ro ty esz tag ks, r, xs :: l => (.row ro ty esz (.lst tag ks xs), r, l)
  | .row .., r, [] => (.blk 0 [], r, [])
  | .clo cs, r, l => (.clo (mkPs cs r).1, (mkPs cs r).2, l)
noncomputable def mkMem : List (Nat × PO) → List Pm → Lss → Mem
  | [], _, _ => []
  | (id, c) :: cs, r, l => (id, (c.mk r l).1) :: mkMem cs (c.mk r l).2.1 (c.mk r l).2.2
noncomputable def Tpl.args (t : Tpl) (ps : List Pm) : List SV := (mkPs t.vs ps).1
noncomputable def Tpl.memo (t : Tpl) (ps : List Pm) (ls : Lss) : Mem := mkMem t.mem (mkPs t.vs ps).2 ls
noncomputable def tplS (t : Tpl) (out : List Pm → Lss → Option CRes) : Summ := fun vs mem n =>
  bif Nat.beq n t.n then (match fitPs t.vs vs, fitMem t.mem mem with
    | some ps, some (qs, ls) => out (ps ++ qs) ls
    | _, _ => none) else none

/-! ### The two agree -/
theorem PC.fit_spec {c : PC} {x : SC} {ps : List Pm} (h : c.fit x = some ps) (rest : List Pm) : ∃ y, c.mk (ps ++ rest) = (y, rest) ∧ (∀ θ, y.den θ = x.den θ) ∧ idsC y = idsC x := by
  unfold PC.fit at h
  split at h
  · rename_i k j x
    cases hk : kindEq k j
    · rw [hk] at h; cases h
    · rw [hk] at h
      have := kindEq_spec hk; subst this
      cases x <;> cases h <;> exact ⟨_, rfl, fun _ => rfl, rfl⟩
  · rename_i x
    cases x <;> cases h <;> exact ⟨_, rfl, fun _ => rfl, rfl⟩
  · rename_i a o b p
    cases hk : (Nat.beq a b && Nat.beq o p)
    · rw [hk] at h; cases h
    · rw [hk] at h
      simp only [Bool.and_eq_true] at hk
      have e1 := Nat.eq_of_beq_eq_true hk.1
      have e2 := Nat.eq_of_beq_eq_true hk.2
      subst e1; subst e2; cases h
      exact ⟨_, rfl, fun _ => rfl, rfl⟩
  · rename_i a b
    cases hk : Nat.beq a b
    · rw [hk] at h; cases h
    · rw [hk] at h
      have e1 := Nat.eq_of_beq_eq_true hk
      subst e1; cases h
      exact ⟨_, rfl, fun _ => rfl, rfl⟩
  · cases h; exact ⟨_, rfl, fun _ => rfl, rfl⟩
  · cases h; exact ⟨_, rfl, fun _ => rfl, rfl⟩
  · rename_i a b
    cases hk : Nat.beq a b
    · rw [hk] at h; cases h
    · rw [hk] at h
      have e1 := Nat.eq_of_beq_eq_true hk
      subst e1; cases h
      exact ⟨_, rfl, fun _ => rfl, rfl⟩
  · rename_i a o b p
    cases hk : (Nat.beq a b && Nat.beq o p)
    · rw [hk] at h; cases h
    · rw [hk] at h
      simp only [Bool.and_eq_true] at hk
      have e1 := Nat.eq_of_beq_eq_true hk.1
      have e2 := Nat.eq_of_beq_eq_true hk.2
      subst e1; subst e2; cases h
      exact ⟨_, rfl, fun _ => rfl, rfl⟩
  · rename_i k m j x
    cases hk : kindEq k j
    · rw [hk] at h; cases h
    · rw [hk] at h
      have := kindEq_spec hk; subst this
      cases x with
      | v n => cases h
      | c n =>
        simp only [cond_true] at h
        cases hd : decide (m = n)
        · rw [hd] at h; cases h
        · rw [hd] at h
          have := of_decide_eq_true hd; subst this
          cases h; exact ⟨_, rfl, fun _ => rfl, rfl⟩
  · rename_i a x
    cases x with
    | v n => cases h
    | c b =>
      cases hd : (a == b)
      · simp only [hd] at h; cases h
      · simp only [hd] at h
        have := eq_of_beq hd; subst this
        cases h; exact ⟨_, rfl, fun _ => rfl, rfl⟩
  · cases h
theorem fitCs_spec : ∀ {cs : List PC} {xs : List SC} {ps : List Pm}, fitCs cs xs = some ps → ∀ rest, ∃ ys, mkCs cs (ps ++ rest) = (ys, rest) ∧ (∀ θ, dens θ ys = dens θ xs) ∧ idsCs ys = idsCs xs
  | [], [], _, h, _ => by cases h; exact ⟨[], rfl, fun _ => rfl, rfl⟩
  | [], _ :: _, _, h, _ => by cases h
  | _ :: _, [], _, h, _ => by cases h
  | c :: cs, x :: xs, ps, h, rest => by
    simp only [fitCs] at h
    split at h
    · rename_i p q h1 h2
      cases h
      obtain ⟨y, e1, e2, e3⟩ := PC.fit_spec h1 (q ++ rest)
      obtain ⟨ys, f1, f2, f3⟩ := fitCs_spec h2 rest
      refine ⟨y :: ys, by simp only [mkCs, List.append_assoc, e1, f1], fun θ => ?_, by rw [idsCs_cons, idsCs_cons, e3, f3]⟩
      have := f2 θ
      simp only [dens, List.map_cons, e2 θ] at this ⊢
      rw [this]
    · cases h
theorem PV.fit_spec {c : PV} {x : SV} {ps : List Pm} (h : c.fit x = some ps) (rest : List Pm) : ∃ y, c.mk (ps ++ rest) = (y, rest) ∧ (∀ θ, y.den θ = x.den θ) ∧ idsV y = idsV x := by
  unfold PV.fit at h
  split at h
  · obtain ⟨y, e1, e2, e3⟩ := PC.fit_spec h rest
    exact ⟨.one y, by simp only [PV.mk, e1], e2, e3⟩
  · obtain ⟨y, e1, e2, e3⟩ := fitCs_spec h rest
    exact ⟨.agg y, by simp only [PV.mk, e1], fun θ => by simp only [SV.den, e2 θ], e3⟩
  · cases h
theorem fitPs_spec : ∀ {cs : List PV} {xs : List SV} {ps : List Pm}, fitPs cs xs = some ps → ∀ rest, ∃ ys, mkPs cs (ps ++ rest) = (ys, rest) ∧ (∀ θ, ys.map (SV.den θ) = xs.map (SV.den θ)) ∧ idsVs ys = idsVs xs
  | [], [], _, h, _ => by cases h; exact ⟨[], rfl, fun _ => rfl, rfl⟩
  | [], _ :: _, _, h, _ => by cases h
  | _ :: _, [], _, h, _ => by cases h
  | c :: cs, x :: xs, ps, h, rest => by
    simp only [fitPs] at h
    split at h
    · rename_i p q h1 h2
      cases h
      obtain ⟨y, e1, e2, e3⟩ := PV.fit_spec h1 (q ++ rest)
      obtain ⟨ys, f1, f2, f3⟩ := fitPs_spec h2 rest
      exact ⟨y :: ys, by simp only [mkPs, List.append_assoc, e1, f1], fun θ => by simp only [List.map_cons, e2 θ, f2 θ], by simp only [idsVs, e3, f3]⟩
    · cases h
theorem fitT_spec : ∀ {cs : List (Nat × PC)} {xs : List (Nat × SC)} {ps : List Pm}, fitT cs xs = some ps → ∀ rest, ∃ ys, mkT cs (ps ++ rest) = (ys, rest) ∧ (∀ θ, dens θ (untag ys) = dens θ (untag xs)) ∧ idsCs (untag ys) = idsCs (untag xs)
  | [], [], _, h, _ => by cases h; exact ⟨[], rfl, fun _ => rfl, rfl⟩
  | [], _ :: _, _, h, _ => by cases h
  | _ :: _, [], _, h, _ => by cases h
  | (t, c) :: cs, (u, x) :: xs, ps, h, rest => by
    simp only [fitT] at h
    cases hk : Nat.beq t u
    · rw [hk] at h; cases h
    rw [hk] at h
    simp only [cond_true] at h
    split at h
    · rename_i p q h1 h2
      cases h
      obtain ⟨y, e1, e2, e3⟩ := PC.fit_spec h1 (q ++ rest)
      obtain ⟨ys, f1, f2, f3⟩ := fitT_spec h2 rest
      refine ⟨(t, y) :: ys, by simp only [mkT, List.append_assoc, e1, f1], fun θ => ?_, by rw [untag_cons, untag_cons, idsCs_cons, idsCs_cons, e3, f3]⟩
      have := f2 θ
      simp only [untag_cons, dens, List.map_cons, e2 θ] at this ⊢
      rw [this]
    · cases h
theorem PO.fit_spec {c : PO} {x : Obj} {ps : List Pm} {ls : Lss} (h : c.fit x = some (ps, ls)) (rest : List Pm) (more : Lss) : ∃ y, c.mk (ps ++ rest) (ls ++ more) = (y, rest, more) ∧ (∀ θ w id, objRel θ w id x → objRel θ w id y) ∧ idsO y = idsO x := by
  unfold PO.fit at h
  split at h
  · rename_i t cs u xs
    cases hk : Nat.beq t u
    · rw [hk] at h; cases h
    rw [hk] at h
    have := Nat.eq_of_beq_eq_true hk; subst this
    simp only [cond_true, Option.map_eq_some_iff, Prod.mk.injEq] at h
    obtain ⟨p, h1, rfl, rfl⟩ := h
    obtain ⟨y, e1, e2, e3⟩ := fitT_spec h1 rest
    refine ⟨.blk t y, by simp only [PO.mk, e1, List.nil_append], fun θ w id ⟨b, q1, q2⟩ => ⟨b, q1, by rw [q2, e2 θ]⟩, e3⟩
  · rename_i ro ty esz tag ks ro' ty' esz' r
    cases hk : ((ro == ro') && (Nat.beq ty ty' && Nat.beq esz esz'))
    · rw [hk] at h; cases h
    rw [hk] at h
    simp only [Bool.and_eq_true] at hk
    have e1 := eq_of_beq hk.1
    have e2 := Nat.eq_of_beq_eq_true hk.2.1
    have e3 := Nat.eq_of_beq_eq_true hk.2.2
    subst e1; subst e2; subst e3
    simp only [cond_true] at h
    split at h
    · rename_i tag' js xs
      cases hk : (Nat.beq tag tag' && cksEq ks js)
      · rw [hk] at h; cases h
      rw [hk] at h
      simp only [Bool.and_eq_true] at hk
      have := cksEq_spec hk.2; subst this
      cases h
      exact ⟨_, rfl, fun θ w id h => by cases ro <;> exact h, rfl⟩
    · rename_i tag' rows
      cases hk : Nat.beq tag tag'
      · rw [hk] at h; cases h
      rw [hk] at h
      simp only [cond_true, Option.map_eq_some_iff, Prod.mk.injEq] at h
      obtain ⟨xs, h1, rfl, rfl⟩ := h
      refine ⟨_, rfl, fun θ w id h => ?_, rfl⟩
      have hrow : rowOk esz rows := by cases ro <;> exact h.1
      obtain ⟨q1, q2, q3⟩ := encRows_spec h1 fun r hr => (hrow.2 r hr).1
      have hl : (RowC.lst tag ks xs).rows.length = (RowC.lit tag' rows).rows.length := by simp [RowC.rows, q1]
      have hf : dens θ (RowC.lst tag ks xs).rows.flatten = dens θ (RowC.lit tag' rows).rows.flatten := by rw [dens_flatten, dens_flatten]; exact congrArg _ (q3 θ)
      cases ro
      · exact ⟨⟨hrow.1, q2⟩, by rw [hl, hf]; exact h.2⟩
      · exact ⟨⟨hrow.1, q2⟩, by rw [hl, hf]; exact h.2⟩
  · rename_i cs xs
    simp only [Option.map_eq_some_iff, Prod.mk.injEq] at h
    obtain ⟨p, h1, rfl, rfl⟩ := h
    obtain ⟨y, e1, e2, e3⟩ := fitPs_spec h1 rest
    refine ⟨.clo y, by simp only [PO.mk, e1, List.nil_append], fun θ w id hx => ?_, e3⟩
    have hx' : θ id = Loc.clo (xs.map (SV.den θ)).toArray := hx
    show θ id = Loc.clo (y.map (SV.den θ)).toArray
    rw [e2 θ]
    exact hx'
  · cases h
theorem fitMem_spec : ∀ {cs : List (Nat × PO)} {xs : Mem} {ps : List Pm} {ls : Lss}, fitMem cs xs = some (ps, ls) → ∀ rest more id o, look (mkMem cs (ps ++ rest) (ls ++ more)) id = some o →
    ∃ o', look xs id = some o' ∧ (∀ θ w, objRel θ w id o' → objRel θ w id o) ∧ idsO o = idsO o'
  | [], [], _, _, h, _, _, _, _, ho => by cases h; cases ho
  | [], _ :: _, _, _, h, _, _, _, _, _ => by cases h
  | _ :: _, [], _, _, h, _, _, _, _, _ => by cases h
  | (i, c) :: cs, (u, x) :: xs, ps, ls, h, rest, more, id, o, ho => by
    simp only [fitMem] at h
    cases hk : Nat.beq i u
    · rw [hk] at h; cases h
    rw [hk] at h
    have := Nat.eq_of_beq_eq_true hk; subst this
    simp only [cond_true] at h
    split at h
    · rename_i p l q m h1 h2
      cases h
      obtain ⟨y, e1, e2, e3⟩ := PO.fit_spec h1 (q ++ rest) (m ++ more)
      simp only [mkMem, List.append_assoc, e1, look_cons] at ho
      simp only [look_cons]
      cases hi : Nat.beq i id
      · rw [hi] at ho
        exact fitMem_spec h2 rest more id o ho
      · rw [hi] at ho
        cases ho
        exact ⟨x, rfl, fun θ w hx => e2 θ w id hx, e3⟩
    · cases h
/-- A SUMMARY BY A PATTERN. -/
theorem tplS_ok {P : Program} {f : FuncId} {g : Summ} (hg : FOk P f g) {t : Tpl} {out : List Pm → Lss → Option CRes}
    (h : ∀ ps ls r, out ps ls = some r → (∀ p ∈ r.needs, p) → (∀ p ∈ r.eqs, p.1 = p.2) → ∃ v, Runs g (t.args ps) (t.memo ps ls) t.n v r.mem ∧ ∀ θ, v.den θ = r.val.den θ) : FOk P f (tplS t out) := by
  intro vs mem n r hr hn he hwf hids θ w hm
  unfold tplS at hr
  cases hk : Nat.beq n t.n
  · rw [hk] at hr; cases hr
  rw [hk] at hr
  have := Nat.eq_of_beq_eq_true hk; subst this
  simp only [cond_true] at hr
  split at hr
  · rename_i ps qs ls h1 h2
    obtain ⟨v, hrun, hv⟩ := h _ _ _ hr hn he
    obtain ⟨ys, e1, e2, e3⟩ := fitPs_spec h1 qs
    have hM := fitMem_spec h2 [] []
    simp only [List.append_nil] at hM
    have ea : t.args (ps ++ qs) = ys := by unfold Tpl.args; rw [e1]
    have em : t.memo (ps ++ qs) ls = mkMem t.mem qs ls := by unfold Tpl.memo; rw [e1]
    rw [ea, em] at hrun
    obtain ⟨r', h3, h4, h5, h6, h7⟩ := hrun.run
    have hwf' : wfMem t.n (mkMem t.mem qs ls) := fun id o ho => by
      obtain ⟨o', q1, _, q3⟩ := hM id o ho
      rw [q3]; exact hwf id o' q1
    have hm' : memRel θ (mkMem t.mem qs ls) w := by
      refine ⟨fun id o ho => ?_, fun id id' o o' b ho ho' hne => ?_⟩
      · obtain ⟨o', q1, q2, _⟩ := hM id o ho
        exact q2 θ w (hm.1 id o' q1)
      · obtain ⟨p, q1, _, _⟩ := hM id o ho
        obtain ⟨p', q1', _, _⟩ := hM id' o' ho'
        exact hm.2 id id' p p' b q1 q1' hne
    have := hg _ _ _ r' h3 h4 h5 hwf' (by rw [e3]; exact hids) θ w hm'
    rw [e2 θ] at this
    refine ⟨this.1, this.2.mono fun e w' ⟨θ', q1, q2, q3⟩ => ⟨θ', by rw [q1, h6, hv], ?_, by rw [← h7]; exact q3⟩⟩
    rw [h7] at q2
    refine { q2 with heap := fun b hb hno => q2.heap b hb fun id o ho => ?_, blks := fun id o b hl hb => ?_, eyes := fun id o b hl hb => ?_ }
    · obtain ⟨o', p1, _, _⟩ := hM id o ho
      exact hno id o' p1
    · rcases q2.blks id o b hl hb with h8 | ⟨i, x, h8, h9⟩
      · exact .inl h8
      · obtain ⟨o', p1, _, _⟩ := hM i x h8
        exact .inr ⟨i, o', p1, h9⟩
    · rcases q2.eyes id o b hl hb with h8 | ⟨i, x, h8, h9⟩
      · exact .inl h8
      · obtain ⟨o', p1, _, _⟩ := hM i x h8
        exact .inr ⟨i, o', p1, h9⟩
  · cases hr
end Go.SX
