/-
  A REGION WHOSE ORDER IS OPEN: whatever order its edges allow, the state behind it is the one that the evaluator reckons in the order of the text. Conditions: footprints that clash are ordered by the edges.
-/
import Derived.Test.YthgiaoidekdpfaaGreatSXRegion
set_option linter.all false
namespace Go.SX
open Go.RowKit

theorem meets_iff {a b : List Nat} : meets a b = true ↔ ∃ x, x ∈ a ∧ x ∈ b := by
  induction a with
  | nil => simp [meets]
  | cons c r ih =>
    simp only [meets, Bool.or_eq_true, has_iff, ih, List.mem_cons]
    constructor
    · rintro (h | ⟨x, h1, h2⟩)
      · exact ⟨c, .inl rfl, h⟩
      · exact ⟨x, .inr h1, h2⟩
    · rintro ⟨x, rfl | h1, h2⟩
      · exact .inl h2
      · exact .inr ⟨x, h1, h2⟩

theorem look_fxEnv (x : Fx) (env : Env) (t : Nat) : look (x.env env) t = if x.dst = some t then x.ent else look env t := by
  unfold Fx.env
  cases hd : x.dst with
  | none => simp
  | some d =>
    by_cases h : d = t
    · subst h
      cases hx : x.ent <;> simp [look_rem_same, look_put_same]
    · cases hx : x.ent <;> simp [h, look_rem_ne _ h, look_put_ne _ _ h]
theorem look_fxMem (x : Fx) (mem : Mem) (id : Nat) : look (x.mem mem) id = if id ∈ x.touched ++ domain x.ups then look x.ups id else look mem id := by
  unfold Fx.mem
  rw [look_append, look_delAll]
  cases hu : look x.ups id with
  | some o => have : id ∈ domain x.ups := look_domain.2 ⟨o, hu⟩; simp [this]
  | none => simp only

/-- The operations of a set X, in the order of the text. -/
noncomputable def foldE (fx : Nat → Fx) (X : Nat → Bool) (e0 : Env) : Nat → Env
  | 0 => e0
  | k + 1 => bif X k then (fx k).env (foldE fx X e0 k) else foldE fx X e0 k
noncomputable def foldM (fx : Nat → Fx) (X : Nat → Bool) (m0 : Mem) : Nat → Mem
  | 0 => m0
  | k + 1 => bif X k then (fx k).mem (foldM fx X m0 k) else foldM fx X m0 k
section fold
variable {fx : Nat → Fx} {X Y : Nat → Bool} {e0 : Env} {m0 : Mem}
theorem foldE_agree {t : Nat} : ∀ {m : Nat}, (∀ k, k < m → (fx k).dst = some t → X k = Y k) → look (foldE fx X e0 m) t = look (foldE fx Y e0 m) t
  | 0, _ => rfl
  | m + 1, h => by
    have ih := foldE_agree (m := m) fun k hk => h k (by omega)
    simp only [foldE]
    by_cases hd : (fx m).dst = some t
    · rw [h m (by omega) hd]
      cases Y m <;> simp [look_fxEnv, hd, ih]
    · cases X m <;> cases Y m <;> simp [look_fxEnv, hd, ih]
theorem foldE_skip {t : Nat} {m : Nat} : ∀ {m' : Nat}, m ≤ m' → (∀ k, m ≤ k → k < m' → (fx k).dst = some t → X k = false) → look (foldE fx X e0 m') t = look (foldE fx X e0 m) t
  | 0, hm, _ => by have : m = 0 := by omega
                   subst this; rfl
  | m' + 1, hm, h => by
    by_cases he : m = m' + 1
    · subst he; rfl
    · have ih := foldE_skip (m' := m') (by omega) fun k h1 h2 => h k h1 (by omega)
      simp only [foldE]
      by_cases hd : (fx m').dst = some t
      · rw [h m' (by omega) (by omega) hd]; exact ih
      · cases X m' <;> simp [look_fxEnv, hd, ih]
theorem foldM_agree {t : Nat} : ∀ {m : Nat}, (∀ k, k < m → t ∈ (fx k).touched ++ domain (fx k).ups → X k = Y k) → look (foldM fx X m0 m) t = look (foldM fx Y m0 m) t
  | 0, _ => rfl
  | m + 1, h => by
    have ih := foldM_agree (m := m) fun k hk => h k (by omega)
    simp only [foldM]
    by_cases hd : t ∈ (fx m).touched ++ domain (fx m).ups
    · rw [h m (by omega) hd]
      cases Y m
      · exact ih
      · simp only [cond_true, look_fxMem, if_pos hd]
    · cases X m <;> cases Y m <;> simp only [cond_true, cond_false, look_fxMem, if_neg hd, ih]
theorem foldM_skip {t : Nat} {m : Nat} : ∀ {m' : Nat}, m ≤ m' → (∀ k, m ≤ k → k < m' → t ∈ (fx k).touched ++ domain (fx k).ups → X k = false) → look (foldM fx X m0 m') t = look (foldM fx X m0 m) t
  | 0, hm, _ => by have : m = 0 := by omega
                   subst this; rfl
  | m' + 1, hm, h => by
    by_cases he : m = m' + 1
    · subst he; rfl
    · have ih := foldM_skip (m' := m') (by omega) fun k h1 h2 => h k h1 (by omega)
      simp only [foldM]
      by_cases hd : t ∈ (fx m').touched ++ domain (fx m').ups
      · rw [h m' (by omega) (by omega) hd]; exact ih
      · cases X m'
        · exact ih
        · simp only [cond_true, look_fxMem, if_neg hd, ih]
theorem foldE_origin {t : Nat} {e : Ent} : ∀ {m : Nat}, look (foldE fx X e0 m) t = some e → look e0 t = some e ∨ ∃ k, k < m ∧ X k = true ∧ (fx k).dst = some t ∧ (fx k).ent = some e
  | 0, h => .inl h
  | m + 1, h => by
    simp only [foldE] at h
    cases hx : X m
    · rw [hx] at h
      exact (foldE_origin h).imp (fun h => h) fun ⟨k, h1, h2⟩ => ⟨k, by omega, h2⟩
    · rw [hx] at h
      simp only [cond_true, look_fxEnv] at h
      split at h
      · exact .inr ⟨m, by omega, hx, by assumption, h⟩
      · exact (foldE_origin h).imp (fun h => h) fun ⟨k, h1, h2⟩ => ⟨k, by omega, h2⟩
theorem foldM_origin {t : Nat} {e : Obj} : ∀ {m : Nat}, look (foldM fx X m0 m) t = some e → look m0 t = some e ∨ ∃ k, k < m ∧ X k = true ∧ look (fx k).ups t = some e
  | 0, h => .inl h
  | m + 1, h => by
    simp only [foldM] at h
    cases hx : X m
    · rw [hx] at h
      exact (foldM_origin h).imp (fun h => h) fun ⟨k, h1, h2⟩ => ⟨k, by omega, h2⟩
    · rw [hx] at h
      simp only [cond_true, look_fxMem] at h
      split at h
      · exact .inr ⟨m, by omega, hx, h⟩
      · exact (foldM_origin h).imp (fun h => h) fun ⟨k, h1, h2⟩ => ⟨k, by omega, h2⟩
end fold

/-! ### The chain of the states in the order of the text -/
structure Chain (P : Program) (ops : Array Oper) (nt : Nat) (st : Nat → RS) (fx : Nat → Fx) (fp : Nat → FP) : Prop where
  step : ∀ k, k < ops.size → ∃ o, ops[k]? = some o ∧ Local P ops nt o k (st k) (st (k + 1)) (fx k) (fp k).rs (fp k).ws (fp k).gs ∧ (fp k).ds = dstL o

theorem opSteps_chain {P : Program} {ce : CE} (hp : PlainNames P) (hce : CESound P ce) {nt : Nat} {ops : Array Oper} : ∀ {l : List Oper} {s s' : RS} {k : Nat}, opSteps P ce nt ops.toList l s = some s' → ops.toList.drop k = l →
    (∀ p ∈ s'.needs, p) → (∀ p ∈ s'.eqs, p.1 = p.2) → wfEnv s.n s.env → wfMem s.n s.mem →
    ∃ (st : Nat → RS) (fx : Nat → Fx) (fp : Nat → FP), st k = s ∧ st (k + l.length) = s' ∧ s'.fps = s.fps ++ (List.range' k l.length).map fp ∧
      ∀ j, k ≤ j → j < k + l.length → ∃ o, ops[j]? = some o ∧ Local P ops nt o j (st j) (st (j + 1)) (fx j) (fp j).rs (fp j).ws (fp j).gs ∧ (fp j).ds = dstL o
  | [], s, s', k, h, _, _, _, _, _ => by
    cases h
    exact ⟨fun _ => s, fun _ => ⟨none, none, [], []⟩, fun _ => ⟨[], [], [], []⟩, rfl, rfl, by simp, fun j h1 h2 => by simp at h2; omega⟩
  | o :: r, s, s', k, h, hk, hn, he, hE, hM => by
    simp only [opSteps] at h
    split at h
    · rename_i s1 h1
      have hio : ops[k]? = some o := by
        have := congrArg (fun l : List Oper => l[0]?) hk
        simpa [List.getElem?_drop] using this
      have hk' : ops.toList.drop (k + 1) = r := by
        have := congrArg List.tail hk
        simpa using this
      obtain ⟨m1, m2, m3⟩ := opSteps_needs hp hce h
      obtain ⟨_, _, x, rs, ws, gs, L⟩ := opStep_local hp hce h1 (fun p hp => hn p (m1 p hp)) (fun p hp => he p (m2 p hp)) hio hE hM
      obtain ⟨hE1, hM1⟩ := local_wf L hE hM
      obtain ⟨st, fx, fp, q1, q2, q3, q4⟩ := opSteps_chain hp hce h hk' hn he hE1 hM1
      refine ⟨fun j => if j = k then s else st j, fun j => if j = k then x else fx j, fun j => if j = k then ⟨rs, ws, gs, dstL o⟩ else fp j, by simp, ?_, ?_, ?_⟩
      · have : k + (o :: r).length ≠ k := by simp
        simp only [this, if_false]
        rw [← q2]
        simp only [List.length_cons]
        rw [show k + (r.length + 1) = k + 1 + r.length from by omega]
      · rw [q3, L.fps]
        simp only [List.length_cons, List.range'_succ, List.map_cons, if_true, List.append_assoc, List.singleton_append, List.append_cancel_left_eq, List.cons.injEq, true_and]
        refine List.map_congr_left fun j hj => ?_
        have : j ≠ k := by
          have := (List.mem_range'_1.1 hj).1
          omega
        simp [this]
      · intro j h2 h3
        by_cases hj : j = k
        · subst hj
          refine ⟨o, hio, ?_⟩
          simp only [if_true, show j + 1 ≠ j from by omega, if_false, q1]
          exact ⟨L, trivial⟩
        · obtain ⟨o', h4, h5, h6⟩ := q4 j (by omega) (by simp at h3; omega)
          refine ⟨o', h4, ?_⟩
          simp only [hj, show j + 1 ≠ k from by omega, if_false]
          exact ⟨h5, h6⟩
    · cases h

/-! ### The edges -/
theorem orAll_spec {acc : List Nat} : ∀ {es : List Edge} {i : Nat}, (orAll acc es).testBit i = true → ∃ e ∈ es, Region.binds .any e = true ∧ (e.on = i ∨ (acc.getD e.on 0).testBit i = true)
  | [], i, h => by simp [orAll] at h
  | e :: r, i, h => by
    simp only [orAll] at h
    cases hb : Region.binds .any e
    · rw [hb] at h
      obtain ⟨e', h1, h2⟩ := orAll_spec h
      exact ⟨e', by simp [h1], h2⟩
    · rw [hb] at h
      simp only [cond_true, Nat.testBit_or, Bool.or_eq_true, Nat.testBit_two_pow, decide_eq_true_eq] at h
      rcases h with (h | h) | h
      · exact ⟨e, by simp, hb, .inl h⟩
      · exact ⟨e, by simp, hb, .inr h⟩
      · obtain ⟨e', h1, h2⟩ := orAll_spec h
        exact ⟨e', by simp [h1], h2⟩
theorem befores_spec : ∀ {l : List Oper} {acc : List Nat}, (befores l acc).length = acc.length + l.length ∧ (∀ j, j < acc.length → (befores l acc)[j]? = acc[j]?) ∧
    ∀ j o, l[j]? = some o → (befores l acc)[acc.length + j]? = some (orAll ((befores l acc).take (acc.length + j)) o.after.toList)
  | [], acc => ⟨by simp [befores], fun _ _ => rfl, fun j o h => by simp at h⟩
  | o :: r, acc => by
    simp only [befores]
    obtain ⟨h1, h2, h3⟩ := befores_spec (l := r) (acc := acc ++ [orAll acc o.after.toList])
    refine ⟨by rw [h1]; simp; omega, fun j hj => ?_, fun j o' ho => ?_⟩
    · rw [h2 j (by simp; omega), List.getElem?_append_left hj]
    · cases j with
      | zero =>
        simp only [List.getElem?_cons_zero, Option.some.injEq] at ho
        subst ho
        rw [Nat.add_zero, h2 acc.length (by simp)]
        have : List.take acc.length (befores r (acc ++ [orAll acc o.after.toList])) = acc := by
          apply List.ext_getElem?
          intro k
          rw [List.getElem?_take]
          split
          · rename_i hk
            rw [h2 k (by simp; omega), List.getElem?_append_left hk]
          · rename_i hk
            simp at hk ⊢; omega
        rw [this]
        simp
      | succ j =>
        have := h3 j o' (by simpa using ho)
        simp only [List.length_append, List.length_cons, List.length_nil, Nat.zero_add] at this
        rw [show acc.length + 1 + j = acc.length + (j + 1) from by omega] at this
        exact this
theorem backE_spec {n : Nat} : ∀ {es : List Edge}, backE n es = true → ∀ e ∈ es, Region.binds .any e = true → e.on < n
  | [], _, _, h, _ => by cases h
  | e :: r, h, e', he, hb => by
    simp only [backE, Bool.and_eq_true, Bool.or_eq_true, Bool.not_eq_true', Nat.blt_eq] at h
    rcases List.mem_cons.1 he with rfl | he
    · rcases h.1 with h1 | h1
      · rw [h1] at hb; cases hb
      · exact h1
    · exact backE_spec h.2 e' he hb
theorem backs_spec : ∀ {l : List Oper} {n : Nat}, backs n l = true → ∀ j o, l[j]? = some o → ∀ e ∈ o.after, Region.binds .any e = true → e.on < n + j
  | [], _, _, _, _, h, _, _, _ => by simp at h
  | o :: r, n, h, j, o', ho, e, he, hb => by
    simp only [backs, Bool.and_eq_true] at h
    cases j with
    | zero => simp only [List.getElem?_cons_zero, Option.some.injEq] at ho; subst ho; exact backE_spec h.1 e (by simpa using he) hb
    | succ j => have := backs_spec h.2 j o' (by simpa using ho) e he hb; omega
theorem mask_bit {x : Nat} : ∀ {l : List Nat}, (mask l).testBit x = true ↔ x ∈ l
  | [] => by simp [mask_nil, mask_cons]
  | a :: r => by
    show (Nat.lor (2 ^ a) (mask r)).testBit x = true ↔ _
    have : (Nat.lor (2 ^ a) (mask r)) = (2 ^ a) ||| mask r := rfl
    rw [this, Nat.testBit_or, Bool.or_eq_true, mask_bit (l := r), Nat.testBit_two_pow, decide_eq_true_eq, List.mem_cons]
    exact ⟨fun h => h.imp Eq.symm id, fun h => h.imp Eq.symm id⟩
theorem apart_spec {a b : Nat} (h : apart a b = true) {x : Nat} (h1 : a.testBit x = true) (h2 : b.testBit x = true) : False := by
  have h3 : a &&& b = 0 := Nat.eq_of_beq_eq_true h
  have h4 : (a &&& b).testBit x = true := by rw [Nat.testBit_and, h1, h2]; rfl
  rw [h3, Nat.zero_testBit] at h4; cases h4
theorem apart_meets {a b : List Nat} (h : apart (mask a) (mask b) = true) : meets a b = false := by
  cases hm : meets a b
  · rfl
  · obtain ⟨x, h1, h2⟩ := meets_iff.1 hm
    exact (apart_spec h (mask_bit.2 h1) (mask_bit.2 h2)).elim
theorem clashM_spec {a b : FP} (h : clashM (fm a) (fm b) = false) : clash a b = false := by
  simp only [clashM, Bool.not_eq_false', Bool.and_eq_true, fm] at h
  have h1 : meets a.ws b.rs = false := by
    cases hm : meets a.ws b.rs
    · rfl
    · obtain ⟨x, h1, h2⟩ := meets_iff.1 hm
      refine (apart_spec h.1 (mask_bit.2 h1) (x := x) ?_).elim
      show ((mask b.rs) ||| (mask b.ws)).testBit x = true
      rw [Nat.testBit_or, mask_bit.2 h2]; rfl
  have h2 : meets a.ws b.ws = false := by
    cases hm : meets a.ws b.ws
    · rfl
    · obtain ⟨x, h1, h2⟩ := meets_iff.1 hm
      refine (apart_spec h.1 (mask_bit.2 h1) (x := x) ?_).elim
      show ((mask b.rs) ||| (mask b.ws)).testBit x = true
      rw [Nat.testBit_or, mask_bit.2 h2, Bool.or_true]
  simp only [clash, h1, h2, apart_meets h.2, Bool.or_false]
theorem chk1_spec {b : FP} {m : Nat} : ∀ {l : List FP} {i : Nat}, chk1 (fm b) m (l.map fm) i = true → ∀ k a, l[k]? = some a → (m.testBit (i + k) = true ∨ clash a b = false) ∧ meets a.gs b.ds = false
  | [], _, _, _, _, h => by simp at h
  | c :: r, i, h, k, a, ha => by
    simp only [List.map_cons, chk1, Bool.and_eq_true, Bool.or_eq_true, Bool.not_eq_true'] at h
    cases k with
    | zero => simp only [List.getElem?_cons_zero, Option.some.injEq] at ha; subst ha; exact ⟨h.1.imp (fun h => h) clashM_spec, apart_meets h.2.1⟩
    | succ k =>
      have := chk1_spec h.2.2 k a (by simpa using ha)
      rw [show i + 1 + k = i + (k + 1) from by omega] at this
      exact this
theorem chkAll_spec : ∀ {l done : List FP} {ms : List Nat}, chkAll (done.map fm) (l.map fm) ms = true → ∀ j b m, l[j]? = some b → ms[j]? = some m → ∀ k a, (done ++ l)[k]? = some a → k < done.length + j → (m.testBit k = true ∨ clash a b = false) ∧ meets a.gs b.ds = false
  | [], _, _, _, _, _, _, h, _, _, _, _, _ => by simp at h
  | c :: r, done, [], h, _, _, _, _, _, _, _, _, _ => by simp [chkAll] at h
  | c :: r, done, m :: ms, h, j, b, m', hb, hm, k, a, ha, hk => by
    simp only [List.map_cons, chkAll, Bool.and_eq_true] at h
    cases j with
    | zero =>
      simp only [List.getElem?_cons_zero, Option.some.injEq] at hb hm
      subst hb; subst hm
      rw [List.getElem?_append_left (by omega)] at ha
      have := chk1_spec h.1 k a ha
      rwa [Nat.zero_add] at this
    | succ j => exact chkAll_spec (done := done ++ [c]) (by simpa using h.2) j b m' (by simpa using hb) (by simpa using hm) k a (by simpa using ha) (by simp; omega)

/-! ### Memory, once more, at a set of operations -/
theorem memRel_congr {θ : Th} {m m' : Mem} {w : World} (h : ∀ id, look m id = look m' id) (hm : memRel θ m w) : memRel θ m' w :=
  ⟨fun id o hl => hm.1 id o ((h id).trans hl), fun id id' o o' b hl hl' => hm.2 id id' o o' b ((h id).trans hl) ((h id').trans hl')⟩
theorem Grew.congr {n : Nat} {θ θ' : Th} {m m1 m' m1' : Mem} {w w' : World} (h : ∀ id, look m id = look m1 id) (h' : ∀ id, look m' id = look m1' id) (g : Grew n θ m w θ' m' w') : Grew n θ m1 w θ' m1' w' :=
  { agree := g.agree, os := g.os, tape := g.tape, output := g.output, size := g.size
    heap := fun b hb hno => g.heap b hb fun id o hl => hno id o ((h id).symm.trans hl)
    blks := fun id o b hl hb => (g.blks id o b ((h' id).trans hl) hb).imp (fun h => h) fun ⟨i, x, h1, h2⟩ => ⟨i, x, (h i).symm.trans h1, h2⟩
    eyes := fun id o b hl hb => (g.eyes id o b ((h' id).trans hl) hb).imp (fun h => h) fun ⟨i, x, h1, h2⟩ => ⟨i, x, (h i).symm.trans h1, h2⟩ }
theorem memRel_after' {n : Nat} {θ θ' : Th} {mem sub ups : Mem} {w w' : World} {touched : List Nat} (hsame : ∀ id o, look mem id = some o → θ' id = θ id ∧ ∀ i ∈ idsO o, θ' i = θ i) (hn : Agree n θ θ') (hm : memRel θ mem w)
    (hsub : ∀ id o, look sub id = some o → look mem id = some o) (htouch : ∀ id o, look sub id = some o → id ∈ touched)
    {n' : Nat} (hg : Grew n' θ sub w θ' ups w') (hu : memRel θ' ups w') :
    memRel θ' (ups ++ delAll mem (touched ++ domain ups)) w' ∧ Grew n θ mem w θ' (ups ++ delAll mem (touched ++ domain ups)) w' := by
  have hlook : ∀ id o, look (ups ++ delAll mem (touched ++ domain ups)) id = some o → look ups id = some o ∨ (look mem id = some o ∧ id ∉ touched ∧ look ups id = none) := by
    intro id o h
    rw [look_append] at h
    cases h1 : look ups id with
    | some x => rw [h1] at h; exact .inl h
    | none =>
      rw [h1] at h
      simp only [look_delAll] at h
      split at h
      · cases h
      · rename_i hno
        exact .inr ⟨h, fun ht => hno (by simp [ht]), rfl⟩
  have old : ∀ id o b, look mem id = some o → id ∉ touched → (θ id).eye = some b → b < w.heap.size ∧ (∀ i x, look sub i = some x → (θ i).blk ≠ some b) := by
    intro id o b hl hn hb
    refine ⟨objRel_lt (hm.1 id o hl) hb, fun i x hi he => ?_⟩
    have hne : i ≠ id := fun e => hn (e ▸ htouch i x hi)
    exact hm.2 i id x o b (hsub i x hi) hl hne he hb
  have keep : ∀ id o, look mem id = some o → id ∉ touched → objRel θ' w' id o := by
    intro id o hl hn
    obtain ⟨h1, h2⟩ := hsame id o hl
    refine objRel_tr (n := 0) (dom := id :: idsO o) (fun i hi => ?_) h1 (fun i hi => .inr (by simp [hi])) (fun b hb => ?_) (hm.1 id o hl)
    · rcases hi with hi | hi
      · omega
      · rcases List.mem_cons.1 hi with rfl | hi
        · exact h1
        · exact h2 i hi
    · obtain ⟨h3, h4⟩ := old id o b hl hn hb
      exact hg.heap b h3 h4
  have part : ∀ id id' o o' b, look ups id = some o → look mem id' = some o' → id' ∉ touched → (θ' id).blk = some b → (θ' id').eye ≠ some b := by
    intro id id' o o' b h1 h2 h3 h4 h5
    rw [(hsame id' o' h2).1] at h5
    obtain ⟨h6, h7⟩ := old id' o' b h2 h3 h5
    rcases hg.blks id o b h1 h4 with h8 | ⟨i, x, h8, h9⟩
    · omega
    · exact h7 i x h8 h9
  have part' : ∀ id id' o o' b, look ups id = some o → look mem id' = some o' → id' ∉ touched → (θ' id').blk = some b → (θ' id).eye ≠ some b := by
    intro id id' o o' b h1 h2 h3 h4 h5
    rw [(hsame id' o' h2).1] at h4
    have h6 := objRel_lt (hm.1 id' o' h2) (objRel_eye (hm.1 id' o' h2) h4)
    rcases hg.eyes id o b h1 h5 with h8 | ⟨i, x, h8, h9⟩
    · omega
    · exact hm.2 id' i o' x b h2 (hsub i x h8) (fun e => h3 (e ▸ htouch i x h8)) h4 h9
  refine ⟨⟨fun id o h => ?_, fun id id' o o' b h h' hne hb hb' => ?_⟩, ?_⟩
  · rcases hlook id o h with h | ⟨h, hn, _⟩
    · exact hu.1 id o h
    · exact keep id o h hn
  · rcases hlook id o h with h | ⟨h, hn, _⟩ <;> rcases hlook id' o' h' with h' | ⟨h', hn', _⟩
    · exact hu.2 id id' o o' b h h' hne hb hb'
    · exact part id id' o o' b h h' hn' hb hb'
    · exact part' id' id o' o b h' h hn hb hb'
    · rw [(hsame id o h).1] at hb
      rw [(hsame id' o' h').1] at hb'
      exact hm.2 id id' o o' b h h' hne hb hb'
  · refine { agree := hn, os := hg.os, tape := hg.tape, output := hg.output, size := hg.size, heap := fun b hb hno => hg.heap b hb fun id o hl => hno id o (hsub id o hl), blks := fun id o b hl he => ?_, eyes := fun id o b hl he => ?_ }
    · rcases hlook id o hl with h | ⟨h, hn, _⟩
      · rcases hg.blks id o b h he with h8 | ⟨i, x, h8, h9⟩
        · exact .inl h8
        · exact .inr ⟨i, x, hsub i x h8, h9⟩
      · rw [(hsame id o h).1] at he
        exact .inr ⟨id, o, h, he⟩
    · rcases hlook id o hl with h | ⟨h, hn, _⟩
      · rcases hg.eyes id o b h he with h8 | ⟨i, x, h8, h9⟩
        · exact .inl h8
        · exact .inr ⟨i, x, hsub i x h8, h9⟩
      · rw [(hsame id o h).1] at he
        exact .inr ⟨id, o, h, he⟩

section draw
variable {P : Program} {ops : Array Oper} {nt : Nat} {st : Nat → RS} {fx : Nat → Fx} {fp : Nat → FP} {bef : List Nat} {Q : Exit → Act → World → Prop}

/-- What the evaluator has checked of an open order. -/
structure Sched (P : Program) (ops : Array Oper) (nt : Nat) (st : Nat → RS) (fx : Nat → Fx) (fp : Nat → FP) (before : Nat → Nat → Prop) : Prop where
  chain : ∀ k, k < ops.size → ∃ o, ops[k]? = some o ∧ Local P ops nt o k (st k) (st (k + 1)) (fx k) (fp k).rs (fp k).ws (fp k).gs ∧ (fp k).ds = dstL o
  back : ∀ j o, ops[j]? = some o → ∀ e ∈ o.after, Region.binds .any e = true → e.on < j
  clash : ∀ i j, i < j → j < ops.size → before j i ∨ SX.clash (fp i) (fp j) = false
  guard : ∀ i j, i < j → j < ops.size → meets (fp i).gs (fp j).ds = false
  edge : ∀ j i, j < ops.size → before j i → ∃ o, ops[j]? = some o ∧ ∃ e ∈ o.after, Region.binds .any e = true ∧ (e.on = i ∨ before e.on i)
  plain : ∀ t e, look (st 0).env t = some e → e.g = []
  wfE : wfEnv (st 0).n (st 0).env
  wfM : wfMem (st 0).n (st 0).mem

variable {before : Nat → Nat → Prop}
theorem Sched.canonE (S : Sched P ops nt st fx fp before) : ∀ k, k ≤ ops.size → (st k).env = foldE fx (fun _ => true) (st 0).env k ∧ (st k).mem = foldM fx (fun _ => true) (st 0).mem k
  | 0, _ => ⟨rfl, rfl⟩
  | k + 1, h => by
    obtain ⟨h1, h2⟩ := S.canonE k (by omega)
    obtain ⟨o, _, L, _⟩ := S.chain k (by omega)
    exact ⟨by rw [L.env, h1]; rfl, by rw [L.mem, h2]; rfl⟩
theorem Sched.mono (S : Sched P ops nt st fx fp before) : ∀ {i j : Nat}, i ≤ j → j ≤ ops.size → (st i).n ≤ (st j).n
  | i, 0, h, _ => by have : i = 0 := by omega
                     subst this; exact Nat.le_refl _
  | i, j + 1, h, hj => by
    by_cases he : i = j + 1
    · subst he; exact Nat.le_refl _
    · obtain ⟨o, _, L, _⟩ := S.chain j (by omega)
      exact Nat.le_trans (S.mono (i := i) (j := j) (by omega) (by omega)) L.up

/-- Closed under the edges. -/
noncomputable def Closed (ops : Array Oper) (X : Nat → Bool) : Prop := ∀ j o, ops[j]? = some o → X j = true → ∀ e ∈ o.after, Region.binds .any e = true → X e.on = true
theorem Sched.below (S : Sched P ops nt st fx fp before) {X : Nat → Bool} (hc : Closed ops X) : ∀ (j i : Nat), j < ops.size → X j = true → before j i → X i = true := by
  intro j
  induction j using Nat.strongRecOn with
  | _ j ih =>
    intro i hj hx hb
    obtain ⟨o, ho, e, he, hbi, h⟩ := S.edge j i hj hb
    have hlt := S.back j o ho e he hbi
    have hxe := hc j o ho hx e he hbi
    rcases h with rfl | h
    · exact hxe
    · exact ih e.on hlt i (by omega) hxe h
theorem Sched.ready (S : Sched P ops nt st fx fp before) {X : Nat → Bool} (hc : Closed ops X) {j i : Nat} (hj : j < ops.size) (hr : ∀ o, ops[j]? = some o → ∀ e ∈ o.after, Region.binds .any e = true → X e.on = true) (hb : before j i) : X i = true := by
  obtain ⟨o, ho, e, he, hbi, h⟩ := S.edge j i hj hb
  have hlt := S.back j o ho e he hbi
  rcases h with rfl | h
  · exact hr o ho e he hbi
  · exact S.below hc e.on i (by omega) (hr o ho e he hbi) h

/-- The relation at a set X. -/
structure RelX (nt : Nat) (st : Nat → RS) (fx : Nat → Fx) (N : Nat) (X : Nat → Bool) (θ : Th) (a : Act) (w : World) : Prop where
  size : a.tmps.size = nt
  defers : a.defers = []
  env : ∀ t e, look (foldE fx X (st 0).env N) t = some e → entRel θ a t e
  mem : memRel θ (foldM fx X (st 0).mem N) w

theorem clash_ws_rs {a b : FP} {x : Nat} (h1 : x ∈ a.ws) (h2 : x ∈ b.rs) : SX.clash a b = true := by
  have : meets a.ws b.rs = true := meets_iff.2 ⟨x, h1, h2⟩
  simp [SX.clash, this]
theorem clash_ws_ws {a b : FP} {x : Nat} (h1 : x ∈ a.ws) (h2 : x ∈ b.ws) : SX.clash a b = true := by
  have : meets a.ws b.ws = true := meets_iff.2 ⟨x, h1, h2⟩
  simp [SX.clash, this]
theorem clash_rs_ws {a b : FP} {x : Nat} (h1 : x ∈ a.rs) (h2 : x ∈ b.ws) : SX.clash a b = true := by
  have : meets a.rs b.ws = true := meets_iff.2 ⟨x, h1, h2⟩
  simp [SX.clash, this]

theorem Sched.next (S : Sched P ops nt st fx fp before) {X : Nat → Bool} (hc : Closed ops X) {j : Nat} (hj : j < ops.size) (hXj : X j = false)
    (hr : ∀ o, ops[j]? = some o → ∀ e ∈ o.after, Region.binds .any e = true → X e.on = true) {θ0 θ : Th} {m0 : Mem} {w0 : World} {a : Act} {w : World} (R : RelX nt st fx ops.size X θ a w)
    (G : Grew (st 0).n θ0 m0 w0 θ (foldM fx X (st 0).mem ops.size) w) {K : Act → World → Prop}
    (hk : ∀ X' θ' a' w', (∀ k, X' k = (X k || k == j)) → RelX nt st fx ops.size X' θ' a' w' → Grew (st 0).n θ0 m0 w0 θ' (foldM fx X' (st 0).mem ops.size) w' → K a' w') : wpOpIn Fence.wide 0 P ops Q j K a w := by
  obtain ⟨o, ho, L, hds⟩ := S.chain j hj
  obtain ⟨hcE, hcM⟩ := S.canonE j (by omega)
  -- order facts
  have bef : ∀ k, k < j → SX.clash (fp k) (fp j) = true → X k = true := by
    intro k hk hcl
    rcases S.clash k j hk hj with h | h
    · exact S.ready hc hj hr h
    · rw [h] at hcl; cases hcl
  have aft : ∀ k, j < k → k < ops.size → SX.clash (fp j) (fp k) = true → X k = false := by
    intro k hk hkN hcl
    cases hx : X k
    · rfl
    · rcases S.clash j k hk hkN with h | h
      · have := S.below hc k j hkN hx h
        rw [hXj] at this; cases this
      · rw [h] at hcl; cases hcl
  have wE : ∀ k t, k < ops.size → (fx k).dst = some t → 4 * t ∈ (fp k).ws := by
    intro k t hk hd
    obtain ⟨o', _, L', _⟩ := S.chain k hk
    exact L'.wDst t (by rw [← L'.dst]; exact hd)
  have wM : ∀ k id, k < ops.size → id ∈ (fx k).touched ++ domain (fx k).ups → 4 * id + 1 ∈ (fp k).ws := by
    intro k id hk hd
    obtain ⟨o', _, L', _⟩ := S.chain k hk
    exact L'.wMem id hd
  -- what j looks at is as in the order of the text
  have sameE : ∀ t, 4 * t ∈ (fp j).rs → look (foldE fx X (st 0).env ops.size) t = look (st j).env t := by
    intro t ht
    rw [hcE, foldE_skip (m := j) (by omega) fun k h1 h2 hd => ?_]
    · exact foldE_agree fun k hk hd => by
        exact bef k hk (clash_ws_rs (wE k t (by omega) hd) ht)
    · by_cases hkj : k = j
      · rw [hkj]; exact hXj
      · exact aft k (by omega) h2 (clash_rs_ws ht (wE k t h2 hd))
  have sameM : ∀ id, 4 * id + 1 ∈ (fp j).rs → look (foldM fx X (st 0).mem ops.size) id = look (st j).mem id := by
    intro t ht
    rw [hcM, foldM_skip (m := j) (by omega) fun k h1 h2 hd => ?_]
    · exact foldM_agree fun k hk hd => by
        exact bef k hk (clash_ws_rs (wM k t (by omega) hd) ht)
    · by_cases hkj : k = j
      · rw [hkj]; exact hXj
      · exact aft k (by omega) h2 (clash_rs_ws ht (wM k t h2 hd))
  refine L.run θ a w K Q R.size (fun t e ht hl => R.env t e ((sameE t ht).trans hl)) ⟨fun id ob hid hl => R.mem.1 id ob ((sameM id hid).trans hl), fun id id' ob ob' b hid hid' hl hl' => R.mem.2 id id' ob ob' b ((sameM id hid).trans hl) ((sameM id' hid').trans hl')⟩ fun θ' v w' D => ?_
  -- the names that j has made new are named nowhere yet
  have hn0 : (st 0).n ≤ (st j).n := S.mono (by omega) (by omega)
  have fresh : ∀ k id, k < ops.size → X k = true → 4 * id + 2 ∈ (fp k).rs → (id < (st k).n ∨ id ∈ domain (fx k).ups) → θ' id = θ id := by
    intro k id hk hx hrs hid
    by_cases hd : id ∈ domain (fx j).ups
    · by_cases hlt : id < (st j).n
      · exact D.same id (.inl hlt)
      · exfalso
        have hw := L.wNew id hd (Nat.le_of_not_lt hlt)
        rcases Nat.lt_trichotomy k j with h | h | h
        · obtain ⟨o', _, L', _⟩ := S.chain k hk
          have h1 : id < (st (k + 1)).n := hid.elim (fun h => Nat.lt_of_lt_of_le h L'.up) (L'.domUps id)
          have h2 := S.mono (i := k + 1) (j := j) (by omega) (by omega)
          omega
        · rw [h] at hx; rw [hXj] at hx; cases hx
        · have := aft k h hk (clash_ws_rs hw hrs)
          rw [hx] at this; cases this
    · exact D.same id (.inr hd)
  have freshE : ∀ t e, look (foldE fx X (st 0).env ops.size) t = some e → ∀ id ∈ idsV e.val, θ' id = θ id := by
    intro t e hl id hid
    rcases foldE_origin hl with h | ⟨k, hk, hx, _, he⟩
    · exact D.same id (.inl (Nat.lt_of_lt_of_le (S.wfE t e h id hid) hn0))
    · obtain ⟨o', _, L', _⟩ := S.chain k hk
      exact fresh k id hk hx (L'.rEnt e he id hid) (L'.wfEnt e he id hid)
  have freshM : ∀ id ob, look (foldM fx X (st 0).mem ops.size) id = some ob → θ' id = θ id ∧ ∀ i ∈ idsO ob, θ' i = θ i := by
    intro id ob hl
    rcases foldM_origin hl with h | ⟨k, hk, hx, he⟩
    · exact ⟨D.same id (.inl (Nat.lt_of_lt_of_le (S.wfM id ob h).1 hn0)), fun i hi => D.same i (.inl (Nat.lt_of_lt_of_le ((S.wfM id ob h).2 i hi) hn0))⟩
    · obtain ⟨o', _, L', _⟩ := S.chain k hk
      refine ⟨?_, fun i hi => fresh k i hk hx (L'.rUps id ob he i hi) (L'.wfUps id ob he i hi)⟩
      by_cases hd : id ∈ domain (fx j).ups
      · by_cases hlt : id < (st j).n
        · exact D.same id (.inl hlt)
        · exfalso
          have hdk : id ∈ domain (fx k).ups := look_domain.2 ⟨ob, he⟩
          have hw := wM j id hj (by simp [hd])
          have hw' := wM k id hk (by simp [hdk])
          rcases Nat.lt_trichotomy k j with h | h | h
          · have h1 := L'.domUps id hdk
            have h2 := S.mono (i := k + 1) (j := j) (by omega) (by omega)
            omega
          · rw [h] at hx; rw [hXj] at hx; cases hx
          · have := aft k h hk (clash_ws_ws hw hw')
            rw [hx] at this; cases this
      · exact D.same id (.inr hd)
  -- the state with j
  have nextE : ∀ t, look (foldE fx (fun k => X k || k == j) (st 0).env ops.size) t = if (fx j).dst = some t then (fx j).ent else look (foldE fx X (st 0).env ops.size) t := by
    intro t
    by_cases hd : (fx j).dst = some t
    · rw [if_pos hd, foldE_skip (m := j + 1) (by omega) fun k h1 h2 hdk => ?_]
      · simp [foldE, look_fxEnv, hd]
      · have := aft k (by omega) h2 (clash_ws_ws (wE j t hj hd) (wE k t h2 hdk))
        have hne : (k == j) = false := by simp; omega
        simp [this, hne]
    · rw [if_neg hd]
      exact foldE_agree fun k _ hdk => by
        have hne : (k == j) = false := by
          simp only [beq_eq_false_iff_ne]
          rintro rfl; exact hd hdk
        simp [hne]
  have nextM : ∀ t, look (foldM fx (fun k => X k || k == j) (st 0).mem ops.size) t = look ((fx j).ups ++ delAll (foldM fx X (st 0).mem ops.size) ((fx j).touched ++ domain (fx j).ups)) t := by
    intro t
    have e := look_fxMem (fx j) (foldM fx X (st 0).mem ops.size) t
    unfold Fx.mem at e
    rw [e]
    by_cases hd : t ∈ (fx j).touched ++ domain (fx j).ups
    · rw [if_pos hd, foldM_skip (m := j + 1) (by omega) fun k h1 h2 hdk => ?_]
      · simp only [foldM, beq_self_eq_true, Bool.or_true, cond_true, look_fxMem, if_pos hd]
      · have := aft k (by omega) h2 (clash_ws_ws (wM j t hj hd) (wM k t h2 hdk))
        have hne : (k == j) = false := by simp; omega
        simp [this, hne]
    · rw [if_neg hd]
      exact foldM_agree fun k _ hdk => by
        have hne : (k == j) = false := by
          simp only [beq_eq_false_iff_ne]
          rintro rfl; exact hd hdk
        simp [hne]
  -- memory
  have hsubeq : ∀ id, look (restrict (st j).mem (fx j).touched) id = look (restrict (foldM fx X (st 0).mem ops.size) (fx j).touched) id := by
    intro id
    rw [look_restrict, look_restrict]
    split
    · rename_i hm; rw [sameM id (L.rMem id hm)]
    · rfl
  have hmem := memRel_after' (n := (st 0).n) (touched := (fx j).touched) freshM (fun id hid => D.same id (.inl (Nat.lt_of_lt_of_le hid hn0))) R.mem (sub := restrict (foldM fx X (st 0).mem ops.size) (fx j).touched)
    (fun id o hl => by
      rw [look_restrict] at hl
      split at hl
      · exact hl
      · cases hl)
    (fun id o hl => by
      rw [look_restrict] at hl
      split at hl
      · assumption
      · cases hl) (D.grew.congr hsubeq fun _ => rfl) D.mem
  refine hk (fun k => X k || k == j) θ' (a.put o.dst v) w' (fun _ => rfl) ⟨by rw [put_size]; exact R.size, by rw [put_defers]; exact R.defers, fun t e hl => ?_, memRel_congr (fun id => (nextM id).symm) hmem.1⟩ (G.trans (hmem.2.congr (fun _ => rfl) fun id => (nextM id).symm) (Nat.le_refl _))
  rw [nextE] at hl
  split at hl
  · rename_i hd
    have hod : o.dst = some t := by rw [← L.dst]; exact hd
    rw [hod]
    exact D.ent t e hd hl
  · rename_i hd
    have hden : e.val.den θ' = e.val.den θ := by
      refine SV.den_tr (n := 0) (dom := idsV e.val) (fun id hid => ?_) (fun i hi => .inr hi)
      rcases hid with hid | hid
      · omega
      · exact freshE t e hl id hid
    cases hod : o.dst with
    | none => simpa [Act.put] using entRel_den (R.env t e hl) hden
    | some d =>
      have hdt : d ≠ t := fun h => hd (by rw [L.dst, hod, h])
      refine entRel_keep (R.env t e hl) hdt (fun p hp hpd => ?_) hden
      rcases foldE_origin hl with h | ⟨k, hk, hx, _, he⟩
      · rw [S.plain t e h] at hp; cases hp
      · obtain ⟨o', _, L', _⟩ := S.chain k hk
        obtain ⟨h1, h2⟩ := L'.rGrd e he p hp
        have hw := L.wDst d hod
        rcases Nat.lt_trichotomy k j with h | h | h
        · have := S.guard k j h hj
          have hm : meets (fp k).gs (fp j).ds = true := meets_iff.2 ⟨p.1, h2, by rw [hds, hpd]; simp [dstL, hod]⟩
          rw [this] at hm; cases hm
        · rw [h] at hx; rw [hXj] at hx; cases hx
        · have := aft k h hk (clash_ws_rs (by rw [← hpd] at hw; exact hw) h1)
          rw [hx] at this; cases this

/-- ANY ORDER. -/
theorem Sched.sound (S : Sched P ops nt st fx fp before) {θ0 : Th} {m0 : Mem} {w0 : World}
    (hq : ∀ θ' a' w', RelX nt st fx ops.size (fun _ => true) θ' a' w' → Grew (st 0).n θ0 m0 w0 θ' (foldM fx (fun _ => true) (st 0).mem ops.size) w' → Q .normal a' w') :
    ∀ (fuel : Nat) (listed : Array Bool) (θ : Th) (a : Act) (w : World), listed.size = ops.size → Closed ops (fun k => listed.getD k false) → ((List.range ops.size).filter fun k => !listed.getD k false).length ≤ fuel →
      RelX nt st fx ops.size (fun k => listed.getD k false) θ a w → Grew (st 0).n θ0 m0 w0 θ (foldM fx (fun k => listed.getD k false) (st 0).mem ops.size) w → wpAnyIn Fence.wide 0 P .any ops Q fuel listed a w := by
  -- when nothing is ready, all is done
  have done : ∀ (listed : Array Bool), listed.size = ops.size → Region.ready .any ops listed = [] → ∀ k, k < ops.size → listed.getD k false = true := by
    intro listed hs hr k
    induction k using Nat.strongRecOn with
    | _ k ih =>
      intro hk
      cases hx : listed.getD k false
      · exfalso
        obtain ⟨o, ho, _⟩ := S.chain k hk
        have : k ∈ Region.ready .any ops listed := mem_ready.2 ⟨by
          have : k < listed.size := by omega
          simp [this] at hx ⊢; exact hx, o, ho, fun e he hb => ih e.on (S.back k o ho e he hb) (by have := S.back k o ho e he hb; omega)⟩
        rw [hr] at this; cases this
      · rfl
  have fin : ∀ (listed : Array Bool) (θ : Th) (a : Act) (w : World), listed.size = ops.size → Region.ready .any ops listed = [] → RelX nt st fx ops.size (fun k => listed.getD k false) θ a w →
      Grew (st 0).n θ0 m0 w0 θ (foldM fx (fun k => listed.getD k false) (st 0).mem ops.size) w → Q .normal a w := by
    intro listed θ a w hs hr R G
    have hall := done listed hs hr
    have eE : ∀ t, look (foldE fx (fun k => listed.getD k false) (st 0).env ops.size) t = look (foldE fx (fun _ => true) (st 0).env ops.size) t := fun t => foldE_agree fun k hk _ => hall k hk
    have eM : ∀ t, look (foldM fx (fun k => listed.getD k false) (st 0).mem ops.size) t = look (foldM fx (fun _ => true) (st 0).mem ops.size) t := fun t => foldM_agree fun k hk _ => hall k hk
    exact hq θ a w ⟨R.size, R.defers, fun t e hl => R.env t e ((eE t).trans hl), memRel_congr eM R.mem⟩ (G.congr (fun _ => rfl) eM)
  intro fuel
  induction fuel with
  | zero =>
    intro listed θ a w hs hc hf R G
    have hr : Region.ready .any ops listed = [] := by
      cases h : Region.ready .any ops listed with
      | nil => rfl
      | cons k r =>
        exfalso
        have hk : k ∈ Region.ready .any ops listed := by rw [h]; simp
        obtain ⟨h1, o, ho, _⟩ := mem_ready.1 hk
        have hlt : k < ops.size := (Array.getElem?_eq_some_iff.1 ho).1
        have : k ∈ (List.range ops.size).filter fun k => !listed.getD k false := by
          rw [List.mem_filter]
          refine ⟨List.mem_range.2 hlt, ?_⟩
          have : k < listed.size := by omega
          simp [this] at h1 ⊢; exact h1
        have h0 := List.eq_nil_of_length_eq_zero (Nat.le_zero.1 hf)
        rw [h0] at this; cases this
    exact ⟨hr, fin listed θ a w hs hr R G⟩
  | succ fuel ih =>
    intro listed θ a w hs hc hf R G
    refine ⟨fun hr => fin listed θ a w hs hr R G, fun j hj => ?_⟩
    obtain ⟨h1, o, ho, hpre⟩ := mem_ready.1 hj
    have hlt : j < ops.size := (Array.getElem?_eq_some_iff.1 ho).1
    have hjs : j < listed.size := by omega
    have hXj : listed.getD j false = false := by simp [hjs] at h1 ⊢; exact h1
    have hget : ∀ k, (listed.setIfInBounds j true).getD k false = (listed.getD k false || k == j) := by
      intro k
      by_cases hkj : k = j
      · subst hkj; simp [hjs]
      · rw [getD_set_ne false (Ne.symm hkj)]
        have : (k == j) = false := by simp [hkj]
        simp [this]
    refine S.next hc hlt hXj (fun o' ho' e he hb => by rw [ho] at ho'; cases ho'; exact hpre e he hb) R G fun X' θ' a' w' hX' R' G' => ?_
    have hX : X' = fun k => (listed.setIfInBounds j true).getD k false := by
      funext k; rw [hX' k, hget k]
    subst hX
    refine ih _ θ' a' w' (by simp [hs]) (fun k ok hok hx e he hb => ?_) ?_ R' G'
    · simp only [hget, Bool.or_eq_true, beq_iff_eq] at hx ⊢
      rcases hx with hx | rfl
      · exact .inl (hc k ok hok hx e he hb)
      · rw [ho] at hok; cases hok; exact .inl (hpre e he hb)
    · have hsub : ((List.range ops.size).filter fun k => !(listed.setIfInBounds j true).getD k false).length < ((List.range ops.size).filter fun k => !listed.getD k false).length := by
        have e1 : ((List.range ops.size).filter fun k => !(listed.setIfInBounds j true).getD k false) = ((List.range ops.size).filter fun k => !listed.getD k false).filter fun k => !(k == j) := by
          rw [List.filter_filter]
          refine List.filter_congr fun k _ => ?_
          rw [hget k]
          cases listed.getD k false <;> cases (k == j) <;> rfl
        rw [e1]
        refine List.length_filter_lt_length_iff_exists.2 ⟨j, ?_, by simp⟩
        rw [List.mem_filter]
        exact ⟨List.mem_range.2 hlt, by simp [hXj]⟩
      omega
end draw
end Go.SX
