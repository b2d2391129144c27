/-
  A REGION: its operations one after the other, or in any order that its edges allow. Conditions: what is needed holds; the callees are right; where the order is open, the footprints do not clash.
-/
import Derived.Test.YthgiaoidekdpfaaGreatSXStep
set_option linter.all false
namespace Go.SX
open Go.RowKit

/-- The evaluator's state and the model's: the frame, the memory. -/
structure Rel (nt n : Nat) (θ : Th) (env : Env) (mem : Mem) (a : Act) (w : World) : Prop where
  size : a.tmps.size = nt
  defers : a.defers = []
  wfE : wfEnv n env
  wfM : wfMem n mem
  env : envRel θ a env
  mem : memRel θ mem w

theorem put_size (a : Act) (d : Option Tmp) (v : Value) : (a.put d v).tmps.size = a.tmps.size := by cases d <;> simp [Act.put]
theorem put_defers (a : Act) (d : Option Tmp) (v : Value) : (a.put d v).defers = a.defers := by cases d <;> rfl

theorem entRel_keep {θ θ' : Th} {a : Act} {t d : Nat} {e : Ent} {v : Value} (h : entRel θ a t e) (hne : d ≠ t) (hf : ∀ p ∈ e.g, p.1 ≠ d) (hd : e.val.den θ' = e.val.den θ) : entRel θ' (a.put (some d) v) t e := by
  unfold entRel at h ⊢
  rw [holds_put hf, put_get_ne v hne, hd]
  exact h
theorem entRel_den {θ θ' : Th} {a : Act} {t : Nat} {e : Ent} (h : entRel θ a t e) (hd : e.val.den θ' = e.val.den θ) : entRel θ' a t e := by
  unfold entRel at h ⊢
  rw [hd]
  exact h

/-- The state behind an operation is well formed. -/
theorem local_wf {P : Program} {ops : Array Oper} {nt : Nat} {o : Oper} {i : Nat} {s s' : RS} {x : Fx} {rs ws gs : List Nat} (L : Local P ops nt o i s s' x rs ws gs) (hE : wfEnv s.n s.env) (hM : wfMem s.n s.mem) :
    wfEnv s'.n s'.env ∧ wfMem s'.n s'.mem := by
  have hdom : ∀ id, id < s.n ∨ id ∈ domain x.ups → id < s'.n := fun id h => h.elim (fun h => Nat.lt_of_lt_of_le h L.up) (L.domUps id)
  constructor
  · intro t e hl id hid
    rw [L.env] at hl
    unfold Fx.env at hl
    cases hd : x.dst with
    | none => rw [hd] at hl; exact Nat.lt_of_lt_of_le (hE t e hl id hid) L.up
    | some d =>
      rw [hd] at hl
      simp only at hl
      by_cases hdt : d = t
      · subst hdt
        cases hx : x.ent with
        | none => rw [hx] at hl; simp only [look_rem_same] at hl; cases hl
        | some e' => rw [hx] at hl; simp only [look_put_same] at hl; cases hl; exact hdom id (L.wfEnt _ hx id hid)
      · cases hx : x.ent with
        | none => rw [hx] at hl; rw [look_rem_ne _ hdt] at hl; exact Nat.lt_of_lt_of_le (hE t e hl id hid) L.up
        | some e' => rw [hx] at hl; rw [look_put_ne _ _ hdt] at hl; exact Nat.lt_of_lt_of_le (hE t e hl id hid) L.up
  · intro id ob hl
    rw [L.mem] at hl
    unfold Fx.mem at hl
    rw [look_append] at hl
    cases hu : look x.ups id with
    | some ob' =>
      rw [hu] at hl; cases hl
      exact ⟨L.domUps id (look_domain.2 ⟨_, hu⟩), fun j hj => hdom j (L.wfUps id _ hu j hj)⟩
    | none =>
      rw [hu] at hl
      simp only [look_delAll] at hl
      split at hl
      · cases hl
      · exact ⟨Nat.lt_of_lt_of_le (hM id ob hl).1 L.up, fun j hj => Nat.lt_of_lt_of_le ((hM id ob hl).2 j hj) L.up⟩

/-- THE NEXT STATE. -/
theorem rel_next {P : Program} {ops : Array Oper} {nt : Nat} {o : Oper} {i : Nat} {s s' : RS} {x : Fx} {rs ws gs : List Nat} {θ θ' : Th} {a : Act} {w w' : World} {v : Value}
    (L : Local P ops nt o i s s' x rs ws gs) (R : Rel nt s.n θ s.env s.mem a w) (D : Did θ a w s.n (restrict s.mem x.touched) x θ' v w') :
    Rel nt s'.n θ' s'.env s'.mem (a.put o.dst v) w' ∧ Grew s.n θ s.mem w θ' s'.mem w' := by
  have hmem := memRel_after R.wfM R.mem (sub := restrict s.mem x.touched) (ups := x.ups) (touched := x.touched)
    (fun id o hl => by
      rw [look_restrict] at hl
      split at hl
      · exact hl
      · cases hl)
    (fun id o hl => by
      rw [look_restrict] at hl
      split at hl
      · assumption
      · cases hl) D.grew D.mem
  have hm : s'.mem = x.ups ++ delAll s.mem (x.touched ++ domain x.ups) := L.mem
  rw [← hm] at hmem
  have hsame : ∀ id, id < s.n → θ' id = θ id := fun id h => D.same id (.inl h)
  have hdom : ∀ id, id < s.n ∨ id ∈ domain x.ups → id < s'.n := fun id h => h.elim (fun h => Nat.lt_of_lt_of_le h L.up) (L.domUps id)
  have hok : ∀ d, o.dst = some d → d < nt ∧ ∀ t e, look s.env t = some e → ∀ p ∈ e.g, p.1 ≠ d := by
    intro d hd
    have := L.ok
    simp only [dstOk, hd, Bool.and_eq_true, Nat.blt_eq] at this
    exact ⟨this.1, fun t e hl => noGuardOn_spec this.2 t e hl⟩
  -- which entries stand afterwards
  have hent : ∀ t e, look s'.env t = some e → (∃ d, o.dst = some d ∧ t = d ∧ x.ent = some e) ∨ ((∀ d, o.dst = some d → d ≠ t) ∧ look s.env t = some e) := by
    intro t e hl
    rw [L.env] at hl
    unfold Fx.env at hl
    rw [L.dst] at hl
    cases hd : o.dst with
    | none => rw [hd] at hl; exact .inr ⟨fun d h => (by cases h), hl⟩
    | some d =>
      rw [hd] at hl
      simp only at hl
      by_cases hdt : d = t
      · subst hdt
        cases hx : x.ent with
        | none => rw [hx] at hl; simp only [look_rem_same] at hl; cases hl
        | some e' => rw [hx] at hl; simp only [look_put_same] at hl; exact .inl ⟨d, rfl, rfl, hl⟩
      · refine .inr ⟨fun d' h => (by cases h; exact hdt), ?_⟩
        cases hx : x.ent with
        | none => rw [hx] at hl; rwa [look_rem_ne _ hdt] at hl
        | some e' => rw [hx] at hl; rwa [look_put_ne _ _ hdt] at hl
  refine ⟨⟨by rw [put_size]; exact R.size, by rw [put_defers]; exact R.defers, fun t e hl id hid => ?_, fun id ob hl => ?_, fun t e hl => ?_, hmem.1⟩, hmem.2⟩
  rotate_right
  · rcases hent t e hl with ⟨d, hd, rfl, hx⟩ | ⟨hne, hl⟩
    · rw [hd]
      exact D.ent t e (by rw [L.dst, hd]) hx
    · have hden : e.val.den θ' = e.val.den θ := SV.den_agree (n := s.n) hsame (R.wfE t e hl)
      cases hd : o.dst with
      | none => simpa [Act.put] using entRel_den (R.env t e hl) hden
      | some d => exact entRel_keep (R.env t e hl) (hne d hd) ((hok d hd).2 t e hl) hden
  · rcases hent t e hl with ⟨d, hd, rfl, hx⟩ | ⟨hne, hl⟩
    · exact hdom id (L.wfEnt e hx id hid)
    · exact Nat.lt_of_lt_of_le (R.wfE t e hl id hid) L.up
  · rw [hm, look_append] at hl
    cases hu : look x.ups id with
    | some ob' =>
      rw [hu] at hl; cases hl
      exact ⟨L.domUps id (look_domain.2 ⟨_, hu⟩), fun j hj => hdom j (L.wfUps id _ hu j hj)⟩
    | none =>
      rw [hu] at hl
      simp only [look_delAll] at hl
      split at hl
      · cases hl
      · exact ⟨Nat.lt_of_lt_of_le (R.wfM id ob hl).1 L.up, fun j hj => Nat.lt_of_lt_of_le ((R.wfM id ob hl).2 j hj) L.up⟩

theorem memOn_of {S : List Nat} {θ : Th} {mem : Mem} {w : World} (h : memRel θ mem w) : memOn S θ mem w :=
  ⟨fun id o _ hl => h.1 id o hl, fun id id' o o' b _ _ hl hl' => h.2 id id' o o' b hl hl'⟩

/-- What is needed at the end was needed before. -/
theorem opSteps_needs {P : Program} {ce : CE} (hp : PlainNames P) (hce : CESound P ce) {nt : Nat} {ops : List Oper} : ∀ {l : List Oper} {s s' : RS}, opSteps P ce nt ops l s = some s' → (∀ p ∈ s.needs, p ∈ s'.needs) ∧ (∀ p ∈ s.eqs, p ∈ s'.eqs) ∧ s.n ≤ s'.n
  | [], s, s', h => by cases h; exact ⟨fun _ h => h, fun _ h => h, Nat.le_refl _⟩
  | o :: r, s, s', h => by
    simp only [opSteps] at h
    split at h
    · rename_i s1 h1
      obtain ⟨h2, h3, h4⟩ := opSteps_needs hp hce h
      have : (∀ p ∈ s.needs, p ∈ s1.needs) ∧ (∀ p ∈ s.eqs, p ∈ s1.eqs) ∧ s.n ≤ s1.n := by
        unfold opStep at h1
        cases hok : dstOk nt o s.env
        · rw [hok] at h1; cases h1
        · rw [hok] at h1
          simp only [cond_true] at h1
          split at h1
          · cases h1
          · cases h1; exact ⟨fun _ h => h, fun _ h => h, Nat.le_refl _⟩
          · split at h1
            · cases h1
            · rename_i g gx hw _ e he
              split at h1
              · cases h1
              rename_i q0 hq0
              cases hc : (Nat.ble s.n e.nx && (dstFree o g && allIn 0 e.rd e.touched && (allIn s.n (domain e.ups) (idsE e.val ++ idsMem e.ups) && noNew e.nx (domain e.ups))))
              · rw [hc] at h1; cases h1
              · rw [hc] at h1
                simp only [cond_true, Option.some.injEq] at h1
                subst h1
                simp only [Bool.and_eq_true] at hc
                exact ⟨fun p hp => by simp [hp], fun p hp => by simp [hp], Nat.le_succ_of_le (Nat.le_of_ble_eq_true hc.1)⟩
      exact ⟨fun p hp => h2 p (this.1 p hp), fun p hp => h3 p (this.2.1 p hp), Nat.le_trans this.2.2 h4⟩
    · cases h

/-- ONE AFTER THE OTHER. -/
theorem opSteps_sound {P : Program} {ce : CE} (hp : PlainNames P) (hce : CESound P ce) {nt : Nat} {ops : Array Oper} {Q : Exit → Act → World → Prop} : ∀ {l : List Oper} {s s' : RS} {k : Nat} {θ : Th} {a : Act} {w : World},
    opSteps P ce nt ops.toList l s = some s' → ops.toList.drop k = l → (∀ p ∈ s'.needs, p) → (∀ p ∈ s'.eqs, p.1 = p.2) → Rel nt s.n θ s.env s.mem a w →
    (∀ θ' a' w', Rel nt s'.n θ' s'.env s'.mem a' w' → Grew s.n θ s.mem w θ' s'.mem w' → Q .normal a' w') → wpOpsIn Fence.wide 0 P ops Q (List.range' k l.length) a w
  | [], s, s', k, θ, a, w, h, _, _, _, R, hq => by
    cases h
    exact hq θ a w R (Grew.refl _ _ _ _)
  | o :: r, s, s', k, θ, a, w, h, hk, hn, he, R, hq => by
    simp only [opSteps] at h
    split at h
    · rename_i s1 h1
      have hio : ops[k]? = some o := by
        have := congrArg (fun l : List Oper => l[0]?) hk
        simpa [List.getElem?_drop] using this
      have hk' : ops.toList.drop (k + 1) = r := by
        have := congrArg List.tail hk
        simpa using this
      obtain ⟨m1, m2, m3⟩ := opSteps_needs hp hce h
      obtain ⟨_, _, x, rs, ws, gs, L⟩ := opStep_local hp hce h1 (fun p hp => hn p (m1 p hp)) (fun p hp => he p (m2 p hp)) hio R.wfE R.wfM
      simp only [List.length_cons, List.range'_succ]
      rw [wpOpsIn_cons]
      refine L.run θ a w _ Q R.size (fun t e _ hl => R.env t e hl) (memOn_of R.mem) fun θ' v w' D => ?_
      obtain ⟨R', G⟩ := rel_next L R D
      exact opSteps_sound hp hce h hk' hn he R' fun θ2 a2 w2 R2 G2 => hq θ2 a2 w2 R2 (G.trans G2 L.up)
    · cases h
end Go.SX
