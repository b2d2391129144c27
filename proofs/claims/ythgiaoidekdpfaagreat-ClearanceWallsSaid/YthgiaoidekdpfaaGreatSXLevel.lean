/-
  SLICES IN BLOCKS that are nil, taken for rows without elements, where a function returns. Conditions: the function's summary holds.
-/
import Derived.Test.YthgiaoidekdpfaaGreatSXTpl
set_option linter.all false
namespace Go.SX
open Go.RowKit

noncomputable def levelB : List (Nat × Nat × Nat × Nat) → Nat → Mem → Nat → Mem × Nat
  | [], _, m, n => (m, n)
  | (ty, j, e, k) :: r, b, m, n => match look m b with
    | some (.blk ty' cs) => bif Nat.beq ty ty' && Nat.blt 0 k then (match cs.drop j with
        | (_, .nilsl) :: _ => (match moveSlot m b j n e k with
          | some m' => levelB r b m' (n + 3)
          | none => levelB r b m n)
        | _ => levelB r b m n) else levelB r b m n
    | _ => (m, n)
noncomputable def levelIds (sl : List (Nat × Nat × Nat × Nat)) : List Nat → Mem → Nat → Mem × Nat
  | [], m, n => (m, n)
  | b :: r, m, n => match levelB sl b m n with
    | (m', n') => levelIds sl r m' n'
noncomputable def wfB (n : Nat) : Mem → Bool
  | [] => true
  | (id, o) :: r => Nat.blt id n && (noNew n (idsO o) && wfB n r)
/-- A summary whose results hold no nil slices at these places. -/
noncomputable def levelS (sl : List (Nat × Nat × Nat × Nat)) (g : Summ) : Summ := fun vs mem n => match g vs mem n with
  | none => none
  | some r => bif (noNew r.nx (idsV r.val) && wfB r.nx r.mem) && Nat.ble n r.nx then (match levelIds sl (domain r.mem) r.mem r.nx with
      | (m, k) => some ⟨r.val, m, r.needs, r.eqs, k⟩) else some r

theorem wfB_spec {n : Nat} : ∀ {m : Mem}, wfB n m = true → wfMem n m
  | [], _, id, o, h => by cases h
  | (a, x) :: r, h, id, o, hl => by
    simp only [wfB, Bool.and_eq_true] at h
    simp only [look_cons] at hl
    cases hq : Nat.beq a id
    · rw [hq] at hl; exact wfB_spec h.2.2 id o hl
    · rw [hq] at hl; cases hl
      have := Nat.eq_of_beq_eq_true hq
      subst this
      exact ⟨Nat.le_of_ble_eq_true h.1, noNew_spec h.2.1⟩
theorem Levels.trans {n m k : Nat} {a b c : Mem} (hnm : n ≤ m) (h1 : Levels n m a b) (h2 : Levels m k b c) : Levels n k a c := fun θ w kk θ0 m0 w0 g hm hw hk => by
  obtain ⟨θ1, a1, g1, hm1, hw1⟩ := h1 θ w kk θ0 m0 w0 g hm hw hk
  obtain ⟨θ2, a2, g2, hm2, hw2⟩ := h2 θ1 w kk θ0 m0 w0 g1 hm1 hw1 (by omega)
  exact ⟨θ2, a1.trans a2 hnm, g2, hm2, hw2⟩
theorem levelB_ok : ∀ {sl : List (Nat × Nat × Nat × Nat)} {b : Nat} {m m' : Mem} {n n' : Nat}, levelB sl b m n = (m', n') → n ≤ n' ∧ Levels n n' m m'
  | [], b, m, m', n, n', h => by
    simp only [levelB, Prod.mk.injEq] at h
    obtain ⟨rfl, rfl⟩ := h
    exact ⟨Nat.le_refl _, Levels.refl _ _⟩
  | (ty, j, e, k) :: r, b, m, m', n, n', h => by
    simp only [levelB] at h
    split at h
    · cases hc : (Nat.beq ty _ && Nat.blt 0 k)
      · rw [hc] at h; exact levelB_ok h
      · rw [hc] at h
        simp only [Bool.and_eq_true] at hc
        have hpos : 0 < k := Nat.le_of_ble_eq_true hc.2
        simp only [cond_true] at h
        split at h
        · split at h
          · rename_i x hx
            obtain ⟨h1, h2⟩ := levelB_ok h
            refine ⟨by omega, fun θ w kk θ0 m0 w0 g hm hw hk => ?_⟩
            obtain ⟨l, g1, hm1, hw1⟩ := moveSlot_ok hx hpos g hm hw (Nat.le_refl _) hk
            obtain ⟨θ2, a2, g2, hm2, hw2⟩ := h2 _ _ _ _ _ _ g1 hm1 (hw1.mono (by omega)) (by omega)
            exact ⟨θ2, (Th.set_agree θ n l).trans a2 (by omega), g2, hm2, hw2⟩
          · exact levelB_ok h
        · exact levelB_ok h
    · simp only [Prod.mk.injEq] at h
      obtain ⟨rfl, rfl⟩ := h
      exact ⟨Nat.le_refl _, Levels.refl _ _⟩
theorem levelIds_ok {sl : List (Nat × Nat × Nat × Nat)} : ∀ {l : List Nat} {m m' : Mem} {n n' : Nat}, levelIds sl l m n = (m', n') → n ≤ n' ∧ Levels n n' m m'
  | [], m, m', n, n', h => by
    simp only [levelIds, Prod.mk.injEq] at h
    obtain ⟨rfl, rfl⟩ := h
    exact ⟨Nat.le_refl _, Levels.refl _ _⟩
  | b :: r, m, m', n, n', h => by
    obtain ⟨m1, n1, h1⟩ : ∃ x y, levelB sl b m n = (x, y) := ⟨_, _, rfl⟩
    simp only [levelIds, h1] at h
    obtain ⟨a1, a2⟩ := levelB_ok h1
    obtain ⟨b1, b2⟩ := levelIds_ok h
    exact ⟨by omega, a2.trans a1 b2⟩
theorem levelS_ok {P : Program} {f : FuncId} {g : Summ} (sl : List (Nat × Nat × Nat × Nat)) (hg : FOk P f g) : FOk P f (levelS sl g) := by
  intro vs mem n r hr hn he hwf hids θ w hm
  unfold levelS at hr
  split at hr
  · cases hr
  rename_i q hq
  cases hc : ((noNew q.nx (idsV q.val) && wfB q.nx q.mem) && Nat.ble n q.nx)
  · rw [hc] at hr; cases hr
    exact hg vs mem n _ hq hn he hwf hids θ w hm
  rw [hc] at hr
  simp only [Bool.and_eq_true] at hc
  obtain ⟨m1, n1, h1⟩ : ∃ x y, levelIds sl (domain q.mem) q.mem q.nx = (x, y) := ⟨_, _, rfl⟩
  simp only [cond_true, h1, Option.some.injEq] at hr
  subst hr
  obtain ⟨_, hl⟩ := levelIds_ok h1
  obtain ⟨c1, c2⟩ := hg vs mem n _ hq hn he hwf hids θ w hm
  refine ⟨c1, c2.mono fun e w' h => ?_⟩
  obtain ⟨θ', e1, g1, hm1⟩ := h
  obtain ⟨θ2, a2, g2, hm2, _⟩ := hl θ' w' n θ mem w g1 hm1 (wfB_spec hc.1.2) (Nat.le_of_ble_eq_true hc.2)
  exact ⟨θ2, by rw [e1, SV.den_agree a2 (noNew_spec hc.1.1)], g2, hm2⟩
/-! Slices in blocks that are only read: given under a name of their own where a function returns. -/
noncomputable def seeB : List (Nat × Nat × Nat × Nat) → Nat → Mem → Nat → Mem × Nat
  | [], _, m, n => (m, n)
  | (ty, j, e, k) :: r, b, m, n => match look m b with
    | some (.blk ty' _) => bif Nat.beq ty ty' && Nat.blt 0 k then (match seeTy m b j with
        | some _ => seeB r b m n
        | none => match seeSlot m b j n e k with
          | some m' => seeB r b m' (n + 3)
          | none => seeB r b m n) else seeB r b m n
    | _ => (m, n)
noncomputable def seeIds (sl : List (Nat × Nat × Nat × Nat)) : List Nat → Mem → Nat → Mem × Nat
  | [], m, n => (m, n)
  | b :: r, m, n => match seeB sl b m n with
    | (m', n') => seeIds sl r m' n'
/-- A summary whose results hold rows that are only read at these places. -/
noncomputable def seeS (sl : List (Nat × Nat × Nat × Nat)) (g : Summ) : Summ := fun vs mem n => match g vs mem n with
  | none => none
  | some r => bif (noNew r.nx (idsV r.val) && wfB r.nx r.mem) && Nat.ble n r.nx then (match seeIds sl (domain r.mem) r.mem r.nx with
      | (m, k) => some ⟨r.val, m, r.needs, r.eqs, k⟩) else some r
theorem seeB_ok : ∀ {sl : List (Nat × Nat × Nat × Nat)} {b : Nat} {m m' : Mem} {n n' : Nat}, seeB sl b m n = (m', n') → n ≤ n' ∧ Levels n n' m m'
  | [], b, m, m', n, n', h => by
    simp only [seeB, Prod.mk.injEq] at h
    obtain ⟨rfl, rfl⟩ := h
    exact ⟨Nat.le_refl _, Levels.refl _ _⟩
  | (ty, j, e, k) :: r, b, m, m', n, n', h => by
    simp only [seeB] at h
    split at h
    · cases hc : (Nat.beq ty _ && Nat.blt 0 k)
      · rw [hc] at h; exact seeB_ok h
      · rw [hc] at h
        simp only [Bool.and_eq_true] at hc
        have hpos : 0 < k := Nat.le_of_ble_eq_true hc.2
        simp only [cond_true] at h
        split at h
        · exact seeB_ok h
        · split at h
          · rename_i x hx
            obtain ⟨h1, h2⟩ := seeB_ok h
            refine ⟨by omega, fun θ w kk θ0 m0 w0 g hm hw hk => ?_⟩
            obtain ⟨l, g1, hm1, hw1⟩ := seeSlot_ok hx hpos g hm hw (Nat.le_refl _) hk
            obtain ⟨θ2, a2, g2, hm2, hw2⟩ := h2 _ _ _ _ _ _ g1 hm1 (hw1.mono (by omega)) (by omega)
            exact ⟨θ2, (Th.set_agree θ n l).trans a2 (by omega), g2, hm2, hw2⟩
          · exact seeB_ok h
    · simp only [Prod.mk.injEq] at h
      obtain ⟨rfl, rfl⟩ := h
      exact ⟨Nat.le_refl _, Levels.refl _ _⟩
theorem seeIds_ok {sl : List (Nat × Nat × Nat × Nat)} : ∀ {l : List Nat} {m m' : Mem} {n n' : Nat}, seeIds sl l m n = (m', n') → n ≤ n' ∧ Levels n n' m m'
  | [], m, m', n, n', h => by
    simp only [seeIds, Prod.mk.injEq] at h
    obtain ⟨rfl, rfl⟩ := h
    exact ⟨Nat.le_refl _, Levels.refl _ _⟩
  | b :: r, m, m', n, n', h => by
    obtain ⟨m1, n1, h1⟩ : ∃ x y, seeB sl b m n = (x, y) := ⟨_, _, rfl⟩
    simp only [seeIds, h1] at h
    obtain ⟨a1, a2⟩ := seeB_ok h1
    obtain ⟨b1, b2⟩ := seeIds_ok h
    exact ⟨by omega, a2.trans a1 b2⟩
theorem seeS_ok {P : Program} {f : FuncId} {g : Summ} (sl : List (Nat × Nat × Nat × Nat)) (hg : FOk P f g) : FOk P f (seeS sl g) := by
  intro vs mem n r hr hn he hwf hids θ w hm
  unfold seeS at hr
  split at hr
  · cases hr
  rename_i q hq
  cases hc : ((noNew q.nx (idsV q.val) && wfB q.nx q.mem) && Nat.ble n q.nx)
  · rw [hc] at hr; cases hr
    exact hg vs mem n _ hq hn he hwf hids θ w hm
  rw [hc] at hr
  simp only [Bool.and_eq_true] at hc
  obtain ⟨m1, n1, h1⟩ : ∃ x y, seeIds sl (domain q.mem) q.mem q.nx = (x, y) := ⟨_, _, rfl⟩
  simp only [cond_true, h1, Option.some.injEq] at hr
  subst hr
  obtain ⟨_, hl⟩ := seeIds_ok h1
  obtain ⟨c1, c2⟩ := hg vs mem n _ hq hn he hwf hids θ w hm
  refine ⟨c1, c2.mono fun e w' h => ?_⟩
  obtain ⟨θ', e1, g1, hm1⟩ := h
  obtain ⟨θ2, a2, g2, hm2, _⟩ := hl θ' w' n θ mem w g1 hm1 (wfB_spec hc.1.2) (Nat.le_of_ble_eq_true hc.2)
  exact ⟨θ2, by rw [e1, SV.den_agree a2 (noNew_spec hc.1.1)], g2, hm2⟩
end Go.SX
