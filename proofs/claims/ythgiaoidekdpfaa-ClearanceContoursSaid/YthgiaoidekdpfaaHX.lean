/-
  THE LIST of two contours: what stands in it, and that it has two. Conditions: none.
-/
import Derived.Test.YthgiaoidekdpfaaHU
set_option linter.all false
namespace Go.Proofs.Ythgiaoidekdpfaa
open Go.SX Go.RowKit
/-! ### Contours: what they are made of -/
/-- What stands between the lead-in and the lead-out. -/
inductive Mid (sd ra : Int) : List Int → Prop where
  | out (n : Int) : Mid sd ra (itO n)
  | line (x y z u v w fe : Int) : Mid sd ra (itL x y z u v w fe sd ra)
  | arc (x y z u v w c d e dir : Int) : Mid sd ra (itA x y z u v w c d e dir 60000 sd ra)
theorem conStep_mid (L : List (List Int)) (sd ra sz : Int) (s : CS) : ∃ r, Mid sd ra r ∧ (conStep L sd ra sz s).R = s.R ++ [r] := by
  unfold conStep
  cases next_0 10 s.a L == 0
  · cases next_0 10 s.a L == 1
    · cases (bif next_0 10 s.a L == 2 then next_0 10 s.a L == 2 else next_0 10 s.a L == 3)
      · exact ⟨_, .line _ _ _ _ _ _ _, rfl⟩
      · exact ⟨_, .arc _ _ _ _ _ _ _ _ _ _, rfl⟩
    · exact ⟨_, .line _ _ _ _ _ _ _, rfl⟩
  · exact ⟨_, .out _, rfl⟩
theorem conN_mid (L : List (List Int)) (sd ra sz : Int) : ∀ (k : Nat) (s : CS), ∃ l, (∀ r ∈ l, Mid sd ra r) ∧ (conN L sd ra sz k s).R = s.R ++ l
  | 0, s => ⟨[], fun _ h => (by cases h), (List.append_nil _).symm⟩
  | k + 1, s => by
    obtain ⟨r, h1, h2⟩ := conStep_mid L sd ra sz s
    obtain ⟨l, h3, h4⟩ := conN_mid L sd ra sz k (conStep L sd ra sz s)
    refine ⟨r :: l, fun q hq => ?_, ?_⟩
    · rcases List.mem_cons.1 hq with rfl | hq
      · exact h1
      · exact h3 q hq
    · show (conN L sd ra sz k (conStep L sd ra sz s)).R = _
      rw [h4, h2, List.append_assoc]; rfl
theorem cSd_pm (a : Int) (L : List (List Int)) : cSd a L = 1 ∨ cSd a L = -1 := by
  have h := next_0_range 2 a L (by omega) (by omega)
  unfold cSd
  rcases (show next_0 2 a L = 0 ∨ next_0 2 a L = 1 by omega) with e | e <;> rw [e]
  · exact .inl (by decide)
  · exact .inr (by decide)
theorem contL_shape (a : Int) (L : List (List Int)) : ∃ x y z u v w mids p q r p' q' r', (∀ m ∈ mids, Mid (cSd a L) (cRa a L) m) ∧
    contL a L = itL x y z u v w 60000 (cSd a L) (cRa a L) :: (mids ++ [itM p q r p' q' r']) := by
  obtain ⟨l, h1, h2⟩ := conN_mid L (cSd a L) (cRa a L) (cSz a L) (cS a L).k (cS a L)
  obtain ⟨x, y, z, u, v, w, e1⟩ : ∃ x y z u v w, (cS a L).R = [itL x y z u v w 60000 (cSd a L) (cRa a L)] := ⟨_, _, _, _, _, _, rfl⟩
  obtain ⟨p, q, r, p', q', r', e2⟩ : ∃ p q r p' q' r', contL a L = (cT a L).R ++ [itM p q r p' q' r'] := ⟨_, _, _, _, _, _, rfl⟩
  refine ⟨x, y, z, u, v, w, l, p, q, r, p', q', r', h1, ?_⟩
  have e3 : (cT a L).R = (cS a L).R ++ l := h2
  rw [e2, e3, e1]
  rfl
/-! ### What matters of an item: its kind, whether it is full, its side -/
noncomputable def stR (r : List Int) : Bool := rmot_0 (r.getD 0 0) && r.getD 16 0 != 0
noncomputable def goR (r : List Int) : Bool := !rmot_0 (r.getD 0 0) || r.getD 16 0 != 0
def keyR (r q : List Int) : Prop := r.getD 0 0 = q.getD 0 0 ∧ r.getD 13 0 = q.getD 13 0 ∧ r.getD 16 0 = q.getD 16 0
theorem sh_key (dx dy dz : Int) (r : List Int) : keyR (sh dx dy dz r) r := by
  unfold sh
  cases decide (r.getD 0 0 > 6)
  · cases r.getD 0 0 == 3
    · exact ⟨rfl, rfl, rfl⟩
    · exact ⟨rfl, rfl, rfl⟩
  · exact ⟨rfl, rfl, rfl⟩
theorem keyR.st {r q : List Int} (h : keyR r q) : stR r = stR q := by unfold stR; rw [h.1, h.2.2]
theorem keyR.go {r q : List Int} (h : keyR r q) : goR r = goR q := by unfold goR; rw [h.1, h.2.2]
theorem keyR.gd {r q : List Int} (h : keyR r q) (hg : gdR q) : gdR r := by unfold gdR; rw [h.1, h.2.1]; exact hg
theorem pm_ne {sd : Int} (h : sd = 1 ∨ sd = -1) : (sd != 0) = true := by rcases h with rfl | rfl <;> rfl
theorem itL_st (x y z u v w fe : Int) {sd : Int} (ra : Int) (h : sd = 1 ∨ sd = -1) : stR (itL x y z u v w fe sd ra) = true := by
  show (rmot_0 2 && sd != 0) = true
  rw [pm_ne h]; decide +kernel
theorem mid_go {sd ra : Int} {r : List Int} (h : sd = 1 ∨ sd = -1) (hm : Mid sd ra r) : goR r = true := by
  cases hm with
  | out n => show (!rmot_0 10 || (0 : Int) != 0) = true; decide +kernel
  | line => show (!rmot_0 2 || sd != 0) = true; rw [pm_ne h, Bool.or_true]
  | arc => show (!rmot_0 3 || sd != 0) = true; rw [pm_ne h, Bool.or_true]
theorem mid_gd {sd ra : Int} {r : List Int} (hm : Mid sd ra r) : gdR r := by
  cases hm with
  | out n => exact ⟨fun h => absurd h (by show ¬ rmot_0 10 = true; decide +kernel), fun h => absurd rfl h⟩
  | line => exact ⟨fun _ => .inr (.inl rfl), fun h => absurd rfl h⟩
  | arc => exact ⟨fun _ => .inr (.inr rfl), fun h => absurd rfl h⟩
theorem itK_gd (k n : Int) (h : rmot_0 k = false) : gdR (itK k n) := ⟨fun h' => (by
    have h' : rmot_0 k = true := h'
    rw [h] at h'; cases h'), fun h => absurd rfl h⟩
/-! ### The second contour, item by item -/
theorem lsN_at (dx dy dz : Int) : ∀ (k i : Nat) (R : List (List Int)) (j : Nat), (lsN dx dy dz k ⟨i, R⟩).R[j]? = if i ≤ j ∧ j < i + k then (R[j]?).map (sh dx dy dz) else R[j]?
  | 0, i, R, j => by rw [if_neg (by omega)]; rfl
  | k + 1, i, R, j => by
    show (lsN dx dy dz k ⟨i + 1, R.set i (sh dx dy dz (R.getD i []))⟩).R[j]? = _
    rw [lsN_at dx dy dz k (i + 1)]
    by_cases hj : j = i
    · subst hj
      rw [if_neg (by omega), if_pos (by omega)]
      by_cases hl : j < R.length
      · simp [List.getD, hl]
      · rw [List.getElem?_eq_none (by simp; omega), List.getElem?_eq_none (by omega)]; rfl
    · have e : (R.set i (sh dx dy dz (R.getD i [])))[j]? = R[j]? := by simp [List.getElem?_set, Ne.symm hj]
      rw [e]
      by_cases h : i ≤ j ∧ j < i + (k + 1)
      · rw [if_pos h, if_pos (by omega)]
      · rw [if_neg h, if_neg (by omega)]
theorem xB_map (L R : List (List Int)) : xB L R = (contL 0 R).map (sh (xD L R 5 2) (xD L R 6 3) (xD L R 7 4)) := by
  refine List.ext_getElem? fun j => ?_
  unfold xB
  rw [lsN_at, List.getElem?_map]
  by_cases h : j < (contL 0 R).length
  · rw [if_pos (by omega)]
  · rw [if_neg (by omega), List.getElem?_eq_none (by omega)]; rfl
/-! ### The list -/
theorem xL_shape (L R : List (List Int)) : ∃ s a m z d b n w, xL L R = (s :: (a :: (m ++ [z])) ++ d :: (b :: (n ++ [w]))) ∧ stR s = false ∧ stR a = true ∧ (∀ r ∈ m, goR r = true) ∧ goR z = false ∧ stR d = false ∧ stR b = true ∧ (∀ r ∈ n, goR r = true) ∧ goR w = false ∧ ∀ r ∈ xL L R, gdR r := by
  obtain ⟨x, y, z, u, v, w, m, p, q, r, p', q', r', h1, h2⟩ := contL_shape 0 L
  obtain ⟨x2, y2, z2, u2, v2, w2, m2, p2, q2, r2, p2', q2', r2', h3, h4⟩ := contL_shape 0 R
  have h5 := xB_map L R
  rw [h4] at h5
  simp only [List.map_cons, List.map_append, List.map_nil] at h5
  have e : xL L R = [itK 12 0] ++ contL 0 L ++ [itK 7 3] ++ xB L R := rfl
  rw [h2, h5] at e
  have zz : ∀ a b c d e f, goR (itM a b c d e f) = false := fun _ _ _ _ _ _ => by show (!rmot_0 2 || (0 : Int) != 0) = false; decide +kernel
  have gz : ∀ a b c d e f, gdR (itM a b c d e f) := fun _ _ _ _ _ _ => ⟨fun _ => .inr (.inl rfl), fun h => absurd rfl h⟩
  have gl : ∀ x y z u v w a b c, gdR (itL x y z u v w a b c) := fun _ _ _ _ _ _ _ _ _ => ⟨fun _ => .inr (.inl rfl), fun h => absurd rfl h⟩
  refine ⟨itK 12 0, itL x y z u v w 60000 (cSd 0 L) (cRa 0 L), m, itM p q r p' q' r', itK 7 3, sh (xD L R 5 2) (xD L R 6 3) (xD L R 7 4) (itL x2 y2 z2 u2 v2 w2 60000 (cSd 0 R) (cRa 0 R)), m2.map (sh (xD L R 5 2) (xD L R 6 3) (xD L R 7 4)), sh (xD L R 5 2) (xD L R 6 3) (xD L R 7 4) (itM p2 q2 r2 p2' q2' r2'), ?_, ?_, ?_, ?_, ?_, ?_, ?_, ?_, ?_, ?_⟩
  · rw [e]; simp only [List.singleton_append, List.cons_append, List.append_assoc, List.nil_append]
  · show (rmot_0 12 && (0 : Int) != 0) = false; decide +kernel
  · exact itL_st _ _ _ _ _ _ _ _ (cSd_pm 0 L)
  · exact fun r hr => mid_go (cSd_pm 0 L) (h1 r hr)
  · exact zz _ _ _ _ _ _
  · show (rmot_0 7 && (0 : Int) != 0) = false; decide +kernel
  · rw [(sh_key _ _ _ _).st]; exact itL_st _ _ _ _ _ _ _ _ (cSd_pm 0 R)
  · intro r hr
    obtain ⟨r', hr', rfl⟩ := List.mem_map.1 hr
    rw [(sh_key _ _ _ _).go]; exact mid_go (cSd_pm 0 R) (h3 r' hr')
  · rw [(sh_key _ _ _ _).go]; exact zz _ _ _ _ _ _
  · rw [e]
    intro r hr
    simp only [List.mem_append, List.mem_cons, List.not_mem_nil, or_false, List.mem_map] at hr
    rcases hr with ((rfl | rfl | hr | rfl) | rfl) | rfl | ⟨r', hr', rfl⟩ | rfl
    · exact itK_gd _ _ (by decide +kernel)
    · exact gl _ _ _ _ _ _ _ _ _
    · exact mid_gd (h1 r hr)
    · exact gz _ _ _ _ _ _
    · exact itK_gd _ _ (by decide +kernel)
    · exact (sh_key _ _ _ _).gd (gl _ _ _ _ _ _ _ _ _)
    · exact (sh_key _ _ _ _).gd (mid_gd (h3 r' hr'))
    · exact (sh_key _ _ _ _).gd (gz _ _ _ _ _ _)
theorem endN_congr {go go' : Nat → Bool} {l : Nat} (h : ∀ j, j < l → go j = go' j) : ∀ (k e : Nat), endN go l k e = endN go' l k e
  | 0, _ => rfl
  | k + 1, e => by
    unfold endN
    by_cases he : e < l
    · rw [h e he, endN_congr h k]
    · rw [decide_eq_false he]; rfl
theorem segN_congr {st go st' go' : Nat → Bool} {l : Nat} (hs : ∀ j, j < l → st j = st' j) (h : ∀ j, j < l → go j = go' j) : ∀ (k i : Nat), segN st go l k i = segN st' go' l k i
  | 0, _ => rfl
  | k + 1, i => by
    have he : endOf go l (i + 1) = endOf go' l (i + 1) := endN_congr h _ _
    unfold segN
    by_cases hi : i < l
    · rw [hs i hi, he, segN_congr hs h k, segN_congr hs h k]
    · rw [decide_eq_false hi]; rfl
theorem seg_take {X Y : List (List Int)} (h : ∀ j, j < Y.length → X.getD j [] = Y.getD j []) : (segOf (stX X) (goX X) Y.length 0).length = cnt stR goR false Y := by
  have e : segOf (stX X) (goX X) Y.length 0 = segOf (fun j => stR (Y.getD j [])) (fun j => goR (Y.getD j [])) Y.length 0 :=
    segN_congr (fun j hj => by rw [stX_eq, h j hj]; rfl) (fun j hj => by unfold goX; rw [h j hj]; rfl) _ _
  rw [e, segOf_cnt _ _ (Nat.le_refl _)]; rfl
/-- The whole list, and the list without its last item, have two contours. -/
theorem xL_two (L R : List (List Int)) : (segOf (stX (xL L R)) (goX (xL L R)) (xL L R).length 0).length = 2 ∧ (segOf (stX (xL L R)) (goX (xL L R)) ((xL L R).length - 1) 0).length = 2 := by
  obtain ⟨s, a, m, z, d, b, n, w, e, h1, h2, h3, h4, h5, h6, h7, h8, _⟩ := xL_shape L R
  obtain ⟨c1, c2⟩ := cnt_two h1 h2 h3 h4 h5 h6 h7 h8
  refine ⟨?_, ?_⟩
  · rw [seg_take fun _ _ => rfl, e]; exact c1
  · have hl : (xL L R).length - 1 = (s :: (a :: (m ++ [z])) ++ d :: (b :: n)).length := by rw [e]; simp; omega
    have e' : xL L R = (s :: (a :: (m ++ [z])) ++ d :: (b :: n)) ++ [w] := by rw [e]; simp
    rw [hl, seg_take, c2]
    intro j hj
    rw [e']
    simp only [List.getD]
    rw [List.getElem?_append_left hj]
theorem xL_gd (L R : List (List Int)) (j : Nat) (hj : j < (xL L R).length) : gdR ((xL L R).getD j []) := by
  obtain ⟨_, _, _, _, _, _, _, _, _, _, _, _, _, _, _, _, _, h⟩ := xL_shape L R
  refine h _ ?_
  simp only [List.getD, List.getElem?_eq_getElem hj, Option.getD_some]
  exact List.getElem_mem hj
/-! ### Items have no side -/
theorem itStep_len (L : List (List Int)) (s : IS) : (itStep L s).R.length ≤ s.R.length + 1 := by
  unfold itStep
  cases !(itV L s)
  · show (s.R ++ [_]).length ≤ _; rw [List.length_append]; exact Nat.le_refl _
  · exact Nat.le_succ _
theorem itN_len (L : List (List Int)) : ∀ (k : Nat) (s : IS), (itN L k s).R.length ≤ s.R.length + k
  | 0, _ => Nat.le_refl _
  | k + 1, s => by
    have h1 := itN_len L k (itStep L s)
    have h2 := itStep_len L s
    show (itN L k (itStep L s)).R.length ≤ _; omega
theorem itmL_len (a : Int) (L : List (List Int)) : (itmL a L).length ≤ 8 := by
  have h := itN_len L (is0 a L).k (is0 a L)
  have r9 := next_0_range 9 (next_1 (next_1 (next_1 a L) L) L) L (by omega) (by omega)
  have hk : (is0 a L).k ≤ 8 := by show (next_0 9 (next_1 (next_1 (next_1 a L) L) L) L).toNat ≤ 8; omega
  have h0 : (is0 a L).R.length = 0 := rfl
  unfold itmL; omega
theorem itN_side (L : List (List Int)) : ∀ (k : Nat) (s : IS), (∀ r ∈ s.R, r.getD 16 0 = 0) → ∀ r ∈ (itN L k s).R, r.getD 16 0 = 0
  | 0, _, h => h
  | k + 1, s, h => by
    refine itN_side L k (itStep L s) ?_
    unfold itStep
    cases !(itV L s)
    · intro r hr
      rcases List.mem_append.1 hr with hr | hr
      · exact h r hr
      · rw [List.mem_singleton.1 hr]; rfl
    · exact h
theorem itmL_st (a : Int) (L : List (List Int)) (j : Nat) (hj : j < (itmL a L).length) : stX (itmL a L) j = false := by
  have h := itN_side L (is0 a L).k (is0 a L) (fun _ h => by cases h) ((itmL a L).getD j []) (by
    simp only [List.getD, List.getElem?_eq_getElem hj, Option.getD_some]
    exact List.getElem_mem hj)
  rw [stX_eq, h]; exact Bool.and_false _
/-! ### Both find the same contours -/
theorem fin_same (X : List (List Int)) (l : Nat) : (rcF X l).fin ⟨0, 0, false, []⟩ = (coF X l).fin ⟨0, []⟩ := rfl
theorem elN_len (X : List (List Int)) (o : Nat) (p : Int) : ∀ (k : Nat) (s : ES), (elN X o p k s).R.length ≤ s.R.length + k
  | 0, _ => Nat.le_refl _
  | k + 1, s => by
    have h := elN_len X o p k (elStep X o p s)
    have h2 : (elStep X o p s).R.length ≤ s.R.length + 1 := by
      show (bif elTake p (X.getD (o + s.i) []) then s.R ++ [elR p (X.getD (o + s.i) [])] else s.R).length ≤ _
      cases elTake p (X.getD (o + s.i) [])
      · exact Nat.le_succ _
      · rw [cond_true, List.length_append]; exact Nat.le_refl _
    show (elN X o p k (elStep X o p s)).R.length ≤ _; omega
theorem segN_le {st go : Nat → Bool} {l : Nat} : ∀ (k i : Nat), ∀ t ∈ segN st go l k i, t.2 ≤ l
  | 0, _, t, h => by cases h
  | k + 1, i, t, h => by
    unfold segN at h
    by_cases hi : i < l
    · rw [decide_eq_true hi, cond_true] at h
      cases hs : st i
      · rw [hs, cond_false] at h; exact segN_le k _ t h
      · rw [hs, cond_true] at h
        rcases List.mem_cons.1 h with rfl | h
        · exact (endOf_le (by omega)).2
        · exact segN_le k _ t h
    · rw [decide_eq_false hi] at h; cases h
theorem fin_len (X : List (List Int)) (l : Nat) (hl : l ≤ 1000) : ((coF X l).fin ⟨0, []⟩).1.R.length ≤ 1000 ∧ ((coF X l).fin ⟨0, []⟩).2.R.length ≤ 1000 := by
  have key : ∀ j, ((((segOf (stX X) (goX X) l 0).map (mkC X))).getD j c0).R.length ≤ 1000 := by
    intro j
    rw [List.getD, List.getElem?_map]
    cases hj : (segOf (stX X) (goX X) l 0)[j]? with
    | none => exact Nat.zero_le _
    | some t =>
      have h1 := segN_le (st := stX X) (go := goX X) _ _ t (List.mem_of_getElem? hj)
      have h2 := elN_len X (t.1 + 1) ((X.getD t.1 []).getD 8 0) (t.2 - (t.1 + 1)) ⟨0, []⟩
      have h3 : (ES.mk 0 []).R.length = 0 := rfl
      show (elN X (t.1 + 1) ((X.getD t.1 []).getD 8 0) (t.2 - (t.1 + 1)) ⟨0, []⟩).R.length ≤ 1000
      omega
  exact ⟨key 0, key 1⟩
end Go.Proofs.Ythgiaoidekdpfaa
