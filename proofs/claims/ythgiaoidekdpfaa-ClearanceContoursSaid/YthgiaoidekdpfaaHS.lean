/-
  CONTOURS of a list of items: where they begin and where they end. Conditions: none.
-/
import Derived.Test.YthgiaoidekdpfaaHE
set_option linter.all false
namespace Go.Proofs.Ythgiaoidekdpfaa
section
variable (st go : Nat → Bool) (l : Nat)
/-- The first item, from e on, that ends a contour. -/
def endN : Nat → Nat → Nat
  | 0, e => e
  | k + 1, e => bif decide (e < l) && go e then endN k (e + 1) else e
def endOf (e : Nat) : Nat := endN go l (l - e) e
/-- The contours from i on. -/
def segN : Nat → Nat → List (Nat × Nat)
  | 0, _ => []
  | k + 1, i => bif decide (i < l) then (bif st i then (i, endOf go l (i + 1)) :: segN k (endOf go l (i + 1) + 1) else segN k (i + 1)) else []
def segOf (i : Nat) : List (Nat × Nat) := segN st go l (l - i) i
end
section
variable {st go : Nat → Bool} {l : Nat}
theorem endOf_ge {e : Nat} (h : l ≤ e) : endOf go l e = e := by
  unfold endOf; rw [Nat.sub_eq_zero_of_le h]; rfl
theorem endOf_go {e : Nat} (h : e < l) (hg : go e = true) : endOf go l e = endOf go l (e + 1) := by
  unfold endOf
  rw [show l - e = (l - (e + 1)) + 1 from by omega]
  show (bif decide (e < l) && go e then endN go l (l - (e + 1)) (e + 1) else e) = _
  rw [hg, decide_eq_true h]; rfl
theorem endOf_stop {e : Nat} (h : e < l) (hg : go e = false) : endOf go l e = e := by
  unfold endOf
  rw [show l - e = (l - (e + 1)) + 1 from by omega]
  show (bif decide (e < l) && go e then endN go l (l - (e + 1)) (e + 1) else e) = _
  rw [hg, Bool.and_false]; rfl
theorem endN_le : ∀ (k e : Nat), e ≤ endN go l k e ∧ endN go l k e ≤ max e l
  | 0, e => ⟨Nat.le_refl _, Nat.le_max_left ..⟩
  | k + 1, e => by
    unfold endN
    by_cases h : e < l
    · cases hg : go e
      · rw [Bool.and_false, cond_false]; exact ⟨Nat.le_refl _, Nat.le_max_left ..⟩
      · rw [decide_eq_true h, Bool.and_true, cond_true]
        have := endN_le k (e + 1)
        omega
    · rw [decide_eq_false h, Bool.false_and, cond_false]; exact ⟨Nat.le_refl _, Nat.le_max_left ..⟩
theorem endOf_le {e : Nat} (h : e ≤ l) : e ≤ endOf go l e ∧ endOf go l e ≤ l := by
  have := endN_le (go := go) (l := l) (l - e) e
  unfold endOf; omega
theorem segN_more : ∀ (k k' i : Nat), l - i ≤ k → l - i ≤ k' → segN st go l k i = segN st go l k' i
  | 0, 0, _, _, _ => rfl
  | 0, k' + 1, i, h, _ => by
    unfold segN
    rw [decide_eq_false (by omega), cond_false]
  | k + 1, 0, i, _, h => by
    unfold segN
    rw [decide_eq_false (by omega), cond_false]
  | k + 1, k' + 1, i, h, h' => by
    unfold segN
    by_cases hi : i < l
    · rw [decide_eq_true hi, cond_true, cond_true]
      cases st i
      · rw [cond_false, cond_false]; exact segN_more k k' (i + 1) (by omega) (by omega)
      · have := (endOf_le (go := go) (l := l) (e := i + 1) (by omega)).1
        rw [cond_true, cond_true, segN_more k k' (endOf go l (i + 1) + 1) (by omega) (by omega)]
    · rw [decide_eq_false hi, cond_false, cond_false]
theorem segOf_end {i : Nat} (h : l ≤ i) : segOf st go l i = [] := by
  unfold segOf; rw [Nat.sub_eq_zero_of_le h]; rfl
theorem segOf_step {i : Nat} (h : i < l) : segOf st go l i = bif st i then (i, endOf go l (i + 1)) :: segOf st go l (endOf go l (i + 1) + 1) else segOf st go l (i + 1) := by
  have := (endOf_le (go := go) (l := l) (e := i + 1) (by omega)).1
  unfold segOf
  rw [show l - i = (l - (i + 1)) + 1 from by omega]
  show (bif decide (i < l) then (bif st i then (i, endOf go l (i + 1)) :: segN st go l (l - (i + 1)) (endOf go l (i + 1) + 1) else segN st go l (l - (i + 1)) (i + 1)) else []) = _
  rw [decide_eq_true h, cond_true]
  cases st i
  · rfl
  · rw [cond_true, cond_true, segN_more (l - (i + 1)) (l - (endOf go l (i + 1) + 1)) _ (by omega) (Nat.le_refl _)]
theorem segOf_st {i : Nat} (h : i < l) (hs : st i = true) : segOf st go l i = (i, endOf go l (i + 1)) :: segOf st go l (endOf go l (i + 1) + 1) := by rw [segOf_step h, hs, cond_true]
theorem segOf_no {i : Nat} (h : i < l) (hs : st i = false) : segOf st go l i = segOf st go l (i + 1) := by rw [segOf_step h, hs, cond_false]
end
/-! How many there are -/
section
variable {st go : List Int → Bool} {y : List (List Int)}
noncomputable def cnt (st go : List Int → Bool) : Bool → List (List Int) → Nat
  | _, [] => 0
  | false, r :: t => bif st r then cnt st go true t + 1 else cnt st go false t
  | true, r :: t => bif go r then cnt st go true t else cnt st go false t
theorem cnt_mids : ∀ {l t : List (List Int)}, (∀ r ∈ l, go r = true) → cnt st go true (l ++ t) = cnt st go true t
  | [], _, _ => rfl
  | r :: l, t, h => by
    show (bif go r then cnt st go true (l ++ t) else cnt st go false (l ++ t)) = _
    rw [h r (by simp), cond_true]
    exact cnt_mids fun q hq => h q (by simp [hq])
theorem cnt_none : ∀ {l : List (List Int)}, (∀ r ∈ l, st r = false) → cnt st go false l = 0
  | [], _ => rfl
  | r :: l, h => by
    show (bif st r then _ else cnt st go false l) = 0
    rw [h r (by simp), cond_false]
    exact cnt_none fun q hq => h q (by simp [hq])
theorem drop_getD {i : Nat} (h : i < y.length) : y.drop i = y.getD i [] :: y.drop (i + 1) := by
  rw [List.drop_eq_getElem_cons h]
  simp [List.getD, h]
theorem cnt_end : ∀ (k e : Nat), y.length - e ≤ k → e ≤ y.length → cnt st go true (y.drop e) = cnt st go false (y.drop (endOf (fun j => go (y.getD j [])) y.length e + 1))
  | 0, e, h, he => by
    have : e = y.length := by omega
    subst this
    rw [endOf_ge (Nat.le_refl _), List.drop_eq_nil_of_le (Nat.le_refl _), List.drop_eq_nil_of_le (Nat.le_succ _)]
    rfl
  | k + 1, e, h, he => by
    by_cases hl : e < y.length
    · rw [drop_getD hl]
      show (bif go (y.getD e []) then cnt st go true (y.drop (e + 1)) else cnt st go false (y.drop (e + 1))) = _
      cases hg : go (y.getD e [])
      · rw [cond_false, endOf_stop hl hg]
      · rw [cond_true, endOf_go hl hg]; exact cnt_end k (e + 1) (by omega) (by omega)
    · have : e = y.length := by omega
      subst this
      rw [endOf_ge (Nat.le_refl _), List.drop_eq_nil_of_le (Nat.le_refl _), List.drop_eq_nil_of_le (Nat.le_succ _)]
      rfl
theorem segOf_cnt : ∀ (k i : Nat), y.length - i ≤ k → (segOf (fun j => st (y.getD j [])) (fun j => go (y.getD j [])) y.length i).length = cnt st go false (y.drop i)
  | 0, i, h => by rw [segOf_end (by omega), List.drop_eq_nil_of_le (by omega)]; rfl
  | k + 1, i, h => by
    by_cases hl : i < y.length
    · rw [drop_getD hl]
      show _ = (bif st (y.getD i []) then cnt st go true (y.drop (i + 1)) + 1 else cnt st go false (y.drop (i + 1)))
      cases hs : st (y.getD i [])
      · rw [cond_false, segOf_no hl hs]; exact segOf_cnt k (i + 1) (by omega)
      · have h1 := (endOf_le (go := fun j => go (y.getD j [])) (l := y.length) (e := i + 1) (by omega)).1
        rw [cond_true, segOf_st hl hs, List.length_cons, segOf_cnt k (endOf (fun j => go (y.getD j [])) y.length (i + 1) + 1) (by omega), cnt_end (y.length - (i + 1)) (i + 1) (Nat.le_refl _) (by omega)]
    · rw [segOf_end (by omega), List.drop_eq_nil_of_le (by omega)]; rfl
/-- Two contours, one behind the other. -/
theorem cnt_two {s a z d b w : List Int} {m n : List (List Int)} (hs : st s = false) (ha : st a = true) (hm : ∀ r ∈ m, go r = true) (hz : go z = false) (hd : st d = false) (hb : st b = true) (hn : ∀ r ∈ n, go r = true) (hw : go w = false) :
    cnt st go false (s :: (a :: (m ++ [z])) ++ d :: (b :: (n ++ [w]))) = 2 ∧ cnt st go false (s :: (a :: (m ++ [z])) ++ d :: (b :: n)) = 2 := by
  have e1 : ∀ t, cnt st go false (s :: (a :: (m ++ [z])) ++ d :: (b :: t)) = cnt st go true t + 2 := by
    intro t
    have : s :: (a :: (m ++ [z])) ++ d :: (b :: t) = s :: a :: (m ++ z :: d :: b :: t) := by simp
    rw [this]
    show (bif st s then _ else (bif st a then cnt st go true (m ++ z :: d :: b :: t) + 1 else _)) = _
    rw [hs, cond_false, ha, cond_true, cnt_mids hm]
    show (bif go z then _ else (bif st d then _ else (bif st b then cnt st go true t + 1 else _))) + 1 = _
    rw [hz, cond_false, hd, cond_false, hb, cond_true]
  rw [e1, e1, cnt_mids hn]
  constructor
  · show (bif go w then _ else cnt st go false []) + 2 = 2
    rw [hw]; rfl
  · have := cnt_mids (st := st) (t := []) hn
    rw [List.append_nil] at this
    rw [this]; rfl
end
end Go.Proofs.Ythgiaoidekdpfaa
