/-
  DRILLDEPTH: the walk. Conditions: none.
-/
import Derived.Test.YtgimheibnpgphaaDrillN
set_option linter.all false
namespace Go.Proofs.Ytgimheibnpgphaa
open Go.SX Go.RowKit
/-- The height of a step. -/
noncomputable def hgt (p : Int) (r : List Int) : Int := flat_2 p (r.getD 5 0) (r.getD 6 0) (r.getD 7 0)
noncomputable def mn (d k : Int) : Int := if k < d then k else d
noncomputable def hX (p : Int) (xs : List (List Int)) (h : Int) : Nat → Int
  | 0 => h
  | j + 1 => bif decide ((xs.getD j []).getD 0 0 > 6) then hX p xs h j else hgt p (xs.getD j [])
noncomputable def dX (p : Int) (xs : List (List Int)) (d : Int) : Nat → Int
  | 0 => d
  | j + 1 => bif decide ((xs.getD j []).getD 0 0 > 6) then dX p xs d j else mn (dX p xs d j) (hgt p (xs.getD j []))
noncomputable def gD (p c8 c9 : Int) : List (List Int) → Int → Int → Prop
  | [], _, _ => True
  | r :: rs, h, d => bif decide (r.getD 0 0 > 6) then gD p c8 c9 rs h d else (c9 ≤ hgt p r ∧ ¬ (r.getD 0 0 = 1 ∧ hgt p r < c8 ∧ hgt p r < h ∧ hgt p r ≤ d)) ∧ gD p c8 c9 rs (hgt p r) (mn d (hgt p r))
noncomputable def eH (p : Int) : List (List Int) → Int → Int
  | [], h => h
  | r :: rs, h => bif decide (r.getD 0 0 > 6) then eH p rs h else eH p rs (hgt p r)
noncomputable def eD (p : Int) : List (List Int) → Int → Int
  | [], d => d
  | r :: rs, d => bif decide (r.getD 0 0 > 6) then eD p rs d else eD p rs (mn d (hgt p r))
theorem gD_append (p c8 c9 : Int) : ∀ (xs ys : List (List Int)) (h d : Int), gD p c8 c9 xs h d → gD p c8 c9 ys (eH p xs h) (eD p xs d) → gD p c8 c9 (xs ++ ys) h d
  | [], _, _, _, _, k => k
  | r :: rs, ys, h, d, g, k => by
    simp only [List.cons_append, gD, eH, eD] at g k ⊢
    cases hk : decide (r.getD 0 0 > 6) <;> simp only [hk, cond_true, cond_false] at g k ⊢
    · exact ⟨g.1, gD_append p c8 c9 rs ys _ _ g.2 k⟩
    · exact gD_append p c8 c9 rs ys _ _ g k
theorem eH_append (p : Int) : ∀ (xs ys : List (List Int)) (h : Int), eH p (xs ++ ys) h = eH p ys (eH p xs h)
  | [], _, _ => rfl
  | r :: rs, ys, h => by
    simp only [List.cons_append, eH]
    cases decide (r.getD 0 0 > 6) <;> exact eH_append p rs ys _
theorem eD_append (p : Int) : ∀ (xs ys : List (List Int)) (h : Int), eD p (xs ++ ys) h = eD p ys (eD p xs h)
  | [], _, _ => rfl
  | r :: rs, ys, h => by
    simp only [List.cons_append, eD]
    cases decide (r.getD 0 0 > 6) <;> exact eD_append p rs ys _
theorem hX_cons (p : Int) (r : List Int) (rs : List (List Int)) (h : Int) : ∀ j, hX p (r :: rs) h (j + 1) = hX p rs (bif decide (r.getD 0 0 > 6) then h else hgt p r) j
  | 0 => rfl
  | j + 1 => by
    have e : (r :: rs).getD (j + 1) [] = rs.getD j [] := rfl
    have := hX_cons p r rs h j
    rw [hX, this, e]; rfl
theorem dX_cons (p : Int) (r : List Int) (rs : List (List Int)) (h : Int) : ∀ j, dX p (r :: rs) h (j + 1) = dX p rs (bif decide (r.getD 0 0 > 6) then h else mn h (hgt p r)) j
  | 0 => rfl
  | j + 1 => by
    have e : (r :: rs).getD (j + 1) [] = rs.getD j [] := rfl
    have := dX_cons p r rs h j
    rw [dX, this, e]; rfl
theorem dX_all (p : Int) : ∀ (xs : List (List Int)) (d : Int), dX p xs d xs.length = eD p xs d
  | [], _ => rfl
  | r :: rs, d => by
    rw [List.length_cons, dX_cons, dX_all p rs, eD]
    cases decide (r.getD 0 0 > 6) <;> rfl
theorem gD_at (p c8 c9 : Int) : ∀ (xs : List (List Int)) (h d : Int), gD p c8 c9 xs h d → ∀ j, j < xs.length → ¬ (xs.getD j []).getD 0 0 > 6 →
    c9 ≤ hgt p (xs.getD j []) ∧ ¬ ((xs.getD j []).getD 0 0 = 1 ∧ hgt p (xs.getD j []) < c8 ∧ hgt p (xs.getD j []) < hX p xs h j ∧ hgt p (xs.getD j []) ≤ dX p xs d j)
  | [], _, _, _, j, hj, _ => by simp at hj
  | r :: rs, h, d, g, 0, _, hk => by
    have hk' : decide (r.getD 0 0 > 6) = false := by simpa using hk
    simp only [gD, hk', cond_false] at g
    exact g.1
  | r :: rs, h, d, g, j + 1, hj, hk => by
    rw [hX_cons, dX_cons]
    have e : (r :: rs).getD (j + 1) [] = rs.getD j [] := rfl
    rw [e] at hk ⊢
    simp only [List.length_cons] at hj
    simp only [gD] at g
    cases hr : decide (r.getD 0 0 > 6) <;> simp only [hr, cond_true, cond_false] at g ⊢
    · exact gD_at p c8 c9 rs _ _ g.2 j (by omega) hk
    · exact gD_at p c8 c9 rs _ _ g j (by omega) hk
theorem hgt_itm (p u w k h n : Int) (hp : p = 17 ∨ p = 18 ∨ p = 19) : hgt p (itm p u w k h n) = h := (flat_solid p u w h hp).2.2
theorem kind_itm (p u w k h n : Int) : (itm p u w k h n).getD 0 0 = k := rfl
theorem kind_dwl (n : Int) : (dwl n).getD 0 0 = 7 := rfl
theorem kind_spn (n s : Int) : (spn n s).getD 0 0 = 8 := rfl
theorem mn_ge {d k : Int} (h : d ≤ k) : mn d k = d := by unfold mn; rw [if_neg (by omega)]
theorem mn_lt {d k : Int} (h : k ≤ d) : mn d k = k := by unfold mn; split <;> omega
/-- The pecks: what stands behind j of them. -/
theorem pecks_depth (p u w c0 c8 c9 c11 : Int) (hp : p = 17 ∨ p = 18 ∨ p = 19) (h8 : c9 < c8) (h11 : 1 ≤ c11) (hr8 : -10000 ≤ c8 ∧ c8 ≤ 10000) (hr9 : -10000 ≤ c9) (hr11 : c11 ≤ 10000) : ∀ j : Nat, (j : Int) * c11 ≤ c8 - c9 - 1 →
    gD p c8 c9 (pecksL p u w c0 c8 c11 j) c8 c8 ∧ eD p (pecksL p u w c0 c8 c11 j) c8 = c8 - j * c11
  | 0, _ => ⟨trivial, by simp [pecksL, eD]⟩
  | j + 1, hj => by
    have hm : ((j + 1 : Nat) : Int) * c11 = (j : Int) * c11 + c11 := by rw [Int.natCast_succ, Int.add_mul, Int.one_mul]
    rw [hm] at hj
    obtain ⟨g, e⟩ := pecks_depth p u w c0 c8 c9 c11 hp h8 h11 hr8 hr9 hr11 j (by omega)
    have hnn : 0 ≤ (j : Int) * c11 := Int.mul_nonneg (by omega) (by omega)
    have hd : deep c8 c11 (Int.ofNat (j + 1)) = c8 - (j * c11 + c11) := by
      unfold deep
      rw [show Int.ofNat (j + 1) * c11 = (j : Int) * c11 + c11 from hm, wrI (x := (j : Int) * c11 + c11) (by omega) (by omega), wrI (by omega) (by omega)]
    have hg : 1 ≤ gap c11 ∧ gap c11 ≤ 200 ∧ gap c11 ≤ c11 := by unfold gap; split <;> omega
    have hw : IntKind.i64.wrap (deep c8 c11 (Int.ofNat (j + 1)) + gap c11) = c8 - (j * c11 + c11) + gap c11 := by rw [hd, wrI (by omega) (by omega)]
    rw [hm]
    generalize hq : (j : Int) * c11 = q at *
    have hw' : IntKind.i64.wrap (c8 - (q + c11) + gap c11) = c8 - (q + c11) + gap c11 := wrI (by omega) (by omega)
    have m1 : mn (c8 - q) (c8 - (q + c11)) = c8 - (q + c11) := mn_lt (by omega)
    have m2 : mn (c8 - (q + c11)) (c8 - (q + c11) + gap c11) = c8 - (q + c11) := mn_ge (by omega)
    have m3 : mn (c8 - (q + c11)) c8 = c8 - (q + c11) := mn_ge (by omega)
    simp only [pecksL, peckOne]
    cases c0 == 83
    · refine ⟨gD_append _ _ _ _ _ _ _ g ?_, ?_⟩
      · simp only [cond_false, List.nil_append, List.singleton_append, gD, kind_itm, hgt_itm _ _ _ _ _ _ hp, hd, hw', e, m1]
        simp
        omega
      · rw [eD_append, e]
        simp only [cond_false, List.nil_append, List.singleton_append, eD, kind_itm, hgt_itm _ _ _ _ _ _ hp, hd, hw', m1, m2]
        simp
    · refine ⟨gD_append _ _ _ _ _ _ _ g ?_, ?_⟩
      · simp only [cond_true, List.singleton_append, gD, kind_itm, hgt_itm _ _ _ _ _ _ hp, hd, hw', e, m1, m3]
        simp
        omega
      · rw [eD_append, e]
        simp only [cond_true, List.singleton_append, eD, kind_itm, hgt_itm _ _ _ _ _ _ hp, hd, hw', m1, m2, m3]
        simp
theorem gD_one (p u w c8 c9 k x n h d : Int) (hp : p = 17 ∨ p = 18 ∨ p = 19) (hk : k ≤ 6) (h9 : c9 ≤ x) (hx : k ≠ 1 ∨ c8 ≤ x) : gD p c8 c9 [itm p u w k x n] h d := by
  have e : decide ((itm p u w k x n).getD 0 0 > 6) = false := by show decide (k > 6) = false; simp; omega
  simp only [gD, e, cond_false]
  simp only [kind_itm, hgt_itm _ _ _ _ _ _ hp]
  exact ⟨⟨h9, by omega⟩, trivial⟩
theorem eD_one (p u w k x n d : Int) (hp : p = 17 ∨ p = 18 ∨ p = 19) (hk : k ≤ 6) : eD p [itm p u w k x n] d = mn d x := by
  have e : decide ((itm p u w k x n).getD 0 0 > 6) = false := by show decide (k > 6) = false; simp; omega
  simp only [eD, e, cond_false, hgt_itm _ _ _ _ _ _ hp]
theorem eD_cons (p u w k x n d : Int) (rs : List (List Int)) (hp : p = 17 ∨ p = 18 ∨ p = 19) (hk : k ≤ 6) : eD p (itm p u w k x n :: rs) d = eD p rs (mn d x) := by
  have e : decide ((itm p u w k x n).getD 0 0 > 6) = false := by show decide (k > 6) = false; simp; omega
  simp only [eD, e, cond_false, hgt_itm _ _ _ _ _ _ hp]
theorem gD_cons (p u w c8 c9 k x n h d : Int) (rs : List (List Int)) (hp : p = 17 ∨ p = 18 ∨ p = 19) (hk : k ≤ 6) (h9 : c9 ≤ x) (hx : k ≠ 1 ∨ c8 ≤ x) (hr : gD p c8 c9 rs x (mn d x)) : gD p c8 c9 (itm p u w k x n :: rs) h d := by
  have e : decide ((itm p u w k x n).getD 0 0 > 6) = false := by show decide (k > 6) = false; simp; omega
  simp only [gD, e, cond_false]
  simp only [kind_itm, hgt_itm _ _ _ _ _ _ hp]
  exact ⟨⟨h9, by omega⟩, hr⟩
theorem eH_cons (p u w k x n h : Int) (rs : List (List Int)) (hp : p = 17 ∨ p = 18 ∨ p = 19) (hk : k ≤ 6) : eH p (itm p u w k x n :: rs) h = eH p rs x := by
  have e : decide ((itm p u w k x n).getD 0 0 > 6) = false := by show decide (k > 6) = false; simp; omega
  simp only [eH, e, cond_false, hgt_itm _ _ _ _ _ _ hp]
theorem gD_dwl (p c8 c9 n h d : Int) (rs : List (List Int)) (hr : gD p c8 c9 rs h d) : gD p c8 c9 (dwl n :: rs) h d := hr
theorem gD_spn (p c8 c9 n s h d : Int) (rs : List (List Int)) (hr : gD p c8 c9 rs h d) : gD p c8 c9 (spn n s :: rs) h d := hr
theorem eD_dwl (p n d : Int) (rs : List (List Int)) : eD p (dwl n :: rs) d = eD p rs d := rfl
theorem eD_spn (p n s d : Int) (rs : List (List Int)) : eD p (spn n s :: rs) d = eD p rs d := rfl
theorem eD_nil (p d : Int) : eD p [] d = d := rfl
theorem pre_depth (c1 c2 c3 c4 u w c8 c9 h : Int) (hp : c1 = 17 ∨ c1 = 18 ∨ c1 = 19) (h9 : c9 ≤ c8) : gD c1 c8 c9 (preL c1 c2 c3 c4 u w c8) h c8 ∧ eH c1 (preL c1 c2 c3 c4 u w c8) h = c8 ∧ eD c1 (preL c1 c2 c3 c4 u w c8) c8 = c8 := by
  unfold preL
  have hM : c8 ≤ if c8 > flat_2 c1 c2 c3 c4 then c8 else flat_2 c1 c2 c3 c4 := by split <;> omega
  generalize (if c8 > flat_2 c1 c2 c3 c4 then c8 else flat_2 c1 c2 c3 c4) = M at hM
  have m1 : mn c8 M = c8 := mn_ge hM
  have m2 : mn c8 c8 = c8 := mn_ge (Int.le_refl _)
  cases decide (flat_2 c1 c2 c3 c4 < c8)
  · simp only [cond_false, List.nil_append]
    refine ⟨gD_cons _ _ _ _ _ _ _ _ _ _ _ hp (by omega) (by omega) (.inr hM) (gD_one _ _ _ _ _ _ _ _ _ _ hp (by omega) h9 (.inr (Int.le_refl _))), ?_, ?_⟩
    · rw [eH_cons _ _ _ _ _ _ _ _ hp (by omega), eH_cons _ _ _ _ _ _ _ _ hp (by omega)]; rfl
    · rw [eD_cons _ _ _ _ _ _ _ _ hp (by omega), eD_one _ _ _ _ _ _ _ hp (by omega), m1, m2]
  · simp only [cond_true, List.singleton_append]
    refine ⟨gD_cons _ _ _ _ _ _ _ _ _ _ _ hp (by omega) (by omega) (.inr (Int.le_refl _)) (gD_cons _ _ _ _ _ _ _ _ _ _ _ hp (by omega) (by omega) (.inr hM) (gD_one _ _ _ _ _ _ _ _ _ _ hp (by omega) h9 (.inr (Int.le_refl _)))), ?_, ?_⟩
    · rw [eH_cons _ _ _ _ _ _ _ _ hp (by omega), eH_cons _ _ _ _ _ _ _ _ hp (by omega), eH_cons _ _ _ _ _ _ _ _ hp (by omega)]; rfl
    · rw [eD_cons _ _ _ _ _ _ _ _ hp (by omega), eD_cons _ _ _ _ _ _ _ _ hp (by omega), eD_one _ _ _ _ _ _ _ hp (by omega), m2, m1, m2]
theorem body_depth (p u w c0 c8 c9 c11 c12 c14 : Int) (n : Nat) (hp : p = 17 ∨ p = 18 ∨ p = 19) (h8 : c9 < c8) (h11 : 1 ≤ c11) (hr8 : -10000 ≤ c8 ∧ c8 ≤ 10000) (hr9 : -10000 ≤ c9) (hr11 : c11 ≤ 10000) (hn : (n : Int) * c11 ≤ c8 - c9 - 1)
    (hc : c0 = 73 ∨ c0 = 74 ∨ c0 = 81 ∨ c0 = 82 ∨ c0 = 83 ∨ c0 = 84 ∨ c0 = 85 ∨ c0 = 86 ∨ c0 = 89) :
    gD p c8 c9 (bodyL p u w c0 c8 c9 c11 c12 c14 n) c8 c8 ∧ eD p (bodyL p u w c0 c8 c9 c11 c12 c14 n) c8 = c9 := by
  have m1 : mn c8 c9 = c9 := mn_lt (by omega)
  have m2 : mn c9 c8 = c9 := mn_ge (by omega)
  have hpk : ∀ c0, gD p c8 c9 (pecksL p u w c0 c8 c11 n ++ [itm p u w 2 c9 0]) c8 c8 ∧ eD p (pecksL p u w c0 c8 c11 n ++ [itm p u w 2 c9 0]) c8 = c9 := fun c0 => by
    obtain ⟨g, e⟩ := pecks_depth p u w c0 c8 c9 c11 hp h8 h11 hr8 hr9 hr11 n hn
    refine ⟨gD_append _ _ _ _ _ _ _ g (gD_one _ _ _ _ _ _ _ _ _ _ hp (by omega) (Int.le_refl _) (.inl (by omega))), ?_⟩
    rw [eD_append, e, eD_one _ _ _ _ _ _ _ hp (by omega), mn_lt (by omega)]
  have hln : ∀ rs, gD p c8 c9 rs c9 c9 → gD p c8 c9 (itm p u w 2 c9 0 :: rs) c8 c8 := fun rs hr => gD_cons _ _ _ _ _ _ _ _ _ _ _ hp (by omega) (Int.le_refl _) (.inl (by omega)) (by rw [m1]; exact hr)
  have hle : ∀ rs, eD p rs c9 = c9 → eD p (itm p u w 2 c9 0 :: rs) c8 = c9 := fun rs hr => by rw [eD_cons _ _ _ _ _ _ _ _ hp (by omega), m1, hr]
  have hbk : ∀ k n, k ≤ 6 → k ≠ 1 → gD p c8 c9 [itm p u w k c8 n] c9 c9 := fun k n h h1 => gD_one _ _ _ _ _ _ _ _ _ _ hp h (by omega) (.inl h1)
  have hbe : ∀ k n, k ≤ 6 → eD p [itm p u w k c8 n] c9 = c9 := fun k n h => by rw [eD_one _ _ _ _ _ _ _ hp h, m2]
  have htp : ∀ a b, gD p c8 c9 [itm p u w 6 c9 a, itm p u w 6 c8 b] c8 c8 ∧ eD p [itm p u w 6 c9 a, itm p u w 6 c8 b] c8 = c9 := fun a b =>
    ⟨gD_cons _ _ _ _ _ _ _ _ _ _ _ hp (by omega) (Int.le_refl _) (.inl (by omega)) (by rw [m1]; exact hbk _ _ (by omega) (by omega)), by rw [eD_cons _ _ _ _ _ _ _ _ hp (by omega), m1, hbe _ _ (by omega)]⟩
  unfold bodyL
  rcases hc with rfl | rfl | rfl | rfl | rfl | rfl | rfl | rfl | rfl
  · exact hpk 73
  · exact htp _ _
  · exact ⟨hln _ trivial, hle _ rfl⟩
  · exact ⟨hln _ trivial, hle _ rfl⟩
  · exact hpk 83
  · exact htp _ _
  · exact ⟨hln _ (hbk _ _ (by omega) (by omega)), hle _ (hbe _ _ (by omega))⟩
  · exact ⟨hln _ trivial, hle _ rfl⟩
  · exact ⟨hln _ (gD_dwl _ _ _ _ _ _ _ (hbk _ _ (by omega) (by omega))), hle _ (by rw [eD_dwl]; exact hbe _ _ (by omega))⟩
theorem post_depth (p u w c0 c8 c9 x c14 c15 h d : Int) (hp : p = 17 ∨ p = 18 ∨ p = 19) (hx : c8 ≤ x) (h9 : c9 ≤ c8) : gD p c8 c9 (postL p u w c0 x c14 c15) h d ∧ eD p (postL p u w c0 x c14 c15) d = mn d x := by
  unfold postL
  cases c0 == 86
  · exact ⟨gD_one _ _ _ _ _ _ _ _ _ _ hp (by omega) (by omega) (.inr hx), by rw [cond_false, eD_one _ _ _ _ _ _ _ hp (by omega)]⟩
  · exact ⟨gD_cons _ _ _ _ _ _ _ _ _ _ _ hp (by omega) (by omega) (.inr hx) trivial, by rw [cond_true, eD_cons _ _ _ _ _ _ _ _ hp (by omega)]; rfl⟩
theorem pk_eq (c8 c9 c11 : Int) (h8 : c9 < c8) (h11 : 1 ≤ c11) (hr8 : -10000 ≤ c8 ∧ c8 ≤ 10000) (hr9 : -10000 ≤ c9) : pk c8 c9 c11 = (c8 - c9 - 1) / c11 + 1 ∧ 0 ≤ (c8 - c9 - 1) / c11 ∧ (c8 - c9 - 1) / c11 ≤ c8 - c9 - 1 := by
  have h1 : 0 ≤ (c8 - c9 - 1) / c11 := Int.ediv_nonneg (by omega) (by omega)
  have h2 : (c8 - c9 - 1) / c11 ≤ c8 - c9 - 1 := Int.ediv_le_self _ (by omega)
  refine ⟨?_, h1, h2⟩
  unfold pk
  rw [wrI (x := c8 - c9) (by omega) (by omega), wrI (x := c8 - c9 - 1) (by omega) (by omega), Int.tdiv_eq_ediv_of_nonneg (by omega)]
  generalize (c8 - c9 - 1) / c11 = z at h1 h2
  rw [wrI (x := z) (by omega) (by omega), wrI (by omega) (by omega)]
theorem hn_mul (c0 c8 c9 c11 : Int) (h8 : c9 < c8) (h11 : 1 ≤ c11) (hr8 : -10000 ≤ c8 ∧ c8 ≤ 10000) (hr9 : -10000 ≤ c9) : (((hn c0 c8 c9 c11 - 1).toNat : Nat) : Int) * c11 ≤ c8 - c9 - 1 := by
  unfold hn
  cases (c0 == 73 || c0 == 83)
  · simp; omega
  · obtain ⟨e, h1, _⟩ := pk_eq c8 c9 c11 h8 h11 hr8 hr9
    rw [cond_true, e]
    have := Int.ediv_mul_le (c8 - c9 - 1) (b := c11) (by omega)
    generalize (c8 - c9 - 1) / c11 = z at *
    rw [show ((z + 1 - 1).toNat : Int) = z by omega]
    exact this
noncomputable def depthM (L : List (List Int)) : Mem := [rowI 11302 11301 (EX L), (3131, CB L), rowL L]
noncomputable def hL (L : List (List Int)) (j : Nat) : Int := hX (cycle_1 L) (EX L) (flat_2 (cycle_1 L) (cycle_2 L) (cycle_3 L) (cycle_4 L)) j
noncomputable def dL (L : List (List Int)) (j : Nat) : Int := dX (cycle_1 L) (EX L) (cycle_8 L) j
noncomputable def depthF (L : List (List Int)) : Fam Nat Unit where
  k := 100
  E j := [(8, ent 1000000000 (.one (I (Int.ofNat j)))), (7, ent 1000000001 (.one (I (hL L j)))), (6, ent 1000000002 (.one (I (dL L j)))), (4, ent 11307 (.one (.wh 11302))), (3, ent 3148 (.one (.ptr 3131 0))), (2, ent 2 (.one (.bool (.c false))))]
  M _ := depthM L
  out _ := .leaf (.exit 0) [(6, ent 1000000003 (.one (I (dL L (EX L).length)))), (3, ent 3148 (.one (.ptr 3131 0)))] (depthM L)
  fin _ := ()
  next j _ := j + 1
  J j := j ≤ (EX L).length
  μ j := (EX L).length - j
noncomputable def depth_s0 (L : List (List Int)) (j : Nat) : Prop :=
  decide (Int.ofNat j < Int.ofNat (EX L).length) = true
noncomputable def depth_s1 (L : List (List Int)) (j : Nat) : Int :=
  ((EX L).getD (Int.ofNat j).toNat []).getD 0 0
noncomputable def depth_s2 (L : List (List Int)) (j : Nat) : Prop :=
  decide (depth_s1 L j > 6) = false
noncomputable def depth_s3 (L : List (List Int)) (j : Nat) : Int :=
  flat_2 (cycle_1 L) (((EX L).getD (Int.ofNat j).toNat []).getD 5 0) (((EX L).getD (Int.ofNat j).toNat []).getD 6 0) (((EX L).getD (Int.ofNat j).toNat []).getD 7 0)
noncomputable def depth_s4 (L : List (List Int)) (j : Nat) : Prop :=
  decide (depth_s3 L j < cycle_9 L) = false
noncomputable def depth_needs (L : List (List Int)) (j : Nat) : List Prop :=
  [depth_s0 L j →
      0 ≤ Int.ofNat j ∧
        (Int.ofNat j).toNat < (EX L).length ∧
          (Int.ofNat j).toNat < (EX L).length ∧
            (Int.ofNat j).toNat < (EX L).length ∧
              (depth_s2 L j →
                0 ≤ Int.ofNat j ∧
                  (Int.ofNat j).toNat < (EX L).length ∧
                    (Int.ofNat j).toNat < (EX L).length ∧
                      (Int.ofNat j).toNat < (EX L).length ∧
                        (depth_s4 L j → 0 ≤ Int.ofNat j) ∧
                          (depth_s4 L j → (Int.ofNat j).toNat < (EX L).length) ∧ (depth_s4 L j → (Int.ofNat j).toNat < (EX L).length) ∧ (depth_s4 L j → (Int.ofNat j).toNat < (EX L).length)),
    depth_s0 L j →
      (decide (depth_s1 L j > 6) = true →
          (depthF L).next j 0 ≤ (EX L).length ∧
            (depthF L).μ ((depthF L).next j 0) < (depthF L).μ j ∧
              (depthF L).fin ((depthF L).next j 0) = (depthF L).fin j ∧
                Int.ofNat ((depthF L).next j 0) = IntKind.i64.wrap (Int.ofNat j + 1) ∧ hL L ((depthF L).next j 0) = hL L j ∧ dL L ((depthF L).next j 0) = dL L j) ∧
        (depth_s2 L j →
          ((decide (depth_s3 L j < cycle_9 L) || depth_s1 L j == 1 && decide (depth_s3 L j < cycle_8 L) && decide (depth_s3 L j < hL L j) && decide (depth_s3 L j ≤ dL L j) && decide (Int.ofNat j > 2)) =
                true →
              False) ∧
            ((decide (depth_s3 L j < cycle_9 L) ||
                  depth_s1 L j == 1 && decide (depth_s3 L j < cycle_8 L) && decide (depth_s3 L j < hL L j) && decide (depth_s3 L j ≤ dL L j) && decide (Int.ofNat j > 2)) =
                false →
              (depthF L).next j 2 ≤ (EX L).length ∧
                (depthF L).μ ((depthF L).next j 2) < (depthF L).μ j ∧
                  (depthF L).fin ((depthF L).next j 2) = (depthF L).fin j ∧
                    Int.ofNat ((depthF L).next j 2) = IntKind.i64.wrap (Int.ofNat j + 1) ∧
                      hL L ((depthF L).next j 2) = depth_s3 L j ∧ dL L ((depthF L).next j 2) = if depth_s3 L j < dL L j then depth_s3 L j else dL L j)),
    decide (Int.ofNat j < Int.ofNat (EX L).length) = false → dL L (EX L).length = dL L j]
theorem depth_round (L : List (List Int)) (j : Nat) (hNeeds : ∀ pN ∈ (depth_needs L j), pN) : RoundOk (roundC (depthF L) (bodyOf Try.prog (sums K_lawC) L_same 6 0) 13241 j) :=
  RoundOk.of (ps := (depth_needs L j)) (by kernel_rfl) (by kernel_rfl) hNeeds
theorem EX_depth (L : List (List Int)) (h : Int) : gD (cycle_1 L) (cycle_8 L) (cycle_9 L) (EX L) h (cycle_8 L) ∧ eD (cycle_1 L) (EX L) (cycle_8 L) = cycle_9 L := by
  have hp := cyc_plane L
  have r8 := cycle_8_rng L
  have r9 := cycle_9_rng L
  have r11 := cycle_11_rng L
  have hge := hr_ge (cycle_8 L) (cycle_10 L) (cycle_12 L)
  rw [EX_eq]
  unfold expL
  obtain ⟨g1, g2, g3⟩ := pre_depth (cycle_1 L) (cycle_2 L) (cycle_3 L) (cycle_4 L) (flat_0 (cycle_1 L) (cycle_5 L) (cycle_6 L) (cycle_7 L)) (flat_1 (cycle_1 L) (cycle_5 L) (cycle_6 L) (cycle_7 L)) (cycle_8 L) (cycle_9 L) h hp (by omega)
  obtain ⟨b1, b2⟩ := body_depth (cycle_1 L) (flat_0 (cycle_1 L) (cycle_5 L) (cycle_6 L) (cycle_7 L)) (flat_1 (cycle_1 L) (cycle_5 L) (cycle_6 L) (cycle_7 L)) (cycle_0 L) (cycle_8 L) (cycle_9 L) (cycle_11 L) (cyc12 L) (cycle_13 L) _ hp (by omega) (by omega) (by omega) (by omega) (by omega) (hn_mul (cycle_0 L) (cycle_8 L) (cycle_9 L) (cycle_11 L) (by omega) (by omega) (by omega) (by omega)) (cycle_0_code L)
  refine ⟨gD_append _ _ _ _ _ _ _ g1 ?_, ?_⟩
  · rw [g2, g3]
    exact gD_append _ _ _ _ _ _ _ b1 (post_depth _ _ _ _ _ _ _ _ _ _ _ hp hge (by omega)).1
  · rw [eD_append, g3, eD_append, b2, (post_depth _ _ _ _ (cycle_8 L) (cycle_9 L) _ _ _ 0 _ hp hge (by omega)).2, mn_ge (by omega)]
theorem depth_rounds (L : List (List Int)) : RoundsOk (depthF L) (bodyOf Try.prog (sums K_lawC) L_same 6 0) 13241 := by
  intro j h1
  have h1 : j ≤ (EX L).length := h1
  have hlen : (EX L).length ≤ 4000 := expR_len _ _ _ _ _ _ _ _ _ _ _ _ _ _ _ _
  refine depth_round L j fun q hq => ?_
  unfold depth_needs at hq
  simp only [List.mem_cons, List.not_mem_nil, or_false, depth_s0, depth_s1, depth_s2, depth_s3, depth_s4, depthF] at hq
  rcases hq with rfl | rfl | rfl
  · intro h
    have h5 : j < (EX L).length := by simpa using h
    exact ⟨by simp, by simpa using h5, by simpa using h5, by simpa using h5, fun _ => ⟨by simp, by simpa using h5, by simpa using h5, by simpa using h5, fun _ => by simp, fun _ => by simpa using h5, fun _ => by simpa using h5, fun _ => by simpa using h5⟩⟩
  · intro h
    have h5 : j < (EX L).length := by simpa using h
    have h6 : IntKind.i64.wrap (Int.ofNat j + 1) = Int.ofNat (j + 1) := wrI (by simp; omega) (by simp; omega)
    have h7 : (Int.ofNat j).toNat = j := by simp
    simp only [h6, h7]
    refine ⟨fun h8 => ⟨by omega, by omega, trivial, trivial, by simp only [hL, hX, h8, cond_true], by simp only [dL, dX, h8, cond_true]⟩,
      fun h8 => ⟨fun h9 => ?_, fun _ => ⟨by omega, by omega, trivial, trivial, by simp only [hL, hX, h8, cond_false]; rfl, by simp only [dL, dX, h8, cond_false]; rfl⟩⟩⟩
    have h10 : ¬ ((EX L).getD j []).getD 0 0 > 6 := by simpa using h8
    have h11 := gD_at _ _ _ _ _ _ (EX_depth L (flat_2 (cycle_1 L) (cycle_2 L) (cycle_3 L) (cycle_4 L))).1 j h5 h10
    unfold hgt at h11
    simp only [Bool.or_eq_true, Bool.and_eq_true, decide_eq_true_eq, beq_iff_eq] at h9
    rcases h9 with h9 | h9
    · omega
    · exact h11.2 ⟨h9.1.1.1.1, h9.1.1.1.2, h9.1.1.2, h9.1.2⟩
  · intro h
    have h5 : ¬ j < (EX L).length := by simpa using h
    rw [show (EX L).length = j by omega]
noncomputable def depthL : LoopS := fun env mem m => match eRow [.int .i64] [(0, ent 0 (.one (.wh 0)))] mem 0 with
  | some L => famS (depthF L) 13241 (fun _ _ => some 0) env mem m
  | none => none
noncomputable def L_depth : FuncId → Nat → Option LoopS := addL L_same 6 9 depthL
theorem known_depthL : Known Try.prog (sums K_lawC) L_depth := by
  refine known_addL 0 known_lawC (by kernel_rfl) (codeOk_of fun env mem m x h => ?_)
  unfold depthL at h
  have hlen : (loopList Try.prog 6).length = 1 := by kernel_rfl
  split at h
  · exact ⟨_, fam_ok (bodyOf_ok plainN known_lawC (by omega)) (depth_rounds _), h⟩
  · cases h
theorem dL_end (L : List (List Int)) : dL L (EX L).length = cycle_9 L := by
  unfold dL; rw [dX_all, (EX_depth L 0).2]
noncomputable def lawD_tpl : Tpl := ⟨[.one (.wh 0)], [(0, .row true 3 1 1 [.int .i64])], 2⟩
noncomputable def lawD_0 (L : List (List Int)) : Bool :=
  !light_0 L ||
    bif
        chk (cycle_0 L) (cycle_1 L) (cycle_2 L) (cycle_3 L) (cycle_4 L) (cycle_5 L) (cycle_6 L) (cycle_7 L) (cycle_8 L) (cycle_9 L) (cycle_10 L) (cycle_11 L) (cyc12 L) (cycle_12 L) (cycle_13 L)
            (cyc15 L) !=
          0 then
      false
    else dL L (EX L).length == cycle_9 L
noncomputable def lawD_needs (L : List (List Int)) : List Prop :=
  [(!light_0 L) = false →
      L.length ≤ 1000000 ∧
        ((chk (cycle_0 L) (cycle_1 L) (cycle_2 L) (cycle_3 L) (cycle_4 L) (cycle_5 L) (cycle_6 L) (cycle_7 L) (cycle_8 L) (cycle_9 L) (cycle_10 L) (cycle_11 L) (cyc12 L) (cycle_12 L) (cycle_13 L)
                (cyc15 L) !=
              0) =
            false →
          0 ≤ (EX L).length ∧ Int.ofNat 0 = 0 ∧ hL L 0 = flat_2 (cycle_1 L) (cycle_2 L) (cycle_3 L) (cycle_4 L) ∧ dL L 0 = cycle_8 L)]
theorem lawD_0_eq (L : List (List Int)) : (lawD_0 L) = true := by
  unfold lawD_0
  rw [dL_end, cycle_chk]
  simp
theorem lawD_need {L : List (List Int)} : ∀ q ∈ (lawD_needs L), q := by
  intro q hq
  unfold lawD_needs at hq
  simp only [List.mem_cons, List.not_mem_nil, or_false] at hq
  subst hq
  intro h
  have : (L.length : Int) ≤ 120 := by simpa [light_0] using h
  exact ⟨by omega, fun _ => ⟨Nat.zero_le _, rfl, rfl, rfl⟩⟩
set_option maxRecDepth 1000000 in
theorem lawD_runs (L : List (List Int)) (hNeeds : ∀ pN ∈ (lawD_needs L), pN) : Runs (runF (sums K_lawC) L_depth 6) (lawD_tpl.args []) (lawD_tpl.memo [] [L]) lawD_tpl.n (SV.one (SC.bool (SB.v (lawD_0 L))))
    ([(0, Obj.row true 3 1 (RowC.lst 1 [CK.int IntKind.i64] L))]) :=
  Runs.of (ps := (lawD_needs L)) (by kernel_rfl) (by kernel_rfl) hNeeds
noncomputable def lawD_out : List Pm → Lss → Option CRes
  | [], [L] => some ⟨SV.one (SC.bool (SB.c true)),
    [(0, Obj.row true 3 1 (RowC.lst 1 [CK.int IntKind.i64] L))],
    [], [], 13346⟩
  | _, _ => none
theorem lawD_ok : FOk Try.prog 6 (tplS lawD_tpl lawD_out) := by
  refine tplS_ok (runF_ok known_depthL 6) fun ps ls r hr hn _ => ?_
  unfold lawD_out at hr
  split at hr
  · cases hr; exact ⟨_, lawD_runs _ (fun p hp => lawD_need p hp), fun _ => by simp only [SV.den, SC.den, SB.val, lawD_0_eq]⟩
  · cases hr
noncomputable def K_lawD : List (Nat × Summ) := (6, tplS lawD_tpl lawD_out) :: K_lawC
theorem known_lawD : Known Try.prog (sums K_lawD) L_depth := known_cons known_depthL lawD_ok
end Go.Proofs.Ytgimheibnpgphaa
