/-
  DRILLPECKS: the walk. Conditions: none.
-/
import Derived.Test.YtgimheibnpgphaaDrillO
set_option linter.all false
namespace Go.Proofs.Ytgimheibnpgphaa
open Go.SX Go.RowKit
noncomputable def codeP (c0 : Int) : Bool := c0 == 73 || c0 == 83
/-- The steps of the cycle with another code. -/
noncomputable def EP (L : List (List Int)) (c0 : Int) : List (List Int) := expR c0 (cycle_1 L) (cycle_2 L) (cycle_3 L) (cycle_4 L) (cycle_5 L) (cycle_6 L) (cycle_7 L) (cycle_8 L) (cycle_9 L) (cycle_10 L) (cycle_11 L) (cyc12 L) (cycle_12 L) (cycle_13 L) (cyc15 L)
noncomputable def CPk (L : List (List Int)) (c0 : Int) : SX.Obj := .blk 28 [(3173, I c0), (3150, I (cycle_1 L)), (3151, I (cycle_2 L)), (3152, I (cycle_3 L)), (3153, I (cycle_4 L)), (3154, I (cycle_5 L)), (3155, I (cycle_6 L)), (3156, I (cycle_7 L)), (3157, I (cycle_8 L)), (3158, I (cycle_9 L)), (3159, I (cycle_10 L)), (3160, I (cycle_11 L)), (3161, I (cyc12 L)), (3162, I (cycle_12 L)), (3163, I (cycle_13 L)), (3164, I (cyc15 L))]
noncomputable def HP (L : List (List Int)) (c0 : Int) : Int := hts1 c0 (cycle_1 L) (cycle_2 L) (cycle_3 L) (cycle_4 L) (cycle_5 L) (cycle_6 L) (cycle_7 L) (cycle_8 L) (cycle_9 L) (cycle_10 L) (cycle_11 L) (cyc12 L) (cycle_12 L) (cycle_13 L) (cyc15 L)
noncomputable def pX (p : Int) (xs : List (List Int)) (d : Int) : Nat → Int
  | 0 => d
  | j + 1 => bif (xs.getD j []).getD 0 0 != 2 then pX p xs d j else hgt p (xs.getD j [])
noncomputable def nX (xs : List (List Int)) : Nat → Nat
  | 0 => 0
  | j + 1 => bif (xs.getD j []).getD 0 0 != 2 then nX xs j else nX xs j + 1
/-- What a line of a peck must be. -/
noncomputable def okP (c9 c11 d k : Int) : Prop := -10000 ≤ k ∧ d ≤ 10000 ∧ k < d ∧ d - k ≤ c11 ∧ (d - k < c11 → k = c9)
noncomputable def gP (p c9 c11 : Int) : List (List Int) → Int → Prop
  | [], _ => True
  | r :: rs, d => bif r.getD 0 0 != 2 then gP p c9 c11 rs d else okP c9 c11 d (hgt p r) ∧ gP p c9 c11 rs (hgt p r)
noncomputable def eP (p : Int) : List (List Int) → Int → Int
  | [], d => d
  | r :: rs, d => bif r.getD 0 0 != 2 then eP p rs d else eP p rs (hgt p r)
noncomputable def nP : List (List Int) → Nat
  | [] => 0
  | r :: rs => bif r.getD 0 0 != 2 then nP rs else nP rs + 1
theorem gP_append (p c9 c11 : Int) : ∀ (xs ys : List (List Int)) (d : Int), gP p c9 c11 xs d → gP p c9 c11 ys (eP p xs d) → gP p c9 c11 (xs ++ ys) d
  | [], _, _, _, k => k
  | r :: rs, ys, d, g, k => by
    simp only [List.cons_append, gP, eP] at g k ⊢
    cases hk : r.getD 0 0 != 2 <;> simp only [hk, cond_true, cond_false] at g k ⊢
    · exact ⟨g.1, gP_append p c9 c11 rs ys _ g.2 k⟩
    · exact gP_append p c9 c11 rs ys _ g k
theorem eP_append (p : Int) : ∀ (xs ys : List (List Int)) (d : Int), eP p (xs ++ ys) d = eP p ys (eP p xs d)
  | [], _, _ => rfl
  | r :: rs, ys, d => by
    simp only [List.cons_append, eP]
    cases r.getD 0 0 != 2 <;> exact eP_append p rs ys _
theorem nP_append : ∀ (xs ys : List (List Int)), nP (xs ++ ys) = nP xs + nP ys
  | [], _ => by simp [nP]
  | r :: rs, ys => by
    simp only [List.cons_append, nP]
    cases r.getD 0 0 != 2 <;> simp only [cond_true, cond_false, nP_append rs ys] <;> omega
theorem pX_cons (p : Int) (r : List Int) (rs : List (List Int)) (d : Int) : ∀ j, pX p (r :: rs) d (j + 1) = pX p rs (bif r.getD 0 0 != 2 then d else hgt p r) j
  | 0 => rfl
  | j + 1 => by
    have e : (r :: rs).getD (j + 1) [] = rs.getD j [] := rfl
    have := pX_cons p r rs d j
    rw [pX, this, e]; rfl
theorem nX_cons (r : List Int) (rs : List (List Int)) : ∀ j, nX (r :: rs) (j + 1) = nX rs j + (bif r.getD 0 0 != 2 then 0 else 1)
  | 0 => by
    have e : (r :: rs).getD 0 [] = r := rfl
    simp only [nX, e]
    cases r.getD 0 0 != 2 <;> rfl
  | j + 1 => by
    have e : (r :: rs).getD (j + 1) [] = rs.getD j [] := rfl
    have h := nX_cons r rs j
    rw [nX, h, e, nX]
    cases (rs.getD j []).getD 0 0 != 2 <;> simp only [cond_true, cond_false] <;> omega
theorem pX_all (p : Int) : ∀ (xs : List (List Int)) (d : Int), pX p xs d xs.length = eP p xs d
  | [], _ => rfl
  | r :: rs, d => by
    rw [List.length_cons, pX_cons, pX_all p rs, eP]
    cases r.getD 0 0 != 2 <;> rfl
theorem nX_all : ∀ (xs : List (List Int)), nX xs xs.length = nP xs
  | [] => rfl
  | r :: rs => by
    rw [List.length_cons, nX_cons, nX_all rs, nP]
    cases r.getD 0 0 != 2 <;> rfl
theorem nX_le (xs : List (List Int)) : ∀ j, nX xs j ≤ j
  | 0 => Nat.le_refl _
  | j + 1 => by
    have := nX_le xs j
    rw [nX]
    cases (xs.getD j []).getD 0 0 != 2 <;> simp only [cond_true, cond_false] <;> omega
theorem gP_at (p c9 c11 : Int) : ∀ (xs : List (List Int)) (d : Int), gP p c9 c11 xs d → ∀ j, j < xs.length → ((xs.getD j []).getD 0 0 != 2) = false →
    okP c9 c11 (pX p xs d j) (hgt p (xs.getD j []))
  | [], _, _, j, hj, _ => by simp at hj
  | r :: rs, d, g, 0, _, hk => by
    have hk' : (r.getD 0 0 != 2) = false := hk
    simp only [gP, hk', cond_false] at g
    exact g.1
  | r :: rs, d, g, j + 1, hj, hk => by
    rw [pX_cons]
    have e : (r :: rs).getD (j + 1) [] = rs.getD j [] := rfl
    rw [e] at hk ⊢
    simp only [List.length_cons] at hj
    simp only [gP] at g
    cases hr : r.getD 0 0 != 2 <;> simp only [hr, cond_true, cond_false] at g ⊢
    · exact gP_at p c9 c11 rs _ g.2 j (by omega) hk
    · exact gP_at p c9 c11 rs _ g j (by omega) hk
theorem gP_rap (p u w c9 c11 x n d : Int) (rs : List (List Int)) : gP p c9 c11 (itm p u w 1 x n :: rs) d = gP p c9 c11 rs d := rfl
theorem eP_rap (p u w x n d : Int) (rs : List (List Int)) : eP p (itm p u w 1 x n :: rs) d = eP p rs d := rfl
theorem nP_rap (p u w x n : Int) (rs : List (List Int)) : nP (itm p u w 1 x n :: rs) = nP rs := rfl
theorem gP_lin (p u w c9 c11 x n d : Int) (rs : List (List Int)) (hp : p = 17 ∨ p = 18 ∨ p = 19) (h : okP c9 c11 d x) (hr : gP p c9 c11 rs x) : gP p c9 c11 (itm p u w 2 x n :: rs) d := by
  have e : ((itm p u w 2 x n).getD 0 0 != 2) = false := rfl
  simp only [gP, e, cond_false, hgt_itm _ _ _ _ _ _ hp]
  exact ⟨h, hr⟩
theorem eP_lin (p u w x n d : Int) (rs : List (List Int)) (hp : p = 17 ∨ p = 18 ∨ p = 19) : eP p (itm p u w 2 x n :: rs) d = eP p rs x := by
  have e : ((itm p u w 2 x n).getD 0 0 != 2) = false := rfl
  simp only [eP, e, cond_false, hgt_itm _ _ _ _ _ _ hp]
theorem nP_lin (p u w x n : Int) (rs : List (List Int)) : nP (itm p u w 2 x n :: rs) = nP rs + 1 := rfl
theorem pecks_pecks (p u w c0 c8 c9 c11 : Int) (hp : p = 17 ∨ p = 18 ∨ p = 19) (h8 : c9 < c8) (h11 : 1 ≤ c11) (hr8 : -10000 ≤ c8 ∧ c8 ≤ 10000) (hr9 : -10000 ≤ c9) (hr11 : c11 ≤ 10000) : ∀ j : Nat, (j : Int) * c11 ≤ c8 - c9 - 1 →
    gP p c9 c11 (pecksL p u w c0 c8 c11 j) c8 ∧ eP p (pecksL p u w c0 c8 c11 j) c8 = c8 - j * c11 ∧ nP (pecksL p u w c0 c8 c11 j) = j
  | 0, _ => ⟨trivial, by simp [pecksL, eP], rfl⟩
  | j + 1, hj => by
    have hm : ((j + 1 : Nat) : Int) * c11 = (j : Int) * c11 + c11 := by rw [Int.natCast_succ, Int.add_mul, Int.one_mul]
    rw [hm] at hj
    obtain ⟨g, e, hn⟩ := pecks_pecks p u w c0 c8 c9 c11 hp h8 h11 hr8 hr9 hr11 j (by omega)
    have hnn : 0 ≤ (j : Int) * c11 := Int.mul_nonneg (by omega) (by omega)
    have hd : deep c8 c11 (Int.ofNat (j + 1)) = c8 - (j * c11 + c11) := by
      unfold deep
      rw [show Int.ofNat (j + 1) * c11 = (j : Int) * c11 + c11 from hm, wrI (x := (j : Int) * c11 + c11) (by omega) (by omega), wrI (by omega) (by omega)]
    rw [hm]
    generalize hq : (j : Int) * c11 = q at *
    have hok : okP c9 c11 (c8 - q) (c8 - (q + c11)) := ⟨by omega, by omega, by omega, by omega, by omega⟩
    simp only [pecksL, peckOne, hd]
    cases c0 == 83
    · simp only [cond_false, List.nil_append, List.singleton_append]
      refine ⟨gP_append _ _ _ _ _ _ g ?_, ?_, ?_⟩
      · rw [e]; exact gP_lin _ _ _ _ _ _ _ _ _ hp hok trivial
      · rw [eP_append, e, eP_lin _ _ _ _ _ _ _ hp]; rfl
      · rw [nP_append, hn]; rfl
    · simp only [cond_true, List.singleton_append]
      refine ⟨gP_append _ _ _ _ _ _ g ?_, ?_, ?_⟩
      · rw [e]; exact gP_lin _ _ _ _ _ _ _ _ _ hp hok trivial
      · rw [eP_append, e, eP_lin _ _ _ _ _ _ _ hp]; rfl
      · rw [nP_append, hn]; rfl
theorem pre_pecks (c1 c2 c3 c4 u w c8 c9 c11 d : Int) : gP c1 c9 c11 (preL c1 c2 c3 c4 u w c8) d ∧ eP c1 (preL c1 c2 c3 c4 u w c8) d = d ∧ nP (preL c1 c2 c3 c4 u w c8) = 0 := by
  unfold preL
  cases decide (flat_2 c1 c2 c3 c4 < c8) <;> exact ⟨trivial, rfl, rfl⟩
theorem post_pecks (p u w c0 x c14 c15 c9 c11 d : Int) : gP p c9 c11 (postL p u w c0 x c14 c15) d ∧ eP p (postL p u w c0 x c14 c15) d = d ∧ nP (postL p u w c0 x c14 c15) = 0 := by
  unfold postL
  cases c0 == 86 <;> exact ⟨trivial, rfl, rfl⟩
theorem chk_pkc (L : List (List Int)) (c0 : Int) (hc : codeP c0 = true) : chk c0 (cycle_1 L) (cycle_2 L) (cycle_3 L) (cycle_4 L) (cycle_5 L) (cycle_6 L) (cycle_7 L) (cycle_8 L) (cycle_9 L) (cycle_10 L) (cycle_11 L) (cyc12 L) (cycle_12 L) (cycle_13 L) (cyc15 L) = 0 :=
  chk_zero _ _ _ _ _ _ _ _ _ _ _ _ _ _ _ _ (by simp [codeP] at hc; omega) (cycle_1_rng L) (cycle_2_rng L) (cycle_3_rng L) (cycle_4_rng L) (cycle_5_rng L) (cycle_6_rng L) (cycle_7_rng L) (cycle_8_rng L) (cycle_9_rng L) (cycle_10_rng L) (cycle_11_rng L) (cyc12_rng L) (cycle_12_rng L) ⟨(cycle_13_rng L).1, fun h => by simp [codeP] at hc; omega, fun h => by simp [codeP] at hc; omega⟩ (cyc15_rng L)
theorem EP_pecks (L : List (List Int)) (c0 : Int) (hc : codeP c0 = true) : gP (cycle_1 L) (cycle_9 L) (cycle_11 L) (EP L c0) (cycle_8 L) ∧ eP (cycle_1 L) (EP L c0) (cycle_8 L) = cycle_9 L ∧ (nP (EP L c0) : Int) = (cycle_8 L - cycle_9 L - 1) / cycle_11 L + 1 ∧ HP L c0 = (cycle_8 L - cycle_9 L - 1) / cycle_11 L + 1 := by
  have hp := cyc_plane L
  have r8 := cycle_8_rng L
  have r9 := cycle_9_rng L
  have r11 := cycle_11_rng L
  have hcc : (c0 == 73 || c0 == 83) = true := hc
  obtain ⟨e, h1, h2⟩ := pk_eq (cycle_8 L) (cycle_9 L) (cycle_11 L) (by omega) (by omega) (by omega) (by omega)
  have hmul := Int.ediv_mul_le (cycle_8 L - cycle_9 L - 1) (b := cycle_11 L) (by omega)
  have hlt := Int.lt_ediv_add_one_mul_self (cycle_8 L - cycle_9 L - 1) (b := cycle_11 L) (by omega)
  have hh : HP L c0 = (cycle_8 L - cycle_9 L - 1) / cycle_11 L + 1 := by
    unfold HP hts1 hn
    rw [chk_pkc L c0 hc, hcc, cond_true, ← e]; rfl
  have hn' : hn c0 (cycle_8 L) (cycle_9 L) (cycle_11 L) = (cycle_8 L - cycle_9 L - 1) / cycle_11 L + 1 := by
    unfold hn; rw [hcc, cond_true, e]
  rw [Int.add_mul, Int.one_mul] at hlt
  unfold EP expR
  rw [chk_pkc L c0 hc]
  simp only [bne_self_eq_false, cond_false, expL, bodyL, hcc, cond_true, hn']
  generalize (cycle_8 L - cycle_9 L - 1) / cycle_11 L = z at *
  have hz : ((z + 1 - 1).toNat : Int) = z := by omega
  have hzm : ((z + 1 - 1).toNat : Int) * cycle_11 L ≤ cycle_8 L - cycle_9 L - 1 := by rw [hz]; exact hmul
  obtain ⟨a1, a2, a3⟩ := pre_pecks (cycle_1 L) (cycle_2 L) (cycle_3 L) (cycle_4 L) (flat_0 (cycle_1 L) (cycle_5 L) (cycle_6 L) (cycle_7 L)) (flat_1 (cycle_1 L) (cycle_5 L) (cycle_6 L) (cycle_7 L)) (cycle_8 L) (cycle_9 L) (cycle_11 L) (cycle_8 L)
  obtain ⟨b1, b2, b3⟩ := pecks_pecks (cycle_1 L) (flat_0 (cycle_1 L) (cycle_5 L) (cycle_6 L) (cycle_7 L)) (flat_1 (cycle_1 L) (cycle_5 L) (cycle_6 L) (cycle_7 L)) c0 (cycle_8 L) (cycle_9 L) (cycle_11 L) hp (by omega) (by omega) (by omega) (by omega) (by omega) _ hzm
  rw [hz] at b2
  refine ⟨gP_append _ _ _ _ _ _ a1 ?_, ?_, ?_, hh⟩
  · rw [a2]
    refine gP_append _ _ _ _ _ _ (gP_append _ _ _ _ _ _ b1 (gP_lin _ _ _ _ _ _ _ _ _ hp ?_ trivial)) (post_pecks _ _ _ _ _ _ _ _ _ _).1
    rw [b2]
    generalize z * cycle_11 L = q at *
    exact ⟨by omega, by omega, by omega, by omega, fun _ => rfl⟩
  · rw [eP_append, a2, eP_append, eP_append, b2, eP_lin _ _ _ _ _ _ _ hp, (post_pecks _ _ _ _ _ _ _ (cycle_9 L) (cycle_11 L) _).2.1]; rfl
  · rw [nP_append, a3, nP_append, nP_append, b3, nP_lin, (post_pecks _ _ _ _ _ _ _ (cycle_9 L) (cycle_11 L) 0).2.2]
    simp only [nP]
    omega
noncomputable def pkgM (L : List (List Int)) (c0 : Int) : Mem := [rowI 11310 11309 (EP L c0), (3131, CPk L c0), rowL L]
noncomputable def dK (L : List (List Int)) (c0 : Int) (j : Nat) : Int := pX (cycle_1 L) (EP L c0) (cycle_8 L) j
noncomputable def nK (L : List (List Int)) (c0 : Int) (j : Nat) : Int := Int.ofNat (nX (EP L c0) j)
noncomputable def pkgF (L : List (List Int)) (c0 : Int) : Fam Nat Unit where
  k := 100
  E j := [(13, ent 1000000000 (.one (I (Int.ofNat j)))), (12, ent 1000000001 (.one (I (dK L c0 j)))), (11, ent 1000000002 (.one (I (nK L c0 j)))), (9, ent 11992 (.one (I (HP L c0)))), (6, ent 11315 (.one (.wh 11310))), (5, ent 3148 (.one (.ptr 3131 0))), (4, ent 2 (.one (.bool (.c false))))]
  M _ := pkgM L c0
  out _ := .leaf (.exit 0) [(12, ent 1000000003 (.one (I (dK L c0 (EP L c0).length)))), (11, ent 1000000004 (.one (I (nK L c0 (EP L c0).length)))), (9, ent 11992 (.one (I (HP L c0)))), (5, ent 3148 (.one (.ptr 3131 0)))] (pkgM L c0)
  fin _ := ()
  next j _ := j + 1
  J j := j ≤ (EP L c0).length ∧ codeP c0 = true
  μ j := (EP L c0).length - j
noncomputable def pkg_s0 (L : List (List Int)) (c0 : Int) (j : Nat) : Prop :=
  decide (Int.ofNat j < Int.ofNat (EP L c0).length) = true
noncomputable def pkg_s1 (L : List (List Int)) (c0 : Int) (j : Nat) : Prop :=
  (((EP L c0).getD (Int.ofNat j).toNat []).getD 0 0 != 2) = false
noncomputable def pkg_s2 (L : List (List Int)) (c0 : Int) (j : Nat) : Int :=
  flat_2 (cycle_1 L) (((EP L c0).getD (Int.ofNat j).toNat []).getD 5 0) (((EP L c0).getD (Int.ofNat j).toNat []).getD 6 0) (((EP L c0).getD (Int.ofNat j).toNat []).getD 7 0)
noncomputable def pkg_needs (L : List (List Int)) (c0 : Int) (j : Nat) : List Prop :=
  [pkg_s0 L c0 j →
      0 ≤ Int.ofNat j ∧
        (Int.ofNat j).toNat < (EP L c0).length ∧
          (Int.ofNat j).toNat < (EP L c0).length ∧
            (Int.ofNat j).toNat < (EP L c0).length ∧
              (pkg_s1 L c0 j → 0 ≤ Int.ofNat j ∧ (Int.ofNat j).toNat < (EP L c0).length ∧ (Int.ofNat j).toNat < (EP L c0).length ∧ (Int.ofNat j).toNat < (EP L c0).length),
    pkg_s0 L c0 j →
      ((((EP L c0).getD (Int.ofNat j).toNat []).getD 0 0 != 2) = true →
          ((pkgF L c0).next j 0 ≤ (EP L c0).length ∧ codeP c0 = true) ∧
            (pkgF L c0).μ ((pkgF L c0).next j 0) < (pkgF L c0).μ j ∧
              (pkgF L c0).fin ((pkgF L c0).next j 0) = (pkgF L c0).fin j ∧
                Int.ofNat ((pkgF L c0).next j 0) = IntKind.i64.wrap (Int.ofNat j + 1) ∧ dK L c0 ((pkgF L c0).next j 0) = dK L c0 j ∧ nK L c0 ((pkgF L c0).next j 0) = nK L c0 j) ∧
        (pkg_s1 L c0 j →
          ((decide (pkg_s2 L c0 j ≥ dK L c0 j) || decide (IntKind.i64.wrap (dK L c0 j - pkg_s2 L c0 j) > cycle_11 L) ||
                  decide (IntKind.i64.wrap (dK L c0 j - pkg_s2 L c0 j) < cycle_11 L) && pkg_s2 L c0 j != cycle_9 L) =
                true →
              False) ∧
            ((decide (pkg_s2 L c0 j ≥ dK L c0 j) || decide (IntKind.i64.wrap (dK L c0 j - pkg_s2 L c0 j) > cycle_11 L) ||
                  decide (IntKind.i64.wrap (dK L c0 j - pkg_s2 L c0 j) < cycle_11 L) && pkg_s2 L c0 j != cycle_9 L) =
                false →
              ((pkgF L c0).next j 2 ≤ (EP L c0).length ∧ codeP c0 = true) ∧
                (pkgF L c0).μ ((pkgF L c0).next j 2) < (pkgF L c0).μ j ∧
                  (pkgF L c0).fin ((pkgF L c0).next j 2) = (pkgF L c0).fin j ∧
                    Int.ofNat ((pkgF L c0).next j 2) = IntKind.i64.wrap (Int.ofNat j + 1) ∧
                      dK L c0 ((pkgF L c0).next j 2) = pkg_s2 L c0 j ∧ nK L c0 ((pkgF L c0).next j 2) = IntKind.i64.wrap (nK L c0 j + 1))),
    decide (Int.ofNat j < Int.ofNat (EP L c0).length) = false → dK L c0 (EP L c0).length = dK L c0 j ∧ nK L c0 (EP L c0).length = nK L c0 j]
theorem pkg_round (L : List (List Int)) (c0 : Int) (j : Nat) (hNeeds : ∀ pN ∈ (pkg_needs L c0 j), pN) : RoundOk (roundC (pkgF L c0) (bodyOf Try.prog (sums K_lawC) L_same 7 0) 13835 j) :=
  RoundOk.of (ps := (pkg_needs L c0 j)) (by kernel_rfl) (by kernel_rfl) hNeeds
theorem pkg_rounds (L : List (List Int)) (c0 : Int) : RoundsOk (pkgF L c0) (bodyOf Try.prog (sums K_lawC) L_same 7 0) 13835 := by
  rintro j ⟨h1, hc⟩
  have h1 : j ≤ (EP L c0).length := h1
  have hlen : (EP L c0).length ≤ 4000 := expR_len _ _ _ _ _ _ _ _ _ _ _ _ _ _ _ _
  refine pkg_round L c0 j fun q hq => ?_
  unfold pkg_needs at hq
  simp only [List.mem_cons, List.not_mem_nil, or_false, pkg_s0, pkg_s1, pkg_s2, pkgF] at hq
  rcases hq with rfl | rfl | rfl
  · intro h
    have h5 : j < (EP L c0).length := by simpa using h
    exact ⟨by simp, by simpa using h5, by simpa using h5, by simpa using h5, fun _ => ⟨by simp, by simpa using h5, by simpa using h5, by simpa using h5⟩⟩
  · intro h
    have h5 : j < (EP L c0).length := by simpa using h
    have h6 : IntKind.i64.wrap (Int.ofNat j + 1) = Int.ofNat (j + 1) := wrI (by simp; omega) (by simp; omega)
    have h7 : (Int.ofNat j).toNat = j := by simp
    have hle := nX_le (EP L c0) j
    have h12 : IntKind.i64.wrap (nK L c0 j + 1) = Int.ofNat (nX (EP L c0) j + 1) := by unfold nK; exact wrI (by simp; omega) (by simp; omega)
    simp only [h6, h7, h12]
    refine ⟨fun h8 => ⟨⟨by omega, hc⟩, by omega, trivial, trivial, by simp only [dK, pX, h8, cond_true], by simp only [nK, nX, h8, cond_true]⟩,
      fun h8 => ⟨fun h9 => ?_, fun _ => ⟨⟨by omega, hc⟩, by omega, trivial, trivial, by simp only [dK, pX, h8, cond_false]; rfl, by simp only [nK, nX, h8, cond_false]⟩⟩⟩
    obtain ⟨k1, k2, k3, k4, k5⟩ := gP_at _ _ _ _ _ (EP_pecks L c0 hc).1 j h5 h8
    have r9 := cycle_9_rng L
    have r11 := cycle_11_rng L
    unfold hgt at k1 k3 k4 k5
    have e : dK L c0 j = pX (cycle_1 L) (EP L c0) (cycle_8 L) j := rfl
    rw [← e] at k2 k3 k4 k5
    generalize dK L c0 j = d at *
    generalize flat_2 (cycle_1 L) (((EP L c0).getD j []).getD 5 0) (((EP L c0).getD j []).getD 6 0) (((EP L c0).getD j []).getD 7 0) = k at *
    rw [wrI (x := d - k) (by omega) (by omega)] at h9
    simp only [Bool.or_eq_true, Bool.and_eq_true, decide_eq_true_eq, bne_iff_ne, ne_eq] at h9
    rcases h9 with (h9 | h9) | ⟨h9, h10⟩
    · omega
    · omega
    · exact h10 (k5 h9)
  · intro h
    have h5 : ¬ j < (EP L c0).length := by simpa using h
    rw [show (EP L c0).length = j by omega]
    exact ⟨rfl, rfl⟩
noncomputable def pkgL : LoopS := fun env mem m => match eRow [.int .i64] [(0, ent 0 (.one (.wh 0)))] mem 0, mem with
  | some L, [_, (_, .blk _ ((_, .int _ c0) :: _)), _] => famS (pkgF L c0.val) 13835 (fun _ _ => some 0) env mem m
  | _, _ => none
noncomputable def L_pkg : FuncId → Nat → Option LoopS := addL L_same 7 13 pkgL
theorem known_pkgL : Known Try.prog (sums K_lawC) L_pkg := by
  refine known_addL 0 known_lawC (by kernel_rfl) (codeOk_of fun env mem m x h => ?_)
  unfold pkgL at h
  have hlen : (loopList Try.prog 7).length = 1 := by kernel_rfl
  split at h
  · exact ⟨_, fam_ok (bodyOf_ok plainN known_lawC (by omega)) (pkg_rounds _ _), h⟩
  · cases h
noncomputable def lawP_tpl : Tpl := ⟨[.one (.wh 0), .one .bool], [(0, .row true 3 1 1 [.int .i64])], 2⟩
noncomputable def lawP_0 (w : Bool) (L : List (List Int)) : Bool :=
  !light_0 L ||
    bif
        chk (bif w then 83 else 73) (cycle_1 L) (cycle_2 L) (cycle_3 L) (cycle_4 L) (cycle_5 L) (cycle_6 L) (cycle_7 L) (cycle_8 L) (cycle_9 L) (cycle_10 L) (cycle_11 L) (cyc12 L) (cycle_12 L)
              (cycle_13 L) (cyc15 L) !=
            0 ||
          !heights_2 (bif w then 83 else 73) (cycle_1 L) (cycle_2 L) (cycle_3 L) (cycle_4 L) (cycle_5 L) (cycle_6 L) (cycle_7 L) (cycle_8 L) (cycle_9 L) (cycle_10 L) (cycle_11 L) (cyc12 L) (cycle_12 L)
              (cycle_13 L) (cyc15 L) then
      false
    else
      nK L (bif w then 83 else 73) (EP L (bif w then 83 else 73)).length == HP L (bif w then 83 else 73) && dK L (bif w then 83 else 73) (EP L (bif w then 83 else 73)).length == cycle_9 L &&
        HP L (bif w then 83 else 73) == IntKind.i64.wrap ((IntKind.i64.wrap (IntKind.i64.wrap (IntKind.i64.wrap (cycle_8 L - cycle_9 L) + cycle_11 L) - 1)).tdiv (cycle_11 L))
noncomputable def lawP_needs (w : Bool) (L : List (List Int)) : List Prop :=
  [(!light_0 L) = false →
      L.length ≤ 1000000 ∧
        ((chk (bif w then 83 else 73) (cycle_1 L) (cycle_2 L) (cycle_3 L) (cycle_4 L) (cycle_5 L) (cycle_6 L) (cycle_7 L) (cycle_8 L) (cycle_9 L) (cycle_10 L) (cycle_11 L) (cyc12 L) (cycle_12 L)
                  (cycle_13 L) (cyc15 L) !=
                0 ||
              !heights_2 (bif w then 83 else 73) (cycle_1 L) (cycle_2 L) (cycle_3 L) (cycle_4 L) (cycle_5 L) (cycle_6 L) (cycle_7 L) (cycle_8 L) (cycle_9 L) (cycle_10 L) (cycle_11 L) (cyc12 L)
                  (cycle_12 L) (cycle_13 L) (cyc15 L)) =
            false →
          (0 ≤ (EP L (bif w then 83 else 73)).length ∧ codeP (bif w then 83 else 73) = true) ∧
            Int.ofNat 0 = 0 ∧
              dK L (bif w then 83 else 73) 0 = cycle_8 L ∧
                nK L (bif w then 83 else 73) 0 = 0 ∧
                  ((nK L (bif w then 83 else 73) (EP L (bif w then 83 else 73)).length == HP L (bif w then 83 else 73) &&
                        dK L (bif w then 83 else 73) (EP L (bif w then 83 else 73)).length == cycle_9 L) =
                      true →
                    cycle_11 L ≠ 0))]
theorem lawP_0_eq (w : Bool) (L : List (List Int)) : (lawP_0 w L) = true := by
  have hc : codeP (bif w then 83 else 73) = true := by cases w <;> rfl
  obtain ⟨_, e2, e3, e4⟩ := EP_pecks L _ hc
  have r8 := cycle_8_rng L
  have r9 := cycle_9_rng L
  have r11 := cycle_11_rng L
  unfold lawP_0
  generalize (bif w then (83 : Int) else 73) = c0 at *
  have a1 : nK L c0 (EP L c0).length = HP L c0 := by
    unfold nK
    rw [nX_all, e4, ← e3]; rfl
  have a2 : dK L c0 (EP L c0).length = cycle_9 L := by
    unfold dK
    rw [pX_all, e2]
  have h1 : 0 ≤ (cycle_8 L - cycle_9 L - 1) / cycle_11 L := Int.ediv_nonneg (by omega) (by omega)
  have h2 : (cycle_8 L - cycle_9 L - 1) / cycle_11 L ≤ cycle_8 L - cycle_9 L - 1 := Int.ediv_le_self _ (by omega)
  have a3 : IntKind.i64.wrap ((IntKind.i64.wrap (IntKind.i64.wrap (IntKind.i64.wrap (cycle_8 L - cycle_9 L) + cycle_11 L) - 1)).tdiv (cycle_11 L)) = HP L c0 := by
    rw [wrI (x := cycle_8 L - cycle_9 L) (by omega) (by omega), wrI (x := cycle_8 L - cycle_9 L + cycle_11 L) (by omega) (by omega), wrI (x := cycle_8 L - cycle_9 L + cycle_11 L - 1) (by omega) (by omega), Int.tdiv_eq_ediv_of_nonneg (by omega),
      show cycle_8 L - cycle_9 L + cycle_11 L - 1 = (cycle_8 L - cycle_9 L - 1) + 1 * cycle_11 L by omega, Int.add_mul_ediv_right _ _ (by omega), e4]
    generalize (cycle_8 L - cycle_9 L - 1) / cycle_11 L = z at h1 h2
    exact wrI (by omega) (by omega)
  rw [heights_zero _ _ _ _ _ _ _ _ _ _ _ _ _ _ _ _ (chk_pkc L c0 hc), chk_pkc L c0 hc, a1, a2, a3]
  simp
theorem lawP_need {w : Bool} {L : List (List Int)} : ∀ q ∈ (lawP_needs w L), q := by
  intro q hq
  unfold lawP_needs at hq
  simp only [List.mem_cons, List.not_mem_nil, or_false] at hq
  subst hq
  intro h
  have : (L.length : Int) ≤ 120 := by simpa [light_0] using h
  have r11 := cycle_11_rng L
  exact ⟨by omega, fun _ => ⟨⟨Nat.zero_le _, by cases w <;> rfl⟩, rfl, rfl, rfl, fun _ => by omega⟩⟩
set_option maxRecDepth 1000000 in
theorem lawP_runs (w : Bool) (L : List (List Int)) (hNeeds : ∀ pN ∈ (lawP_needs w L), pN) : Runs (runF (sums K_lawC) L_pkg 7) (lawP_tpl.args [.b w]) (lawP_tpl.memo [.b w] [L]) lawP_tpl.n (SV.one (SC.bool (SB.v (lawP_0 w L))))
    ([(0, Obj.row true 3 1 (RowC.lst 1 [CK.int IntKind.i64] L))]) :=
  Runs.of (ps := (lawP_needs w L)) (by kernel_rfl) (by kernel_rfl) hNeeds
noncomputable def lawP_out : List Pm → Lss → Option CRes
  | [.b w], [L] => some ⟨SV.one (SC.bool (SB.c true)),
    [(0, Obj.row true 3 1 (RowC.lst 1 [CK.int IntKind.i64] L))],
    [], [], 13961⟩
  | _, _ => none
theorem lawP_ok : FOk Try.prog 7 (tplS lawP_tpl lawP_out) := by
  refine tplS_ok (runF_ok known_pkgL 7) fun ps ls r hr hn _ => ?_
  unfold lawP_out at hr
  split at hr
  · cases hr; exact ⟨_, lawP_runs _ _ (fun p hp => lawP_need p hp), fun _ => by simp only [SV.den, SC.den, SB.val, lawP_0_eq]⟩
  · cases hr
noncomputable def K_lawP : List (Nat × Summ) := (7, tplS lawP_tpl lawP_out) :: K_lawC
theorem known_lawP : Known Try.prog (sums K_lawP) L_pkg := known_cons known_pkgL lawP_ok
end Go.Proofs.Ytgimheibnpgphaa
