/-
  DRILLPLANES: the walk. Conditions: none.
-/
import Derived.Test.YtgimheibnpgphaaDrillR
set_option linter.all false
namespace Go.Proofs.Ytgimheibnpgphaa
open Go.SX Go.RowKit
noncomputable def planeB (q : Int) : Bool := q == 17 || q == 18 || q == 19
/-- The place of the cycle, in another plane. -/
noncomputable def fr (L : List (List Int)) : Int × Int × Int := (flat_0 (cycle_1 L) (cycle_2 L) (cycle_3 L) (cycle_4 L), flat_1 (cycle_1 L) (cycle_2 L) (cycle_3 L) (cycle_4 L), flat_2 (cycle_1 L) (cycle_2 L) (cycle_3 L) (cycle_4 L))
noncomputable def pt (L : List (List Int)) : Int × Int × Int := (flat_0 (cycle_1 L) (cycle_5 L) (cycle_6 L) (cycle_7 L), flat_1 (cycle_1 L) (cycle_5 L) (cycle_6 L) (cycle_7 L), flat_2 (cycle_1 L) (cycle_5 L) (cycle_6 L) (cycle_7 L))
noncomputable def EX2 (L : List (List Int)) (q : Int) : List (List Int) := expR (cycle_0 L) q (solid_0 q (fr L).1 (fr L).2.1 (fr L).2.2) (solid_1 q (fr L).1 (fr L).2.1 (fr L).2.2) (solid_2 q (fr L).1 (fr L).2.1 (fr L).2.2) (solid_0 q (pt L).1 (pt L).2.1 (pt L).2.2) (solid_1 q (pt L).1 (pt L).2.1 (pt L).2.2) (solid_2 q (pt L).1 (pt L).2.1 (pt L).2.2) (cycle_8 L) (cycle_9 L) (cycle_10 L) (cycle_11 L) (cyc12 L) (cycle_12 L) (cycle_13 L) (cyc15 L)
noncomputable def CD (L : List (List Int)) (q : Int) : SX.Obj := .blk 28 [(3185, I (cycle_0 L)), (3220, I q), (3517, I (solid_0 q (fr L).1 (fr L).2.1 (fr L).2.2)), (3518, I (solid_1 q (fr L).1 (fr L).2.1 (fr L).2.2)), (3519, I (solid_2 q (fr L).1 (fr L).2.1 (fr L).2.2)), (3816, I (solid_0 q (pt L).1 (pt L).2.1 (pt L).2.2)), (3817, I (solid_1 q (pt L).1 (pt L).2.1 (pt L).2.2)), (3818, I (solid_2 q (pt L).1 (pt L).2.1 (pt L).2.2)), (3193, I (cycle_8 L)), (3194, I (cycle_9 L)), (3195, I (cycle_10 L)), (3196, I (cycle_11 L)), (3197, I (cyc12 L)), (3198, I (cycle_12 L)), (3199, I (cycle_13 L)), (3200, I (cyc15 L))]
noncomputable def plM (L : List (List Int)) (q : Int) : Mem := [rowI 20099 20098 (EX2 L q), rowI 11956 11955 (EX L), (3167, CD L q), (3131, CB L), rowL L]
noncomputable def plF (L : List (List Int)) (q : Int) : Fam Nat Unit where
  k := 100
  E j := [(11, ent 1000000000 (.one (I (Int.ofNat j)))), (9, ent 20104 (.one (.wh 20099))), (7, ent 11961 (.one (.wh 11956))), (6, ent 3184 (.one (.ptr 3167 0))), (5, ent 3148 (.one (.ptr 3131 0))), (4, ent 2 (.one (.bool (.c false))))]
  M _ := plM L q
  out _ := .leaf (.exit 0) [] (plM L q)
  fin _ := ()
  next j _ := j + 1
  J j := j ≤ (EX L).length ∧ planeB q = true ∧ (EX2 L q).length = (EX L).length
  μ j := (EX L).length - j
noncomputable def RR (p q : Int) (r s : List Int) : Prop := (∃ u w k h n, k ≤ 6 ∧ r = itm p u w k h n ∧ s = itm q u w k h n) ∨ (r = s ∧ 6 < r.getD 0 0)
noncomputable def RL (p q : Int) : List (List Int) → List (List Int) → Prop
  | [], [] => True
  | r :: rs, s :: ss => RR p q r s ∧ RL p q rs ss
  | [], _ :: _ => False
  | _ :: _, [] => False
theorem RL_append {p q : Int} : ∀ {a b c d : List (List Int)}, RL p q a b → RL p q c d → RL p q (a ++ c) (b ++ d)
  | [], [], _, _, _, h => h
  | _ :: _, _ :: _, _, _, h, k => ⟨h.1, RL_append h.2 k⟩
  | [], _ :: _, _, _, h, _ => h.elim
  | _ :: _, [], _, _, h, _ => h.elim
theorem RL_len {p q : Int} : ∀ {a b : List (List Int)}, RL p q a b → b.length = a.length
  | [], [], _ => rfl
  | _ :: _, _ :: _, h => by simp [RL_len h.2]
  | [], _ :: _, h => h.elim
  | _ :: _, [], h => h.elim
theorem RL_at {p q : Int} : ∀ {a b : List (List Int)}, RL p q a b → ∀ j, j < a.length → RR p q (a.getD j []) (b.getD j [])
  | [], [], _, j, hj => by simp at hj
  | _ :: _, _ :: _, h, 0, _ => h.1
  | _ :: rs, _ :: ss, h, j + 1, hj => RL_at (a := rs) (b := ss) h.2 j (by simpa using hj)
  | [], _ :: _, h, _, _ => h.elim
  | _ :: _, [], h, _, _ => h.elim
theorem rl_bif {p q : Int} (b : Bool) {x y x' y' : List (List Int)} (h : RL p q x x') (k : RL p q y y') : RL p q (bif b then x else y) (bif b then x' else y') := by cases b; exact k; exact h
theorem rr_itm (p q u w k h n : Int) (hk : k ≤ 6) : RR p q (itm p u w k h n) (itm q u w k h n) := .inl ⟨u, w, k, h, n, hk, rfl, rfl⟩
theorem rr_dwl (p q n : Int) : RR p q (dwl n) (dwl n) := .inr ⟨rfl, by rw [kind_dwl]; decide⟩
theorem rr_spn (p q n s : Int) : RR p q (spn n s) (spn n s) := .inr ⟨rfl, by rw [kind_spn]; decide⟩
theorem rl_pecks (p q u w c0 c8 c11 : Int) : ∀ j, RL p q (pecksL p u w c0 c8 c11 j) (pecksL q u w c0 c8 c11 j)
  | 0 => trivial
  | j + 1 => by
    refine RL_append (rl_pecks p q u w c0 c8 c11 j) (RL_append ⟨rr_itm _ _ _ _ _ _ _ (by omega), trivial⟩ (RL_append (rl_bif _ ⟨rr_itm _ _ _ _ _ _ _ (by omega), trivial⟩ trivial) ⟨rr_itm _ _ _ _ _ _ _ (by omega), trivial⟩))
theorem rl_body (p q u w c0 c8 c9 c11 c12 c14 : Int) (n : Nat) : RL p q (bodyL p u w c0 c8 c9 c11 c12 c14 n) (bodyL q u w c0 c8 c9 c11 c12 c14 n) := by
  unfold bodyL
  refine rl_bif _ (RL_append (rl_pecks _ _ _ _ _ _ _ _) ⟨rr_itm _ _ _ _ _ _ _ (by omega), trivial⟩) ?_
  refine rl_bif _ ⟨rr_itm _ _ _ _ _ _ _ (by omega), rr_itm _ _ _ _ _ _ _ (by omega), trivial⟩ ?_
  refine rl_bif _ ⟨rr_itm _ _ _ _ _ _ _ (by omega), trivial⟩ ?_
  refine rl_bif _ ⟨rr_itm _ _ _ _ _ _ _ (by omega), rr_dwl _ _ _, trivial⟩ ?_
  refine rl_bif _ ⟨rr_itm _ _ _ _ _ _ _ (by omega), rr_itm _ _ _ _ _ _ _ (by omega), trivial⟩ ?_
  refine rl_bif _ ⟨rr_itm _ _ _ _ _ _ _ (by omega), rr_dwl _ _ _, rr_itm _ _ _ _ _ _ _ (by omega), trivial⟩ ?_
  exact rl_bif _ ⟨rr_itm _ _ _ _ _ _ _ (by omega), rr_dwl _ _ _, rr_spn _ _ _ _, trivial⟩ trivial
theorem rl_post (p q u w c0 h c14 c15 : Int) : RL p q (postL p u w c0 h c14 c15) (postL q u w c0 h c14 c15) := by
  unfold postL
  exact ⟨rr_itm _ _ _ _ _ _ _ (by omega), rl_bif _ ⟨rr_spn _ _ _ _, trivial⟩ trivial⟩
theorem rl_pre (p q a2 a3 a4 b2 b3 b4 u w c8 : Int) (e0 : flat_0 q b2 b3 b4 = flat_0 p a2 a3 a4) (e1 : flat_1 q b2 b3 b4 = flat_1 p a2 a3 a4) (e2 : flat_2 q b2 b3 b4 = flat_2 p a2 a3 a4) : RL p q (preL p a2 a3 a4 u w c8) (preL q b2 b3 b4 u w c8) := by
  unfold preL
  rw [e0, e1, e2]
  exact RL_append (rl_bif _ ⟨rr_itm _ _ _ _ _ _ _ (by omega), trivial⟩ trivial) ⟨rr_itm _ _ _ _ _ _ _ (by omega), rr_itm _ _ _ _ _ _ _ (by omega), trivial⟩
theorem plane_or {q : Int} (h : planeB q = true) : q = 17 ∨ q = 18 ∨ q = 19 := by simpa [planeB, or_assoc] using h
theorem flat_rng (p x y z : Int) (hp : p = 17 ∨ p = 18 ∨ p = 19) (hx : -5000 ≤ x ∧ x < -5000 + 10001) (hy : -5000 ≤ y ∧ y < -5000 + 10001) (hz : -5000 ≤ z ∧ z < -5000 + 10001) :
    (-5000 ≤ flat_0 p x y z ∧ flat_0 p x y z < -5000 + 10001) ∧ (-5000 ≤ flat_1 p x y z ∧ flat_1 p x y z < -5000 + 10001) ∧ (-5000 ≤ flat_2 p x y z ∧ flat_2 p x y z < -5000 + 10001) := by
  rcases hp with rfl | rfl | rfl
  · exact ⟨hx, hy, hz⟩
  · exact ⟨hz, hx, hy⟩
  · exact ⟨hy, hz, hx⟩
theorem solid_rng (p x y z : Int) (hp : p = 17 ∨ p = 18 ∨ p = 19) (hx : -5000 ≤ x ∧ x < -5000 + 10001) (hy : -5000 ≤ y ∧ y < -5000 + 10001) (hz : -5000 ≤ z ∧ z < -5000 + 10001) :
    (-5000 ≤ solid_0 p x y z ∧ solid_0 p x y z < -5000 + 10001) ∧ (-5000 ≤ solid_1 p x y z ∧ solid_1 p x y z < -5000 + 10001) ∧ (-5000 ≤ solid_2 p x y z ∧ solid_2 p x y z < -5000 + 10001) := by
  rcases hp with rfl | rfl | rfl
  · exact ⟨hx, hy, hz⟩
  · exact ⟨hy, hz, hx⟩
  · exact ⟨hz, hx, hy⟩
theorem chk_plane (L : List (List Int)) (q : Int) (hq : planeB q = true) : chk (cycle_0 L) q (solid_0 q (fr L).1 (fr L).2.1 (fr L).2.2) (solid_1 q (fr L).1 (fr L).2.1 (fr L).2.2) (solid_2 q (fr L).1 (fr L).2.1 (fr L).2.2) (solid_0 q (pt L).1 (pt L).2.1 (pt L).2.2) (solid_1 q (pt L).1 (pt L).2.1 (pt L).2.2) (solid_2 q (pt L).1 (pt L).2.1 (pt L).2.2) (cycle_8 L) (cycle_9 L) (cycle_10 L) (cycle_11 L) (cyc12 L) (cycle_12 L) (cycle_13 L) (cyc15 L) = 0 := by
  have hq := plane_or hq
  have f := flat_rng (cycle_1 L) _ _ _ (cyc_plane L) (cycle_2_rng L) (cycle_3_rng L) (cycle_4_rng L)
  have g := flat_rng (cycle_1 L) _ _ _ (cyc_plane L) (cycle_5_rng L) (cycle_6_rng L) (cycle_7_rng L)
  have f' := solid_rng q _ _ _ hq f.1 f.2.1 f.2.2
  have g' := solid_rng q _ _ _ hq g.1 g.2.1 g.2.2
  exact chk_zero _ _ _ _ _ _ _ _ _ _ _ _ _ _ _ _ (cycle_0_code L) (by omega) f'.1 f'.2.1 f'.2.2 g'.1 g'.2.1 g'.2.2 (cycle_8_rng L) (cycle_9_rng L) (cycle_10_rng L) (cycle_11_rng L) (cyc12_rng L) (cycle_12_rng L) (cycle_13_rng L) (cyc15_rng L)
theorem EX_RL (L : List (List Int)) (q : Int) (hq : planeB q = true) : RL (cycle_1 L) q (EX L) (EX2 L q) := by
  have hp := plane_or hq
  obtain ⟨a1, a2, a3⟩ := flat_solid q (fr L).1 (fr L).2.1 (fr L).2.2 hp
  obtain ⟨b1, b2, b3⟩ := flat_solid q (pt L).1 (pt L).2.1 (pt L).2.2 hp
  rw [EX_eq]
  unfold EX2 expR
  rw [chk_plane L q hq]
  simp only [bne_self_eq_false, cond_false]
  unfold expL
  rw [b1, b2]
  exact RL_append (rl_pre _ _ _ _ _ _ _ _ _ _ _ a1 a2 a3) (RL_append (rl_body _ _ _ _ _ _ _ _ _ _ _) (rl_post _ _ _ _ _ _ _ _))
noncomputable def pl_s0 (L : List (List Int)) (j : Nat) : Prop :=
  decide (Int.ofNat j < Int.ofNat (EX L).length) = true
noncomputable def pl_s1 (L : List (List Int)) (j : Nat) : Int :=
  ((EX L).getD (Int.ofNat j).toNat []).getD 0 0
noncomputable def pl_s2 (L : List (List Int)) (j : Nat) : Int :=
  ((EX L).getD (Int.ofNat j).toNat []).getD 5 0
noncomputable def pl_s3 (L : List (List Int)) (j : Nat) : Int :=
  ((EX L).getD (Int.ofNat j).toNat []).getD 6 0
noncomputable def pl_s4 (L : List (List Int)) (j : Nat) : Int :=
  ((EX L).getD (Int.ofNat j).toNat []).getD 7 0
noncomputable def pl_needs (L : List (List Int)) (q : Int) (j : Nat) : List Prop :=
  [pl_s0 L j →
      0 ≤ Int.ofNat j ∧ (Int.ofNat j).toNat < (EX L).length ∧ (Int.ofNat j).toNat < (EX L).length ∧ 0 ≤ Int.ofNat j ∧ (Int.ofNat j).toNat < (EX2 L q).length ∧ (Int.ofNat j).toNat < (EX2 L q).length,
    pl_s0 L j →
      ((!(pl_s1 L j == ((EX2 L q).getD (Int.ofNat j).toNat []).getD 0 0 &&
                (((EX L).getD (Int.ofNat j).toNat []).getD 1 0 == ((EX2 L q).getD (Int.ofNat j).toNat []).getD 1 0 &&
                  (((EX L).getD (Int.ofNat j).toNat []).getD 2 0 == ((EX2 L q).getD (Int.ofNat j).toNat []).getD 2 0 &&
                    (((EX L).getD (Int.ofNat j).toNat []).getD 3 0 == ((EX2 L q).getD (Int.ofNat j).toNat []).getD 3 0 &&
                      (((EX L).getD (Int.ofNat j).toNat []).getD 4 0 == ((EX2 L q).getD (Int.ofNat j).toNat []).getD 4 0 &&
                        ((bif decide (pl_s1 L j ≤ 6) then
                              solid_0 q (flat_0 (cycle_1 L) (pl_s2 L j) (pl_s3 L j) (pl_s4 L j)) (flat_1 (cycle_1 L) (pl_s2 L j) (pl_s3 L j) (pl_s4 L j))
                                (flat_2 (cycle_1 L) (pl_s2 L j) (pl_s3 L j) (pl_s4 L j))
                            else pl_s2 L j) ==
                            ((EX2 L q).getD (Int.ofNat j).toNat []).getD 5 0 &&
                          ((bif decide (pl_s1 L j ≤ 6) then
                                solid_1 q (flat_0 (cycle_1 L) (pl_s2 L j) (pl_s3 L j) (pl_s4 L j)) (flat_1 (cycle_1 L) (pl_s2 L j) (pl_s3 L j) (pl_s4 L j))
                                  (flat_2 (cycle_1 L) (pl_s2 L j) (pl_s3 L j) (pl_s4 L j))
                              else pl_s3 L j) ==
                              ((EX2 L q).getD (Int.ofNat j).toNat []).getD 6 0 &&
                            ((bif decide (pl_s1 L j ≤ 6) then
                                  solid_2 q (flat_0 (cycle_1 L) (pl_s2 L j) (pl_s3 L j) (pl_s4 L j)) (flat_1 (cycle_1 L) (pl_s2 L j) (pl_s3 L j) (pl_s4 L j))
                                    (flat_2 (cycle_1 L) (pl_s2 L j) (pl_s3 L j) (pl_s4 L j))
                                else pl_s4 L j) ==
                                ((EX2 L q).getD (Int.ofNat j).toNat []).getD 7 0 &&
                              (((EX L).getD (Int.ofNat j).toNat []).getD 8 0 == ((EX2 L q).getD (Int.ofNat j).toNat []).getD 8 0 &&
                                (((EX L).getD (Int.ofNat j).toNat []).getD 9 0 == ((EX2 L q).getD (Int.ofNat j).toNat []).getD 9 0 &&
                                  (((EX L).getD (Int.ofNat j).toNat []).getD 10 0 == ((EX2 L q).getD (Int.ofNat j).toNat []).getD 10 0 &&
                                    (((EX L).getD (Int.ofNat j).toNat []).getD 11 0 == ((EX2 L q).getD (Int.ofNat j).toNat []).getD 11 0 &&
                                      (((EX L).getD (Int.ofNat j).toNat []).getD 12 0 == ((EX2 L q).getD (Int.ofNat j).toNat []).getD 12 0 &&
                                        ((((EX L).getD (Int.ofNat j).toNat []).getD 13 0 != 0) == (((EX2 L q).getD (Int.ofNat j).toNat []).getD 13 0 != 0) &&
                                          (((EX L).getD (Int.ofNat j).toNat []).getD 14 0 == ((EX2 L q).getD (Int.ofNat j).toNat []).getD 14 0 &&
                                            ((((EX L).getD (Int.ofNat j).toNat []).getD 15 0 != 0) == (((EX2 L q).getD (Int.ofNat j).toNat []).getD 15 0 != 0) &&
                                              (((EX L).getD (Int.ofNat j).toNat []).getD 16 0 == ((EX2 L q).getD (Int.ofNat j).toNat []).getD 16 0 &&
                                                (((EX L).getD (Int.ofNat j).toNat []).getD 17 0 == ((EX2 L q).getD (Int.ofNat j).toNat []).getD 17 0 &&
                                                  (((EX L).getD (Int.ofNat j).toNat []).getD 18 0 == ((EX2 L q).getD (Int.ofNat j).toNat []).getD 18 0 &&
                                                    (((EX L).getD (Int.ofNat j).toNat []).getD 19 0 == ((EX2 L q).getD (Int.ofNat j).toNat []).getD 19 0 &&
                                                      (((EX L).getD (Int.ofNat j).toNat []).getD 20 0 == ((EX2 L q).getD (Int.ofNat j).toNat []).getD 20 0 &&
                                                        (((EX L).getD (Int.ofNat j).toNat []).getD 21 0 != 0) == (((EX2 L q).getD (Int.ofNat j).toNat []).getD 21 0 != 0))))))))))))))))))))))) =
            true →
          False) ∧
        ((!(pl_s1 L j == ((EX2 L q).getD (Int.ofNat j).toNat []).getD 0 0 &&
                (((EX L).getD (Int.ofNat j).toNat []).getD 1 0 == ((EX2 L q).getD (Int.ofNat j).toNat []).getD 1 0 &&
                  (((EX L).getD (Int.ofNat j).toNat []).getD 2 0 == ((EX2 L q).getD (Int.ofNat j).toNat []).getD 2 0 &&
                    (((EX L).getD (Int.ofNat j).toNat []).getD 3 0 == ((EX2 L q).getD (Int.ofNat j).toNat []).getD 3 0 &&
                      (((EX L).getD (Int.ofNat j).toNat []).getD 4 0 == ((EX2 L q).getD (Int.ofNat j).toNat []).getD 4 0 &&
                        ((bif decide (pl_s1 L j ≤ 6) then
                              solid_0 q (flat_0 (cycle_1 L) (pl_s2 L j) (pl_s3 L j) (pl_s4 L j)) (flat_1 (cycle_1 L) (pl_s2 L j) (pl_s3 L j) (pl_s4 L j))
                                (flat_2 (cycle_1 L) (pl_s2 L j) (pl_s3 L j) (pl_s4 L j))
                            else pl_s2 L j) ==
                            ((EX2 L q).getD (Int.ofNat j).toNat []).getD 5 0 &&
                          ((bif decide (pl_s1 L j ≤ 6) then
                                solid_1 q (flat_0 (cycle_1 L) (pl_s2 L j) (pl_s3 L j) (pl_s4 L j)) (flat_1 (cycle_1 L) (pl_s2 L j) (pl_s3 L j) (pl_s4 L j))
                                  (flat_2 (cycle_1 L) (pl_s2 L j) (pl_s3 L j) (pl_s4 L j))
                              else pl_s3 L j) ==
                              ((EX2 L q).getD (Int.ofNat j).toNat []).getD 6 0 &&
                            ((bif decide (pl_s1 L j ≤ 6) then
                                  solid_2 q (flat_0 (cycle_1 L) (pl_s2 L j) (pl_s3 L j) (pl_s4 L j)) (flat_1 (cycle_1 L) (pl_s2 L j) (pl_s3 L j) (pl_s4 L j))
                                    (flat_2 (cycle_1 L) (pl_s2 L j) (pl_s3 L j) (pl_s4 L j))
                                else pl_s4 L j) ==
                                ((EX2 L q).getD (Int.ofNat j).toNat []).getD 7 0 &&
                              (((EX L).getD (Int.ofNat j).toNat []).getD 8 0 == ((EX2 L q).getD (Int.ofNat j).toNat []).getD 8 0 &&
                                (((EX L).getD (Int.ofNat j).toNat []).getD 9 0 == ((EX2 L q).getD (Int.ofNat j).toNat []).getD 9 0 &&
                                  (((EX L).getD (Int.ofNat j).toNat []).getD 10 0 == ((EX2 L q).getD (Int.ofNat j).toNat []).getD 10 0 &&
                                    (((EX L).getD (Int.ofNat j).toNat []).getD 11 0 == ((EX2 L q).getD (Int.ofNat j).toNat []).getD 11 0 &&
                                      (((EX L).getD (Int.ofNat j).toNat []).getD 12 0 == ((EX2 L q).getD (Int.ofNat j).toNat []).getD 12 0 &&
                                        ((((EX L).getD (Int.ofNat j).toNat []).getD 13 0 != 0) == (((EX2 L q).getD (Int.ofNat j).toNat []).getD 13 0 != 0) &&
                                          (((EX L).getD (Int.ofNat j).toNat []).getD 14 0 == ((EX2 L q).getD (Int.ofNat j).toNat []).getD 14 0 &&
                                            ((((EX L).getD (Int.ofNat j).toNat []).getD 15 0 != 0) == (((EX2 L q).getD (Int.ofNat j).toNat []).getD 15 0 != 0) &&
                                              (((EX L).getD (Int.ofNat j).toNat []).getD 16 0 == ((EX2 L q).getD (Int.ofNat j).toNat []).getD 16 0 &&
                                                (((EX L).getD (Int.ofNat j).toNat []).getD 17 0 == ((EX2 L q).getD (Int.ofNat j).toNat []).getD 17 0 &&
                                                  (((EX L).getD (Int.ofNat j).toNat []).getD 18 0 == ((EX2 L q).getD (Int.ofNat j).toNat []).getD 18 0 &&
                                                    (((EX L).getD (Int.ofNat j).toNat []).getD 19 0 == ((EX2 L q).getD (Int.ofNat j).toNat []).getD 19 0 &&
                                                      (((EX L).getD (Int.ofNat j).toNat []).getD 20 0 == ((EX2 L q).getD (Int.ofNat j).toNat []).getD 20 0 &&
                                                        (((EX L).getD (Int.ofNat j).toNat []).getD 21 0 != 0) == (((EX2 L q).getD (Int.ofNat j).toNat []).getD 21 0 != 0))))))))))))))))))))))) =
            false →
          ((plF L q).next j 1 ≤ (EX L).length ∧ planeB q = true ∧ (EX2 L q).length = (EX L).length) ∧
            (plF L q).μ ((plF L q).next j 1) < (plF L q).μ j ∧ (plF L q).fin ((plF L q).next j 1) = (plF L q).fin j ∧ Int.ofNat ((plF L q).next j 1) = IntKind.i64.wrap (Int.ofNat j + 1))]
theorem pl_round (L : List (List Int)) (q : Int) (j : Nat) (hNeeds : ∀ pN ∈ (pl_needs L q j), pN) : RoundOk (roundC (plF L q) (bodyOf Try.prog (sums K_lawC) L_same 8 0) 21950 j) :=
  RoundOk.of (ps := (pl_needs L q j)) (by kernel_rfl) (by kernel_rfl) hNeeds
theorem pl_rounds (L : List (List Int)) (q : Int) : RoundsOk (plF L q) (bodyOf Try.prog (sums K_lawC) L_same 8 0) 21950 := by
  rintro j ⟨h1, hb, hl⟩
  have h1 : j ≤ (EX L).length := h1
  have hlen : (EX L).length ≤ 4000 := expR_len _ _ _ _ _ _ _ _ _ _ _ _ _ _ _ _
  refine pl_round L q j fun x hq => ?_
  unfold pl_needs at hq
  simp only [List.mem_cons, List.not_mem_nil, or_false, pl_s0, pl_s1, pl_s2, pl_s3, pl_s4, plF] at hq
  rcases hq with rfl | rfl
  · intro h
    have h5 : j < (EX L).length := by simpa using h
    simp [h5, hl]
  · intro h
    have h5 : j < (EX L).length := by simpa using h
    have h6 : IntKind.i64.wrap (Int.ofNat j + 1) = Int.ofNat (j + 1) := wrI (by simp; omega) (by simp; omega)
    have h7 : (Int.ofNat j).toNat = j := by simp
    have hr := RL_at (EX_RL L q hb) j h5
    simp only [h6, h7]
    refine ⟨fun h8 => ?_, fun _ => ⟨⟨by omega, hb, hl⟩, by omega, trivial, trivial⟩⟩
    generalize (EX L).getD j [] = r at *
    generalize (EX2 L q).getD j [] = s at *
    rcases hr with ⟨u, w, k, h, n, hk, rfl, rfl⟩ | ⟨rfl, hk⟩
    · obtain ⟨f1, f2, f3⟩ := flat_solid (cycle_1 L) u w h (cyc_plane L)
      simp [itm, List.getD, hk, f1, f2, f3] at h8
    · have e : decide (r.getD 0 0 ≤ 6) = false := decide_eq_false (by omega)
      rw [e] at h8
      simp at h8
noncomputable def plL : LoopS := fun env mem m => match eRow [.int .i64] [(0, ent 0 (.one (.wh 0)))] mem 0, mem with
  | some L, [_, _, (_, .blk _ (_ :: (_, .int _ q) :: _)), _, _] => famS (plF L q.val) 21950 (fun _ _ => some 0) env mem m
  | _, _ => none
noncomputable def L_pl : FuncId → Nat → Option LoopS := addL L_same 8 13 plL
theorem known_plL : Known Try.prog (sums K_lawC) L_pl := by
  refine known_addL 0 known_lawC (by kernel_rfl) (codeOk_of fun env mem m x h => ?_)
  unfold plL at h
  have hlen : (loopList Try.prog 8).length = 1 := by kernel_rfl
  split at h
  · exact ⟨_, fam_ok (bodyOf_ok plainN known_lawC (by omega)) (pl_rounds _ _), h⟩
  · cases h
noncomputable def lawQ_tpl : Tpl := ⟨[.one (.wh 0), .one (.int .i64)], [(0, .row true 3 1 1 [.int .i64])], 2⟩
noncomputable def lawQ_s0 (w : Int) : Int :=
  IntKind.i64.wrap (17 + mod_0 w 3)
noncomputable def lawQ_0 (w : Int) (L : List (List Int)) : Bool :=
  !light_0 L ||
    !(chk (cycle_0 L) (cycle_1 L) (cycle_2 L) (cycle_3 L) (cycle_4 L) (cycle_5 L) (cycle_6 L) (cycle_7 L) (cycle_8 L) (cycle_9 L) (cycle_10 L) (cycle_11 L) (cyc12 L) (cycle_12 L) (cycle_13 L)
              (cyc15 L) !=
            0 ||
          chk (cycle_0 L) (lawQ_s0 w)
              (solid_0 (lawQ_s0 w) (flat_0 (cycle_1 L) (cycle_2 L) (cycle_3 L) (cycle_4 L)) (flat_1 (cycle_1 L) (cycle_2 L) (cycle_3 L) (cycle_4 L))
                (flat_2 (cycle_1 L) (cycle_2 L) (cycle_3 L) (cycle_4 L)))
              (solid_1 (lawQ_s0 w) (flat_0 (cycle_1 L) (cycle_2 L) (cycle_3 L) (cycle_4 L)) (flat_1 (cycle_1 L) (cycle_2 L) (cycle_3 L) (cycle_4 L))
                (flat_2 (cycle_1 L) (cycle_2 L) (cycle_3 L) (cycle_4 L)))
              (solid_2 (lawQ_s0 w) (flat_0 (cycle_1 L) (cycle_2 L) (cycle_3 L) (cycle_4 L)) (flat_1 (cycle_1 L) (cycle_2 L) (cycle_3 L) (cycle_4 L))
                (flat_2 (cycle_1 L) (cycle_2 L) (cycle_3 L) (cycle_4 L)))
              (solid_0 (lawQ_s0 w) (flat_0 (cycle_1 L) (cycle_5 L) (cycle_6 L) (cycle_7 L)) (flat_1 (cycle_1 L) (cycle_5 L) (cycle_6 L) (cycle_7 L))
                (flat_2 (cycle_1 L) (cycle_5 L) (cycle_6 L) (cycle_7 L)))
              (solid_1 (lawQ_s0 w) (flat_0 (cycle_1 L) (cycle_5 L) (cycle_6 L) (cycle_7 L)) (flat_1 (cycle_1 L) (cycle_5 L) (cycle_6 L) (cycle_7 L))
                (flat_2 (cycle_1 L) (cycle_5 L) (cycle_6 L) (cycle_7 L)))
              (solid_2 (lawQ_s0 w) (flat_0 (cycle_1 L) (cycle_5 L) (cycle_6 L) (cycle_7 L)) (flat_1 (cycle_1 L) (cycle_5 L) (cycle_6 L) (cycle_7 L))
                (flat_2 (cycle_1 L) (cycle_5 L) (cycle_6 L) (cycle_7 L)))
              (cycle_8 L) (cycle_9 L) (cycle_10 L) (cycle_11 L) (cyc12 L) (cycle_12 L) (cycle_13 L) (cyc15 L) !=
            0 ||
        Int.ofNat
            (expR (cycle_0 L) (cycle_1 L) (cycle_2 L) (cycle_3 L) (cycle_4 L) (cycle_5 L) (cycle_6 L) (cycle_7 L) (cycle_8 L) (cycle_9 L) (cycle_10 L) (cycle_11 L) (cyc12 L) (cycle_12 L) (cycle_13 L)
                (cyc15 L)).length !=
          Int.ofNat
            (expR (cycle_0 L) (lawQ_s0 w)
                (solid_0 (lawQ_s0 w) (flat_0 (cycle_1 L) (cycle_2 L) (cycle_3 L) (cycle_4 L)) (flat_1 (cycle_1 L) (cycle_2 L) (cycle_3 L) (cycle_4 L))
                  (flat_2 (cycle_1 L) (cycle_2 L) (cycle_3 L) (cycle_4 L)))
                (solid_1 (lawQ_s0 w) (flat_0 (cycle_1 L) (cycle_2 L) (cycle_3 L) (cycle_4 L)) (flat_1 (cycle_1 L) (cycle_2 L) (cycle_3 L) (cycle_4 L))
                  (flat_2 (cycle_1 L) (cycle_2 L) (cycle_3 L) (cycle_4 L)))
                (solid_2 (lawQ_s0 w) (flat_0 (cycle_1 L) (cycle_2 L) (cycle_3 L) (cycle_4 L)) (flat_1 (cycle_1 L) (cycle_2 L) (cycle_3 L) (cycle_4 L))
                  (flat_2 (cycle_1 L) (cycle_2 L) (cycle_3 L) (cycle_4 L)))
                (solid_0 (lawQ_s0 w) (flat_0 (cycle_1 L) (cycle_5 L) (cycle_6 L) (cycle_7 L)) (flat_1 (cycle_1 L) (cycle_5 L) (cycle_6 L) (cycle_7 L))
                  (flat_2 (cycle_1 L) (cycle_5 L) (cycle_6 L) (cycle_7 L)))
                (solid_1 (lawQ_s0 w) (flat_0 (cycle_1 L) (cycle_5 L) (cycle_6 L) (cycle_7 L)) (flat_1 (cycle_1 L) (cycle_5 L) (cycle_6 L) (cycle_7 L))
                  (flat_2 (cycle_1 L) (cycle_5 L) (cycle_6 L) (cycle_7 L)))
                (solid_2 (lawQ_s0 w) (flat_0 (cycle_1 L) (cycle_5 L) (cycle_6 L) (cycle_7 L)) (flat_1 (cycle_1 L) (cycle_5 L) (cycle_6 L) (cycle_7 L))
                  (flat_2 (cycle_1 L) (cycle_5 L) (cycle_6 L) (cycle_7 L)))
                (cycle_8 L) (cycle_9 L) (cycle_10 L) (cycle_11 L) (cyc12 L) (cycle_12 L) (cycle_13 L) (cyc15 L)).length)
noncomputable def lawQ_needs (w : Int) (L : List (List Int)) : List Prop :=
  [(!light_0 L) = false →
      L.length ≤ 1000000 ∧
        Int.ofNat 3 ≠ 0 ∧
          ((chk (cycle_0 L) (cycle_1 L) (cycle_2 L) (cycle_3 L) (cycle_4 L) (cycle_5 L) (cycle_6 L) (cycle_7 L) (cycle_8 L) (cycle_9 L) (cycle_10 L) (cycle_11 L) (cyc12 L) (cycle_12 L) (cycle_13 L)
                      (cyc15 L) !=
                    0 ||
                  chk (cycle_0 L) (lawQ_s0 w)
                      (solid_0 (lawQ_s0 w) (flat_0 (cycle_1 L) (cycle_2 L) (cycle_3 L) (cycle_4 L)) (flat_1 (cycle_1 L) (cycle_2 L) (cycle_3 L) (cycle_4 L))
                        (flat_2 (cycle_1 L) (cycle_2 L) (cycle_3 L) (cycle_4 L)))
                      (solid_1 (lawQ_s0 w) (flat_0 (cycle_1 L) (cycle_2 L) (cycle_3 L) (cycle_4 L)) (flat_1 (cycle_1 L) (cycle_2 L) (cycle_3 L) (cycle_4 L))
                        (flat_2 (cycle_1 L) (cycle_2 L) (cycle_3 L) (cycle_4 L)))
                      (solid_2 (lawQ_s0 w) (flat_0 (cycle_1 L) (cycle_2 L) (cycle_3 L) (cycle_4 L)) (flat_1 (cycle_1 L) (cycle_2 L) (cycle_3 L) (cycle_4 L))
                        (flat_2 (cycle_1 L) (cycle_2 L) (cycle_3 L) (cycle_4 L)))
                      (solid_0 (lawQ_s0 w) (flat_0 (cycle_1 L) (cycle_5 L) (cycle_6 L) (cycle_7 L)) (flat_1 (cycle_1 L) (cycle_5 L) (cycle_6 L) (cycle_7 L))
                        (flat_2 (cycle_1 L) (cycle_5 L) (cycle_6 L) (cycle_7 L)))
                      (solid_1 (lawQ_s0 w) (flat_0 (cycle_1 L) (cycle_5 L) (cycle_6 L) (cycle_7 L)) (flat_1 (cycle_1 L) (cycle_5 L) (cycle_6 L) (cycle_7 L))
                        (flat_2 (cycle_1 L) (cycle_5 L) (cycle_6 L) (cycle_7 L)))
                      (solid_2 (lawQ_s0 w) (flat_0 (cycle_1 L) (cycle_5 L) (cycle_6 L) (cycle_7 L)) (flat_1 (cycle_1 L) (cycle_5 L) (cycle_6 L) (cycle_7 L))
                        (flat_2 (cycle_1 L) (cycle_5 L) (cycle_6 L) (cycle_7 L)))
                      (cycle_8 L) (cycle_9 L) (cycle_10 L) (cycle_11 L) (cyc12 L) (cycle_12 L) (cycle_13 L) (cyc15 L) !=
                    0 ||
                Int.ofNat
                    (expR (cycle_0 L) (cycle_1 L) (cycle_2 L) (cycle_3 L) (cycle_4 L) (cycle_5 L) (cycle_6 L) (cycle_7 L) (cycle_8 L) (cycle_9 L) (cycle_10 L) (cycle_11 L) (cyc12 L) (cycle_12 L)
                        (cycle_13 L) (cyc15 L)).length !=
                  Int.ofNat
                    (expR (cycle_0 L) (lawQ_s0 w)
                        (solid_0 (lawQ_s0 w) (flat_0 (cycle_1 L) (cycle_2 L) (cycle_3 L) (cycle_4 L)) (flat_1 (cycle_1 L) (cycle_2 L) (cycle_3 L) (cycle_4 L))
                          (flat_2 (cycle_1 L) (cycle_2 L) (cycle_3 L) (cycle_4 L)))
                        (solid_1 (lawQ_s0 w) (flat_0 (cycle_1 L) (cycle_2 L) (cycle_3 L) (cycle_4 L)) (flat_1 (cycle_1 L) (cycle_2 L) (cycle_3 L) (cycle_4 L))
                          (flat_2 (cycle_1 L) (cycle_2 L) (cycle_3 L) (cycle_4 L)))
                        (solid_2 (lawQ_s0 w) (flat_0 (cycle_1 L) (cycle_2 L) (cycle_3 L) (cycle_4 L)) (flat_1 (cycle_1 L) (cycle_2 L) (cycle_3 L) (cycle_4 L))
                          (flat_2 (cycle_1 L) (cycle_2 L) (cycle_3 L) (cycle_4 L)))
                        (solid_0 (lawQ_s0 w) (flat_0 (cycle_1 L) (cycle_5 L) (cycle_6 L) (cycle_7 L)) (flat_1 (cycle_1 L) (cycle_5 L) (cycle_6 L) (cycle_7 L))
                          (flat_2 (cycle_1 L) (cycle_5 L) (cycle_6 L) (cycle_7 L)))
                        (solid_1 (lawQ_s0 w) (flat_0 (cycle_1 L) (cycle_5 L) (cycle_6 L) (cycle_7 L)) (flat_1 (cycle_1 L) (cycle_5 L) (cycle_6 L) (cycle_7 L))
                          (flat_2 (cycle_1 L) (cycle_5 L) (cycle_6 L) (cycle_7 L)))
                        (solid_2 (lawQ_s0 w) (flat_0 (cycle_1 L) (cycle_5 L) (cycle_6 L) (cycle_7 L)) (flat_1 (cycle_1 L) (cycle_5 L) (cycle_6 L) (cycle_7 L))
                          (flat_2 (cycle_1 L) (cycle_5 L) (cycle_6 L) (cycle_7 L)))
                        (cycle_8 L) (cycle_9 L) (cycle_10 L) (cycle_11 L) (cyc12 L) (cycle_12 L) (cycle_13 L) (cyc15 L)).length) =
              false →
            (0 ≤ (EX L).length ∧ planeB (lawQ_s0 w) = true ∧ (EX2 L (lawQ_s0 w)).length = (EX L).length) ∧ Int.ofNat 0 = 0)]
theorem plane_mod (w : Int) : planeB (IntKind.i64.wrap (17 + mod_0 w 3)) = true := by
  have h := mod_0_range w 3 (by omega) (by omega)
  rw [wrI (by omega) (by omega)]
  generalize mod_0 w 3 = m at h
  have : m = 0 ∨ m = 1 ∨ m = 2 := by omega
  rcases this with rfl | rfl | rfl <;> rfl
theorem lawQ_0_eq (w : Int) (L : List (List Int)) : (lawQ_0 w L) = true := by
  have hq := plane_mod w
  unfold lawQ_0 lawQ_s0
  try unfold lawQ_s0
  generalize IntKind.i64.wrap (17 + mod_0 w 3) = q at *
  have hc := chk_plane L q hq
  have hl := RL_len (EX_RL L q hq)
  simp only [fr, pt] at hc
  simp only [EX, EX2, fr, pt] at hl
  rw [cycle_chk, hc, hl]
  simp
theorem lawQ_need {w : Int} {L : List (List Int)} : ∀ q ∈ (lawQ_needs w L), q := by
  intro q hq
  unfold lawQ_needs at hq
  simp only [List.mem_cons, List.not_mem_nil, or_false] at hq
  subst hq
  intro h
  have : (L.length : Int) ≤ 120 := by simpa [light_0] using h
  exact ⟨by omega, by decide, fun _ => ⟨⟨Nat.zero_le _, plane_mod w, RL_len (EX_RL L _ (plane_mod w))⟩, rfl⟩⟩
set_option maxRecDepth 1000000 in
theorem lawQ_runs (w : Int) (L : List (List Int)) (hNeeds : ∀ pN ∈ (lawQ_needs w L), pN) : Runs (runF (sums K_lawC) L_pl 8) (lawQ_tpl.args [.i w]) (lawQ_tpl.memo [.i w] [L]) lawQ_tpl.n (SV.one (SC.bool (SB.v (lawQ_0 w L))))
    ([(0, Obj.row true 3 1 (RowC.lst 1 [CK.int IntKind.i64] L))]) :=
  Runs.of (ps := (lawQ_needs w L)) (by kernel_rfl) (by kernel_rfl) hNeeds
noncomputable def lawQ_out : List Pm → Lss → Option CRes
  | [.i w], [L] => some ⟨SV.one (SC.bool (SB.c true)),
    [(0, Obj.row true 3 1 (RowC.lst 1 [CK.int IntKind.i64] L))],
    [], [], 22051⟩
  | _, _ => none
theorem lawQ_ok : FOk Try.prog 8 (tplS lawQ_tpl lawQ_out) := by
  refine tplS_ok (runF_ok known_plL 8) fun ps ls r hr hn _ => ?_
  unfold lawQ_out at hr
  split at hr
  · cases hr; exact ⟨_, lawQ_runs _ _ (fun p hp => lawQ_need p hp), fun _ => by simp only [SV.den, SC.den, SB.val, lawQ_0_eq]⟩
  · cases hr
noncomputable def K_lawQ : List (Nat × Summ) := (8, tplS lawQ_tpl lawQ_out) :: K_lawC
theorem known_lawQ : Known Try.prog (sums K_lawQ) L_pl := known_cons known_plL lawQ_ok
end Go.Proofs.Ytgimheibnpgphaa
