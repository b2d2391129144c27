/-
  ARCSPOKES: the walk. Conditions: none.
-/
import Derived.Test.YtkggdhnliiagjaaG2
import Derived.Test.YtkggdhnliiagjaaD6
set_option linter.all false
namespace Go.Proofs.Ytkggdhnliiagjaa
open Go.SX Go.RowKit
noncomputable def lawS_tpl : Tpl := ⟨[.one (.wh 0), .agg [.int .i64, .int .i64]], [(0, .row true 3 1 1 [.int .i64])], 2⟩
noncomputable def lawS_s0 (L : List (List Int)) : Int :=
  aspokes_0 (arc_0 0 L) (arc_1 0 L) (arc_2 0 L) (range_0 17 19 0 L) (arc_6 0 L) (arc_7 0 L) (arc_8 0 L)
noncomputable def lawS_s1 (L : List (List Int)) : Int :=
  aspokes_1 (arc_0 0 L) (arc_1 0 L) (arc_2 0 L) (range_0 17 19 0 L) (arc_6 0 L) (arc_7 0 L) (arc_8 0 L)
noncomputable def lawS_s2 (L : List (List Int)) : Int :=
  aspokes_0 (arc_3 0 L) (arc_4 0 L) (arc_5 0 L) (range_0 17 19 0 L) (arc_6 0 L) (arc_7 0 L) (arc_8 0 L)
noncomputable def lawS_s3 (L : List (List Int)) : Int :=
  aspokes_1 (arc_3 0 L) (arc_4 0 L) (arc_5 0 L) (range_0 17 19 0 L) (arc_6 0 L) (arc_7 0 L) (arc_8 0 L)
noncomputable def lawS_s4 (u : Int) (w : Int) (L : List (List Int)) : Bool :=
  ainside_0 (arc_0 0 L) (arc_1 0 L) (arc_2 0 L) (arc_3 0 L) (arc_4 0 L) (arc_5 0 L) (range_0 17 19 0 L) (arc_6 0 L) (arc_7 0 L) (arc_8 0 L) (arc_9 0 L) (arc_10 0 L) (between_0 u (-9000) 9000)
    (between_0 w (-9000) 9000)
noncomputable def lawS_s5 (u : Int) (w : Int) (L : List (List Int)) : Bool :=
  ainside_0 (arc_0 0 L) (arc_1 0 L) (arc_2 0 L) (arc_3 0 L) (arc_4 0 L) (arc_5 0 L) (range_0 17 19 0 L) (arc_6 0 L) (arc_7 0 L) (arc_8 0 L) (IntKind.i64.wrap (0 - arc_9 0 L)) (arc_10 0 L)
    (between_0 u (-9000) 9000) (between_0 w (-9000) 9000)
noncomputable def lawS_0 (u : Int) (w : Int) (L : List (List Int)) : Bool :=
  bif !light_0 L then true
  else
    bif between_0 u (-9000) 9000 == 0 && between_0 w (-9000) 9000 == 0 then true
    else
      true &&
              ainside_0 (arc_0 0 L) (arc_1 0 L) (arc_2 0 L) (arc_3 0 L) (arc_4 0 L) (arc_5 0 L) (range_0 17 19 0 L) (arc_6 0 L) (arc_7 0 L) (arc_8 0 L) (arc_9 0 L) (arc_10 0 L) (lawS_s0 L)
                (lawS_s1 L) &&
            ainside_0 (arc_0 0 L) (arc_1 0 L) (arc_2 0 L) (arc_3 0 L) (arc_4 0 L) (arc_5 0 L) (range_0 17 19 0 L) (arc_6 0 L) (arc_7 0 L) (arc_8 0 L) (arc_9 0 L) (arc_10 0 L) (lawS_s2 L) (lawS_s3 L) &&
          (lawS_s4 u w L || lawS_s5 u w L) &&
        (arc_10 0 L ||
          (lawS_s4 u w L && lawS_s5 u w L) ==
            (vcross_0 (lawS_s0 L) (lawS_s1 L) (between_0 u (-9000) 9000) (between_0 w (-9000) 9000) == 0 &&
                decide (vinner_0 (lawS_s0 L) (lawS_s1 L) (between_0 u (-9000) 9000) (between_0 w (-9000) 9000) > 0) ||
              vcross_0 (lawS_s2 L) (lawS_s3 L) (between_0 u (-9000) 9000) (between_0 w (-9000) 9000) == 0 &&
                decide (vinner_0 (lawS_s2 L) (lawS_s3 L) (between_0 u (-9000) 9000) (between_0 w (-9000) 9000) > 0)))
noncomputable def lawS_needs (L : List (List Int)) : List Prop :=
  [(!light_0 L) = false → Int.ofNat 0 ≤ 0 ∧ L.length ≤ 1000000 ∧ Int.ofNat 18001 ≠ 0 ∧ Int.ofNat 18001 ≠ 0]
theorem lawS_0_eq (u w : Int) (L : List (List Int)) : (lawS_0 u w L) = true := by
  unfold lawS_0 lawS_s0 lawS_s1 lawS_s2 lawS_s3 lawS_s4 lawS_s5
  cases !light_0 L
  · rw [cond_false]
    have I := arc_i 0 L
    have G := arc_g 0 L
    have r1 : ∀ x, bd 9000 (between_0 x (-9000) 9000) := fun x => between_rng x (-9000) 9000 (by omega) (by omega) (by omega)
    have b1 := r1 u
    have b2 := r1 w
    generalize between_0 u (-9000) 9000 = u1 at *
    generalize between_0 w (-9000) 9000 = w1 at *
    cases hc : (u1 == 0 && w1 == 0)
    · rw [cond_false]
      simp only [Bool.and_eq_false_iff, beq_eq_false_iff_ne] at hc
      obtain ⟨s0, s1, s2, s3⟩ := arcI_spokes I G
      obtain ⟨n1, n2⟩ := arcG_nz G
      rw [s0, s1, s2, s3, inside_form I G, inside_form I G, inside_form I G, inside_form I G]
      have g1 := G.a0
      have g2 := G.a1
      have g3 := G.b0
      have g4 := G.b1
      have hna : arc_10 0 L = false → aligned_0 (aA0 0 L) (aA1 0 L) (aB0 0 L) (aB1 0 L) = false := fun h => by rw [h] at G; exact arcG_na G
      have gd := G.d
      generalize arc_10 0 L = fu at *
      generalize arc_9 0 L = d at *
      generalize aA0 0 L = A0 at *
      generalize aA1 0 L = A1 at *
      generalize aB0 0 L = B0 at *
      generalize aB1 0 L = B1 at *
      cases fu
      · obtain ⟨t1, t2⟩ := two_sectors (p0 := u1) (p1 := w1) (by omega) (by omega) (by omega) (by omega) (by omega) (by omega) n1 n2 hc (hna rfl)
        have f1 := contains_first (a0 := A0) (a1 := A1) B0 B1 (by omega) (by omega) n1
        have f2 := contains_first (a0 := B0) (a1 := B1) A0 A1 (by omega) (by omega) n2
        have l1 := contains_last A0 A1 (b0 := B0) (b1 := B1) (by omega) (by omega)
        have l2 := contains_last B0 B1 (b0 := A0) (b1 := A1) (by omega) (by omega)
        unfold aligned_0 at t2
        rw [← t2]
        rcases gd with rfl | rfl
        · have e1 : decide ((1 : Int) < 0) = false := rfl
          have e2 : decide (IntKind.i64.wrap (0 - 1) < 0) = true := by decide
          rw [e1, e2]
          simp only [cond_true, cond_false, Bool.false_or, f1, l1, t1, Bool.true_and, beq_self_eq_true, Bool.and_self]
        · have e1 : decide ((-1 : Int) < 0) = true := rfl
          have e2 : decide (IntKind.i64.wrap (0 - -1) < 0) = false := by decide
          rw [Bool.or_comm] at t1
          rw [e1, e2]
          simp only [cond_true, cond_false, Bool.false_or, f2, l2, t1, Bool.true_and, beq_self_eq_true, Bool.and_self, Bool.and_comm]
      · simp
    · rfl
  · rfl
theorem lawS_need {L : List (List Int)} : ∀ q ∈ (lawS_needs L), q := by
  unfold lawS_needs
  simp only [List.forall_mem_cons, List.not_mem_nil, false_implies, implies_true, and_true]
  intro h
  have := light_len (L := L) (by simpa using h)
  repeat' (first | assumption | decide | apply And.intro)
set_option maxRecDepth 1000000 in
theorem lawS_runs (u w : Int) (L : List (List Int)) (hNeeds : ∀ pN ∈ (lawS_needs L), pN) : Runs (runF (sums K_vec) L_ov 8) (lawS_tpl.args [.i u, .i w]) (lawS_tpl.memo [.i u, .i w] [L]) lawS_tpl.n (SV.one (SC.bool (SB.v (lawS_0 u w L))))
    ([(0, Obj.row true 3 1 (RowC.lst 1 [CK.int IntKind.i64] L))]) :=
  Runs.of (ps := (lawS_needs L)) (by kernel_rfl) (by kernel_rfl) hNeeds
noncomputable def lawS_out : List Pm → Lss → Option CRes
  | [.i u, .i w], [L] => some ⟨SV.one (SC.bool (SB.v (lawS_0 u w L))),
    [(0, Obj.row true 3 1 (RowC.lst 1 [CK.int IntKind.i64] L))],
    [], [], 20004⟩
  | _, _ => none
theorem lawS_ok : FOk Try.prog 8 (tplS lawS_tpl lawS_out) := by
  refine tplS_ok (runF_ok known_vec 8) fun ps ls r hr hn _ => ?_
  unfold lawS_out at hr
  split at hr
  · cases hr; exact ⟨_, lawS_runs _ _ _ (fun p hp => lawS_need p hp), fun _ => by simp only [SV.den, SC.den, SB.val, lawS_0_eq]⟩
  · cases hr
noncomputable def K_lawS : List (Nat × Summ) := (8, tplS lawS_tpl lawS_out) :: K_vec
theorem known_lawS : Known Try.prog (sums K_lawS) L_ov := known_cons known_vec lawS_ok
end Go.Proofs.Ytkggdhnliiagjaa
