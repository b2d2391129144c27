/-
  ARCREVERSES: the walk. Conditions: none.
-/
import Derived.Test.YtkggdhnliiagjaaG2
import Derived.Test.YtkggdhnliiagjaaD6
set_option linter.all false
namespace Go.Proofs.Ytkggdhnliiagjaa
open Go.SX Go.RowKit
noncomputable def lawV_tpl : Tpl := ⟨[.one (.wh 0), .agg [.int .i64, .int .i64]], [(0, .row true 3 1 1 [.int .i64])], 2⟩
noncomputable def lawV_s0 (L : List (List Int)) : Int :=
  solid_0 (range_0 17 19 0 L) (flat_0 (range_0 17 19 0 L) (arc_6 0 L) (arc_7 0 L) (arc_8 0 L)) (flat_1 (range_0 17 19 0 L) (arc_6 0 L) (arc_7 0 L) (arc_8 0 L))
    (flat_2 (range_0 17 19 0 L) (arc_3 0 L) (arc_4 0 L) (arc_5 0 L))
noncomputable def lawV_s1 (L : List (List Int)) : Int :=
  solid_1 (range_0 17 19 0 L) (flat_0 (range_0 17 19 0 L) (arc_6 0 L) (arc_7 0 L) (arc_8 0 L)) (flat_1 (range_0 17 19 0 L) (arc_6 0 L) (arc_7 0 L) (arc_8 0 L))
    (flat_2 (range_0 17 19 0 L) (arc_3 0 L) (arc_4 0 L) (arc_5 0 L))
noncomputable def lawV_s2 (L : List (List Int)) : Int :=
  solid_2 (range_0 17 19 0 L) (flat_0 (range_0 17 19 0 L) (arc_6 0 L) (arc_7 0 L) (arc_8 0 L)) (flat_1 (range_0 17 19 0 L) (arc_6 0 L) (arc_7 0 L) (arc_8 0 L))
    (flat_2 (range_0 17 19 0 L) (arc_3 0 L) (arc_4 0 L) (arc_5 0 L))
noncomputable def lawV_s3 (L : List (List Int)) : Int :=
  IntKind.i64.wrap (0 - arc_9 0 L)
noncomputable def lawV_0 (u : Int) (w : Int) (L : List (List Int)) : Bool :=
  bif !light_0 L then true
  else
    bif between_0 u (-9000) 9000 == 0 && between_0 w (-9000) 9000 == 0 then true
    else
      true && acheck_0 3 (arc_3 0 L) (arc_4 0 L) (arc_5 0 L) (arc_0 0 L) (arc_1 0 L) (arc_2 0 L) (range_0 17 19 0 L) (lawV_s0 L) (lawV_s1 L) (lawV_s2 L) (lawV_s3 L) (arc_10 0 L) == 0 &&
        ainside_0 (arc_3 0 L) (arc_4 0 L) (arc_5 0 L) (arc_0 0 L) (arc_1 0 L) (arc_2 0 L) (range_0 17 19 0 L) (lawV_s0 L) (lawV_s1 L) (lawV_s2 L) (lawV_s3 L) (arc_10 0 L) (between_0 u (-9000) 9000)
            (between_0 w (-9000) 9000) ==
          ainside_0 (arc_0 0 L) (arc_1 0 L) (arc_2 0 L) (arc_3 0 L) (arc_4 0 L) (arc_5 0 L) (range_0 17 19 0 L) (arc_6 0 L) (arc_7 0 L) (arc_8 0 L) (arc_9 0 L) (arc_10 0 L) (between_0 u (-9000) 9000)
            (between_0 w (-9000) 9000)
noncomputable def lawV_needs (L : List (List Int)) : List Prop :=
  [(!light_0 L) = false → Int.ofNat 0 ≤ 0 ∧ L.length ≤ 1000000 ∧ Int.ofNat 18001 ≠ 0 ∧ Int.ofNat 18001 ≠ 0]
theorem lawV_0_eq (u w : Int) (L : List (List Int)) : (lawV_0 u w L) = true := by
  unfold lawV_0 lawV_s0 lawV_s1 lawV_s2 lawV_s3
  cases !light_0 L
  · rw [cond_false]
    have I := arc_i 0 L
    have G := arc_g 0 L
    obtain ⟨I', G'⟩ := arc_back I G
    rw [arcI_check I' G', inside_form I' G', inside_form I G]
    have gd := G.d
    generalize between_0 u (-9000) 9000 = u1 at *
    generalize between_0 w (-9000) 9000 = w1 at *
    generalize arc_9 0 L = d at *
    have e : (bif decide (IntKind.i64.wrap (0 - d) < 0) then contains_0 (aA0 0 L) (aA1 0 L) (aB0 0 L) (aB1 0 L) u1 w1 else contains_0 (aB0 0 L) (aB1 0 L) (aA0 0 L) (aA1 0 L) u1 w1) = (bif decide (d < 0) then contains_0 (aB0 0 L) (aB1 0 L) (aA0 0 L) (aA1 0 L) u1 w1 else contains_0 (aA0 0 L) (aA1 0 L) (aB0 0 L) (aB1 0 L) u1 w1) := by
      rcases gd with rfl | rfl
      · have e1 : decide ((1 : Int) < 0) = false := rfl
        have e2 : decide (IntKind.i64.wrap (0 - 1) < 0) = true := by decide
        rw [e1, e2]; rfl
      · have e1 : decide ((-1 : Int) < 0) = true := rfl
        have e2 : decide (IntKind.i64.wrap (0 - -1) < 0) = false := by decide
        rw [e1, e2]; rfl
    rw [e]
    cases u1 == 0 && w1 == 0
    · simp
    · rfl
  · rfl
theorem lawV_need {L : List (List Int)} : ∀ q ∈ (lawV_needs L), q := by
  unfold lawV_needs
  simp only [List.forall_mem_cons, List.not_mem_nil, false_implies, implies_true, and_true]
  intro h
  have := light_len (L := L) (by simpa using h)
  repeat' (first | assumption | decide | apply And.intro)
set_option maxRecDepth 1000000 in
theorem lawV_runs (u w : Int) (L : List (List Int)) (hNeeds : ∀ pN ∈ (lawV_needs L), pN) : Runs (runF (sums K_vec) L_ov 6) (lawV_tpl.args [.i u, .i w]) (lawV_tpl.memo [.i u, .i w] [L]) lawV_tpl.n (SV.one (SC.bool (SB.v (lawV_0 u w L))))
    ([(0, Obj.row true 3 1 (RowC.lst 1 [CK.int IntKind.i64] L))]) :=
  Runs.of (ps := (lawV_needs L)) (by kernel_rfl) (by kernel_rfl) hNeeds
noncomputable def lawV_out : List Pm → Lss → Option CRes
  | [.i u, .i w], [L] => some ⟨SV.one (SC.bool (SB.v (lawV_0 u w L))),
    [(0, Obj.row true 3 1 (RowC.lst 1 [CK.int IntKind.i64] L))],
    [], [], 19793⟩
  | _, _ => none
theorem lawV_ok : FOk Try.prog 6 (tplS lawV_tpl lawV_out) := by
  refine tplS_ok (runF_ok known_vec 6) fun ps ls r hr hn _ => ?_
  unfold lawV_out at hr
  split at hr
  · cases hr; exact ⟨_, lawV_runs _ _ _ (fun p hp => lawV_need p hp), fun _ => by simp only [SV.den, SC.den, SB.val, lawV_0_eq]⟩
  · cases hr
noncomputable def K_lawV : List (Nat × Summ) := (6, tplS lawV_tpl lawV_out) :: K_vec
theorem known_lawV : Known Try.prog (sums K_lawV) L_ov := known_cons known_vec lawV_ok
end Go.Proofs.Ytkggdhnliiagjaa
