/-
  ARCINSIDE: the walk. Conditions: none.
-/
import Derived.Test.YtkggdhnliiagjaaG2
import Derived.Test.YtkggdhnliiagjaaD6
set_option linter.all false
namespace Go.Proofs.Ytkggdhnliiagjaa
open Go.SX Go.RowKit
noncomputable def lawI_tpl : Tpl := ⟨[.one (.wh 0), .agg [.int .i64, .int .i64]], [(0, .row true 3 1 1 [.int .i64])], 2⟩
noncomputable def lawI_0 (u : Int) (w : Int) (L : List (List Int)) : Bool :=
  bif !light_0 L then true
  else
    bif
        between_0 u (-4194304) 4194304 == 0 && between_0 w (-4194304) 4194304 == 0 ||
          between_0 (between_0 u (-4194304) 4194304) (-2) 2 == 0 && between_0 (between_0 w (-4194304) 4194304) (-2) 2 == 0 then
      true
    else
      true &&
              (aspokes_0 (arc_0 0 L) (arc_1 0 L) (arc_2 0 L) (range_0 17 19 0 L) (arc_6 0 L) (arc_7 0 L) (arc_8 0 L) ==
                  minus_0 (flat_0 (range_0 17 19 0 L) (arc_0 0 L) (arc_1 0 L) (arc_2 0 L)) (flat_0 (range_0 17 19 0 L) (arc_6 0 L) (arc_7 0 L) (arc_8 0 L)) &&
                aspokes_1 (arc_0 0 L) (arc_1 0 L) (arc_2 0 L) (range_0 17 19 0 L) (arc_6 0 L) (arc_7 0 L) (arc_8 0 L) ==
                  minus_0 (flat_1 (range_0 17 19 0 L) (arc_0 0 L) (arc_1 0 L) (arc_2 0 L)) (flat_1 (range_0 17 19 0 L) (arc_6 0 L) (arc_7 0 L) (arc_8 0 L))) &&
            (aspokes_0 (arc_3 0 L) (arc_4 0 L) (arc_5 0 L) (range_0 17 19 0 L) (arc_6 0 L) (arc_7 0 L) (arc_8 0 L) ==
                minus_0 (flat_0 (range_0 17 19 0 L) (arc_3 0 L) (arc_4 0 L) (arc_5 0 L)) (flat_0 (range_0 17 19 0 L) (arc_6 0 L) (arc_7 0 L) (arc_8 0 L)) &&
              aspokes_1 (arc_3 0 L) (arc_4 0 L) (arc_5 0 L) (range_0 17 19 0 L) (arc_6 0 L) (arc_7 0 L) (arc_8 0 L) ==
                minus_0 (flat_1 (range_0 17 19 0 L) (arc_3 0 L) (arc_4 0 L) (arc_5 0 L)) (flat_1 (range_0 17 19 0 L) (arc_6 0 L) (arc_7 0 L) (arc_8 0 L))) &&
          ainside_0 (arc_0 0 L) (arc_1 0 L) (arc_2 0 L) (arc_3 0 L) (arc_4 0 L) (arc_5 0 L) (range_0 17 19 0 L) (arc_6 0 L) (arc_7 0 L) (arc_8 0 L) (arc_9 0 L) (arc_10 0 L)
              (between_0 u (-4194304) 4194304) (between_0 w (-4194304) 4194304) ==
            rinside_0 (arc_0 0 L) (arc_1 0 L) (arc_2 0 L) (arc_3 0 L) (arc_4 0 L) (arc_5 0 L) (range_0 17 19 0 L) (arc_6 0 L) (arc_7 0 L) (arc_8 0 L) (arc_9 0 L) (arc_10 0 L)
              (between_0 u (-4194304) 4194304) (between_0 w (-4194304) 4194304) &&
        ainside_0 (arc_0 0 L) (arc_1 0 L) (arc_2 0 L) (arc_3 0 L) (arc_4 0 L) (arc_5 0 L) (range_0 17 19 0 L) (arc_6 0 L) (arc_7 0 L) (arc_8 0 L) (arc_9 0 L) (arc_10 0 L)
            (between_0 (between_0 u (-4194304) 4194304) (-2) 2) (between_0 (between_0 w (-4194304) 4194304) (-2) 2) ==
          rinside_0 (arc_0 0 L) (arc_1 0 L) (arc_2 0 L) (arc_3 0 L) (arc_4 0 L) (arc_5 0 L) (range_0 17 19 0 L) (arc_6 0 L) (arc_7 0 L) (arc_8 0 L) (arc_9 0 L) (arc_10 0 L)
            (between_0 (between_0 u (-4194304) 4194304) (-2) 2) (between_0 (between_0 w (-4194304) 4194304) (-2) 2)
noncomputable def lawI_needs (L : List (List Int)) : List Prop :=
  [(!light_0 L) = false → Int.ofNat 0 ≤ 0 ∧ L.length ≤ 1000000 ∧ Int.ofNat 8388609 ≠ 0 ∧ Int.ofNat 8388609 ≠ 0 ∧ Int.ofNat 5 ≠ 0 ∧ Int.ofNat 5 ≠ 0]
theorem lawI_0_eq (u w : Int) (L : List (List Int)) : (lawI_0 u w L) = true := by
  unfold lawI_0
  cases !light_0 L
  · rw [cond_false]
    have I := arc_i 0 L
    have G := arc_g 0 L
    have r1 : ∀ x, bd 4194304 (between_0 x (-4194304) 4194304) := fun x => between_rng x (-4194304) 4194304 (by omega) (by omega) (by omega)
    have r2 : ∀ x, bd 2 (between_0 x (-2) 2) := fun x => between_rng x (-2) 2 (by omega) (by omega) (by omega)
    have b1 := r1 u
    have b2 := r1 w
    have b3 := r2 (between_0 u (-4194304) 4194304)
    have b4 := r2 (between_0 w (-4194304) 4194304)
    generalize between_0 (between_0 u (-4194304) 4194304) (-2) 2 = u2 at *
    generalize between_0 (between_0 w (-4194304) 4194304) (-2) 2 = w2 at *
    generalize between_0 u (-4194304) 4194304 = u1 at *
    generalize between_0 w (-4194304) 4194304 = w1 at *
    cases hc : (u1 == 0 && w1 == 0 || u2 == 0 && w2 == 0)
    · rw [cond_false]
      simp only [Bool.or_eq_false_iff, Bool.and_eq_false_iff, beq_eq_false_iff_ne] at hc
      have ea : ∀ x0 x1 x2 y0 y1 y2 p : Int, minus_0 (flat_0 p x0 x1 x2) (flat_0 p y0 y1 y2) = aspokes_0 x0 x1 x2 p y0 y1 y2 := fun _ _ _ _ _ _ _ => rfl
      have eb : ∀ x0 x1 x2 y0 y1 y2 p : Int, minus_0 (flat_1 p x0 x1 x2) (flat_1 p y0 y1 y2) = aspokes_1 x0 x1 x2 p y0 y1 y2 := fun _ _ _ _ _ _ _ => rfl
      rw [inside_same I G (by omega) (by omega) hc.1, inside_same I G (by omega) (by omega) hc.2]
      simp only [ea, eb, beq_self_eq_true, Bool.and_self]
    · rfl
  · rfl
theorem lawI_need {L : List (List Int)} : ∀ q ∈ (lawI_needs L), q := by
  unfold lawI_needs
  simp only [List.forall_mem_cons, List.not_mem_nil, false_implies, implies_true, and_true]
  intro h
  have := light_len (L := L) (by simpa using h)
  repeat' (first | assumption | decide | apply And.intro)
set_option maxRecDepth 1000000 in
theorem lawI_runs (u w : Int) (L : List (List Int)) (hNeeds : ∀ pN ∈ (lawI_needs L), pN) : Runs (runF (sums K_vec) L_ov 7) (lawI_tpl.args [.i u, .i w]) (lawI_tpl.memo [.i u, .i w] [L]) lawI_tpl.n (SV.one (SC.bool (SB.v (lawI_0 u w L))))
    ([(0, Obj.row true 3 1 (RowC.lst 1 [CK.int IntKind.i64] L))]) :=
  Runs.of (ps := (lawI_needs L)) (by kernel_rfl) (by kernel_rfl) hNeeds
noncomputable def lawI_out : List Pm → Lss → Option CRes
  | [.i u, .i w], [L] => some ⟨SV.one (SC.bool (SB.v (lawI_0 u w L))),
    [(0, Obj.row true 3 1 (RowC.lst 1 [CK.int IntKind.i64] L))],
    [], [], 20468⟩
  | _, _ => none
theorem lawI_ok : FOk Try.prog 7 (tplS lawI_tpl lawI_out) := by
  refine tplS_ok (runF_ok known_vec 7) fun ps ls r hr hn _ => ?_
  unfold lawI_out at hr
  split at hr
  · cases hr; exact ⟨_, lawI_runs _ _ _ (fun p hp => lawI_need p hp), fun _ => by simp only [SV.den, SC.den, SB.val, lawI_0_eq]⟩
  · cases hr
noncomputable def K_lawI : List (Nat × Summ) := (7, tplS lawI_tpl lawI_out) :: K_vec
theorem known_lawI : Known Try.prog (sums K_lawI) L_ov := known_cons known_vec lawI_ok
end Go.Proofs.Ytkggdhnliiagjaa
