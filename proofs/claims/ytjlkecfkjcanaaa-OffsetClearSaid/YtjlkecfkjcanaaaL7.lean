/-
  OFFSETCLEAR: the walk. Conditions: none.
-/
import Derived.Test.YtjlkecfkjcanaaaG1
import Derived.Test.YtjlkecfkjcanaaaE2
set_option linter.all false
namespace Go.Proofs.Ytjlkecfkjcanaaa
open Go.SX Go.RowKit
noncomputable def lawL_tpl : Tpl := ⟨[.one (.wh 0), .agg [.int .i64, .int .i64], .one (.int .i64)], [(0, .row true 3 1 1 [.int .i64])], 2⟩
noncomputable def lawL_s0 (y : Int) (L : List (List Int)) : Int :=
  addpt_0 (rnormal_0 (qa0 L) (qa1 L) (rtang_0 (qa0 L) (qa1 L) (qa2 L) (qa3 L) (qa5 L) (qa6 L) false) (rtang_1 (qa0 L) (qa1 L) (qa2 L) (qa3 L) (qa4 L) (qa6 L) false) (qr L)) (small_0 y 2)
noncomputable def lawL_s1 (z : Int) (L : List (List Int)) : Int :=
  addpt_0 (rnormal_1 (qa0 L) (qa1 L) (rtang_0 (qa0 L) (qa1 L) (qa2 L) (qa3 L) (qa5 L) (qa6 L) false) (rtang_1 (qa0 L) (qa1 L) (qa2 L) (qa3 L) (qa4 L) (qa6 L) false) (qr L)) (small_0 z 2)
noncomputable def lawL_s2 (y : Int) (L : List (List Int)) : Int :=
  addpt_0 (rnormal_0 (qb0 L) (qb1 L) (rtang_0 (qb0 L) (qb1 L) (qb2 L) (qb3 L) (qb5 L) (qb6 L) false) (rtang_1 (qb0 L) (qb1 L) (qb2 L) (qb3 L) (qb4 L) (qb6 L) false) (qr L)) (small_0 y 2)
noncomputable def lawL_s3 (z : Int) (L : List (List Int)) : Int :=
  addpt_0 (rnormal_1 (qb0 L) (qb1 L) (rtang_0 (qb0 L) (qb1 L) (qb2 L) (qb3 L) (qb5 L) (qb6 L) false) (rtang_1 (qb0 L) (qb1 L) (qb2 L) (qb3 L) (qb4 L) (qb6 L) false) (qr L)) (small_0 z 2)
noncomputable def lawL_0 (y : Int) (z : Int) (n : Int) (L : List (List Int)) : Bool :=
  bif !light_0 L then true
  else
    bif
        !oclear_0 (qa0 L) (qa1 L) (qa2 L) (qa3 L) (qa4 L) (qa5 L) (qa6 L) (small_0 y 30000) (small_0 z 30000) (qr L) ==
                  rclear_0 (qa0 L) (qa1 L) (qa2 L) (qa3 L) (qa4 L) (qa5 L) (qa6 L) (small_0 y 30000) (small_0 z 30000) (qr L) ||
              !oclear_0 (qa0 L) (qa1 L) (qa2 L) (qa3 L) (qa4 L) (qa5 L) (qa6 L) (lawL_s0 y L) (lawL_s1 z L) (qr L) ==
                  rclear_0 (qa0 L) (qa1 L) (qa2 L) (qa3 L) (qa4 L) (qa5 L) (qa6 L) (lawL_s0 y L) (lawL_s1 z L) (qr L) ||
            !oclear_0 (qa0 L) (qa1 L) (qa2 L) (qa3 L) (qa4 L) (qa5 L) (qa6 L) (lawL_s0 y L) (lawL_s1 z L) (IntKind.i64.wrap (0 - qr L)) ==
                rclear_0 (qa0 L) (qa1 L) (qa2 L) (qa3 L) (qa4 L) (qa5 L) (qa6 L) (lawL_s0 y L) (lawL_s1 z L) (IntKind.i64.wrap (0 - qr L)) ||
          !oclear_0 (qa0 L) (qa1 L) (qa2 L) (qa3 L) (qa4 L) (qa5 L) (qa6 L) (small_0 y 30000) (small_0 z 30000) (between_0 n (-100) 100) ==
              rclear_0 (qa0 L) (qa1 L) (qa2 L) (qa3 L) (qa4 L) (qa5 L) (qa6 L) (small_0 y 30000) (small_0 z 30000) (between_0 n (-100) 100) then
      false
    else
      bif
          !oclear_0 (qb0 L) (qb1 L) (qb2 L) (qb3 L) (qb4 L) (qb5 L) (qb6 L) (small_0 y 30000) (small_0 z 30000) (qr L) ==
                    rclear_0 (qb0 L) (qb1 L) (qb2 L) (qb3 L) (qb4 L) (qb5 L) (qb6 L) (small_0 y 30000) (small_0 z 30000) (qr L) ||
                !oclear_0 (qb0 L) (qb1 L) (qb2 L) (qb3 L) (qb4 L) (qb5 L) (qb6 L) (lawL_s2 y L) (lawL_s3 z L) (qr L) ==
                    rclear_0 (qb0 L) (qb1 L) (qb2 L) (qb3 L) (qb4 L) (qb5 L) (qb6 L) (lawL_s2 y L) (lawL_s3 z L) (qr L) ||
              !oclear_0 (qb0 L) (qb1 L) (qb2 L) (qb3 L) (qb4 L) (qb5 L) (qb6 L) (lawL_s2 y L) (lawL_s3 z L) (IntKind.i64.wrap (0 - qr L)) ==
                  rclear_0 (qb0 L) (qb1 L) (qb2 L) (qb3 L) (qb4 L) (qb5 L) (qb6 L) (lawL_s2 y L) (lawL_s3 z L) (IntKind.i64.wrap (0 - qr L)) ||
            !oclear_0 (qb0 L) (qb1 L) (qb2 L) (qb3 L) (qb4 L) (qb5 L) (qb6 L) (small_0 y 30000) (small_0 z 30000) (between_0 n (-100) 100) ==
                rclear_0 (qb0 L) (qb1 L) (qb2 L) (qb3 L) (qb4 L) (qb5 L) (qb6 L) (small_0 y 30000) (small_0 z 30000) (between_0 n (-100) 100) then
        false
      else true
noncomputable def lawL_s4 (y : Int) (z : Int) (L : List (List Int)) : Bool :=
  !oclear_0 (qa0 L) (qa1 L) (qa2 L) (qa3 L) (qa4 L) (qa5 L) (qa6 L) (small_0 y 30000) (small_0 z 30000) (qr L) ==
          rclear_0 (qa0 L) (qa1 L) (qa2 L) (qa3 L) (qa4 L) (qa5 L) (qa6 L) (small_0 y 30000) (small_0 z 30000) (qr L) ||
      !oclear_0 (qa0 L) (qa1 L) (qa2 L) (qa3 L) (qa4 L) (qa5 L) (qa6 L) (lawL_s0 y L) (lawL_s1 z L) (qr L) ==
          rclear_0 (qa0 L) (qa1 L) (qa2 L) (qa3 L) (qa4 L) (qa5 L) (qa6 L) (lawL_s0 y L) (lawL_s1 z L) (qr L) ||
    !oclear_0 (qa0 L) (qa1 L) (qa2 L) (qa3 L) (qa4 L) (qa5 L) (qa6 L) (lawL_s0 y L) (lawL_s1 z L) (IntKind.i64.wrap (0 - qr L)) ==
        rclear_0 (qa0 L) (qa1 L) (qa2 L) (qa3 L) (qa4 L) (qa5 L) (qa6 L) (lawL_s0 y L) (lawL_s1 z L) (IntKind.i64.wrap (0 - qr L))
noncomputable def lawL_s5 (y : Int) (z : Int) (L : List (List Int)) : Prop :=
  (!oclear_0 (qb0 L) (qb1 L) (qb2 L) (qb3 L) (qb4 L) (qb5 L) (qb6 L) (small_0 y 30000) (small_0 z 30000) (qr L) ==
              rclear_0 (qb0 L) (qb1 L) (qb2 L) (qb3 L) (qb4 L) (qb5 L) (qb6 L) (small_0 y 30000) (small_0 z 30000) (qr L) ||
          !oclear_0 (qb0 L) (qb1 L) (qb2 L) (qb3 L) (qb4 L) (qb5 L) (qb6 L) (lawL_s2 y L) (lawL_s3 z L) (qr L) ==
              rclear_0 (qb0 L) (qb1 L) (qb2 L) (qb3 L) (qb4 L) (qb5 L) (qb6 L) (lawL_s2 y L) (lawL_s3 z L) (qr L) ||
        !oclear_0 (qb0 L) (qb1 L) (qb2 L) (qb3 L) (qb4 L) (qb5 L) (qb6 L) (lawL_s2 y L) (lawL_s3 z L) (IntKind.i64.wrap (0 - qr L)) ==
            rclear_0 (qb0 L) (qb1 L) (qb2 L) (qb3 L) (qb4 L) (qb5 L) (qb6 L) (lawL_s2 y L) (lawL_s3 z L) (IntKind.i64.wrap (0 - qr L))) =
      false →
    Int.ofNat 201 ≠ 0
noncomputable def lawL_needs (y : Int) (z : Int) (n : Int) (L : List (List Int)) : List Prop :=
  [(!light_0 L) = false →
      L.length ≤ 1000000 ∧
        Int.ofNat 60001 ≠ 0 ∧
          Int.ofNat 60001 ≠ 0 ∧
            Int.ofNat 5 ≠ 0 ∧
              Int.ofNat 5 ≠ 0 ∧
                (lawL_s4 y z L = false → Int.ofNat 201 ≠ 0) ∧
                  (lawL_s4 y z L = false → Int.ofNat 201 ≠ 0) ∧
                    ((lawL_s4 y z L ||
                          !oclear_0 (qa0 L) (qa1 L) (qa2 L) (qa3 L) (qa4 L) (qa5 L) (qa6 L) (small_0 y 30000) (small_0 z 30000) (between_0 n (-100) 100) ==
                              rclear_0 (qa0 L) (qa1 L) (qa2 L) (qa3 L) (qa4 L) (qa5 L) (qa6 L) (small_0 y 30000) (small_0 z 30000) (between_0 n (-100) 100)) =
                        false →
                      Int.ofNat 60001 ≠ 0 ∧ Int.ofNat 60001 ≠ 0 ∧ Int.ofNat 5 ≠ 0 ∧ Int.ofNat 5 ≠ 0 ∧ lawL_s5 y z L ∧ lawL_s5 y z L)]
theorem lawL_0_eq (y z n : Int) (L : List (List Int)) : (lawL_0 y z n L) = true := by
  unfold lawL_0 lawL_s0 lawL_s1 lawL_s2 lawL_s3
  cases !light_0 L
  · rw [cond_false]
    obtain ⟨A, B, hr⟩ := pair_ep L
    have hn := between_rng n (-100) 100 (by omega) (by omega) (by omega)
    have hw : bd 1000000000 (IntKind.i64.wrap (0 - qr L)) := by rw [wrI (by omega) (by omega)]; omega
    have hr' : bd 1000000000 (qr L) := by omega
    have hn' : bd 1000000000 (between_0 n (-100) 100) := by omega
    have a1 : ∀ e0 e1 e2 e3 e4 e5 y0 y1, oclear_0 e0 e1 e2 e3 e4 e5 (qa6 L) y0 y1 (qr L) = rclear_0 e0 e1 e2 e3 e4 e5 (qa6 L) y0 y1 (qr L) := fun _ _ _ _ _ _ y0 y1 => clear_same y0 y1 A.dir hr'
    have a2 : ∀ e0 e1 e2 e3 e4 e5 y0 y1, oclear_0 e0 e1 e2 e3 e4 e5 (qa6 L) y0 y1 (IntKind.i64.wrap (0 - qr L)) = rclear_0 e0 e1 e2 e3 e4 e5 (qa6 L) y0 y1 (IntKind.i64.wrap (0 - qr L)) := fun _ _ _ _ _ _ y0 y1 => clear_same y0 y1 A.dir hw
    have a3 : ∀ e0 e1 e2 e3 e4 e5 y0 y1, oclear_0 e0 e1 e2 e3 e4 e5 (qa6 L) y0 y1 (between_0 n (-100) 100) = rclear_0 e0 e1 e2 e3 e4 e5 (qa6 L) y0 y1 (between_0 n (-100) 100) := fun _ _ _ _ _ _ y0 y1 => clear_same y0 y1 A.dir hn'
    have b1 : ∀ e0 e1 e2 e3 e4 e5 y0 y1, oclear_0 e0 e1 e2 e3 e4 e5 (qb6 L) y0 y1 (qr L) = rclear_0 e0 e1 e2 e3 e4 e5 (qb6 L) y0 y1 (qr L) := fun _ _ _ _ _ _ y0 y1 => clear_same y0 y1 B.dir hr'
    have b2 : ∀ e0 e1 e2 e3 e4 e5 y0 y1, oclear_0 e0 e1 e2 e3 e4 e5 (qb6 L) y0 y1 (IntKind.i64.wrap (0 - qr L)) = rclear_0 e0 e1 e2 e3 e4 e5 (qb6 L) y0 y1 (IntKind.i64.wrap (0 - qr L)) := fun _ _ _ _ _ _ y0 y1 => clear_same y0 y1 B.dir hw
    have b3 : ∀ e0 e1 e2 e3 e4 e5 y0 y1, oclear_0 e0 e1 e2 e3 e4 e5 (qb6 L) y0 y1 (between_0 n (-100) 100) = rclear_0 e0 e1 e2 e3 e4 e5 (qb6 L) y0 y1 (between_0 n (-100) 100) := fun _ _ _ _ _ _ y0 y1 => clear_same y0 y1 B.dir hn'
    have nb : ∀ x : Bool, (!x == x) = false := by decide
    simp only [a1, a2, a3, b1, b2, b3, nb, Bool.or_self, cond_false]
  · rfl
theorem lawL_need {y : Int} {z : Int} {n : Int} {L : List (List Int)} : ∀ q ∈ (lawL_needs y z n L), q := by
  unfold lawL_needs
  simp only [List.forall_mem_cons, List.not_mem_nil, false_implies, implies_true, and_true]
  intro h
  have := light_len (L := L) (by simpa using h)
  repeat' (first | assumption | decide | apply And.intro | intro _)
set_option maxRecDepth 1000000 in
theorem lawL_runs (y z n : Int) (L : List (List Int)) (hNeeds : ∀ pN ∈ (lawL_needs y z n L), pN) : Runs (runF (sums K_pair) L_cr 5) (lawL_tpl.args [.i y, .i z, .i n]) (lawL_tpl.memo [.i y, .i z, .i n] [L]) lawL_tpl.n (SV.one (SC.bool (SB.v (lawL_0 y z n L))))
    ([(0, Obj.row true 3 1 (RowC.lst 1 [CK.int IntKind.i64] L))]) :=
  Runs.of (ps := (lawL_needs y z n L)) (by kernel_rfl) (by kernel_rfl) hNeeds
noncomputable def lawL_out : List Pm → Lss → Option CRes
  | [.i y, .i z, .i n], [L] => some ⟨SV.one (SC.bool (SB.v (lawL_0 y z n L))),
    [(0, Obj.row true 3 1 (RowC.lst 1 [CK.int IntKind.i64] L))],
    [], [], 84179⟩
  | _, _ => none
theorem lawL_ok : FOk Try.prog 5 (tplS lawL_tpl lawL_out) := by
  refine tplS_ok (runF_ok known_pair 5) fun ps ls r hr hn _ => ?_
  unfold lawL_out at hr
  split at hr
  · cases hr; exact ⟨_, lawL_runs _ _ _ _ (fun p hp => lawL_need p hp), fun _ => by simp only [SV.den, SC.den, SB.val, lawL_0_eq]⟩
  · cases hr
noncomputable def K_lawL : List (Nat × Summ) := (5, tplS lawL_tpl lawL_out) :: K_pair
theorem known_lawL : Known Try.prog (sums K_lawL) L_cr := known_cons known_pair lawL_ok
end Go.Proofs.Ytjlkecfkjcanaaa
