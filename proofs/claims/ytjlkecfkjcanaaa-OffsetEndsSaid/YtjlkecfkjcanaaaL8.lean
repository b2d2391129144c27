/-
  OFFSETENDS: the walk. Conditions: none.
-/
import Derived.Test.YtjlkecfkjcanaaaG1
import Derived.Test.YtjlkecfkjcanaaaE2
set_option linter.all false
namespace Go.Proofs.Ytjlkecfkjcanaaa
open Go.SX Go.RowKit
noncomputable def lawE_tpl : Tpl := ⟨[.one (.wh 0), .one (.int .i64)], [(0, .row true 3 1 1 [.int .i64])], 2⟩
noncomputable def lawE_0 (n : Int) (L : List (List Int)) : Bool :=
  bif !light_0 L then true
  else
    bif
        !(oends_0 (qa0 L) (qa1 L) (qa2 L) (qa3 L) (qa4 L) (qa5 L) (qa6 L) (qr L) == rends_0 (qa0 L) (qa1 L) (qa2 L) (qa3 L) (qa4 L) (qa5 L) (qa6 L) (qr L) &&
                oends_1 (qa0 L) (qa1 L) (qa2 L) (qa3 L) (qa4 L) (qa5 L) (qa6 L) (qr L) == rends_1 (qa0 L) (qa1 L) (qa2 L) (qa3 L) (qa4 L) (qa5 L) (qa6 L) (qr L)) ||
            !(oends_2 (qa0 L) (qa1 L) (qa2 L) (qa3 L) (qa4 L) (qa5 L) (qa6 L) (qr L) == rends_2 (qa0 L) (qa1 L) (qa2 L) (qa3 L) (qa4 L) (qa5 L) (qa6 L) (qr L) &&
                oends_3 (qa0 L) (qa1 L) (qa2 L) (qa3 L) (qa4 L) (qa5 L) (qa6 L) (qr L) == rends_3 (qa0 L) (qa1 L) (qa2 L) (qa3 L) (qa4 L) (qa5 L) (qa6 L) (qr L)) ||
          oends_4 (qa0 L) (qa1 L) (qa2 L) (qa3 L) (qa4 L) (qa5 L) (qa6 L) (qr L) != rends_4 (qa0 L) (qa1 L) (qa2 L) (qa3 L) (qa4 L) (qa5 L) (qa6 L) (qr L) then
      false
    else
      bif
          !(oends_0 (qa0 L) (qa1 L) (qa2 L) (qa3 L) (qa4 L) (qa5 L) (qa6 L) (IntKind.i64.wrap (0 - qr L)) ==
                    rends_0 (qa0 L) (qa1 L) (qa2 L) (qa3 L) (qa4 L) (qa5 L) (qa6 L) (IntKind.i64.wrap (0 - qr L)) &&
                  oends_1 (qa0 L) (qa1 L) (qa2 L) (qa3 L) (qa4 L) (qa5 L) (qa6 L) (IntKind.i64.wrap (0 - qr L)) ==
                    rends_1 (qa0 L) (qa1 L) (qa2 L) (qa3 L) (qa4 L) (qa5 L) (qa6 L) (IntKind.i64.wrap (0 - qr L))) ||
              !(oends_2 (qa0 L) (qa1 L) (qa2 L) (qa3 L) (qa4 L) (qa5 L) (qa6 L) (IntKind.i64.wrap (0 - qr L)) ==
                    rends_2 (qa0 L) (qa1 L) (qa2 L) (qa3 L) (qa4 L) (qa5 L) (qa6 L) (IntKind.i64.wrap (0 - qr L)) &&
                  oends_3 (qa0 L) (qa1 L) (qa2 L) (qa3 L) (qa4 L) (qa5 L) (qa6 L) (IntKind.i64.wrap (0 - qr L)) ==
                    rends_3 (qa0 L) (qa1 L) (qa2 L) (qa3 L) (qa4 L) (qa5 L) (qa6 L) (IntKind.i64.wrap (0 - qr L))) ||
            oends_4 (qa0 L) (qa1 L) (qa2 L) (qa3 L) (qa4 L) (qa5 L) (qa6 L) (IntKind.i64.wrap (0 - qr L)) !=
              rends_4 (qa0 L) (qa1 L) (qa2 L) (qa3 L) (qa4 L) (qa5 L) (qa6 L) (IntKind.i64.wrap (0 - qr L)) then
        false
      else
        bif
            !(oends_0 (qa0 L) (qa1 L) (qa2 L) (qa3 L) (qa4 L) (qa5 L) (qa6 L) (between_0 n (-32768) 32768) ==
                      rends_0 (qa0 L) (qa1 L) (qa2 L) (qa3 L) (qa4 L) (qa5 L) (qa6 L) (between_0 n (-32768) 32768) &&
                    oends_1 (qa0 L) (qa1 L) (qa2 L) (qa3 L) (qa4 L) (qa5 L) (qa6 L) (between_0 n (-32768) 32768) ==
                      rends_1 (qa0 L) (qa1 L) (qa2 L) (qa3 L) (qa4 L) (qa5 L) (qa6 L) (between_0 n (-32768) 32768)) ||
                !(oends_2 (qa0 L) (qa1 L) (qa2 L) (qa3 L) (qa4 L) (qa5 L) (qa6 L) (between_0 n (-32768) 32768) ==
                      rends_2 (qa0 L) (qa1 L) (qa2 L) (qa3 L) (qa4 L) (qa5 L) (qa6 L) (between_0 n (-32768) 32768) &&
                    oends_3 (qa0 L) (qa1 L) (qa2 L) (qa3 L) (qa4 L) (qa5 L) (qa6 L) (between_0 n (-32768) 32768) ==
                      rends_3 (qa0 L) (qa1 L) (qa2 L) (qa3 L) (qa4 L) (qa5 L) (qa6 L) (between_0 n (-32768) 32768)) ||
              oends_4 (qa0 L) (qa1 L) (qa2 L) (qa3 L) (qa4 L) (qa5 L) (qa6 L) (between_0 n (-32768) 32768) !=
                rends_4 (qa0 L) (qa1 L) (qa2 L) (qa3 L) (qa4 L) (qa5 L) (qa6 L) (between_0 n (-32768) 32768) then
          false
        else
          bif
              !(oends_0 (qb0 L) (qb1 L) (qb2 L) (qb3 L) (qb4 L) (qb5 L) (qb6 L) (qr L) == rends_0 (qb0 L) (qb1 L) (qb2 L) (qb3 L) (qb4 L) (qb5 L) (qb6 L) (qr L) &&
                      oends_1 (qb0 L) (qb1 L) (qb2 L) (qb3 L) (qb4 L) (qb5 L) (qb6 L) (qr L) == rends_1 (qb0 L) (qb1 L) (qb2 L) (qb3 L) (qb4 L) (qb5 L) (qb6 L) (qr L)) ||
                  !(oends_2 (qb0 L) (qb1 L) (qb2 L) (qb3 L) (qb4 L) (qb5 L) (qb6 L) (qr L) == rends_2 (qb0 L) (qb1 L) (qb2 L) (qb3 L) (qb4 L) (qb5 L) (qb6 L) (qr L) &&
                      oends_3 (qb0 L) (qb1 L) (qb2 L) (qb3 L) (qb4 L) (qb5 L) (qb6 L) (qr L) == rends_3 (qb0 L) (qb1 L) (qb2 L) (qb3 L) (qb4 L) (qb5 L) (qb6 L) (qr L)) ||
                oends_4 (qb0 L) (qb1 L) (qb2 L) (qb3 L) (qb4 L) (qb5 L) (qb6 L) (qr L) != rends_4 (qb0 L) (qb1 L) (qb2 L) (qb3 L) (qb4 L) (qb5 L) (qb6 L) (qr L) then
            false
          else
            bif
                !(oends_0 (qb0 L) (qb1 L) (qb2 L) (qb3 L) (qb4 L) (qb5 L) (qb6 L) (IntKind.i64.wrap (0 - qr L)) ==
                          rends_0 (qb0 L) (qb1 L) (qb2 L) (qb3 L) (qb4 L) (qb5 L) (qb6 L) (IntKind.i64.wrap (0 - qr L)) &&
                        oends_1 (qb0 L) (qb1 L) (qb2 L) (qb3 L) (qb4 L) (qb5 L) (qb6 L) (IntKind.i64.wrap (0 - qr L)) ==
                          rends_1 (qb0 L) (qb1 L) (qb2 L) (qb3 L) (qb4 L) (qb5 L) (qb6 L) (IntKind.i64.wrap (0 - qr L))) ||
                    !(oends_2 (qb0 L) (qb1 L) (qb2 L) (qb3 L) (qb4 L) (qb5 L) (qb6 L) (IntKind.i64.wrap (0 - qr L)) ==
                          rends_2 (qb0 L) (qb1 L) (qb2 L) (qb3 L) (qb4 L) (qb5 L) (qb6 L) (IntKind.i64.wrap (0 - qr L)) &&
                        oends_3 (qb0 L) (qb1 L) (qb2 L) (qb3 L) (qb4 L) (qb5 L) (qb6 L) (IntKind.i64.wrap (0 - qr L)) ==
                          rends_3 (qb0 L) (qb1 L) (qb2 L) (qb3 L) (qb4 L) (qb5 L) (qb6 L) (IntKind.i64.wrap (0 - qr L))) ||
                  oends_4 (qb0 L) (qb1 L) (qb2 L) (qb3 L) (qb4 L) (qb5 L) (qb6 L) (IntKind.i64.wrap (0 - qr L)) !=
                    rends_4 (qb0 L) (qb1 L) (qb2 L) (qb3 L) (qb4 L) (qb5 L) (qb6 L) (IntKind.i64.wrap (0 - qr L)) then
              false
            else
              bif
                  !(oends_0 (qb0 L) (qb1 L) (qb2 L) (qb3 L) (qb4 L) (qb5 L) (qb6 L) (between_0 n (-32768) 32768) ==
                            rends_0 (qb0 L) (qb1 L) (qb2 L) (qb3 L) (qb4 L) (qb5 L) (qb6 L) (between_0 n (-32768) 32768) &&
                          oends_1 (qb0 L) (qb1 L) (qb2 L) (qb3 L) (qb4 L) (qb5 L) (qb6 L) (between_0 n (-32768) 32768) ==
                            rends_1 (qb0 L) (qb1 L) (qb2 L) (qb3 L) (qb4 L) (qb5 L) (qb6 L) (between_0 n (-32768) 32768)) ||
                      !(oends_2 (qb0 L) (qb1 L) (qb2 L) (qb3 L) (qb4 L) (qb5 L) (qb6 L) (between_0 n (-32768) 32768) ==
                            rends_2 (qb0 L) (qb1 L) (qb2 L) (qb3 L) (qb4 L) (qb5 L) (qb6 L) (between_0 n (-32768) 32768) &&
                          oends_3 (qb0 L) (qb1 L) (qb2 L) (qb3 L) (qb4 L) (qb5 L) (qb6 L) (between_0 n (-32768) 32768) ==
                            rends_3 (qb0 L) (qb1 L) (qb2 L) (qb3 L) (qb4 L) (qb5 L) (qb6 L) (between_0 n (-32768) 32768)) ||
                    oends_4 (qb0 L) (qb1 L) (qb2 L) (qb3 L) (qb4 L) (qb5 L) (qb6 L) (between_0 n (-32768) 32768) !=
                      rends_4 (qb0 L) (qb1 L) (qb2 L) (qb3 L) (qb4 L) (qb5 L) (qb6 L) (between_0 n (-32768) 32768) then
                false
              else true
noncomputable def lawE_needs (n : Int) (L : List (List Int)) : List Prop :=
  [(!light_0 L) = false →
      L.length ≤ 1000000 ∧
        Int.ofNat 65537 ≠ 0 ∧
          ((!(oends_0 (qa0 L) (qa1 L) (qa2 L) (qa3 L) (qa4 L) (qa5 L) (qa6 L) (qr L) == rends_0 (qa0 L) (qa1 L) (qa2 L) (qa3 L) (qa4 L) (qa5 L) (qa6 L) (qr L) &&
                      oends_1 (qa0 L) (qa1 L) (qa2 L) (qa3 L) (qa4 L) (qa5 L) (qa6 L) (qr L) == rends_1 (qa0 L) (qa1 L) (qa2 L) (qa3 L) (qa4 L) (qa5 L) (qa6 L) (qr L)) ||
                  !(oends_2 (qa0 L) (qa1 L) (qa2 L) (qa3 L) (qa4 L) (qa5 L) (qa6 L) (qr L) == rends_2 (qa0 L) (qa1 L) (qa2 L) (qa3 L) (qa4 L) (qa5 L) (qa6 L) (qr L) &&
                      oends_3 (qa0 L) (qa1 L) (qa2 L) (qa3 L) (qa4 L) (qa5 L) (qa6 L) (qr L) == rends_3 (qa0 L) (qa1 L) (qa2 L) (qa3 L) (qa4 L) (qa5 L) (qa6 L) (qr L)) ||
                oends_4 (qa0 L) (qa1 L) (qa2 L) (qa3 L) (qa4 L) (qa5 L) (qa6 L) (qr L) != rends_4 (qa0 L) (qa1 L) (qa2 L) (qa3 L) (qa4 L) (qa5 L) (qa6 L) (qr L)) =
              false →
            (!(oends_0 (qa0 L) (qa1 L) (qa2 L) (qa3 L) (qa4 L) (qa5 L) (qa6 L) (IntKind.i64.wrap (0 - qr L)) ==
                          rends_0 (qa0 L) (qa1 L) (qa2 L) (qa3 L) (qa4 L) (qa5 L) (qa6 L) (IntKind.i64.wrap (0 - qr L)) &&
                        oends_1 (qa0 L) (qa1 L) (qa2 L) (qa3 L) (qa4 L) (qa5 L) (qa6 L) (IntKind.i64.wrap (0 - qr L)) ==
                          rends_1 (qa0 L) (qa1 L) (qa2 L) (qa3 L) (qa4 L) (qa5 L) (qa6 L) (IntKind.i64.wrap (0 - qr L))) ||
                    !(oends_2 (qa0 L) (qa1 L) (qa2 L) (qa3 L) (qa4 L) (qa5 L) (qa6 L) (IntKind.i64.wrap (0 - qr L)) ==
                          rends_2 (qa0 L) (qa1 L) (qa2 L) (qa3 L) (qa4 L) (qa5 L) (qa6 L) (IntKind.i64.wrap (0 - qr L)) &&
                        oends_3 (qa0 L) (qa1 L) (qa2 L) (qa3 L) (qa4 L) (qa5 L) (qa6 L) (IntKind.i64.wrap (0 - qr L)) ==
                          rends_3 (qa0 L) (qa1 L) (qa2 L) (qa3 L) (qa4 L) (qa5 L) (qa6 L) (IntKind.i64.wrap (0 - qr L))) ||
                  oends_4 (qa0 L) (qa1 L) (qa2 L) (qa3 L) (qa4 L) (qa5 L) (qa6 L) (IntKind.i64.wrap (0 - qr L)) !=
                    rends_4 (qa0 L) (qa1 L) (qa2 L) (qa3 L) (qa4 L) (qa5 L) (qa6 L) (IntKind.i64.wrap (0 - qr L))) =
                false →
              (!(oends_0 (qa0 L) (qa1 L) (qa2 L) (qa3 L) (qa4 L) (qa5 L) (qa6 L) (between_0 n (-32768) 32768) ==
                            rends_0 (qa0 L) (qa1 L) (qa2 L) (qa3 L) (qa4 L) (qa5 L) (qa6 L) (between_0 n (-32768) 32768) &&
                          oends_1 (qa0 L) (qa1 L) (qa2 L) (qa3 L) (qa4 L) (qa5 L) (qa6 L) (between_0 n (-32768) 32768) ==
                            rends_1 (qa0 L) (qa1 L) (qa2 L) (qa3 L) (qa4 L) (qa5 L) (qa6 L) (between_0 n (-32768) 32768)) ||
                      !(oends_2 (qa0 L) (qa1 L) (qa2 L) (qa3 L) (qa4 L) (qa5 L) (qa6 L) (between_0 n (-32768) 32768) ==
                            rends_2 (qa0 L) (qa1 L) (qa2 L) (qa3 L) (qa4 L) (qa5 L) (qa6 L) (between_0 n (-32768) 32768) &&
                          oends_3 (qa0 L) (qa1 L) (qa2 L) (qa3 L) (qa4 L) (qa5 L) (qa6 L) (between_0 n (-32768) 32768) ==
                            rends_3 (qa0 L) (qa1 L) (qa2 L) (qa3 L) (qa4 L) (qa5 L) (qa6 L) (between_0 n (-32768) 32768)) ||
                    oends_4 (qa0 L) (qa1 L) (qa2 L) (qa3 L) (qa4 L) (qa5 L) (qa6 L) (between_0 n (-32768) 32768) !=
                      rends_4 (qa0 L) (qa1 L) (qa2 L) (qa3 L) (qa4 L) (qa5 L) (qa6 L) (between_0 n (-32768) 32768)) =
                  false →
                Int.ofNat 65537 ≠ 0)]
theorem lawE_0_eq (n : Int) (L : List (List Int)) : (lawE_0 n L) = true := by
  unfold lawE_0
  cases !light_0 L
  · rw [cond_false]
    obtain ⟨A, B, hr⟩ := pair_ep L
    have a := fun r => ends_same r A
    have b := fun r => ends_same r B
    simp only [a, b, beq_self_eq_true, bne_self_eq_false, Bool.and_self, Bool.not_true, Bool.or_self, cond_false]
  · rfl
theorem lawE_need {n : Int} {L : List (List Int)} : ∀ q ∈ (lawE_needs n L), q := by
  unfold lawE_needs
  simp only [List.forall_mem_cons, List.not_mem_nil, false_implies, implies_true, and_true]
  intro h
  have := light_len (L := L) (by simpa using h)
  repeat' (first | assumption | decide | apply And.intro | intro _)
set_option maxRecDepth 1000000 in
theorem lawE_runs (n : Int) (L : List (List Int)) (hNeeds : ∀ pN ∈ (lawE_needs n L), pN) : Runs (runF (sums K_pair) L_cr 6) (lawE_tpl.args [.i n]) (lawE_tpl.memo [.i n] [L]) lawE_tpl.n (SV.one (SC.bool (SB.v (lawE_0 n L))))
    ([(0, Obj.row true 3 1 (RowC.lst 1 [CK.int IntKind.i64] L))]) :=
  Runs.of (ps := (lawE_needs n L)) (by kernel_rfl) (by kernel_rfl) hNeeds
noncomputable def lawE_out : List Pm → Lss → Option CRes
  | [.i n], [L] => some ⟨SV.one (SC.bool (SB.v (lawE_0 n L))),
    [(0, Obj.row true 3 1 (RowC.lst 1 [CK.int IntKind.i64] L))],
    [], [], 180993⟩
  | _, _ => none
theorem lawE_ok : FOk Try.prog 6 (tplS lawE_tpl lawE_out) := by
  refine tplS_ok (runF_ok known_pair 6) fun ps ls r hr hn _ => ?_
  unfold lawE_out at hr
  split at hr
  · cases hr; exact ⟨_, lawE_runs _ _ (fun p hp => lawE_need p hp), fun _ => by simp only [SV.den, SC.den, SB.val, lawE_0_eq]⟩
  · cases hr
noncomputable def K_lawE : List (Nat × Summ) := (6, tplS lawE_tpl lawE_out) :: K_pair
theorem known_lawE : Known Try.prog (sums K_lawE) L_cr := known_cons known_pair lawE_ok
end Go.Proofs.Ytjlkecfkjcanaaa
