/-
  OFFSETTRIM: the walk. Conditions: none.
-/
import Derived.Test.YtjlkecfkjcanaaaV6
import Derived.Test.YtjlkecfkjcanaaaE5
set_option linter.all false
namespace Go.Proofs.Ytjlkecfkjcanaaa
open Go.SX Go.RowKit
noncomputable def lawT_tpl : Tpl := ⟨[.one (.wh 0)], [(0, .row true 3 1 1 [.int .i64])], 2⟩
noncomputable def lawT_0 (L : List (List Int)) : Bool :=
  bif !light_0 L then true
  else
    bif
        !(trim_0 (qa0 L) (qa1 L) (qa2 L) (qa3 L) (qa4 L) (qa5 L) (qa6 L) (qa7 L) (qb0 L) (qb1 L) (qb2 L) (qb3 L) (qb4 L) (qb5 L) (qb6 L) (qb7 L) (qr L) ==
                rtrim_0 (qa0 L) (qa1 L) (qa2 L) (qa3 L) (qa4 L) (qa5 L) (qa6 L) (qa7 L) (qb0 L) (qb1 L) (qb2 L) (qb3 L) (qb4 L) (qb5 L) (qb6 L) (qb7 L) (qr L) &&
              trim_1 (qa0 L) (qa1 L) (qa2 L) (qa3 L) (qa4 L) (qa5 L) (qa6 L) (qa7 L) (qb0 L) (qb1 L) (qb2 L) (qb3 L) (qb4 L) (qb5 L) (qb6 L) (qb7 L) (qr L) ==
                rtrim_1 (qa0 L) (qa1 L) (qa2 L) (qa3 L) (qa4 L) (qa5 L) (qa6 L) (qa7 L) (qb0 L) (qb1 L) (qb2 L) (qb3 L) (qb4 L) (qb5 L) (qb6 L) (qb7 L) (qr L)) ||
          trim_2 (qa0 L) (qa1 L) (qa2 L) (qa3 L) (qa4 L) (qa5 L) (qa6 L) (qa7 L) (qb0 L) (qb1 L) (qb2 L) (qb3 L) (qb4 L) (qb5 L) (qb6 L) (qb7 L) (qr L) !=
            rtrim_2 (qa0 L) (qa1 L) (qa2 L) (qa3 L) (qa4 L) (qa5 L) (qa6 L) (qa7 L) (qb0 L) (qb1 L) (qb2 L) (qb3 L) (qb4 L) (qb5 L) (qb6 L) (qb7 L) (qr L) then
      false
    else
      bif
          !(trim_0 (qa0 L) (qa1 L) (qa2 L) (qa3 L) (qa4 L) (qa5 L) (qa6 L) (qa7 L) (qb0 L) (qb1 L) (qb2 L) (qb3 L) (qb4 L) (qb5 L) (qb6 L) (qb7 L) (IntKind.i64.wrap (0 - qr L)) ==
                  rtrim_0 (qa0 L) (qa1 L) (qa2 L) (qa3 L) (qa4 L) (qa5 L) (qa6 L) (qa7 L) (qb0 L) (qb1 L) (qb2 L) (qb3 L) (qb4 L) (qb5 L) (qb6 L) (qb7 L) (IntKind.i64.wrap (0 - qr L)) &&
                trim_1 (qa0 L) (qa1 L) (qa2 L) (qa3 L) (qa4 L) (qa5 L) (qa6 L) (qa7 L) (qb0 L) (qb1 L) (qb2 L) (qb3 L) (qb4 L) (qb5 L) (qb6 L) (qb7 L) (IntKind.i64.wrap (0 - qr L)) ==
                  rtrim_1 (qa0 L) (qa1 L) (qa2 L) (qa3 L) (qa4 L) (qa5 L) (qa6 L) (qa7 L) (qb0 L) (qb1 L) (qb2 L) (qb3 L) (qb4 L) (qb5 L) (qb6 L) (qb7 L) (IntKind.i64.wrap (0 - qr L))) ||
            trim_2 (qa0 L) (qa1 L) (qa2 L) (qa3 L) (qa4 L) (qa5 L) (qa6 L) (qa7 L) (qb0 L) (qb1 L) (qb2 L) (qb3 L) (qb4 L) (qb5 L) (qb6 L) (qb7 L) (IntKind.i64.wrap (0 - qr L)) !=
              rtrim_2 (qa0 L) (qa1 L) (qa2 L) (qa3 L) (qa4 L) (qa5 L) (qa6 L) (qa7 L) (qb0 L) (qb1 L) (qb2 L) (qb3 L) (qb4 L) (qb5 L) (qb6 L) (qb7 L) (IntKind.i64.wrap (0 - qr L)) then
        false
      else true
noncomputable def lawT_needs (L : List (List Int)) : List Prop :=
  [(!light_0 L) = false → L.length ≤ 1000000]
theorem lawT_0_eq (L : List (List Int)) : (lawT_0 L) = true := by
  unfold lawT_0
  cases !light_0 L
  · rw [cond_false]
    obtain ⟨A, B, hr⟩ := pair_ep L
    have hw : bd 1000000000 (IntKind.i64.wrap (0 - qr L)) := by rw [wrI (by omega) (by omega)]; omega
    have a := trim_same (r := qr L) (qa7 L) (qb7 L) A B (by omega)
    have b := trim_same (r := IntKind.i64.wrap (0 - qr L)) (qa7 L) (qb7 L) A B hw
    simp only [a, b, beq_self_eq_true, bne_self_eq_false, Bool.and_self, Bool.not_true, Bool.or_self, cond_false]
  · rfl
theorem lawT_need {L : List (List Int)} : ∀ q ∈ (lawT_needs L), q := by
  unfold lawT_needs
  simp only [List.forall_mem_cons, List.not_mem_nil, false_implies, implies_true, and_true]
  intro h
  have := light_len (L := L) (by simpa using h)
  repeat' (first | assumption | decide | apply And.intro | intro _)
set_option maxRecDepth 1000000 in
theorem lawT_runs (L : List (List Int)) (hNeeds : ∀ pN ∈ (lawT_needs L), pN) : Runs (runF (sums K_rtrim) L_fa 8) (lawT_tpl.args []) (lawT_tpl.memo [] [L]) lawT_tpl.n (SV.one (SC.bool (SB.v (lawT_0 L))))
    ([(0, Obj.row true 3 1 (RowC.lst 1 [CK.int IntKind.i64] L))]) :=
  Runs.of (ps := (lawT_needs L)) (by kernel_rfl) (by kernel_rfl) hNeeds
noncomputable def lawT_out : List Pm → Lss → Option CRes
  | [], [L] => some ⟨SV.one (SC.bool (SB.v (lawT_0 L))),
    [(0, Obj.row true 3 1 (RowC.lst 1 [CK.int IntKind.i64] L))],
    [], [], 155086⟩
  | _, _ => none
theorem lawT_ok : FOk Try.prog 8 (tplS lawT_tpl lawT_out) := by
  refine tplS_ok (runF_ok known_rtrim 8) fun ps ls r hr hn _ => ?_
  unfold lawT_out at hr
  split at hr
  · cases hr; exact ⟨_, lawT_runs _ (fun p hp => lawT_need p hp), fun _ => by simp only [SV.den, SC.den, SB.val, lawT_0_eq]⟩
  · cases hr
noncomputable def K_lawT : List (Nat × Summ) := (8, tplS lawT_tpl lawT_out) :: K_rtrim
theorem known_lawT : Known Try.prog (sums K_lawT) L_fa := known_cons known_rtrim lawT_ok
end Go.Proofs.Ytjlkecfkjcanaaa
