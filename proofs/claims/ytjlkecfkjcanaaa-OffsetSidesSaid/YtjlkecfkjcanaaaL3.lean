/-
  OFFSETSIDES: the walk. Conditions: none.
-/
import Derived.Test.YtjlkecfkjcanaaaV5
import Derived.Test.YtjlkecfkjcanaaaD2
set_option linter.all false
namespace Go.Proofs.Ytjlkecfkjcanaaa
open Go.SX Go.RowKit
noncomputable def lawS_tpl : Tpl := ⟨[.agg [.int .i64, .int .i64], .agg [.int .i64, .int .i64]], [], 0⟩
noncomputable def lawS_0 (p0 : Int) (p1 : Int) (t0 : Int) (t1 : Int) : Bool :=
  bif vcross_0 (small_0 p0 90000) (small_0 p1 90000) (small_0 t0 90000) (small_0 t1 90000) == 0 then
    true && ocorner_0 (small_0 p0 90000) (small_0 p1 90000) (small_0 t0 90000) (small_0 t1 90000) 1 == ocorner_0 (small_0 p0 90000) (small_0 p1 90000) (small_0 t0 90000) (small_0 t1 90000) (-1) &&
        ocorner_0 (small_0 p0 90000) (small_0 p1 90000) (small_0 t0 90000) (small_0 t1 90000) 1 != 2 &&
      (ocorner_0 (small_0 p0 90000) (small_0 p1 90000) (small_0 t0 90000) (small_0 t1 90000) 1 == 0) == decide (vinner_0 (small_0 p0 90000) (small_0 p1 90000) (small_0 t0 90000) (small_0 t1 90000) > 0)
  else
    true &&
      (ocorner_0 (small_0 p0 90000) (small_0 p1 90000) (small_0 t0 90000) (small_0 t1 90000) 1 == 2 && ocorner_0 (small_0 p0 90000) (small_0 p1 90000) (small_0 t0 90000) (small_0 t1 90000) (-1) == 1 ||
        ocorner_0 (small_0 p0 90000) (small_0 p1 90000) (small_0 t0 90000) (small_0 t1 90000) 1 == 1 && ocorner_0 (small_0 p0 90000) (small_0 p1 90000) (small_0 t0 90000) (small_0 t1 90000) (-1) == 2)
noncomputable def lawS_needs : List Prop :=
  [Int.ofNat 180001 ≠ 0, Int.ofNat 180001 ≠ 0, Int.ofNat 180001 ≠ 0, Int.ofNat 180001 ≠ 0]
theorem lawS_0_eq (p0 p1 t0 t1 : Int) : (lawS_0 p0 p1 t0 t1) = true := by
  unfold lawS_0
  exact sides_law _ _ _ _
theorem lawS_need : ∀ q ∈ (lawS_needs), q := by
  unfold lawS_needs
  simp only [List.forall_mem_cons, List.not_mem_nil, false_implies, implies_true, and_true]
  repeat' (first | decide | refine And.intro ?_ ?_ | intro _)
set_option maxRecDepth 1000000 in
theorem lawS_runs (p0 p1 t0 t1 : Int) (hNeeds : ∀ pN ∈ (lawS_needs), pN) : Runs (runF (sums K_awake) L_cr 11) (lawS_tpl.args [.i p0, .i p1, .i t0, .i t1]) (lawS_tpl.memo [.i p0, .i p1, .i t0, .i t1] []) lawS_tpl.n (SV.one (SC.bool (SB.v (lawS_0 p0 p1 t0 t1))))
    ([]) :=
  Runs.of (ps := (lawS_needs)) (by kernel_rfl) (by kernel_rfl) hNeeds
noncomputable def lawS_out : List Pm → Lss → Option CRes
  | [.i p0, .i p1, .i t0, .i t1], [] => some ⟨SV.one (SC.bool (SB.v (lawS_0 p0 p1 t0 t1))),
    [],
    [], [], 55731⟩
  | _, _ => none
theorem lawS_ok : FOk Try.prog 11 (tplS lawS_tpl lawS_out) := by
  refine tplS_ok (runF_ok known_awake 11) fun ps ls r hr hn _ => ?_
  unfold lawS_out at hr
  split at hr
  · cases hr; exact ⟨_, lawS_runs _ _ _ _ (fun p hp => lawS_need p hp), fun _ => by simp only [SV.den, SC.den, SB.val, lawS_0_eq]⟩
  · cases hr
noncomputable def K_lawS : List (Nat × Summ) := (11, tplS lawS_tpl lawS_out) :: K_awake
theorem known_lawS : Known Try.prog (sums K_lawS) L_cr := known_cons known_awake lawS_ok
end Go.Proofs.Ytjlkecfkjcanaaa
