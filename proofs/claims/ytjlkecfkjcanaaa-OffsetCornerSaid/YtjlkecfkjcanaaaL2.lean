/-
  OFFSETCORNER: the walk. Conditions: none.
-/
import Derived.Test.YtjlkecfkjcanaaaV5
import Derived.Test.YtjlkecfkjcanaaaD1
set_option linter.all false
namespace Go.Proofs.Ytjlkecfkjcanaaa
open Go.SX Go.RowKit
noncomputable def lawC_tpl : Tpl := ⟨[.agg [.int .i64, .int .i64], .agg [.int .i64, .int .i64], .one (.int .i64)], [], 0⟩
noncomputable def lawC_s0 (s : Int) : Int :=
  IntKind.i64.wrap (1 - IntKind.i64.wrap (2 * mod_0 s 2))
noncomputable def lawC_0 (p0 : Int) (p1 : Int) (t0 : Int) (t1 : Int) (s : Int) : Bool :=
  true &&
      ocorner_0 (small_0 p0 4194304) (small_0 p1 4194304) (small_0 t0 4194304) (small_0 t1 4194304) (lawC_s0 s) ==
        rcorner_0 (small_0 p0 4194304) (small_0 p1 4194304) (small_0 t0 4194304) (small_0 t1 4194304) (lawC_s0 s) &&
    ocorner_0 (small_0 p0 3) (small_0 p1 3) (small_0 t0 3) (small_0 t1 3) (lawC_s0 s) == rcorner_0 (small_0 p0 3) (small_0 p1 3) (small_0 t0 3) (small_0 t1 3) (lawC_s0 s)
noncomputable def lawC_needs : List Prop :=
  [Int.ofNat 2 ≠ 0, Int.ofNat 8388609 ≠ 0, Int.ofNat 8388609 ≠ 0, Int.ofNat 8388609 ≠ 0, Int.ofNat 8388609 ≠ 0, Int.ofNat 7 ≠ 0, Int.ofNat 7 ≠ 0, Int.ofNat 7 ≠ 0, Int.ofNat 7 ≠ 0]
theorem lawC_0_eq (p0 p1 t0 t1 s : Int) : (lawC_0 p0 p1 t0 t1 s) = true := by
  unfold lawC_0 lawC_s0
  simp only [corner_same, beq_self_eq_true, Bool.and_self]
theorem lawC_need : ∀ q ∈ (lawC_needs), q := by
  unfold lawC_needs
  simp only [List.forall_mem_cons, List.not_mem_nil, false_implies, implies_true, and_true]
  repeat' (first | decide | refine And.intro ?_ ?_ | intro _)
set_option maxRecDepth 1000000 in
theorem lawC_runs (p0 p1 t0 t1 s : Int) (hNeeds : ∀ pN ∈ (lawC_needs), pN) : Runs (runF (sums K_awake) L_cr 4) (lawC_tpl.args [.i p0, .i p1, .i t0, .i t1, .i s]) (lawC_tpl.memo [.i p0, .i p1, .i t0, .i t1, .i s] []) lawC_tpl.n (SV.one (SC.bool (SB.v (lawC_0 p0 p1 t0 t1 s))))
    ([]) :=
  Runs.of (ps := (lawC_needs)) (by kernel_rfl) (by kernel_rfl) hNeeds
noncomputable def lawC_out : List Pm → Lss → Option CRes
  | [.i p0, .i p1, .i t0, .i t1, .i s], [] => some ⟨SV.one (SC.bool (SB.v (lawC_0 p0 p1 t0 t1 s))),
    [],
    [], [], 28360⟩
  | _, _ => none
theorem lawC_ok : FOk Try.prog 4 (tplS lawC_tpl lawC_out) := by
  refine tplS_ok (runF_ok known_awake 4) fun ps ls r hr hn _ => ?_
  unfold lawC_out at hr
  split at hr
  · cases hr; exact ⟨_, lawC_runs _ _ _ _ _ (fun p hp => lawC_need p hp), fun _ => by simp only [SV.den, SC.den, SB.val, lawC_0_eq]⟩
  · cases hr
noncomputable def K_lawC : List (Nat × Summ) := (4, tplS lawC_tpl lawC_out) :: K_awake
theorem known_lawC : Known Try.prog (sums K_lawC) L_cr := known_cons known_awake lawC_ok
end Go.Proofs.Ytjlkecfkjcanaaa
