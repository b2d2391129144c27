/-
  OFFSETNORMAL: the walk. Conditions: none.
-/
import Derived.Test.YtjlkecfkjcanaaaV5
import Derived.Test.YtjlkecfkjcanaaaD1
set_option linter.all false
namespace Go.Proofs.Ytjlkecfkjcanaaa
open Go.SX Go.RowKit
noncomputable def lawN_tpl : Tpl := ⟨[.agg [.int .i64, .int .i64], .agg [.int .i64, .int .i64], .one (.int .i64)], [], 0⟩
noncomputable def lawN_0 (p0 : Int) (p1 : Int) (t0 : Int) (t1 : Int) (r : Int) : Bool :=
  bif !(onormal_0 p0 p1 t0 t1 r == rnormal_0 p0 p1 t0 t1 r && onormal_1 p0 p1 t0 t1 r == rnormal_1 p0 p1 t0 t1 r) || !onormal_2 p0 p1 t0 t1 r == rnormal_2 p0 p1 t0 t1 r then false
  else
    bif
        !(onormal_0 (small_0 p0 1048576) (small_0 p1 1048576) (small_0 t0 4194304) (small_0 t1 4194304) (between_0 r (-32768) 32768) ==
                rnormal_0 (small_0 p0 1048576) (small_0 p1 1048576) (small_0 t0 4194304) (small_0 t1 4194304) (between_0 r (-32768) 32768) &&
              onormal_1 (small_0 p0 1048576) (small_0 p1 1048576) (small_0 t0 4194304) (small_0 t1 4194304) (between_0 r (-32768) 32768) ==
                rnormal_1 (small_0 p0 1048576) (small_0 p1 1048576) (small_0 t0 4194304) (small_0 t1 4194304) (between_0 r (-32768) 32768)) ||
          !onormal_2 (small_0 p0 1048576) (small_0 p1 1048576) (small_0 t0 4194304) (small_0 t1 4194304) (between_0 r (-32768) 32768) ==
              rnormal_2 (small_0 p0 1048576) (small_0 p1 1048576) (small_0 t0 4194304) (small_0 t1 4194304) (between_0 r (-32768) 32768) then
      false
    else true
noncomputable def lawN_s0 (p0 : Int) (p1 : Int) (t0 : Int) (t1 : Int) (r : Int) : Prop :=
  (!(onormal_0 p0 p1 t0 t1 r == rnormal_0 p0 p1 t0 t1 r && onormal_1 p0 p1 t0 t1 r == rnormal_1 p0 p1 t0 t1 r) || !onormal_2 p0 p1 t0 t1 r == rnormal_2 p0 p1 t0 t1 r) = false
noncomputable def lawN_needs (p0 : Int) (p1 : Int) (t0 : Int) (t1 : Int) (r : Int) : List Prop :=
  [lawN_s0 p0 p1 t0 t1 r → Int.ofNat 2097153 ≠ 0 ∧ Int.ofNat 2097153 ≠ 0 ∧ Int.ofNat 8388609 ≠ 0 ∧ Int.ofNat 8388609 ≠ 0 ∧ Int.ofNat 65537 ≠ 0,
    lawN_s0 p0 p1 t0 t1 r →
      (!(onormal_0 (small_0 p0 1048576) (small_0 p1 1048576) (small_0 t0 4194304) (small_0 t1 4194304) (between_0 r (-32768) 32768) ==
                  rnormal_0 (small_0 p0 1048576) (small_0 p1 1048576) (small_0 t0 4194304) (small_0 t1 4194304) (between_0 r (-32768) 32768) &&
                onormal_1 (small_0 p0 1048576) (small_0 p1 1048576) (small_0 t0 4194304) (small_0 t1 4194304) (between_0 r (-32768) 32768) ==
                  rnormal_1 (small_0 p0 1048576) (small_0 p1 1048576) (small_0 t0 4194304) (small_0 t1 4194304) (between_0 r (-32768) 32768)) ||
            !onormal_2 (small_0 p0 1048576) (small_0 p1 1048576) (small_0 t0 4194304) (small_0 t1 4194304) (between_0 r (-32768) 32768) ==
                rnormal_2 (small_0 p0 1048576) (small_0 p1 1048576) (small_0 t0 4194304) (small_0 t1 4194304) (between_0 r (-32768) 32768)) =
          false →
        Int.ofNat 2097153 ≠ 0 ∧ Int.ofNat 2097153 ≠ 0 ∧ Int.ofNat 8388609 ≠ 0 ∧ Int.ofNat 8388609 ≠ 0 ∧ Int.ofNat 65537 ≠ 0]
theorem lawN_0_eq (p0 p1 t0 t1 r : Int) : (lawN_0 p0 p1 t0 t1 r) = true := by
  unfold lawN_0
  have E : ∀ p0 p1 t0 t1 r, _ := normal_same
  simp only [E, beq_self_eq_true, Bool.and_self, Bool.not_true, Bool.or_self, cond_false]
theorem lawN_need {p0 : Int} {p1 : Int} {t0 : Int} {t1 : Int} {r : Int} : ∀ q ∈ (lawN_needs p0 p1 t0 t1 r), q := by
  unfold lawN_needs
  simp only [List.forall_mem_cons, List.not_mem_nil, false_implies, implies_true, and_true]
  repeat' (first | decide | refine And.intro ?_ ?_ | intro _)
set_option maxRecDepth 1000000 in
theorem lawN_runs (p0 p1 t0 t1 r : Int) (hNeeds : ∀ pN ∈ (lawN_needs p0 p1 t0 t1 r), pN) : Runs (runF (sums K_awake) L_cr 3) (lawN_tpl.args [.i p0, .i p1, .i t0, .i t1, .i r]) (lawN_tpl.memo [.i p0, .i p1, .i t0, .i t1, .i r] []) lawN_tpl.n (SV.one (SC.bool (SB.v (lawN_0 p0 p1 t0 t1 r))))
    ([]) :=
  Runs.of (ps := (lawN_needs p0 p1 t0 t1 r)) (by kernel_rfl) (by kernel_rfl) hNeeds
noncomputable def lawN_out : List Pm → Lss → Option CRes
  | [.i p0, .i p1, .i t0, .i t1, .i r], [] => some ⟨SV.one (SC.bool (SB.v (lawN_0 p0 p1 t0 t1 r))),
    [],
    [], [], 35692⟩
  | _, _ => none
theorem lawN_ok : FOk Try.prog 3 (tplS lawN_tpl lawN_out) := by
  refine tplS_ok (runF_ok known_awake 3) fun ps ls r hr hn _ => ?_
  unfold lawN_out at hr
  split at hr
  · cases hr; exact ⟨_, lawN_runs _ _ _ _ _ (fun p hp => lawN_need p hp), fun _ => by simp only [SV.den, SC.den, SB.val, lawN_0_eq]⟩
  · cases hr
noncomputable def K_lawN : List (Nat × Summ) := (3, tplS lawN_tpl lawN_out) :: K_awake
theorem known_lawN : Known Try.prog (sums K_lawN) L_cr := known_cons known_awake lawN_ok
end Go.Proofs.Ytjlkecfkjcanaaa
