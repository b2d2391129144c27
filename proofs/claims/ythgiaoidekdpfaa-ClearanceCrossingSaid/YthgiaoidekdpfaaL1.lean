/-
  CLEARANCECROSSING: the walk. Conditions: none.
-/
import Derived.Test.YthgiaoidekdpfaaP1
set_option linter.all false
namespace Go.Proofs.Ythgiaoidekdpfaa
open Go.SX Go.RowKit
noncomputable def awake_tpl : Tpl := ⟨[], [], 0⟩
set_option maxRecDepth 1000000 in
theorem awake_runs : Runs (runF (sums K_near) L_mul 12) (awake_tpl.args []) (awake_tpl.memo [] []) awake_tpl.n (SV.one (SC.bool (SB.v true)))
    ([]) :=
  Runs.of (ps := []) (by kernel_rfl) (by kernel_rfl) (by simp)
noncomputable def awake_out : List Pm → Lss → Option CRes
  | [], [] => some ⟨SV.one (SC.bool (SB.v true)),
    [],
    [], [], 1565⟩
  | _, _ => none
theorem awake_ok : FOk Try.prog 12 (tplS awake_tpl awake_out) := by
  refine tplS_ok (runF_ok known_near 12) fun ps ls r hr hn _ => ?_
  unfold awake_out at hr
  split at hr
  · cases hr; exact ⟨_, awake_runs, fun _ => rfl⟩
  · cases hr
noncomputable def K_awake : List (Nat × Summ) := (12, tplS awake_tpl awake_out) :: K_near
theorem known_awake : Known Try.prog (sums K_awake) L_mul := known_cons known_near awake_ok
noncomputable def lawX_tpl : Tpl := ⟨[.agg [.int .i64, .int .i64], .agg [.int .i64, .int .i64], .agg [.int .i64, .int .i64], .agg [.int .i64, .int .i64], .agg [.int .i64, .int .i64]], [], 0⟩
noncomputable def lawX_s0 (p0 : Int) (p1 : Int) (q0 : Int) (q1 : Int) (s0 : Int) (s1 : Int) (t0 : Int) (t1 : Int) : Bool :=
  ccross_0 (small_0 p0 40) (small_0 p1 40) (small_0 q0 40) (small_0 q1 40) 0 (small_0 s0 40) (small_0 s1 40) (small_0 t0 40) (small_0 t1 40) 0
noncomputable def lawX_0 (p0 : Int) (p1 : Int) (q0 : Int) (q1 : Int) (s0 : Int) (s1 : Int) (t0 : Int) (t1 : Int) (d0 : Int) (d1 : Int) : Bool :=
  bif small_0 p0 40 == small_0 q0 40 && small_0 p1 40 == small_0 q1 40 || small_0 s0 40 == small_0 t0 40 && small_0 s1 40 == small_0 t1 40 then true
  else
    true &&
            ccross_0 (addpt_0 (small_0 p0 40) (small_0 d0 9000)) (addpt_0 (small_0 p1 40) (small_0 d1 9000)) (addpt_0 (small_0 q0 40) (small_0 d0 9000)) (addpt_0 (small_0 q1 40) (small_0 d1 9000)) 0
                (addpt_0 (small_0 s0 40) (small_0 d0 9000)) (addpt_0 (small_0 s1 40) (small_0 d1 9000)) (addpt_0 (small_0 t0 40) (small_0 d0 9000)) (addpt_0 (small_0 t1 40) (small_0 d1 9000)) 0 ==
              lawX_s0 p0 p1 q0 q1 s0 s1 t0 t1 &&
          (!lawX_s0 p0 p1 q0 q1 s0 s1 t0 t1 ||
            vcross_0 (minus_0 (small_0 q0 40) (small_0 p0 40)) (minus_0 (small_0 q1 40) (small_0 p1 40)) (minus_0 (small_0 t0 40) (small_0 s0 40)) (minus_0 (small_0 t1 40) (small_0 s1 40)) != 0) &&
        (!(!!dstC Cl (small_0 p0 40) (small_0 p1 40) (small_0 q0 40) (small_0 q1 40) 0 0 0 false (small_0 s0 40) (small_0 s1 40) 1 ||
                !!dstC Cl (small_0 p0 40) (small_0 p1 40) (small_0 q0 40) (small_0 q1 40) 0 0 0 false (small_0 t0 40) (small_0 t1 40) 1) ||
            !dstC Cg (small_0 p0 40) (small_0 p1 40) (small_0 q0 40) (small_0 q1 40) 0 0 0 false (small_0 s0 40) (small_0 s1 40) 1 ||
          !dstC Cg (small_0 p0 40) (small_0 p1 40) (small_0 q0 40) (small_0 q1 40) 0 0 0 false (small_0 t0 40) (small_0 t1 40) 1) &&
      !ccross_0 (small_0 p0 40) (small_0 p1 40) (small_0 q0 40) (small_0 q1 40) 0 (small_0 p0 40) (small_0 p1 40) (small_0 q0 40) (small_0 q1 40) 0
noncomputable def lawX_needs (p0 : Int) (p1 : Int) (q0 : Int) (q1 : Int) (s0 : Int) (s1 : Int) (t0 : Int) (t1 : Int) : List Prop :=
  [Int.ofNat 81 ≠ 0, Int.ofNat 81 ≠ 0, Int.ofNat 81 ≠ 0, Int.ofNat 81 ≠ 0, Int.ofNat 81 ≠ 0, Int.ofNat 81 ≠ 0, Int.ofNat 81 ≠ 0, Int.ofNat 81 ≠ 0,
    (small_0 p0 40 == small_0 q0 40 && small_0 p1 40 == small_0 q1 40 || small_0 s0 40 == small_0 t0 40 && small_0 s1 40 == small_0 t1 40) = false → Int.ofNat 18001 ≠ 0 ∧ Int.ofNat 18001 ≠ 0]
theorem lawX_0_eq (p0 p1 q0 q1 s0 s1 t0 t1 d0 d1 : Int) : (lawX_0 p0 p1 q0 q1 s0 s1 t0 t1 d0 d1) = true := by
  unfold lawX_0 lawX_s0
  cases small_0 p0 40 == small_0 q0 40 && small_0 p1 40 == small_0 q1 40 || small_0 s0 40 == small_0 t0 40 && small_0 s1 40 == small_0 t1 40
  · rw [cond_false]
    have r : ∀ x, bd 40 (small_0 x 40) := fun x => small_rng x 40 (by omega) (by omega)
    have r' : ∀ x, bd 9000 (small_0 x 9000) := fun x => small_rng x 9000 (by omega) (by omega)
    exact crossing_law (r _) (r _) (r _) (r _) (r _) (r _) (r _) (r _) (r' _) (r' _)
  · rfl
theorem lawX_need {p0 : Int} {p1 : Int} {q0 : Int} {q1 : Int} {s0 : Int} {s1 : Int} {t0 : Int} {t1 : Int} : ∀ q ∈ (lawX_needs p0 p1 q0 q1 s0 s1 t0 t1), q := by
  intro q hq
  unfold lawX_needs at hq
  simp only [List.mem_cons, List.not_mem_nil, or_false] at hq
  rcases hq with rfl | rfl | rfl | rfl | rfl | rfl | rfl | rfl | rfl
  all_goals first | (intro _; exact ⟨by decide, by decide⟩) | decide
set_option maxRecDepth 1000000 in
theorem lawX_runs (p0 p1 q0 q1 s0 s1 t0 t1 d0 d1 : Int) (hNeeds : ∀ pN ∈ (lawX_needs p0 p1 q0 q1 s0 s1 t0 t1), pN) : Runs (runF (sums K_awake) L_mul 8) (lawX_tpl.args [.i p0, .i p1, .i q0, .i q1, .i s0, .i s1, .i t0, .i t1, .i d0, .i d1]) (lawX_tpl.memo [.i p0, .i p1, .i q0, .i q1, .i s0, .i s1, .i t0, .i t1, .i d0, .i d1] []) lawX_tpl.n (SV.one (SC.bool (SB.v (lawX_0 p0 p1 q0 q1 s0 s1 t0 t1 d0 d1))))
    ([]) :=
  Runs.of (ps := (lawX_needs p0 p1 q0 q1 s0 s1 t0 t1)) (by kernel_rfl) (by kernel_rfl) hNeeds
noncomputable def lawX_out : List Pm → Lss → Option CRes
  | [.i p0, .i p1, .i q0, .i q1, .i s0, .i s1, .i t0, .i t1, .i d0, .i d1], [] => some ⟨SV.one (SC.bool (SB.v (lawX_0 p0 p1 q0 q1 s0 s1 t0 t1 d0 d1))),
    [],
    [], [], 8543⟩
  | _, _ => none
theorem lawX_ok : FOk Try.prog 8 (tplS lawX_tpl lawX_out) := by
  refine tplS_ok (runF_ok known_awake 8) fun ps ls r hr hn _ => ?_
  unfold lawX_out at hr
  split at hr
  · cases hr; exact ⟨_, lawX_runs _ _ _ _ _ _ _ _ _ _ (fun p hp => lawX_need p hp), fun _ => by simp only [SV.den, SC.den, SB.val, lawX_0_eq]⟩
  · cases hr
noncomputable def K_lawX : List (Nat × Summ) := (8, tplS lawX_tpl lawX_out) :: K_awake
theorem known_lawX : Known Try.prog (sums K_lawX) L_mul := known_cons known_awake lawX_ok
end Go.Proofs.Ythgiaoidekdpfaa
