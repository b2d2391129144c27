/-
  ARCFITS: the walk. Conditions: none.
-/
import Derived.Test.YtkggdhnliiagjaaV3
import Derived.Test.YtkggdhnliiagjaaD12
set_option linter.all false
namespace Go.Proofs.Ytkggdhnliiagjaa
open Go.SX Go.RowKit
noncomputable def lawF_tpl : Tpl := ⟨[.agg [.int .i64, .int .i64, .int .i64], .agg [.int .i64, .int .i64, .int .i64], .one (.int .i64), .one (.int .i64), .one (.int .i64)], [], 0⟩
noncomputable def lawF_s0 (p : Int) : Int :=
  IntKind.i64.wrap (17 + mod_0 p 3)
noncomputable def lawF_s1 (a : Int) (b : Int) (c : Int) (d : Int) (e : Int) (f : Int) (p : Int) : Int :=
  minus_0 (flat_0 (lawF_s0 p) (between_0 d (-9000) 9000) (between_0 e (-9000) 9000) (between_0 f (-9000) 9000))
    (flat_0 (lawF_s0 p) (between_0 a (-9000) 9000) (between_0 b (-9000) 9000) (between_0 c (-9000) 9000))
noncomputable def lawF_s2 (a : Int) (b : Int) (c : Int) (d : Int) (e : Int) (f : Int) (p : Int) : Int :=
  minus_0 (flat_1 (lawF_s0 p) (between_0 d (-9000) 9000) (between_0 e (-9000) 9000) (between_0 f (-9000) 9000))
    (flat_1 (lawF_s0 p) (between_0 a (-9000) 9000) (between_0 b (-9000) 9000) (between_0 c (-9000) 9000))
noncomputable def lawF_s3 (di : Int) : Int :=
  IntKind.i64.wrap (1 - IntKind.i64.wrap (2 * mod_0 di 2))
noncomputable def lawF_s4 (r : Int) : Int :=
  bif decide (r < 0) then IntKind.i64.wrap (0 - between_0 r 13000 90000) else between_0 r 13000 90000
noncomputable def lawF_0 (a : Int) (b : Int) (c : Int) (d : Int) (e : Int) (f : Int) (p : Int) (di : Int) (r : Int) : Bool :=
  bif decide (vinner_0 (lawF_s1 a b c d e f p) (lawF_s2 a b c d e f p) (lawF_s1 a b c d e f p) (lawF_s2 a b c d e f p) < 256) then true
  else
    true &&
        aradius_3 (lawF_s0 p) (between_0 a (-9000) 9000) (between_0 b (-9000) 9000) (between_0 c (-9000) 9000) (between_0 d (-9000) 9000) (between_0 e (-9000) 9000) (between_0 f (-9000) 9000)
            (lawF_s3 di) (lawF_s4 r) ==
          0 &&
      acheck_0 3 (between_0 a (-9000) 9000) (between_0 b (-9000) 9000) (between_0 c (-9000) 9000) (between_0 d (-9000) 9000) (between_0 e (-9000) 9000) (between_0 f (-9000) 9000) (lawF_s0 p)
          (aradius_0 (lawF_s0 p) (between_0 a (-9000) 9000) (between_0 b (-9000) 9000) (between_0 c (-9000) 9000) (between_0 d (-9000) 9000) (between_0 e (-9000) 9000) (between_0 f (-9000) 9000)
            (lawF_s3 di) (lawF_s4 r))
          (aradius_1 (lawF_s0 p) (between_0 a (-9000) 9000) (between_0 b (-9000) 9000) (between_0 c (-9000) 9000) (between_0 d (-9000) 9000) (between_0 e (-9000) 9000) (between_0 f (-9000) 9000)
            (lawF_s3 di) (lawF_s4 r))
          (aradius_2 (lawF_s0 p) (between_0 a (-9000) 9000) (between_0 b (-9000) 9000) (between_0 c (-9000) 9000) (between_0 d (-9000) 9000) (between_0 e (-9000) 9000) (between_0 f (-9000) 9000)
            (lawF_s3 di) (lawF_s4 r))
          (lawF_s3 di) false ==
        0
noncomputable def lawF_needs : List Prop :=
  [Int.ofNat 3 ≠ 0, Int.ofNat 2 ≠ 0, Int.ofNat 18001 ≠ 0, Int.ofNat 18001 ≠ 0, Int.ofNat 18001 ≠ 0, Int.ofNat 18001 ≠ 0, Int.ofNat 18001 ≠ 0, Int.ofNat 18001 ≠ 0, Int.ofNat 77001 ≠ 0]
theorem lawF_0_eq (a b c d e f p di r : Int) : (lawF_0 a b c d e f p di r) = true := by
  unfold lawF_0
  have q : ∀ x, bd 9000 (between_0 x (-9000) 9000) := fun x => between_rng x (-9000) 9000 (by omega) (by omega) (by omega)
  have hp : lawF_s0 p = 17 ∨ lawF_s0 p = 18 ∨ lawF_s0 p = 19 := by
    have := mod_rng p 3 (by omega) (by omega)
    unfold lawF_s0
    rw [wrI (by omega) (by omega)]
    omega
  have hdi : lawF_s3 di = 1 ∨ lawF_s3 di = -1 := by
    have := mod_rng di 2 (by omega) (by omega)
    unfold lawF_s3
    rw [wrI (x := 2 * mod_0 di 2) (by omega) (by omega), wrI (by omega) (by omega)]
    omega
  have hr : (13000 ≤ lawF_s4 r ∧ lawF_s4 r ≤ 90000) ∨ (lawF_s4 r ≤ -13000 ∧ -90000 ≤ lawF_s4 r) := by
    have := between_rng r 13000 90000 (by omega) (by omega) (by omega)
    unfold lawF_s4
    cases decide (r < 0)
    · rw [cond_false]; omega
    · rw [cond_true, wrI (by omega) (by omega)]; omega
  cases hc : decide (vinner_0 (lawF_s1 a b c d e f p) (lawF_s2 a b c d e f p) (lawF_s1 a b c d e f p) (lawF_s2 a b c d e f p) < 256)
  · rw [decide_eq_false_iff_not] at hc
    obtain ⟨h1, h2⟩ := radius_fits hp ⟨q a, q b, q c⟩ ⟨q d, q e, q f⟩ hdi hr (by unfold lawF_s1 lawF_s2 at hc; omega)
    rw [h1, h2]
    rfl
  · rfl
theorem lawF_need : ∀ q ∈ (lawF_needs), q := by
  unfold lawF_needs
  simp only [List.forall_mem_cons, List.not_mem_nil, false_implies, implies_true, and_true]
  decide
set_option maxRecDepth 1000000 in
theorem lawF_runs (a b c d e f p di r : Int) (hNeeds : ∀ pN ∈ (lawF_needs), pN) : Runs (runF (sums K_awake) L_ov 5) (lawF_tpl.args [.i a, .i b, .i c, .i d, .i e, .i f, .i p, .i di, .i r]) (lawF_tpl.memo [.i a, .i b, .i c, .i d, .i e, .i f, .i p, .i di, .i r] []) lawF_tpl.n (SV.one (SC.bool (SB.v (lawF_0 a b c d e f p di r))))
    ([]) :=
  Runs.of (ps := (lawF_needs)) (by kernel_rfl) (by kernel_rfl) hNeeds
noncomputable def lawF_out : List Pm → Lss → Option CRes
  | [.i a, .i b, .i c, .i d, .i e, .i f, .i p, .i di, .i r], [] => some ⟨SV.one (SC.bool (SB.v (lawF_0 a b c d e f p di r))),
    [],
    [], [], 13918⟩
  | _, _ => none
theorem lawF_ok : FOk Try.prog 5 (tplS lawF_tpl lawF_out) := by
  refine tplS_ok (runF_ok known_awake 5) fun ps ls r hr hn _ => ?_
  unfold lawF_out at hr
  split at hr
  · cases hr; exact ⟨_, lawF_runs _ _ _ _ _ _ _ _ _ (fun p hp => lawF_need p hp), fun _ => by simp only [SV.den, SC.den, SB.val, lawF_0_eq]⟩
  · cases hr
noncomputable def K_lawF : List (Nat × Summ) := (5, tplS lawF_tpl lawF_out) :: K_awake
theorem known_lawF : Known Try.prog (sums K_lawF) L_ov := known_cons known_awake lawF_ok
end Go.Proofs.Ytkggdhnliiagjaa
