/-
  TOLD: the program and the reference make the same of every cycle. Conditions: none.
-/
import Derived.Test.YtgimheibnpgphaaDrillS
set_option linter.all false
namespace Go.Proofs.Ytgimheibnpgphaa
open Go.SX Go.RowKit
theorem expR_len (c0 c1 c2 c3 c4 c5 c6 c7 c8 c9 c10 c11 c12 c13 c14 c15 : Int) : (expR c0 c1 c2 c3 c4 c5 c6 c7 c8 c9 c10 c11 c12 c13 c14 c15).length ≤ 4000 := by
  unfold expR
  cases h : (chk c0 c1 c2 c3 c4 c5 c6 c7 c8 c9 c10 c11 c12 c13 c14 c15 != 0)
  · have h1 := hts1_le c0 c1 c2 c3 c4 c5 c6 c7 c8 c9 c10 c11 c12 c13 c14 c15
    unfold hts1 at h1
    rw [h] at h1
    simp only [cond_false] at h1
    have h2 := pecksL_len c1 (flat_0 c1 c5 c6 c7) (flat_1 c1 c5 c6 c7) c0 c8 c11 (hn c0 c8 c9 c11 - 1).toNat
    simp only [cond_false, expL, preL, postL, bodyL, List.length_append]
    cases decide (flat_2 c1 c2 c3 c4 < c8) <;> cases c0 == 73 || c0 == 83 <;> simp only [cond_true, cond_false, List.length_append, List.length_cons, List.length_nil] <;>
      cases c0 == 86 <;> simp only [cond_true, cond_false, List.length_append, List.length_cons, List.length_nil] <;> (try omega) <;>
      cases c0 == 74 || c0 == 84 <;> simp only [cond_true, cond_false, List.length_append, List.length_cons, List.length_nil] <;> (try omega) <;>
      cases c0 == 81 <;> simp only [cond_true, cond_false, List.length_append, List.length_cons, List.length_nil] <;> (try omega) <;>
      cases c0 == 82 <;> simp only [cond_true, cond_false, List.length_append, List.length_cons, List.length_nil] <;> (try omega) <;>
      cases c0 == 85 <;> simp only [cond_true, cond_false, List.length_append, List.length_cons, List.length_nil] <;> (try omega) <;>
      cases c0 == 89 <;> simp only [cond_true, cond_false, List.length_append, List.length_cons, List.length_nil] <;> omega
  · simp
noncomputable def told_tpl : Tpl := ⟨[.agg [.int .i64, .int .i64, .int .i64, .int .i64, .int .i64, .int .i64, .int .i64, .int .i64, .int .i64, .int .i64, .int .i64, .int .i64, .int .i64, .int .i64, .int .i64, .int .i64]], [], 0⟩
noncomputable def told_s0 (c0 : Int) (c1 : Int) (c2 : Int) (c3 : Int) (c4 : Int) (c5 : Int) (c6 : Int) (c7 : Int) (c8 : Int) (c9 : Int) (c10 : Int) (c11 : Int) (c12 : Int) (c13 : Int) (c14 : Int) (c15 : Int) : Bool :=
  chk c0 c1 c2 c3 c4 c5 c6 c7 c8 c9 c10 c11 c12 c13 c14 c15 == chk c0 c1 c2 c3 c4 c5 c6 c7 c8 c9 c10 c11 c12 c13 c14 c15
noncomputable def told_0 (c0 : Int) (c1 : Int) (c2 : Int) (c3 : Int) (c4 : Int) (c5 : Int) (c6 : Int) (c7 : Int) (c8 : Int) (c9 : Int) (c10 : Int) (c11 : Int) (c12 : Int) (c13 : Int) (c14 : Int) (c15 : Int) : Bool :=
  told_s0 c0 c1 c2 c3 c4 c5 c6 c7 c8 c9 c10 c11 c12 c13 c14 c15 && hts0 c0 c1 c2 c3 c4 c5 c6 c7 c8 c9 c10 c11 c12 c13 c14 c15 == hts0 c0 c1 c2 c3 c4 c5 c6 c7 c8 c9 c10 c11 c12 c13 c14 c15 &&
        hts1 c0 c1 c2 c3 c4 c5 c6 c7 c8 c9 c10 c11 c12 c13 c14 c15 == hts1 c0 c1 c2 c3 c4 c5 c6 c7 c8 c9 c10 c11 c12 c13 c14 c15 &&
      heights_2 c0 c1 c2 c3 c4 c5 c6 c7 c8 c9 c10 c11 c12 c13 c14 c15 == heights_2 c0 c1 c2 c3 c4 c5 c6 c7 c8 c9 c10 c11 c12 c13 c14 c15 &&
    told_s0 c0 c1 c2 c3 c4 c5 c6 c7 c8 c9 c10 c11 c12 c13 c14 c15
noncomputable def told_needs (c0 : Int) (c1 : Int) (c2 : Int) (c3 : Int) (c4 : Int) (c5 : Int) (c6 : Int) (c7 : Int) (c8 : Int) (c9 : Int) (c10 : Int) (c11 : Int) (c12 : Int) (c13 : Int) (c14 : Int) (c15 : Int) : List Prop :=
  [expR c0 c1 c2 c3 c4 c5 c6 c7 c8 c9 c10 c11 c12 c13 c14 c15 = expR c0 c1 c2 c3 c4 c5 c6 c7 c8 c9 c10 c11 c12 c13 c14 c15, (expR c0 c1 c2 c3 c4 c5 c6 c7 c8 c9 c10 c11 c12 c13 c14 c15).length ≤ 1000000]
theorem told_0_eq (c0 c1 c2 c3 c4 c5 c6 c7 c8 c9 c10 c11 c12 c13 c14 c15 : Int) : (told_0 c0 c1 c2 c3 c4 c5 c6 c7 c8 c9 c10 c11 c12 c13 c14 c15) = true := by
  unfold told_0 told_s0
  simp
theorem told_need {c0 : Int} {c1 : Int} {c2 : Int} {c3 : Int} {c4 : Int} {c5 : Int} {c6 : Int} {c7 : Int} {c8 : Int} {c9 : Int} {c10 : Int} {c11 : Int} {c12 : Int} {c13 : Int} {c14 : Int} {c15 : Int} : ∀ q ∈ (told_needs c0 c1 c2 c3 c4 c5 c6 c7 c8 c9 c10 c11 c12 c13 c14 c15), q := by
  intro q hq
  unfold told_needs at hq
  simp only [List.mem_cons, List.not_mem_nil, or_false] at hq
  have h1 := expR_len c0 c1 c2 c3 c4 c5 c6 c7 c8 c9 c10 c11 c12 c13 c14 c15
  rcases hq with rfl | rfl
  · trivial
  · omega
set_option maxRecDepth 1000000 in
theorem told_runs (c0 c1 c2 c3 c4 c5 c6 c7 c8 c9 c10 c11 c12 c13 c14 c15 : Int) (hNeeds : ∀ pN ∈ (told_needs c0 c1 c2 c3 c4 c5 c6 c7 c8 c9 c10 c11 c12 c13 c14 c15), pN) : Runs (runF (sums K_rsame) L_same 14) (told_tpl.args [.i c0, .i c1, .i c2, .i c3, .i c4, .i c5, .i c6, .i c7, .i c8, .i c9, .i c10, .i c11, .i c12, .i c13, .i c14, .i c15]) (told_tpl.memo [.i c0, .i c1, .i c2, .i c3, .i c4, .i c5, .i c6, .i c7, .i c8, .i c9, .i c10, .i c11, .i c12, .i c13, .i c14, .i c15] []) told_tpl.n (SV.one (SC.bool (SB.v (told_0 c0 c1 c2 c3 c4 c5 c6 c7 c8 c9 c10 c11 c12 c13 c14 c15))))
    ([]) :=
  Runs.of (ps := (told_needs c0 c1 c2 c3 c4 c5 c6 c7 c8 c9 c10 c11 c12 c13 c14 c15)) (by kernel_rfl) (by kernel_rfl) hNeeds
noncomputable def told_out : List Pm → Lss → Option CRes
  | [.i c0, .i c1, .i c2, .i c3, .i c4, .i c5, .i c6, .i c7, .i c8, .i c9, .i c10, .i c11, .i c12, .i c13, .i c14, .i c15], [] => some ⟨SV.one (SC.bool (SB.c true)),
    [],
    [], [], 21630⟩
  | _, _ => none
theorem told_ok : FOk Try.prog 14 (tplS told_tpl told_out) := by
  refine tplS_ok (runF_ok known_rsame 14) fun ps ls r hr hn _ => ?_
  unfold told_out at hr
  split at hr
  · cases hr; exact ⟨_, told_runs _ _ _ _ _ _ _ _ _ _ _ _ _ _ _ _ (fun p hp => told_need p hp), fun _ => by simp only [SV.den, SC.den, SB.val, told_0_eq]⟩
  · cases hr
noncomputable def K_told : List (Nat × Summ) := (14, tplS told_tpl told_out) :: K_rsame
theorem known_told : Known Try.prog (sums K_told) L_same := known_cons known_rsame told_ok
noncomputable def awake_tpl : Tpl := ⟨[], [], 0⟩
set_option maxRecDepth 1000000 in
theorem awake_runs : Runs (runF (sums K0) L0 11) (awake_tpl.args []) (awake_tpl.memo [] []) awake_tpl.n (SV.one (SC.bool (SB.c true)))
    ([]) :=
  Runs.of (ps := []) (by kernel_rfl) (by kernel_rfl) (by simp)
noncomputable def awake_out : List Pm → Lss → Option CRes
  | [], [] => some ⟨SV.one (SC.bool (SB.c true)),
    [],
    [], [], 1825⟩
  | _, _ => none
theorem awake_ok : FOk Try.prog 11 (tplS awake_tpl awake_out) := by
  refine tplS_ok (runF_ok known0 11) fun ps ls r hr hn _ => ?_
  unfold awake_out at hr
  split at hr
  · cases hr; exact ⟨_, awake_runs, fun _ => rfl⟩
  · cases hr
noncomputable def K_awake : List (Nat × Summ) := (11, tplS awake_tpl awake_out) :: K0
theorem known_awake : Known Try.prog (sums K_awake) L0 := known_cons known0 awake_ok
noncomputable def K_T : List (Nat × Summ) := (11, tplS awake_tpl awake_out) :: K_told
theorem known_T : Known Try.prog (sums K_T) L_same := known_cons known_told awake_ok
end Go.Proofs.Ytgimheibnpgphaa
