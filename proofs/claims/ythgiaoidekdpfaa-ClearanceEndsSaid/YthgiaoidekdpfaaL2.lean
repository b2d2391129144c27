/-
  CLEARANCECROSS: the walk. Conditions: none.
-/
import Derived.Test.YthgiaoidekdpfaaG1
set_option linter.all false
namespace Go.Proofs.Ythgiaoidekdpfaa
open Go.SX Go.RowKit
theorem light_len {L : List (List Int)} (h : light_0 L = true) : L.length ≤ 1000000 := by
  unfold light_0 at h
  have h1 : Int.ofNat L.length ≤ 120 := by simpa using h
  have h2 : (L.length : Int) ≤ 120 := h1
  omega
theorem light_two {L M : List (List Int)} (h : (!light_0 L || !light_0 M) = false) : L.length ≤ 1000000 ∧ M.length ≤ 1000000 := by
  simp only [Bool.or_eq_false_iff, Bool.not_eq_false'] at h
  exact ⟨light_len h.1, light_len h.2⟩
noncomputable def lawC_tpl : Tpl := ⟨[.one (.wh 0), .one (.wh 1), .agg [.int .i64, .int .i64], .agg [.int .i64, .int .i64], .agg [.int .i64, .int .i64], .agg [.int .i64, .int .i64]], [(0, .row true 3 1 2 [.int .i64]), (1, .row true 3 1 3 [.int .i64])], 4⟩
noncomputable def lawC_s0 (L : List (List Int)) (M : List (List Int)) : Bool :=
  true && ccross_0 (e0 L) (e1 L) (e2 L) (e3 L) (e6 L) (e0 M) (e1 M) (e2 M) (e3 M) (e6 M) == rcrosses_0 (e0 L) (e1 L) (e2 L) (e3 L) (e6 L) (e0 M) (e1 M) (e2 M) (e3 M) (e6 M)
noncomputable def lawC_0 (p0 : Int) (p1 : Int) (q0 : Int) (q1 : Int) (s0 : Int) (s1 : Int) (t0 : Int) (t1 : Int) (L : List (List Int)) (M : List (List Int)) : Bool :=
  bif !light_0 L || !light_0 M then true
  else
    bif small_0 p0 9 == small_0 q0 9 && small_0 p1 9 == small_0 q1 9 || small_0 s0 9 == small_0 t0 9 && small_0 s1 9 == small_0 t1 9 then lawC_s0 L M
    else
      lawC_s0 L M &&
          ccross_0 (small_0 p0 9) (small_0 p1 9) (small_0 q0 9) (small_0 q1 9) 0 (small_0 s0 9) (small_0 s1 9) (small_0 t0 9) (small_0 t1 9) 0 ==
            rcrosses_0 (small_0 p0 9) (small_0 p1 9) (small_0 q0 9) (small_0 q1 9) 0 (small_0 s0 9) (small_0 s1 9) (small_0 t0 9) (small_0 t1 9) 0 &&
        ccross_0 (small_0 p0 9) (small_0 p1 9) (small_0 q0 9) (small_0 q1 9) 0 (small_0 s0 9) (small_0 s1 9) (small_0 t0 9) (small_0 t1 9) 0 ==
          ccross_0 (small_0 s0 9) (small_0 s1 9) (small_0 t0 9) (small_0 t1 9) 0 (small_0 p0 9) (small_0 p1 9) (small_0 q0 9) (small_0 q1 9) 0
noncomputable def lawC_needs (L : List (List Int)) (M : List (List Int)) : List Prop :=
  [(!light_0 L || !light_0 M) = false →
      L.length ≤ 1000000 ∧ M.length ≤ 1000000 ∧ Int.ofNat 19 ≠ 0 ∧ Int.ofNat 19 ≠ 0 ∧ Int.ofNat 19 ≠ 0 ∧ Int.ofNat 19 ≠ 0 ∧ Int.ofNat 19 ≠ 0 ∧ Int.ofNat 19 ≠ 0 ∧ Int.ofNat 19 ≠ 0 ∧ Int.ofNat 19 ≠ 0]
theorem lawC_0_eq (p0 p1 q0 q1 s0 s1 t0 t1 : Int) (L M : List (List Int)) : (lawC_0 p0 p1 q0 q1 s0 s1 t0 t1 L M) = true := by
  unfold lawC_0
  have h0 : lawC_s0 L M = true := by unfold lawC_s0; rw [ccross_eq]; simp
  rw [h0]
  cases !light_0 L || !light_0 M
  · rw [cond_false]
    cases small_0 p0 9 == small_0 q0 9 && small_0 p1 9 == small_0 q1 9 || small_0 s0 9 == small_0 t0 9 && small_0 s1 9 == small_0 t1 9
    · rw [cond_false, ← ccross_eq, ccross_comm (small_0 s0 9)]
      simp
    · rfl
  · rfl
theorem lawC_need {L : List (List Int)} {M : List (List Int)} : ∀ q ∈ (lawC_needs L M), q := by
  intro q hq
  unfold lawC_needs at hq
  simp only [List.mem_cons, List.not_mem_nil, or_false] at hq
  subst hq
  intro h
  obtain ⟨h1, h2⟩ := light_two h
  exact ⟨h1, h2, by decide, by decide, by decide, by decide, by decide, by decide, by decide, by decide⟩
set_option maxRecDepth 1000000 in
theorem lawC_runs (p0 p1 q0 q1 s0 s1 t0 t1 : Int) (L M : List (List Int)) (hNeeds : ∀ pN ∈ (lawC_needs L M), pN) : Runs (runF (sums K_elem) L_mul 3) (lawC_tpl.args [.i p0, .i p1, .i q0, .i q1, .i s0, .i s1, .i t0, .i t1]) (lawC_tpl.memo [.i p0, .i p1, .i q0, .i q1, .i s0, .i s1, .i t0, .i t1] [L, M]) lawC_tpl.n (SV.one (SC.bool (SB.v (lawC_0 p0 p1 q0 q1 s0 s1 t0 t1 L M))))
    ([(0, Obj.row true 3 1 (RowC.lst 2 [CK.int IntKind.i64] L)), (1, Obj.row true 3 1 (RowC.lst 3 [CK.int IntKind.i64] M))]) :=
  Runs.of (ps := (lawC_needs L M)) (by kernel_rfl) (by kernel_rfl) hNeeds
noncomputable def lawC_out : List Pm → Lss → Option CRes
  | [.i p0, .i p1, .i q0, .i q1, .i s0, .i s1, .i t0, .i t1], [L, M] => some ⟨SV.one (SC.bool (SB.v (lawC_0 p0 p1 q0 q1 s0 s1 t0 t1 L M))),
    [(0, Obj.row true 3 1 (RowC.lst 2 [CK.int IntKind.i64] L)), (1, Obj.row true 3 1 (RowC.lst 3 [CK.int IntKind.i64] M))],
    [], [], 18378⟩
  | _, _ => none
theorem lawC_ok : FOk Try.prog 3 (tplS lawC_tpl lawC_out) := by
  refine tplS_ok (runF_ok known_elem 3) fun ps ls r hr hn _ => ?_
  unfold lawC_out at hr
  split at hr
  · cases hr; exact ⟨_, lawC_runs _ _ _ _ _ _ _ _ _ _ (fun p hp => lawC_need p hp), fun _ => by simp only [SV.den, SC.den, SB.val, lawC_0_eq]⟩
  · cases hr
noncomputable def K_lawC : List (Nat × Summ) := (3, tplS lawC_tpl lawC_out) :: K_elem
theorem known_lawC : Known Try.prog (sums K_lawC) L_mul := known_cons known_elem lawC_ok
end Go.Proofs.Ythgiaoidekdpfaa
