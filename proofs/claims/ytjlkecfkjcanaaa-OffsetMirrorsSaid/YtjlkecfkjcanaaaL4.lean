/-
  OFFSETMIRRORS: the walk. Conditions: none.
-/
import Derived.Test.YtjlkecfkjcanaaaV5
import Derived.Test.YtjlkecfkjcanaaaD2
set_option linter.all false
namespace Go.Proofs.Ytjlkecfkjcanaaa
open Go.SX Go.RowKit
noncomputable def lawM_tpl : Tpl := ⟨[.agg [.int .i64, .int .i64], .agg [.int .i64, .int .i64], .agg [.int .i64, .int .i64], .one (.int .i64), .one (.int .i64)], [], 0⟩
noncomputable def lawM_s0 (r : Int) : Int :=
  IntKind.i64.wrap (0 - between_0 r (-32768) 32768)
noncomputable def lawM_s1 (p0 : Int) (p1 : Int) (t0 : Int) (t1 : Int) (r : Int) : Int :=
  minus_0
    (addpt_0 (onormal_1 (small_0 p0 500000) (small_0 p1 500000) (small_0 t0 90000) (small_0 t1 90000) (between_0 r (-32768) 32768))
      (onormal_1 (small_0 p0 500000) (small_0 p1 500000) (small_0 t0 90000) (small_0 t1 90000) (lawM_s0 r)))
    (addpt_0 (small_0 p1 500000) (small_0 p1 500000))
noncomputable def lawM_s2 (p0 : Int) (p1 : Int) (t0 : Int) (t1 : Int) (r : Int) : Int :=
  IntKind.i64.wrap (0 - lawM_s1 p0 p1 t0 t1 r)
noncomputable def lawM_s3 (p0 : Int) (p1 : Int) (t0 : Int) (t1 : Int) (r : Int) : Int :=
  minus_0
    (addpt_0 (onormal_0 (small_0 p0 500000) (small_0 p1 500000) (small_0 t0 90000) (small_0 t1 90000) (between_0 r (-32768) 32768))
      (onormal_0 (small_0 p0 500000) (small_0 p1 500000) (small_0 t0 90000) (small_0 t1 90000) (lawM_s0 r)))
    (addpt_0 (small_0 p0 500000) (small_0 p0 500000))
noncomputable def lawM_s4 (p0 : Int) (p1 : Int) (t0 : Int) (t1 : Int) (r : Int) : Int :=
  IntKind.i64.wrap (0 - lawM_s3 p0 p1 t0 t1 r)
noncomputable def lawM_s5 (p0 : Int) (p1 : Int) (t0 : Int) (t1 : Int) (r : Int) : Int :=
  if lawM_s4 p0 p1 t0 t1 r > lawM_s3 p0 p1 t0 t1 r then lawM_s4 p0 p1 t0 t1 r else lawM_s3 p0 p1 t0 t1 r
noncomputable def lawM_s6 (p0 : Int) (p1 : Int) (t0 : Int) (t1 : Int) (r : Int) : Int :=
  if lawM_s1 p0 p1 t0 t1 r > lawM_s5 p0 p1 t0 t1 r then lawM_s1 p0 p1 t0 t1 r else lawM_s5 p0 p1 t0 t1 r
noncomputable def lawM_s7 (p0 : Int) (p1 : Int) (t0 : Int) (t1 : Int) (r : Int) : Int :=
  if lawM_s2 p0 p1 t0 t1 r > lawM_s6 p0 p1 t0 t1 r then lawM_s2 p0 p1 t0 t1 r else lawM_s6 p0 p1 t0 t1 r
noncomputable def lawM_s8 (s : Int) : Int :=
  IntKind.i64.wrap (1 - IntKind.i64.wrap (2 * mod_0 s 2))
noncomputable def lawM_0 (p0 : Int) (p1 : Int) (s0 : Int) (s1 : Int) (t0 : Int) (t1 : Int) (r : Int) (s : Int) : Bool :=
  bif small_0 s0 90000 == 0 && small_0 s1 90000 == 0 || small_0 t0 90000 == 0 && small_0 t1 90000 == 0 then true
  else
    true && onormal_2 (small_0 p0 500000) (small_0 p1 500000) (small_0 t0 90000) (small_0 t1 90000) (between_0 r (-32768) 32768) &&
          onormal_2 (small_0 p0 500000) (small_0 p1 500000) (small_0 t0 90000) (small_0 t1 90000) (lawM_s0 r) &&
        decide (lawM_s7 p0 p1 t0 t1 r ≤ 1) &&
      ocorner_0 (small_0 s0 90000) (small_0 s1 90000) (small_0 t0 90000) (small_0 t1 90000) (lawM_s8 s) ==
        ocorner_0 (IntKind.i64.wrap (0 - small_0 t0 90000)) (IntKind.i64.wrap (0 - small_0 t1 90000)) (IntKind.i64.wrap (0 - small_0 s0 90000)) (IntKind.i64.wrap (0 - small_0 s1 90000))
          (IntKind.i64.wrap (0 - lawM_s8 s))
noncomputable def lawM_needs : List Prop :=
  [Int.ofNat 1000001 ≠ 0, Int.ofNat 1000001 ≠ 0, Int.ofNat 180001 ≠ 0, Int.ofNat 180001 ≠ 0, Int.ofNat 180001 ≠ 0, Int.ofNat 180001 ≠ 0, Int.ofNat 65537 ≠ 0, Int.ofNat 2 ≠ 0]
theorem lawM_0_eq (p0 p1 s0 s1 t0 t1 r s : Int) : (lawM_0 p0 p1 s0 s1 t0 t1 r s) = true := by
  unfold lawM_0
  cases hc : (small_0 s0 90000 == 0 && small_0 s1 90000 == 0 || small_0 t0 90000 == 0 && small_0 t1 90000 == 0)
  · rw [cond_false]
    simp only [Bool.or_eq_false_iff, Bool.and_eq_false_iff, beq_eq_false_iff_ne] at hc
    have q : ∀ x, bd 90000 (small_0 x 90000) := fun x => small_rng x 90000 (by omega) (by omega)
    have q5 : ∀ x, bd 500000 (small_0 x 500000) := fun x => small_rng x 500000 (by omega) (by omega)
    have qr : bd 32768 (between_0 r (-32768) 32768) := between_rng r (-32768) 32768 (by omega) (by omega) (by omega)
    obtain ⟨⟨m1, m2⟩, ⟨m3, m4⟩, m5, m6⟩ := mirrors_law (p0 := small_0 p0 500000) (p1 := small_0 p1 500000) hc.2 (q t0) (q t1) (q5 p0) (q5 p1) qr
    have e0 : lawM_s0 r = IntKind.i64.wrap (0 - between_0 r (-32768) 32768) := rfl
    have hs : bd 1 (lawM_s8 s) := by
      have := mod_rng s 2 (by omega) (by omega)
      unfold lawM_s8
      rw [wrI (x := 2 * mod_0 s 2) (by omega) (by omega), wrI (by omega) (by omega)]
      omega
    have f3 : 0 ≤ lawM_s3 p0 p1 t0 t1 r ∧ lawM_s3 p0 p1 t0 t1 r ≤ 1 := ⟨m3, m4⟩
    have f1 : 0 ≤ lawM_s1 p0 p1 t0 t1 r ∧ lawM_s1 p0 p1 t0 t1 r ≤ 1 := ⟨m5, m6⟩
    have f7 : lawM_s7 p0 p1 t0 t1 r ≤ 1 := by
      unfold lawM_s7 lawM_s6 lawM_s5 lawM_s4 lawM_s2
      rw [wrI (x := 0 - lawM_s3 p0 p1 t0 t1 r) (by omega) (by omega), wrI (x := 0 - lawM_s1 p0 p1 t0 t1 r) (by omega) (by omega)]
      repeat' split
      all_goals omega
    rw [e0, m1, m2, decide_eq_true f7, ← corner_back (q s0) (q s1) (q t0) (q t1) hs]
    simp
  · rfl
theorem lawM_need : ∀ q ∈ (lawM_needs), q := by
  unfold lawM_needs
  simp only [List.forall_mem_cons, List.not_mem_nil, false_implies, implies_true, and_true]
  repeat' (first | decide | refine And.intro ?_ ?_ | intro _)
set_option maxRecDepth 1000000 in
theorem lawM_runs (p0 p1 s0 s1 t0 t1 r s : Int) (hNeeds : ∀ pN ∈ (lawM_needs), pN) : Runs (runF (sums K_awake) L_cr 10) (lawM_tpl.args [.i p0, .i p1, .i s0, .i s1, .i t0, .i t1, .i r, .i s]) (lawM_tpl.memo [.i p0, .i p1, .i s0, .i s1, .i t0, .i t1, .i r, .i s] []) lawM_tpl.n (SV.one (SC.bool (SB.v (lawM_0 p0 p1 s0 s1 t0 t1 r s))))
    ([]) :=
  Runs.of (ps := (lawM_needs)) (by kernel_rfl) (by kernel_rfl) hNeeds
noncomputable def lawM_out : List Pm → Lss → Option CRes
  | [.i p0, .i p1, .i s0, .i s1, .i t0, .i t1, .i r, .i s], [] => some ⟨SV.one (SC.bool (SB.v (lawM_0 p0 p1 s0 s1 t0 t1 r s))),
    [],
    [], [], 59463⟩
  | _, _ => none
theorem lawM_ok : FOk Try.prog 10 (tplS lawM_tpl lawM_out) := by
  refine tplS_ok (runF_ok known_awake 10) fun ps ls r hr hn _ => ?_
  unfold lawM_out at hr
  split at hr
  · cases hr; exact ⟨_, lawM_runs _ _ _ _ _ _ _ _ (fun p hp => lawM_need p hp), fun _ => by simp only [SV.den, SC.den, SB.val, lawM_0_eq]⟩
  · cases hr
noncomputable def K_lawM : List (Nat × Summ) := (10, tplS lawM_tpl lawM_out) :: K_awake
theorem known_lawM : Known Try.prog (sums K_lawM) L_cr := known_cons known_awake lawM_ok
end Go.Proofs.Ytjlkecfkjcanaaa
