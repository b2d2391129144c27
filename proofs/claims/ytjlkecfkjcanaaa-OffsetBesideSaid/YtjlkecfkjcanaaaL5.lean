/-
  OFFSETBESIDE: the walk. Conditions: none.
-/
import Derived.Test.YtjlkecfkjcanaaaV5
import Derived.Test.YtjlkecfkjcanaaaD3
set_option linter.all false
namespace Go.Proofs.Ytjlkecfkjcanaaa
open Go.SX Go.RowKit
noncomputable def lawB_tpl : Tpl := ⟨[.agg [.int .i64, .int .i64], .agg [.int .i64, .int .i64], .one (.int .i64)], [], 0⟩
noncomputable def lawB_s0 (p0 : Int) (p1 : Int) (t0 : Int) (t1 : Int) (r : Int) : Bool :=
  !onormal_2 (small_0 p0 500000) (small_0 p1 500000) (small_0 t0 500000) (small_0 t1 500000) (between_0 r (-32768) 32768)
noncomputable def lawB_s1 (p0 : Int) (p1 : Int) (t0 : Int) (t1 : Int) (r : Int) : Int :=
  minus_0 (onormal_1 (small_0 p0 500000) (small_0 p1 500000) (small_0 t0 500000) (small_0 t1 500000) (between_0 r (-32768) 32768)) (small_0 p1 500000)
noncomputable def lawB_s2 (p0 : Int) (p1 : Int) (t0 : Int) (t1 : Int) (r : Int) : Int :=
  IntKind.i64.wrap (0 - lawB_s1 p0 p1 t0 t1 r)
noncomputable def lawB_s3 (p0 : Int) (p1 : Int) (t0 : Int) (t1 : Int) (r : Int) : Int :=
  minus_0 (onormal_0 (small_0 p0 500000) (small_0 p1 500000) (small_0 t0 500000) (small_0 t1 500000) (between_0 r (-32768) 32768)) (small_0 p0 500000)
noncomputable def lawB_s4 (p0 : Int) (p1 : Int) (t0 : Int) (t1 : Int) (r : Int) : Int :=
  IntKind.i64.wrap (0 - lawB_s3 p0 p1 t0 t1 r)
noncomputable def lawB_s5 (p0 : Int) (p1 : Int) (t0 : Int) (t1 : Int) (r : Int) : Int :=
  if lawB_s4 p0 p1 t0 t1 r > lawB_s3 p0 p1 t0 t1 r then lawB_s4 p0 p1 t0 t1 r else lawB_s3 p0 p1 t0 t1 r
noncomputable def lawB_s6 (p0 : Int) (p1 : Int) (t0 : Int) (t1 : Int) (r : Int) : Int :=
  if lawB_s1 p0 p1 t0 t1 r > lawB_s5 p0 p1 t0 t1 r then lawB_s1 p0 p1 t0 t1 r else lawB_s5 p0 p1 t0 t1 r
noncomputable def lawB_s7 (p0 : Int) (p1 : Int) (t0 : Int) (t1 : Int) (r : Int) : Int :=
  if lawB_s2 p0 p1 t0 t1 r > lawB_s6 p0 p1 t0 t1 r then lawB_s2 p0 p1 t0 t1 r else lawB_s6 p0 p1 t0 t1 r
noncomputable def lawB_s8 (r : Int) : Int :=
  IntKind.i64.wrap (0 - between_0 r (-32768) 32768)
noncomputable def lawB_s9 (r : Int) : Int :=
  if lawB_s8 r > between_0 r (-32768) 32768 then lawB_s8 r else between_0 r (-32768) 32768
noncomputable def lawB_s10 (r : Int) : Int :=
  IntKind.i64.wrap (IntKind.i64.wrap (lawB_s9 r + 1) * IntKind.i64.wrap (lawB_s9 r + 1))
noncomputable def lawB_s11 (r : Int) : Int :=
  IntKind.i64.wrap (IntKind.i64.wrap (lawB_s9 r - 1) * IntKind.i64.wrap (lawB_s9 r - 1))
noncomputable def lawB_s12 (p0 : Int) (p1 : Int) (t0 : Int) (t1 : Int) (r : Int) : Int :=
  wcmp_0 (vinner_0 (small_0 t0 500000) (small_0 t1 500000) (lawB_s3 p0 p1 t0 t1 r) (lawB_s1 p0 p1 t0 t1 r))
    (vinner_0 (small_0 t0 500000) (small_0 t1 500000) (lawB_s3 p0 p1 t0 t1 r) (lawB_s1 p0 p1 t0 t1 r)) (vinner_0 (small_0 t0 500000) (small_0 t1 500000) (small_0 t0 500000) (small_0 t1 500000)) 1
noncomputable def lawB_0 (p0 : Int) (p1 : Int) (t0 : Int) (t1 : Int) (r : Int) : Bool :=
  bif small_0 t0 500000 == 0 && small_0 t1 500000 == 0 then true && lawB_s0 p0 p1 t0 t1 r
  else
    bif false || lawB_s0 p0 p1 t0 t1 r || decide (lawB_s7 p0 p1 t0 t1 r > 65536) then false
    else
      decide (vinner_0 (lawB_s3 p0 p1 t0 t1 r) (lawB_s1 p0 p1 t0 t1 r) (lawB_s3 p0 p1 t0 t1 r) (lawB_s1 p0 p1 t0 t1 r) ≤ lawB_s10 r) &&
              (decide (lawB_s9 r < 1) || decide (vinner_0 (lawB_s3 p0 p1 t0 t1 r) (lawB_s1 p0 p1 t0 t1 r) (lawB_s3 p0 p1 t0 t1 r) (lawB_s1 p0 p1 t0 t1 r) ≥ lawB_s11 r)) &&
            (decide (between_0 r (-32768) 32768 ≤ 1) || decide (vcross_0 (small_0 t0 500000) (small_0 t1 500000) (lawB_s3 p0 p1 t0 t1 r) (lawB_s1 p0 p1 t0 t1 r) > 0)) &&
          (decide (between_0 r (-32768) 32768 ≥ -1) || decide (vcross_0 (small_0 t0 500000) (small_0 t1 500000) (lawB_s3 p0 p1 t0 t1 r) (lawB_s1 p0 p1 t0 t1 r) < 0)) &&
        decide (lawB_s12 p0 p1 t0 t1 r ≤ 0)
noncomputable def lawB_needs : List Prop :=
  [Int.ofNat 1000001 ≠ 0, Int.ofNat 1000001 ≠ 0, Int.ofNat 1000001 ≠ 0, Int.ofNat 1000001 ≠ 0, Int.ofNat 65537 ≠ 0]
theorem lawB_0_eq (p0 p1 t0 t1 r : Int) : (lawB_0 p0 p1 t0 t1 r) = true := by
  have q5 : ∀ x, bd 500000 (small_0 x 500000) := fun x => small_rng x 500000 (by omega) (by omega)
  have qr : bd 32768 (between_0 r (-32768) 32768) := between_rng r (-32768) 32768 (by omega) (by omega) (by omega)
  have g0 := q5 p0
  have g1 := q5 p1
  have g2 := q5 t0
  have g3 := q5 t1
  unfold lawB_0
  cases hc : (small_0 t0 500000 == 0 && small_0 t1 500000 == 0)
  · simp only [cond_false]
    have hz : small_0 t0 500000 ≠ 0 ∨ small_0 t1 500000 ≠ 0 := by
      simpa only [Bool.and_eq_false_iff, beq_eq_false_iff_ne] using hc
    obtain ⟨a1, a2, a3, a4, a5, a6, a7⟩ := normal_val (p0 := small_0 p0 500000) (p1 := small_0 p1 500000) (r := between_0 r (-32768) 32768) hz (by omega) (by omega) (by omega) (by omega) qr
    have e0 : lawB_s0 p0 p1 t0 t1 r = false := by unfold lawB_s0; rw [a3]; rfl
    have e3 : lawB_s3 p0 p1 t0 t1 r = wOver_0 (-small_0 t1 500000) (between_0 r (-32768) 32768) (small_0 t0 500000 * small_0 t0 500000 + small_0 t1 500000 * small_0 t1 500000) 2 := by
      unfold lawB_s3; rw [a1, minus_eq (by omega) (by omega)]; omega
    have e1 : lawB_s1 p0 p1 t0 t1 r = wOver_0 (small_0 t0 500000) (between_0 r (-32768) 32768) (small_0 t0 500000 * small_0 t0 500000 + small_0 t1 500000 * small_0 t1 500000) 2 := by
      unfold lawB_s1; rw [a2, minus_eq (by omega) (by omega)]; omega
    obtain ⟨b1, b2, b3, b4, b5, _⟩ := beside_law (t0 := small_0 t0 500000) (t1 := small_0 t1 500000) (r := between_0 r (-32768) 32768) (by omega) (by omega) qr rfl (by omega) rfl rfl rfl
    have h9 : lawB_s9 r = (if -between_0 r (-32768) 32768 > between_0 r (-32768) 32768 then -between_0 r (-32768) 32768 else between_0 r (-32768) 32768) := by
      have e8 : lawB_s8 r = -between_0 r (-32768) 32768 := by unfold lawB_s8; rw [wrI (by omega) (by omega)]; omega
      unfold lawB_s9; rw [e8]
    rw [← h9, ← e3, ← e1] at b1
    rw [← h9, ← e3, ← e1] at b2
    rw [← e3, ← e1] at b3 b4 b5
    rw [← e3] at a4
    rw [← e1] at a5
    have h7 : lawB_s7 p0 p1 t0 t1 r ≤ 65536 := by
      unfold lawB_s7 lawB_s6 lawB_s5 lawB_s4 lawB_s2
      rw [wrI (x := 0 - lawB_s3 p0 p1 t0 t1 r) (by omega) (by omega), wrI (x := 0 - lawB_s1 p0 p1 t0 t1 r) (by omega) (by omega)]
      repeat' split
      all_goals omega
    have hk : 0 ≤ lawB_s9 r ∧ lawB_s9 r ≤ 32768 := by rw [h9]; split <;> omega
    have h10 : lawB_s10 r = (lawB_s9 r + 1) * (lawB_s9 r + 1) := by
      have := prod_lt 40000 40000 (x := lawB_s9 r + 1) (y := lawB_s9 r + 1) ⟨by omega, by omega⟩ ⟨by omega, by omega⟩ (by omega)
      unfold lawB_s10
      rw [wrI (x := lawB_s9 r + 1) (by omega) (by omega), wrI (by omega) (by omega)]
    have h11 : lawB_s11 r = (lawB_s9 r - 1) * (lawB_s9 r - 1) := by
      have := mul_bd (m := 40000) (n := 40000) (x := lawB_s9 r - 1) (y := lawB_s9 r - 1) (by omega) (by omega) (by omega) (by omega)
      unfold lawB_s11
      rw [wrI (x := lawB_s9 r - 1) (by omega) (by omega), wrI (by omega) (by omega)]
    have hin : vinner_0 (small_0 t0 500000) (small_0 t1 500000) (lawB_s3 p0 p1 t0 t1 r) (lawB_s1 p0 p1 t0 t1 r) = small_0 t0 500000 * lawB_s3 p0 p1 t0 t1 r + small_0 t1 500000 * lawB_s1 p0 p1 t0 t1 r := vinner_eq (by omega) (by omega) (by omega) (by omega)
    have h12 : lawB_s12 p0 p1 t0 t1 r ≤ 0 := by
      unfold lawB_s12
      have iv : ∀ a b c d, isI (vinner_0 a b c d) := fun _ _ _ _ => wrap_isI _
      rw [wcmp_eq _ _ _ _ (iv _ _ _ _) (iv _ _ _ _) (iv _ _ _ _) (by decide), hin, vinner_eq (a := small_0 t0 500000) (c := small_0 t0 500000) (by omega) (by omega) (by omega) (by omega), Int.mul_one]
      rcases cmpI_cases ((small_0 t0 500000 * lawB_s3 p0 p1 t0 t1 r + small_0 t1 500000 * lawB_s1 p0 p1 t0 t1 r) * (small_0 t0 500000 * lawB_s3 p0 p1 t0 t1 r + small_0 t1 500000 * lawB_s1 p0 p1 t0 t1 r)) (small_0 t0 500000 * small_0 t0 500000 + small_0 t1 500000 * small_0 t1 500000) with ⟨x1, x2⟩ | ⟨x1, x2⟩ | ⟨x1, x2⟩ <;> omega
    have hcr : vcross_0 (small_0 t0 500000) (small_0 t1 500000) (lawB_s3 p0 p1 t0 t1 r) (lawB_s1 p0 p1 t0 t1 r) = small_0 t0 500000 * lawB_s1 p0 p1 t0 t1 r - small_0 t1 500000 * lawB_s3 p0 p1 t0 t1 r := vcross_eq (by omega) (by omega) (by omega) (by omega)
    rw [e0, decide_eq_false (show ¬ lawB_s7 p0 p1 t0 t1 r > 65536 by omega), vinner_eq (a := lawB_s3 p0 p1 t0 t1 r) (c := lawB_s3 p0 p1 t0 t1 r) (by omega) (by omega) (by omega) (by omega), hcr, h10, h11, decide_eq_true b1, decide_eq_true h12]
    simp only [Bool.or_self, cond_false, Bool.true_and, Bool.and_true, Bool.and_eq_true, Bool.or_eq_true, decide_eq_true_eq]
    refine ⟨⟨?_, ?_⟩, ?_⟩
    · by_cases h : lawB_s9 r < 1
      · exact .inl h
      · exact .inr (b2 (by omega))
    · by_cases h : between_0 r (-32768) 32768 ≤ 1
      · exact .inl h
      · exact .inr (b3 (by omega))
    · by_cases h : between_0 r (-32768) 32768 ≥ -1
      · exact .inl h
      · exact .inr (b4 (by omega))
  · have hz : small_0 t0 500000 = 0 ∧ small_0 t1 500000 = 0 := by simpa only [Bool.and_eq_true, beq_iff_eq] using hc
    have : lawB_s0 p0 p1 t0 t1 r = true := by
      unfold lawB_s0 onormal_2
      rw [hz.1, hz.2]; rfl
    rw [this]; rfl
theorem lawB_need : ∀ q ∈ (lawB_needs), q := by
  unfold lawB_needs
  simp only [List.forall_mem_cons, List.not_mem_nil, false_implies, implies_true, and_true]
  repeat' (first | decide | refine And.intro ?_ ?_ | intro _)
set_option maxRecDepth 1000000 in
theorem lawB_runs (p0 p1 t0 t1 r : Int) (hNeeds : ∀ pN ∈ (lawB_needs), pN) : Runs (runF (sums K_awake) L_cr 9) (lawB_tpl.args [.i p0, .i p1, .i t0, .i t1, .i r]) (lawB_tpl.memo [.i p0, .i p1, .i t0, .i t1, .i r] []) lawB_tpl.n (SV.one (SC.bool (SB.v (lawB_0 p0 p1 t0 t1 r))))
    ([]) :=
  Runs.of (ps := (lawB_needs)) (by kernel_rfl) (by kernel_rfl) hNeeds
noncomputable def lawB_out : List Pm → Lss → Option CRes
  | [.i p0, .i p1, .i t0, .i t1, .i r], [] => some ⟨SV.one (SC.bool (SB.v (lawB_0 p0 p1 t0 t1 r))),
    [],
    [], [], 57774⟩
  | _, _ => none
theorem lawB_ok : FOk Try.prog 9 (tplS lawB_tpl lawB_out) := by
  refine tplS_ok (runF_ok known_awake 9) fun ps ls r hr hn _ => ?_
  unfold lawB_out at hr
  split at hr
  · cases hr; exact ⟨_, lawB_runs _ _ _ _ _ (fun p hp => lawB_need p hp), fun _ => by simp only [SV.den, SC.den, SB.val, lawB_0_eq]⟩
  · cases hr
noncomputable def K_lawB : List (Nat × Summ) := (9, tplS lawB_tpl lawB_out) :: K_awake
theorem known_lawB : Known Try.prog (sums K_lawB) L_cr := known_cons known_awake lawB_ok
end Go.Proofs.Ytjlkecfkjcanaaa
