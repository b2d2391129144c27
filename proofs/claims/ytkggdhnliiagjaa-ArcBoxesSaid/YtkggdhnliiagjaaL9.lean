/-
  ARCBOXES: the walk. Conditions: none.
-/
import Derived.Test.YtkggdhnliiagjaaG2
import Derived.Test.YtkggdhnliiagjaaD10
set_option linter.all false
namespace Go.Proofs.Ytkggdhnliiagjaa
open Go.SX Go.RowKit
noncomputable def rLen_tpl : Tpl := ⟨[.agg [.int .i64, .int .i64, .int .i64], .one (.int .i64)], [], 0⟩
noncomputable def rLen_needs (a : Int) (b : Int) (c : Int) : List Prop :=
  [-9223372036854775808 ≤ rdot_0 a b c a b c ∧ rdot_0 a b c a b c < 9223372036854775808]
theorem rLen_need {a : Int} {b : Int} {c : Int} : ∀ q ∈ (rLen_needs a b c), q := by
  intro q hq
  unfold rLen_needs at hq
  simp only [List.mem_cons, List.not_mem_nil, or_false] at hq
  subst hq
  exact wrap_isI _
set_option maxRecDepth 1000000 in
theorem rLen_runs (a b c m : Int) (hNeeds : ∀ pN ∈ (rLen_needs a b c), pN) : Runs (runF (sums K_vec) L_ov 42) (rLen_tpl.args [.i a, .i b, .i c, .i m]) (rLen_tpl.memo [.i a, .i b, .i c, .i m] []) rLen_tpl.n (SV.tup [(false, [SC.int IntKind.i64 (SI.v (rRoot_0 (rdot_0 a b c a b c) 1 m))]), (false, [SC.bool (SB.v (rRoot_1 (rdot_0 a b c a b c) 1 m))])])
    ([]) :=
  Runs.of (ps := (rLen_needs a b c)) (by kernel_rfl) (by kernel_rfl) hNeeds
noncomputable def rLen_out : List Pm → Lss → Option CRes
  | [.i a, .i b, .i c, .i m], [] => some ⟨SV.tup [(false, [SC.int IntKind.i64 (SI.v (rRoot_0 (rdot_0 a b c a b c) 1 m))]), (false, [SC.bool (SB.v (rRoot_1 (rdot_0 a b c a b c) 1 m))])],
    [],
    [], [], 679⟩
  | _, _ => none
theorem rLen_ok : FOk Try.prog 42 (tplS rLen_tpl rLen_out) := by
  refine tplS_ok (runF_ok known_vec 42) fun ps ls r hr hn _ => ?_
  unfold rLen_out at hr
  split at hr
  · cases hr; exact ⟨_, rLen_runs _ _ _ _ (fun p hp => rLen_need p hp), fun _ => rfl⟩
  · cases hr
noncomputable def K_rLen : List (Nat × Summ) := (42, tplS rLen_tpl rLen_out) :: K_vec
theorem known_rLen : Known Try.prog (sums K_rLen) L_ov := known_cons known_vec rLen_ok
noncomputable def lawB_tpl : Tpl := ⟨[.one (.wh 0)], [(0, .row true 3 1 1 [.int .i64])], 2⟩
noncomputable def lawB_s0 (L : List (List Int)) : Int :=
  aext_0 3 (arc_0 0 L) (arc_1 0 L) (arc_2 0 L) (arc_3 0 L) (arc_4 0 L) (arc_5 0 L) (range_0 17 19 0 L) (arc_6 0 L) (arc_7 0 L) (arc_8 0 L) (arc_9 0 L) (arc_10 0 L)
noncomputable def lawB_s1 (L : List (List Int)) : Int :=
  aext_1 3 (arc_0 0 L) (arc_1 0 L) (arc_2 0 L) (arc_3 0 L) (arc_4 0 L) (arc_5 0 L) (range_0 17 19 0 L) (arc_6 0 L) (arc_7 0 L) (arc_8 0 L) (arc_9 0 L) (arc_10 0 L)
noncomputable def lawB_s2 (L : List (List Int)) : Int :=
  aext_2 3 (arc_0 0 L) (arc_1 0 L) (arc_2 0 L) (arc_3 0 L) (arc_4 0 L) (arc_5 0 L) (range_0 17 19 0 L) (arc_6 0 L) (arc_7 0 L) (arc_8 0 L) (arc_9 0 L) (arc_10 0 L)
noncomputable def lawB_s3 (L : List (List Int)) : Int :=
  aext_3 3 (arc_0 0 L) (arc_1 0 L) (arc_2 0 L) (arc_3 0 L) (arc_4 0 L) (arc_5 0 L) (range_0 17 19 0 L) (arc_6 0 L) (arc_7 0 L) (arc_8 0 L) (arc_9 0 L) (arc_10 0 L)
noncomputable def lawB_s4 (L : List (List Int)) : Int :=
  aext_4 3 (arc_0 0 L) (arc_1 0 L) (arc_2 0 L) (arc_3 0 L) (arc_4 0 L) (arc_5 0 L) (range_0 17 19 0 L) (arc_6 0 L) (arc_7 0 L) (arc_8 0 L) (arc_9 0 L) (arc_10 0 L)
noncomputable def lawB_s5 (L : List (List Int)) : Int :=
  aext_5 3 (arc_0 0 L) (arc_1 0 L) (arc_2 0 L) (arc_3 0 L) (arc_4 0 L) (arc_5 0 L) (range_0 17 19 0 L) (arc_6 0 L) (arc_7 0 L) (arc_8 0 L) (arc_9 0 L) (arc_10 0 L)
noncomputable def lawB_s6 (L : List (List Int)) : Int :=
  minus_0 (flat_0 (range_0 17 19 0 L) (arc_3 0 L) (arc_4 0 L) (arc_5 0 L)) (flat_0 (range_0 17 19 0 L) (arc_6 0 L) (arc_7 0 L) (arc_8 0 L))
noncomputable def lawB_s7 (L : List (List Int)) : Int :=
  minus_0 (flat_1 (range_0 17 19 0 L) (arc_3 0 L) (arc_4 0 L) (arc_5 0 L)) (flat_1 (range_0 17 19 0 L) (arc_6 0 L) (arc_7 0 L) (arc_8 0 L))
noncomputable def lawB_s8 (L : List (List Int)) : Int :=
  minus_0 (flat_0 (range_0 17 19 0 L) (arc_0 0 L) (arc_1 0 L) (arc_2 0 L)) (flat_0 (range_0 17 19 0 L) (arc_6 0 L) (arc_7 0 L) (arc_8 0 L))
noncomputable def lawB_s9 (L : List (List Int)) : Int :=
  minus_0 (flat_1 (range_0 17 19 0 L) (arc_0 0 L) (arc_1 0 L) (arc_2 0 L)) (flat_1 (range_0 17 19 0 L) (arc_6 0 L) (arc_7 0 L) (arc_8 0 L))
noncomputable def lawB_s10 (L : List (List Int)) : Int :=
  if rRoot_0 (rdot_0 (lawB_s6 L) (lawB_s7 L) 0 (lawB_s6 L) (lawB_s7 L) 0) 1 1 > rRoot_0 (rdot_0 (lawB_s8 L) (lawB_s9 L) 0 (lawB_s8 L) (lawB_s9 L) 0) 1 1 then
    rRoot_0 (rdot_0 (lawB_s6 L) (lawB_s7 L) 0 (lawB_s6 L) (lawB_s7 L) 0) 1 1
  else rRoot_0 (rdot_0 (lawB_s8 L) (lawB_s9 L) 0 (lawB_s8 L) (lawB_s9 L) 0) 1 1
noncomputable def lawB_s11 (L : List (List Int)) : Int :=
  IntKind.i64.wrap (flat_0 (range_0 17 19 0 L) (arc_6 0 L) (arc_7 0 L) (arc_8 0 L) - lawB_s10 L)
noncomputable def lawB_s12 (L : List (List Int)) : Int :=
  IntKind.i64.wrap (flat_1 (range_0 17 19 0 L) (arc_6 0 L) (arc_7 0 L) (arc_8 0 L) - lawB_s10 L)
noncomputable def lawB_s13 (L : List (List Int)) : Int :=
  IntKind.i64.wrap (flat_0 (range_0 17 19 0 L) (arc_6 0 L) (arc_7 0 L) (arc_8 0 L) + lawB_s10 L)
noncomputable def lawB_s14 (L : List (List Int)) : Int :=
  IntKind.i64.wrap (flat_1 (range_0 17 19 0 L) (arc_6 0 L) (arc_7 0 L) (arc_8 0 L) + lawB_s10 L)
noncomputable def lawB_0 (L : List (List Int)) : Bool :=
  bif !light_0 L then true
  else
    bif
        decide (arc_0 0 L < lawB_s0 L) || decide (arc_1 0 L < lawB_s1 L) || decide (arc_2 0 L < lawB_s2 L) || decide (arc_0 0 L > lawB_s3 L) || decide (arc_1 0 L > lawB_s4 L) ||
          decide (arc_2 0 L > lawB_s5 L) then
      false
    else
      bif
          decide (arc_3 0 L < lawB_s0 L) || decide (arc_4 0 L < lawB_s1 L) || decide (arc_5 0 L < lawB_s2 L) || decide (arc_3 0 L > lawB_s3 L) || decide (arc_4 0 L > lawB_s4 L) ||
            decide (arc_5 0 L > lawB_s5 L) then
        false
      else
        true && decide (flat_0 (range_0 17 19 0 L) (lawB_s0 L) (lawB_s1 L) (lawB_s2 L) ≥ lawB_s11 L) && decide (flat_1 (range_0 17 19 0 L) (lawB_s0 L) (lawB_s1 L) (lawB_s2 L) ≥ lawB_s12 L) &&
            decide (flat_0 (range_0 17 19 0 L) (lawB_s3 L) (lawB_s4 L) (lawB_s5 L) ≤ lawB_s13 L) &&
          decide (flat_1 (range_0 17 19 0 L) (lawB_s3 L) (lawB_s4 L) (lawB_s5 L) ≤ lawB_s14 L)
noncomputable def lawB_needs (L : List (List Int)) : List Prop :=
  [(!light_0 L) = false → Int.ofNat 0 ≤ 0 ∧ L.length ≤ 1000000]
theorem lawB_0_eq (L : List (List Int)) : (lawB_0 L) = true := by
  unfold lawB_0
  cases !light_0 L
  · rw [cond_false]
    have I := arc_i 0 L
    have G := arc_g 0 L
    obtain ⟨s0, s1, s2, s3⟩ := arcI_spokes I G
    have s6 : lawB_s6 L = aB0 0 L := s2
    have s7 : lawB_s7 L = aB1 0 L := s3
    have s8 : lawB_s8 L = aA0 0 L := s0
    have s9 : lawB_s9 L = aA1 0 L := s1
    obtain ⟨m, m0, m1⟩ := rext_mx I G
    have n1 := sq_nn (aA0 0 L) (aA1 0 L)
    have n2 := sq_nn (aB0 0 L) (aB1 0 L)
    have hr : wSqrt_0 (mxs (arc_0 0 L) (arc_1 0 L) (arc_2 0 L) (arc_3 0 L) (arc_4 0 L) (arc_5 0 L) (range_0 17 19 0 L) (arc_6 0 L) (arc_7 0 L) (arc_8 0 L)) 1 ≤ lawB_s10 L ∧ bd 30001 (lawB_s10 L) := by
      unfold lawB_s10
      rw [s6, s7, s8, s9, rdot_flat G.a0 G.a1, rdot_flat G.b0 G.b1, m]
      rw [m] at m1
      exact max_root ⟨n1, by split at m1 <;> omega⟩ ⟨n2, by split at m1 <;> omega⟩
    obtain ⟨⟨x1, x2, x3, x4, x5, x6⟩, ⟨y1, y2, y3, y4, y5, y6⟩, z1, z2, z3, z4⟩ := box_law (l0 := lawB_s0 L) (l1 := lawB_s1 L) (l2 := lawB_s2 L) (g0 := lawB_s3 L) (g1 := lawB_s4 L) (g2 := lawB_s5 L) I G rfl rfl rfl rfl rfl rfl hr.1
    have c0 := G.c0
    have c1 := G.c1
    have h11 : lawB_s11 L = aC0 0 L - lawB_s10 L := by unfold lawB_s11; rw [I.c.1, wrI (by omega) (by omega)]
    have h12 : lawB_s12 L = aC1 0 L - lawB_s10 L := by unfold lawB_s12; rw [I.c.2.1, wrI (by omega) (by omega)]
    have h13 : lawB_s13 L = aC0 0 L + lawB_s10 L := by unfold lawB_s13; rw [I.c.1, wrI (by omega) (by omega)]
    have h14 : lawB_s14 L = aC1 0 L + lawB_s10 L := by unfold lawB_s14; rw [I.c.2.1, wrI (by omega) (by omega)]
    rw [h11, h12, h13, h14, decide_eq_false (show ¬ arc_0 0 L < lawB_s0 L by omega), decide_eq_false (show ¬ arc_1 0 L < lawB_s1 L by omega), decide_eq_false (show ¬ arc_2 0 L < lawB_s2 L by omega), decide_eq_false (show ¬ arc_0 0 L > lawB_s3 L by omega), decide_eq_false (show ¬ arc_1 0 L > lawB_s4 L by omega), decide_eq_false (show ¬ arc_2 0 L > lawB_s5 L by omega),
      decide_eq_false (show ¬ arc_3 0 L < lawB_s0 L by omega), decide_eq_false (show ¬ arc_4 0 L < lawB_s1 L by omega), decide_eq_false (show ¬ arc_5 0 L < lawB_s2 L by omega), decide_eq_false (show ¬ arc_3 0 L > lawB_s3 L by omega), decide_eq_false (show ¬ arc_4 0 L > lawB_s4 L by omega), decide_eq_false (show ¬ arc_5 0 L > lawB_s5 L by omega),
      decide_eq_true z1, decide_eq_true z2, decide_eq_true z3, decide_eq_true z4]
    rfl
  · rfl
theorem lawB_need {L : List (List Int)} : ∀ q ∈ (lawB_needs L), q := by
  unfold lawB_needs
  simp only [List.forall_mem_cons, List.not_mem_nil, false_implies, implies_true, and_true]
  intro h
  have := light_len (L := L) (by simpa using h)
  repeat' (first | assumption | decide | apply And.intro)
set_option maxRecDepth 1000000 in
theorem lawB_runs (L : List (List Int)) (hNeeds : ∀ pN ∈ (lawB_needs L), pN) : Runs (runF (sums K_rLen) L_ov 12) (lawB_tpl.args []) (lawB_tpl.memo [] [L]) lawB_tpl.n (SV.one (SC.bool (SB.v (lawB_0 L))))
    ([(0, Obj.row true 3 1 (RowC.lst 1 [CK.int IntKind.i64] L))]) :=
  Runs.of (ps := (lawB_needs L)) (by kernel_rfl) (by kernel_rfl) hNeeds
noncomputable def lawB_out : List Pm → Lss → Option CRes
  | [], [L] => some ⟨SV.one (SC.bool (SB.v (lawB_0 L))),
    [(0, Obj.row true 3 1 (RowC.lst 1 [CK.int IntKind.i64] L))],
    [], [], 18643⟩
  | _, _ => none
theorem lawB_ok : FOk Try.prog 12 (tplS lawB_tpl lawB_out) := by
  refine tplS_ok (runF_ok known_rLen 12) fun ps ls r hr hn _ => ?_
  unfold lawB_out at hr
  split at hr
  · cases hr; exact ⟨_, lawB_runs _ (fun p hp => lawB_need p hp), fun _ => by simp only [SV.den, SC.den, SB.val, lawB_0_eq]⟩
  · cases hr
noncomputable def K_lawB : List (Nat × Summ) := (12, tplS lawB_tpl lawB_out) :: K_rLen
theorem known_lawB : Known Try.prog (sums K_lawB) L_ov := known_cons known_rLen lawB_ok
end Go.Proofs.Ytkggdhnliiagjaa
