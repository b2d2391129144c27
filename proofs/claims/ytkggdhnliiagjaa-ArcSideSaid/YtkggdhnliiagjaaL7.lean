/-
  ARCSIDE: the walk. Conditions: none.
-/
import Derived.Test.YtkggdhnliiagjaaG2
import Derived.Test.YtkggdhnliiagjaaD6
set_option linter.all false
namespace Go.Proofs.Ytkggdhnliiagjaa
open Go.SX Go.RowKit
noncomputable def lawE_tpl : Tpl := ⟨[.one (.wh 0), .one .bool], [(0, .row true 3 1 1 [.int .i64])], 2⟩
noncomputable def lawE_s0 (e : Bool) (L : List (List Int)) : Int :=
  atang_0 3 (arc_0 0 L) (arc_1 0 L) (arc_2 0 L) (arc_3 0 L) (arc_4 0 L) (arc_5 0 L) (range_0 17 19 0 L) (arc_6 0 L) (arc_7 0 L) (arc_8 0 L) (arc_9 0 L) e
noncomputable def lawE_s1 (e : Bool) (L : List (List Int)) : Int :=
  atang_1 3 (arc_0 0 L) (arc_1 0 L) (arc_2 0 L) (arc_3 0 L) (arc_4 0 L) (arc_5 0 L) (range_0 17 19 0 L) (arc_6 0 L) (arc_7 0 L) (arc_8 0 L) (arc_9 0 L) e
noncomputable def lawE_s2 (e : Bool) (L : List (List Int)) : Int :=
  bif e then aspokes_0 (arc_3 0 L) (arc_4 0 L) (arc_5 0 L) (range_0 17 19 0 L) (arc_6 0 L) (arc_7 0 L) (arc_8 0 L)
  else aspokes_0 (arc_0 0 L) (arc_1 0 L) (arc_2 0 L) (range_0 17 19 0 L) (arc_6 0 L) (arc_7 0 L) (arc_8 0 L)
noncomputable def lawE_s3 (e : Bool) (L : List (List Int)) : Int :=
  bif e then aspokes_1 (arc_3 0 L) (arc_4 0 L) (arc_5 0 L) (range_0 17 19 0 L) (arc_6 0 L) (arc_7 0 L) (arc_8 0 L)
  else aspokes_1 (arc_0 0 L) (arc_1 0 L) (arc_2 0 L) (range_0 17 19 0 L) (arc_6 0 L) (arc_7 0 L) (arc_8 0 L)
noncomputable def lawE_s4 (e : Bool) (L : List (List Int)) : Int :=
  IntKind.i64.wrap (vcross_0 (lawE_s2 e L) (lawE_s3 e L) (lawE_s0 e L) (lawE_s1 e L) * arc_9 0 L)
noncomputable def lawE_0 (e : Bool) (L : List (List Int)) : Bool :=
  bif !light_0 L then true
  else
    true && vinner_0 (lawE_s0 e L) (lawE_s1 e L) (lawE_s2 e L) (lawE_s3 e L) == 0 &&
        vinner_0 (lawE_s0 e L) (lawE_s1 e L) (lawE_s0 e L) (lawE_s1 e L) == vinner_0 (lawE_s2 e L) (lawE_s3 e L) (lawE_s2 e L) (lawE_s3 e L) &&
      decide (lawE_s4 e L > 0)
noncomputable def lawE_needs (L : List (List Int)) : List Prop :=
  [(!light_0 L) = false → Int.ofNat 0 ≤ 0 ∧ L.length ≤ 1000000]
theorem lawE_0_eq (e : Bool) (L : List (List Int)) : (lawE_0 e L) = true := by
  unfold lawE_0 lawE_s4 lawE_s0 lawE_s1 lawE_s2 lawE_s3
  cases !light_0 L
  · rw [cond_false]
    have I := arc_i 0 L
    have G := arc_g 0 L
    obtain ⟨s0, s1, s2, s3⟩ := arcI_spokes I G
    obtain ⟨n1, n2⟩ := arcG_nz G
    obtain ⟨t0, t1⟩ := tang_form I G e
    rw [s0, s1, s2, s3, t0, t1]
    have key : bd 20002 (bif e then aB0 0 L else aA0 0 L) ∧ bd 20002 (bif e then aB1 0 L else aA1 0 L) ∧ ((bif e then aB0 0 L else aA0 0 L) ≠ 0 ∨ (bif e then aB1 0 L else aA1 0 L) ≠ 0) := by
      cases e
      · exact ⟨G.a0, G.a1, n1⟩
      · exact ⟨G.b0, G.b1, n2⟩
    obtain ⟨k1, k2, k3⟩ := key
    obtain ⟨x1, x2, x3⟩ := side_law k1 k2 k3 G.d
    rw [x1, x2, decide_eq_true x3]
    simp
  · rfl
theorem lawE_need {L : List (List Int)} : ∀ q ∈ (lawE_needs L), q := by
  unfold lawE_needs
  simp only [List.forall_mem_cons, List.not_mem_nil, false_implies, implies_true, and_true]
  intro h
  have := light_len (L := L) (by simpa using h)
  repeat' (first | assumption | decide | apply And.intro)
set_option maxRecDepth 1000000 in
theorem lawE_runs (e : Bool) (L : List (List Int)) (hNeeds : ∀ pN ∈ (lawE_needs L), pN) : Runs (runF (sums K_vec) L_ov 9) (lawE_tpl.args [.b e]) (lawE_tpl.memo [.b e] [L]) lawE_tpl.n (SV.one (SC.bool (SB.v (lawE_0 e L))))
    ([(0, Obj.row true 3 1 (RowC.lst 1 [CK.int IntKind.i64] L))]) :=
  Runs.of (ps := (lawE_needs L)) (by kernel_rfl) (by kernel_rfl) hNeeds
noncomputable def lawE_out : List Pm → Lss → Option CRes
  | [.b e], [L] => some ⟨SV.one (SC.bool (SB.v (lawE_0 e L))),
    [(0, Obj.row true 3 1 (RowC.lst 1 [CK.int IntKind.i64] L))],
    [], [], 13202⟩
  | _, _ => none
theorem lawE_ok : FOk Try.prog 9 (tplS lawE_tpl lawE_out) := by
  refine tplS_ok (runF_ok known_vec 9) fun ps ls r hr hn _ => ?_
  unfold lawE_out at hr
  split at hr
  · cases hr; exact ⟨_, lawE_runs _ _ (fun p hp => lawE_need p hp), fun _ => by simp only [SV.den, SC.den, SB.val, lawE_0_eq]⟩
  · cases hr
noncomputable def K_lawE : List (Nat × Summ) := (9, tplS lawE_tpl lawE_out) :: K_vec
theorem known_lawE : Known Try.prog (sums K_lawE) L_ov := known_cons known_vec lawE_ok
end Go.Proofs.Ytkggdhnliiagjaa
