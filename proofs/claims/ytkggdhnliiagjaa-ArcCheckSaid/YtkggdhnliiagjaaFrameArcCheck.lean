/-
  ArcCheck: for every input the law returns true; each argument reads afterwards as it read before. Conditions: none.
-/
import Derived.Test.YtkggdhnliiagjaaL3
import Derived.Test.YtkggdhnliiagjaaSXLaw
set_option linter.all false
namespace Go.Proofs.Ytkggdhnliiagjaa.arcCheck
open Go.SX Go.RowKit Go.ChangeShapes Go.WideShapes Go.ChangeAt
theorem own : ownKnob Try.prog.godebug = none := by kernel_rfl
theorem laid : laidOutB Try.prog = true := by kernel_rfl
set_option maxRecDepth 100000 in
theorem lifted (os : Os) (started : os.Started) (H : Type) (enc : TypeId × Value → H) :
    ReturnsInHanded {} Try.checked os 4 .any (Rows.arcCheckSpec.pre6 enc Try.prog Try.f4 Rows.arcCheckRow.domain false) (Rows.arcCheckSpec.post enc Try.prog Try.f4 false true false false) := by
  refine returnsInHanded_of_change (C := Try.checked) own started (by kernel_rfl) Try.func4
    (ChangeSpec.witness6 (enc := enc) (C := Try.checked) false ⟨#[], #[.agg #[.int .i64 0, .int .i64 0, .int .i64 0, .int .i64 0, .int .i64 0, .int .i64 0, .int .i64 0, .int .i64 0, .int .i64 0, .int .i64 0, .int .i64 0, .int .i64 0, .int .i64 0, .bool false, .int .i64 0, .bool false, .int .i64 0, .int .i64 0, .int .i64 0, .int .i64 0, .int .i64 0, .bool false], .slice none 0 0, .int .i64 0, .int .i64 0], []⟩ 8 (by kernel_rfl) (by kernel_rfl) (by kernel_rfl) (by kernel_rfl)) ?_
  intro W base args ds gs before hval0 hW hcnd _
  have hval : ∀ (j : Nat) t v, Try.f4.params[j]? = some t → args[j]? = some v → Value.okWide Try.prog W .any base t v := hval0
  have hW' := hW
  obtain ⟨p, q, hA0, hV, hpq, _, _⟩ := hW
  have hA : DataW.TrodAll enc Try.prog W 0 (fun _ => true) true Try.f4.params.toList args.toList ds p := hA0
  have hA1 := hA
  rw [Try.params4] at hA1 hval
  obtain ⟨ps, ls, locs, z1, z2, z3, z4⟩ := open_args (b0 := base) (pss := [.agg [.int .i64, .int .i64, .int .i64, .int .i64, .int .i64, .int .i64, .int .i64, .int .i64, .int .i64, .int .i64, .int .i64, .int .i64, .int .i64, .bool, .int .i64, .bool, .int .i64, .int .i64, .int .i64, .int .i64, .int .i64, .bool], .row 3 [.int .i64], .one (.int .i64), .one (.int .i64)]) (by kernel_rfl) hA1 (fun j t v h1 h2 => hval j t v (by simpa using h1) (by simpa using h2))
  obtain ⟨y1, y2⟩ := z4 0 (fun i => locs.getD i Loc.none) (fun i l h => by simp [List.getD, h])
  obtain ⟨A, a1, a2, a3⟩ := y1 []
  rw [List.append_nil] at a1
  have t0 : PmOk [.int .i64, .int .i64, .int .i64, .int .i64, .int .i64, .int .i64, .int .i64, .int .i64, .int .i64, .int .i64, .int .i64, .int .i64, .int .i64, .bool, .int .i64, .bool, .int .i64, .int .i64, .int .i64, .int .i64, .int .i64, .bool, .int .i64, .int .i64] ps := z1
  clear z1
  obtain ⟨x0, r0, rfl, t1⟩ := pm_i t0
  obtain ⟨x1, r1, rfl, t2⟩ := pm_i t1
  obtain ⟨x2, r2, rfl, t3⟩ := pm_i t2
  obtain ⟨x3, r3, rfl, t4⟩ := pm_i t3
  obtain ⟨x4, r4, rfl, t5⟩ := pm_i t4
  obtain ⟨x5, r5, rfl, t6⟩ := pm_i t5
  obtain ⟨x6, r6, rfl, t7⟩ := pm_i t6
  obtain ⟨x7, r7, rfl, t8⟩ := pm_i t7
  obtain ⟨x8, r8, rfl, t9⟩ := pm_i t8
  obtain ⟨x9, r9, rfl, t10⟩ := pm_i t9
  obtain ⟨x10, r10, rfl, t11⟩ := pm_i t10
  obtain ⟨x11, r11, rfl, t12⟩ := pm_i t11
  obtain ⟨x12, r12, rfl, t13⟩ := pm_i t12
  obtain ⟨x13, r13, rfl, t14⟩ := pm_b t13
  obtain ⟨x14, r14, rfl, t15⟩ := pm_i t14
  obtain ⟨x15, r15, rfl, t16⟩ := pm_b t15
  obtain ⟨x16, r16, rfl, t17⟩ := pm_i t16
  obtain ⟨x17, r17, rfl, t18⟩ := pm_i t17
  obtain ⟨x18, r18, rfl, t19⟩ := pm_i t18
  obtain ⟨x19, r19, rfl, t20⟩ := pm_i t19
  obtain ⟨x20, r20, rfl, t21⟩ := pm_i t20
  obtain ⟨x21, r21, rfl, t22⟩ := pm_b t21
  obtain ⟨x22, r22, rfl, t23⟩ := pm_i t22
  obtain ⟨x23, r23, rfl, t24⟩ := pm_i t23
  obtain rfl := pm_nil t24
  obtain ⟨L0, rfl⟩ : ∃ L0, ls = [L0] := by
    match ls, z2 with
    | [L0], _ => exact ⟨_, rfl⟩
  obtain ⟨_, _, d0, _, _, _, _, rfl, _, _, hB0⟩ := trodAll_cons hA1
  obtain ⟨_, _, d1, _, _, _, _, rfl, _, _, hB1⟩ := trodAll_cons hB0
  obtain ⟨_, _, d2, _, _, _, _, rfl, _, _, hB2⟩ := trodAll_cons hB1
  obtain ⟨_, _, d3, _, _, _, _, rfl, _, _, hB3⟩ := trodAll_cons hB2
  obtain ⟨_, rfl, _⟩ := trodAll_nil hB3
  have eA : lawC_tpl.args [.i x0, .i x1, .i x2, .i x3, .i x4, .i x5, .i x6, .i x7, .i x8, .i x9, .i x10, .i x11, .i x12, .b x13, .i x14, .b x15, .i x16, .i x17, .i x18, .i x19, .i x20, .b x21, .i x22, .i x23] = A := by
    have : lawC_tpl.args [.i x0, .i x1, .i x2, .i x3, .i x4, .i x5, .i x6, .i x7, .i x8, .i x9, .i x10, .i x11, .i x12, .b x13, .i x14, .b x15, .i x16, .i x17, .i x18, .i x19, .i x20, .b x21, .i x22, .i x23] = (mkPs (psVs [.agg [.int .i64, .int .i64, .int .i64, .int .i64, .int .i64, .int .i64, .int .i64, .int .i64, .int .i64, .int .i64, .int .i64, .int .i64, .int .i64, .bool, .int .i64, .bool, .int .i64, .int .i64, .int .i64, .int .i64, .int .i64, .bool], .row 3 [.int .i64], .one (.int .i64), .one (.int .i64)] 0) [.i x0, .i x1, .i x2, .i x3, .i x4, .i x5, .i x6, .i x7, .i x8, .i x9, .i x10, .i x11, .i x12, .b x13, .i x14, .b x15, .i x16, .i x17, .i x18, .i x19, .i x20, .b x21, .i x22, .i x23]).1 := by kernel_rfl
    rw [this, a1]
  have hr : psR [.agg [.int .i64, .int .i64, .int .i64, .int .i64, .int .i64, .int .i64, .int .i64, .int .i64, .int .i64, .int .i64, .int .i64, .int .i64, .int .i64, .bool, .int .i64, .bool, .int .i64, .int .i64, .int .i64, .int .i64, .int .i64, .bool], .row 3 [.int .i64], .one (.int .i64), .one (.int .i64)] = 1 := by kernel_rfl
  rw [hr] at a3 y2
  have hn : lawC_tpl.n = 2 := by kernel_rfl
  have := law_calls (runF_ok known_vec 4) (lawC_runs _ _ _ _ _ _ _ _ _ _ _ _ _ _ _ _ _ _ _ _ _ _ _ _ _ (fun q hq => lawC_need q hq)) (fun _ => by simp only [SV.den, SC.den, SB.val, lawC_0_eq]) (P' := Try.prog) (w := W) (vs := args.toList) (pss := []) (θ := fun i => locs.getD i Loc.none)
    (by rw [eA]; exact a2) (by rw [eA, hn]; intro i hi; have := a3 i hi; omega) (fun i o ho => by
      have e : lawC_tpl.memo [.i x0, .i x1, .i x2, .i x3, .i x4, .i x5, .i x6, .i x7, .i x8, .i x9, .i x10, .i x11, .i x12, .b x13, .i x14, .b x15, .i x16, .i x17, .i x18, .i x19, .i x20, .b x21, .i x22, .i x23] [L0] = rowsM [.agg [.int .i64, .int .i64, .int .i64, .int .i64, .int .i64, .int .i64, .int .i64, .int .i64, .int .i64, .int .i64, .int .i64, .int .i64, .int .i64, .bool, .int .i64, .bool, .int .i64, .int .i64, .int .i64, .int .i64, .int .i64, .bool], .row 3 [.int .i64], .one (.int .i64), .one (.int .i64)] 0 1 [L0] := by kernel_rfl
      rw [e] at ho
      obtain ⟨w1, w2, _, w4, w5⟩ := y2 1 i o ho
      exact ⟨w1, w2, by rw [hn]; omega, w5⟩)
  rw [Array.toArray_toList] at this
  refine this.mono fun e W' ⟨he, hb⟩ => ?_
  subst he
  exact ⟨_, rfl, law_post (bt := 4) rfl Try.underlying4 (by kernel_rfl) rfl laid (by kernel_rfl) hW' hA hV hpq hb⟩
theorem holds : Rows.ArcCheckSaid :=
  OpenClaim.holds_of_wide 4 Try.f4 rfl rfl rfl rfl rfl rfl rfl ⟨rfl, rfl, rfl, rfl, rfl⟩ rfl rfl rfl rfl rfl (by kernel_rfl) Try.func4 (by kernel_rfl)
    (of_decide_eq_true (by kernel_rfl)) (by unfold Func.isWrapper; first | (rw [if_pos (by decide +kernel)]; kernel_rfl) | (rw [if_neg (by decide +kernel)]; exact ⟨rfl, rfl⟩))
    (fun os started H enc _ => lifted os started H enc)
#print axioms holds
end Go.Proofs.Ytkggdhnliiagjaa.arcCheck
