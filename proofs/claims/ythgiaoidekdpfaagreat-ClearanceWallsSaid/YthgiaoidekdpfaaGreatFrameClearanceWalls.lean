/-
  ClearanceWalls: for every input the law returns true; each argument reads afterwards as it read before. Conditions: none.
-/
import Derived.Test.YthgiaoidekdpfaaGreatLZ
import Derived.Test.YthgiaoidekdpfaaGreatSXLaw
set_option linter.all false
namespace Go.Proofs.YthgiaoidekdpfaaGreat.clearanceWalls
open Go.SX Go.RowKit Go.ChangeShapes Go.WideShapes Go.ChangeAt
theorem own : ownKnob Tryz.prog.godebug = none := by kernel_rfl
theorem laid : laidOutB Tryz.prog = true := by kernel_rfl
set_option maxRecDepth 100000 in
theorem lifted (os : Os) (started : os.Started) (H : Type) (enc : TypeId × Value → H) :
    ReturnsInHanded {} Tryz.checked os 3 .any (Rows.clearanceWallsSpec.pre6 enc Tryz.prog Tryz.f3 Rows.clearanceWallsRow.domain false) (Rows.clearanceWallsSpec.post enc Tryz.prog Tryz.f3 false true false false) := by
  refine returnsInHanded_of_change (C := Tryz.checked) own started (by kernel_rfl) Tryz.func3
    (ChangeSpec.witness6 (enc := enc) (C := Tryz.checked) false ⟨#[], #[.agg #[.int .i64 0, .int .i64 0], .int .i64 0, .int .i64 0, .int .i64 0], []⟩ 8 (by kernel_rfl) (by kernel_rfl) (by kernel_rfl) (by kernel_rfl)) ?_
  intro W base args ds gs before hval0 hW hcnd _
  have hval : ∀ (j : Nat) t v, Tryz.f3.params[j]? = some t → args[j]? = some v → Value.okWide Tryz.prog W .any base t v := hval0
  have hW' := hW
  obtain ⟨p, q, hA0, hV, hpq, _, _⟩ := hW
  have hA : DataW.TrodAll enc Tryz.prog W 0 (fun _ => true) true Tryz.f3.params.toList args.toList ds p := hA0
  have hA1 := hA
  rw [Tryz.params3] at hA1 hval
  obtain ⟨ps, ls, locs, z1, z2, z3, z4⟩ := open_args (b0 := base) (pss := [.agg [.int .i64, .int .i64], .one (.int .i64), .one (.int .i64), .one (.int .i64)]) (by kernel_rfl) hA1 (fun j t v h1 h2 => hval j t v (by simpa using h1) (by simpa using h2))
  obtain ⟨y1, y2⟩ := z4 0 (fun i => locs.getD i Loc.none) (fun i l h => by simp [List.getD, h])
  obtain ⟨A, a1, a2, a3⟩ := y1 []
  rw [List.append_nil] at a1
  have t0 : PmOk [.int .i64, .int .i64, .int .i64, .int .i64, .int .i64] ps := z1
  clear z1
  obtain ⟨x0, r0, rfl, t1⟩ := pm_i t0
  obtain ⟨x1, r1, rfl, t2⟩ := pm_i t1
  obtain ⟨x2, r2, rfl, t3⟩ := pm_i t2
  obtain ⟨x3, r3, rfl, t4⟩ := pm_i t3
  obtain ⟨x4, r4, rfl, t5⟩ := pm_i t4
  obtain rfl := pm_nil t5
  obtain rfl : ls = [] := List.length_eq_zero_iff.1 z2
  obtain ⟨_, _, d0, _, _, _, _, rfl, _, _, hB0⟩ := trodAll_cons hA1
  obtain ⟨_, _, d1, _, _, _, _, rfl, _, _, hB1⟩ := trodAll_cons hB0
  obtain ⟨_, _, d2, _, _, _, _, rfl, _, _, hB2⟩ := trodAll_cons hB1
  obtain ⟨_, _, d3, _, _, _, _, rfl, _, _, hB3⟩ := trodAll_cons hB2
  obtain ⟨_, rfl, _⟩ := trodAll_nil hB3
  have eA : lawW_tpl.args [.i x0, .i x1, .i x2, .i x3, .i x4] = A := by
    have : lawW_tpl.args [.i x0, .i x1, .i x2, .i x3, .i x4] = (mkPs (psVs [.agg [.int .i64, .int .i64], .one (.int .i64), .one (.int .i64), .one (.int .i64)] 0) [.i x0, .i x1, .i x2, .i x3, .i x4]).1 := by kernel_rfl
    rw [this, a1]
  have hr : psR [.agg [.int .i64, .int .i64], .one (.int .i64), .one (.int .i64), .one (.int .i64)] = 0 := by kernel_rfl
  rw [hr] at a3 y2
  have hn : lawW_tpl.n = 0 := by kernel_rfl
  have := law_calls (runF_ok known_law 3) (lawW_runs _ _ _ _ _ (fun q hq => lawW_hold _ _ _ _ _ q hq)) (fun _ => by simp only [SV.den, SC.den, SB.val, lawW_0_eq]) (P' := Tryz.prog) (w := W) (vs := args.toList) (pss := []) (θ := fun i => locs.getD i Loc.none)
    (by rw [eA]; exact a2) (by rw [eA, hn]; intro i hi; have := a3 i hi; omega) (fun i o ho => by
      have e : lawW_tpl.memo [.i x0, .i x1, .i x2, .i x3, .i x4] [] = rowsM [.agg [.int .i64, .int .i64], .one (.int .i64), .one (.int .i64), .one (.int .i64)] 0 0 [] := by kernel_rfl
      rw [e] at ho
      obtain ⟨w1, w2, _, w4, w5⟩ := y2 0 i o ho
      exact ⟨w1, w2, by rw [hn]; omega, w5⟩)
  rw [Array.toArray_toList] at this
  refine this.mono fun e W' ⟨he, hb⟩ => ?_
  subst he
  exact ⟨_, rfl, law_post (bt := 4) rfl Tryz.underlying4 (by kernel_rfl) rfl laid (by kernel_rfl) hW' hA hV hpq hb⟩
theorem holds : Rows.ClearanceWallsSaid :=
  OpenClaim.holds_of_wide 3 Tryz.f3 rfl rfl rfl rfl rfl rfl rfl ⟨rfl, rfl, rfl, rfl, rfl⟩ rfl rfl rfl rfl rfl (by kernel_rfl) Tryz.func3 (by kernel_rfl)
    (of_decide_eq_true (by kernel_rfl)) (by unfold Func.isWrapper; first | (rw [if_pos (by decide +kernel)]; kernel_rfl) | (rw [if_neg (by decide +kernel)]; exact ⟨rfl, rfl⟩))
    (fun os started H enc _ => lifted os started H enc)
#print axioms holds
end Go.Proofs.YthgiaoidekdpfaaGreat.clearanceWalls
