/-
  ClearanceContours: for every input the law returns true; each argument reads afterwards as it read before. Conditions: none.
-/
import Derived.Test.YthgiaoidekdpfaaHW
import Derived.Test.YthgiaoidekdpfaaSXLaw
set_option linter.all false
namespace Go.Proofs.Ythgiaoidekdpfaa.clearanceContours
open Go.SX Go.RowKit Go.ChangeShapes Go.WideShapes Go.ChangeAt
theorem own : ownKnob Try.prog.godebug = none := by kernel_rfl
theorem laid : laidOutB Try.prog = true := by kernel_rfl
set_option maxRecDepth 100000 in
theorem lifted (os : Os) (started : os.Started) (H : Type) (enc : TypeId × Value → H) :
    ReturnsInHanded {} Try.checked os 10 .any (Rows.clearanceContoursSpec.pre6 enc Try.prog Try.f10 Rows.clearanceContoursRow.domain false) (Rows.clearanceContoursSpec.post enc Try.prog Try.f10 false true false false) := by
  refine returnsInHanded_of_change (C := Try.checked) own started (by kernel_rfl) Try.func10
    (ChangeSpec.witness6 (enc := enc) (C := Try.checked) false ⟨#[], #[.slice none 0 0, .slice none 0 0], []⟩ 8 (by kernel_rfl) (by kernel_rfl) (by kernel_rfl) (by kernel_rfl)) ?_
  intro W base args ds gs before hval0 hW hcnd _
  have hval : ∀ (j : Nat) t v, Try.f10.params[j]? = some t → args[j]? = some v → Value.okWide Try.prog W .any base t v := hval0
  have hW' := hW
  obtain ⟨p, q, hA0, hV, hpq, _, _⟩ := hW
  have hA : DataW.TrodAll enc Try.prog W 0 (fun _ => true) true Try.f10.params.toList args.toList ds p := hA0
  have hA1 := hA
  rw [Try.params10] at hA1 hval
  obtain ⟨ps, ls, locs, z1, z2, z3, z4⟩ := open_args (b0 := base) (pss := [.row 3 [.int .i64], .row 3 [.int .i64]]) (by kernel_rfl) hA1 (fun j t v h1 h2 => hval j t v (by simpa using h1) (by simpa using h2))
  obtain ⟨y1, y2⟩ := z4 0 (fun i => locs.getD i Loc.none) (fun i l h => by simp [List.getD, h])
  obtain ⟨A, a1, a2, a3⟩ := y1 []
  rw [List.append_nil] at a1
  have t0 : PmOk [] ps := z1
  clear z1
  obtain rfl := pm_nil t0
  obtain ⟨L0, L1, rfl⟩ : ∃ L0 L1, ls = [L0, L1] := by
    match ls, z2 with
    | [L0, L1], _ => exact ⟨_, _, rfl⟩
  obtain ⟨_, _, d0, _, _, _, _, rfl, _, _, hB0⟩ := trodAll_cons hA1
  obtain ⟨_, _, d1, _, _, _, _, rfl, _, _, hB1⟩ := trodAll_cons hB0
  obtain ⟨_, rfl, _⟩ := trodAll_nil hB1
  have eA : lawCo_tpl.args [] = A := by
    have : lawCo_tpl.args [] = (mkPs (psVs [.row 3 [.int .i64], .row 3 [.int .i64]] 0) []).1 := by kernel_rfl
    rw [this, a1]
  have hr : psR [.row 3 [.int .i64], .row 3 [.int .i64]] = 2 := by kernel_rfl
  rw [hr] at a3 y2
  have hn : lawCo_tpl.n = 4 := by kernel_rfl
  have := law_calls (runF_ok known_smL 10) (lawCo_runs _ _ (fun q hq => lawCo_need q hq)) (fun _ => by simp only [SV.den, SC.den, SB.val, lawCo_0_eq]) (P' := Try.prog) (w := W) (vs := args.toList) (pss := []) (θ := fun i => locs.getD i Loc.none)
    (by rw [eA]; exact a2) (by rw [eA, hn]; intro i hi; have := a3 i hi; omega) (fun i o ho => by
      have e : lawCo_tpl.memo [] [L0, L1] = rowsM [.row 3 [.int .i64], .row 3 [.int .i64]] 0 2 [L0, L1] := by kernel_rfl
      rw [e] at ho
      obtain ⟨w1, w2, _, w4, w5⟩ := y2 2 i o ho
      exact ⟨w1, w2, by rw [hn]; omega, w5⟩)
  rw [Array.toArray_toList] at this
  refine this.mono fun e W' ⟨he, hb⟩ => ?_
  subst he
  exact ⟨_, rfl, law_post (bt := 4) rfl Try.underlying4 (by kernel_rfl) rfl laid (by kernel_rfl) hW' hA hV hpq hb⟩
theorem holds : Rows.ClearanceContoursSaid :=
  OpenClaim.holds_of_wide 10 Try.f10 rfl rfl rfl rfl rfl rfl rfl ⟨rfl, rfl, rfl, rfl, rfl⟩ rfl rfl rfl rfl rfl (by kernel_rfl) Try.func10 (by kernel_rfl)
    (of_decide_eq_true (by kernel_rfl)) (by unfold Func.isWrapper; first | (rw [if_pos (by decide +kernel)]; kernel_rfl) | (rw [if_neg (by decide +kernel)]; exact ⟨rfl, rfl⟩))
    (fun os started H enc _ => lifted os started H enc)
#print axioms holds
end Go.Proofs.Ythgiaoidekdpfaa.clearanceContours
