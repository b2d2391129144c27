/-
  OFFSETMEETS: the walk. Conditions: none.
-/
import Derived.Test.YtjlkecfkjcanaaaG1
import Derived.Test.YtjlkecfkjcanaaaE7
set_option linter.all false
namespace Go.Proofs.Ytjlkecfkjcanaaa
open Go.SX Go.RowKit
noncomputable def lawX_tpl : Tpl := ⟨[.one (.wh 0)], [(0, .row true 3 1 1 [.int .i64])], 2⟩
noncomputable def lawX_s0 (L : List (List Int)) : Int :=
  if IntKind.i64.wrap (0 - qr L) > qr L then IntKind.i64.wrap (0 - qr L) else qr L
noncomputable def lawX_s1 (L : List (List Int)) : Int :=
  bif decide (qr L < 0) then if 0 < IntKind.i64.wrap (qr L + 3) then 0 else IntKind.i64.wrap (qr L + 3) else if 0 > IntKind.i64.wrap (qr L - 3) then 0 else IntKind.i64.wrap (qr L - 3)
noncomputable def lawX_0 (L : List (List Int)) : Bool :=
  bif !light_0 L then true
  else
    bif trim_2 (qa0 L) (qa1 L) (qa2 L) (qa3 L) (qa4 L) (qa5 L) (qa6 L) (qa7 L) (qb0 L) (qb1 L) (qb2 L) (qb3 L) (qb4 L) (qb5 L) (qb6 L) (qb7 L) (qr L) != 0 then
      true &&
          (trim_0 (qa0 L) (qa1 L) (qa2 L) (qa3 L) (qa4 L) (qa5 L) (qa6 L) (qa7 L) (qb0 L) (qb1 L) (qb2 L) (qb3 L) (qb4 L) (qb5 L) (qb6 L) (qb7 L) (qr L) == 0 &&
            trim_1 (qa0 L) (qa1 L) (qa2 L) (qa3 L) (qa4 L) (qa5 L) (qa6 L) (qa7 L) (qb0 L) (qb1 L) (qb2 L) (qb3 L) (qb4 L) (qb5 L) (qb6 L) (qb7 L) (qr L) == 0) &&
        (trim_2 (qa0 L) (qa1 L) (qa2 L) (qa3 L) (qa4 L) (qa5 L) (qa6 L) (qa7 L) (qb0 L) (qb1 L) (qb2 L) (qb3 L) (qb4 L) (qb5 L) (qb6 L) (qb7 L) (qr L) == 16 ||
          trim_2 (qa0 L) (qa1 L) (qa2 L) (qa3 L) (qa4 L) (qa5 L) (qa6 L) (qa7 L) (qb0 L) (qb1 L) (qb2 L) (qb3 L) (qb4 L) (qb5 L) (qb6 L) (qb7 L) (qr L) == 3)
    else
      bif
          false ||
            !oclear_0 (qa0 L) (qa1 L) (qa2 L) (qa3 L) (qa4 L) (qa5 L) (qa6 L)
                (trim_0 (qa0 L) (qa1 L) (qa2 L) (qa3 L) (qa4 L) (qa5 L) (qa6 L) (qa7 L) (qb0 L) (qb1 L) (qb2 L) (qb3 L) (qb4 L) (qb5 L) (qb6 L) (qb7 L) (qr L))
                (trim_1 (qa0 L) (qa1 L) (qa2 L) (qa3 L) (qa4 L) (qa5 L) (qa6 L) (qa7 L) (qb0 L) (qb1 L) (qb2 L) (qb3 L) (qb4 L) (qb5 L) (qb6 L) (qb7 L) (qr L)) (qr L) then
        false
      else
        qb6 L != 0 || decide (lawX_s0 L < 4) ||
          (lawX_s1 L == 0 ||
              oclear_0 (qb0 L) (qb1 L) (qb2 L) (qb3 L) (qb4 L) (qb5 L) (qb6 L)
                (trim_0 (qa0 L) (qa1 L) (qa2 L) (qa3 L) (qa4 L) (qa5 L) (qa6 L) (qa7 L) (qb0 L) (qb1 L) (qb2 L) (qb3 L) (qb4 L) (qb5 L) (qb6 L) (qb7 L) (qr L))
                (trim_1 (qa0 L) (qa1 L) (qa2 L) (qa3 L) (qa4 L) (qa5 L) (qa6 L) (qa7 L) (qb0 L) (qb1 L) (qb2 L) (qb3 L) (qb4 L) (qb5 L) (qb6 L) (qb7 L) (qr L)) (lawX_s1 L)) &&
            !oclear_0 (qb0 L) (qb1 L) (qb2 L) (qb3 L) (qb4 L) (qb5 L) (qb6 L)
                (trim_0 (qa0 L) (qa1 L) (qa2 L) (qa3 L) (qa4 L) (qa5 L) (qa6 L) (qa7 L) (qb0 L) (qb1 L) (qb2 L) (qb3 L) (qb4 L) (qb5 L) (qb6 L) (qb7 L) (qr L))
                (trim_1 (qa0 L) (qa1 L) (qa2 L) (qa3 L) (qa4 L) (qa5 L) (qa6 L) (qa7 L) (qb0 L) (qb1 L) (qb2 L) (qb3 L) (qb4 L) (qb5 L) (qb6 L) (qb7 L) (qr L))
                (bif decide (qr L < 0) then IntKind.i64.wrap (qr L - 3) else IntKind.i64.wrap (qr L + 3))
noncomputable def lawX_needs (L : List (List Int)) : List Prop :=
  [(!light_0 L) = false → L.length ≤ 1000000]
theorem lawX_0_eq (L : List (List Int)) : (lawX_0 L) = true := by
  unfold lawX_0
  cases !light_0 L
  · rw [cond_false]
    obtain ⟨A, B, hr⟩ := pair_ep L
    by_cases h : trim_2 (qa0 L) (qa1 L) (qa2 L) (qa3 L) (qa4 L) (qa5 L) (qa6 L) (qa7 L) (qb0 L) (qb1 L) (qb2 L) (qb3 L) (qb4 L) (qb5 L) (qb6 L) (qb7 L) (qr L) = 0
    · have h1 := trim_clear B h
      rw [h1, h]
      have e0 : ((0 : Int) != 0) = false := rfl
      rw [e0]
      simp only [cond_false, Bool.not_true, Bool.or_self]
      by_cases h6 : qb6 L = 0
      · by_cases hk : lawX_s0 L < 4
        · rw [decide_eq_true hk]; simp
        · have hk' : 4 ≤ qr L ∨ qr L ≤ -4 := by
            unfold lawX_s0 at hk
            rw [wrI (x := 0 - qr L) (by omega) (by omega)] at hk
            split at hk <;> omega
          have hl : lawX_s1 L = if qr L < 0 then qr L + 3 else qr L - 3 := by
            unfold lawX_s1
            rw [wrI (x := qr L + 3) (by omega) (by omega), wrI (x := qr L - 3) (by omega) (by omega)]
            by_cases g : qr L < 0
            · rw [decide_eq_true g, cond_true, if_pos g, if_neg (by omega)]
            · rw [decide_eq_false g, cond_false, if_neg g, if_neg (by omega)]
          have hm : (bif decide (qr L < 0) then IntKind.i64.wrap (qr L - 3) else IntKind.i64.wrap (qr L + 3)) = if qr L < 0 then qr L - 3 else qr L + 3 := by
            rw [wrI (x := qr L + 3) (by omega) (by omega), wrI (x := qr L - 3) (by omega) (by omega)]
            by_cases g : qr L < 0
            · rw [decide_eq_true g, cond_true, if_pos g]
            · rw [decide_eq_false g, cond_false, if_neg g]
          have nz := (pair_nz L).2 h6
          rw [h6] at B h ⊢
          obtain ⟨x1, x2⟩ := trim_near B nz hr hk' h hl hm
          rw [x1, x2]
          simp
      · have : (qb6 L != 0) = true := by simpa using h6
        rw [this]; rfl
    · obtain ⟨x1, x2, x3⟩ := trim_err h
      have e1 : (trim_2 (qa0 L) (qa1 L) (qa2 L) (qa3 L) (qa4 L) (qa5 L) (qa6 L) (qa7 L) (qb0 L) (qb1 L) (qb2 L) (qb3 L) (qb4 L) (qb5 L) (qb6 L) (qb7 L) (qr L) != 0) = true := by simpa using h
      rw [e1, x1, x2]
      rcases x3 with x3 | x3 <;> rw [x3] <;> rfl
  · rfl
theorem lawX_need {L : List (List Int)} : ∀ q ∈ (lawX_needs L), q := by
  unfold lawX_needs
  simp only [List.forall_mem_cons, List.not_mem_nil, false_implies, implies_true, and_true]
  intro h
  exact light_len (L := L) (by simpa using h)
set_option maxRecDepth 1000000 in
theorem lawX_runs (L : List (List Int)) (hNeeds : ∀ pN ∈ (lawX_needs L), pN) : Runs (runF (sums K_pair) L_cr 13) (lawX_tpl.args []) (lawX_tpl.memo [] [L]) lawX_tpl.n (SV.one (SC.bool (SB.v (lawX_0 L))))
    ([(0, Obj.row true 3 1 (RowC.lst 1 [CK.int IntKind.i64] L))]) :=
  Runs.of (ps := (lawX_needs L)) (by kernel_rfl) (by kernel_rfl) hNeeds
noncomputable def lawX_out : List Pm → Lss → Option CRes
  | [], [L] => some ⟨SV.one (SC.bool (SB.v (lawX_0 L))),
    [(0, Obj.row true 3 1 (RowC.lst 1 [CK.int IntKind.i64] L))],
    [], [], 116920⟩
  | _, _ => none
theorem lawX_ok : FOk Try.prog 13 (tplS lawX_tpl lawX_out) := by
  refine tplS_ok (runF_ok known_pair 13) fun ps ls r hr hn _ => ?_
  unfold lawX_out at hr
  split at hr
  · cases hr; exact ⟨_, lawX_runs _ (fun p hp => lawX_need p hp), fun _ => by simp only [SV.den, SC.den, SB.val, lawX_0_eq]⟩
  · cases hr
noncomputable def K_lawX : List (Nat × Summ) := (13, tplS lawX_tpl lawX_out) :: K_pair
theorem known_lawX : Known Try.prog (sums K_lawX) L_cr := known_cons known_pair lawX_ok
end Go.Proofs.Ytjlkecfkjcanaaa
