/-
  OFFSETDISTANCE: the walk. Conditions: none.
-/
import Derived.Test.YtjlkecfkjcanaaaG1
import Derived.Test.YtjlkecfkjcanaaaE8
set_option linter.all false
namespace Go.Proofs.Ytjlkecfkjcanaaa
open Go.SX Go.RowKit
noncomputable def lawD_tpl : Tpl := ⟨[.one (.wh 0)], [(0, .row true 3 1 1 [.int .i64])], 2⟩
noncomputable def lawD_s0 (L : List (List Int)) : Int :=
  if IntKind.i64.wrap (0 - qr L) > qr L then IntKind.i64.wrap (0 - qr L) else qr L
noncomputable def lawD_s1 (L : List (List Int)) : Bool :=
  decide (qr L < 0)
noncomputable def lawD_s2 (L : List (List Int)) : Int :=
  bif lawD_s1 L then IntKind.i64.wrap (qr L + 6) else IntKind.i64.wrap (qr L - 6)
noncomputable def lawD_s3 (L : List (List Int)) : Int :=
  bif !decide (lawD_s2 L > 0) == decide (qr L > 0) then 0 else lawD_s2 L
noncomputable def lawD_s4 (L : List (List Int)) : Int :=
  bif lawD_s1 L then IntKind.i64.wrap (qr L - 6) else IntKind.i64.wrap (qr L + 6)
noncomputable def lawD_0 (L : List (List Int)) : Bool :=
  bif !light_0 L then true
  else
    bif decide (lawD_s0 L < 4) then true
    else
      bif oends_4 (qa0 L) (qa1 L) (qa2 L) (qa3 L) (qa4 L) (qa5 L) (qa6 L) (qr L) != 0 then
        true && (oends_4 (qa0 L) (qa1 L) (qa2 L) (qa3 L) (qa4 L) (qa5 L) (qa6 L) (qr L) == 16 || oends_4 (qa0 L) (qa1 L) (qa2 L) (qa3 L) (qa4 L) (qa5 L) (qa6 L) (qr L) == 3)
      else
        bif lawD_s3 L == 0 && lawD_s1 L then true
        else
          true &&
                  oclear_0 (qa0 L) (qa1 L) (qa2 L) (qa3 L) (qa4 L) (qa5 L) (qa6 L) (oends_0 (qa0 L) (qa1 L) (qa2 L) (qa3 L) (qa4 L) (qa5 L) (qa6 L) (qr L))
                    (oends_1 (qa0 L) (qa1 L) (qa2 L) (qa3 L) (qa4 L) (qa5 L) (qa6 L) (qr L)) (lawD_s3 L) &&
                oclear_0 (qa0 L) (qa1 L) (qa2 L) (qa3 L) (qa4 L) (qa5 L) (qa6 L) (oends_2 (qa0 L) (qa1 L) (qa2 L) (qa3 L) (qa4 L) (qa5 L) (qa6 L) (qr L))
                  (oends_3 (qa0 L) (qa1 L) (qa2 L) (qa3 L) (qa4 L) (qa5 L) (qa6 L) (qr L)) (lawD_s3 L) &&
              !oclear_0 (qa0 L) (qa1 L) (qa2 L) (qa3 L) (qa4 L) (qa5 L) (qa6 L) (oends_0 (qa0 L) (qa1 L) (qa2 L) (qa3 L) (qa4 L) (qa5 L) (qa6 L) (qr L))
                  (oends_1 (qa0 L) (qa1 L) (qa2 L) (qa3 L) (qa4 L) (qa5 L) (qa6 L) (qr L)) (lawD_s4 L) &&
            !oclear_0 (qa0 L) (qa1 L) (qa2 L) (qa3 L) (qa4 L) (qa5 L) (qa6 L) (oends_2 (qa0 L) (qa1 L) (qa2 L) (qa3 L) (qa4 L) (qa5 L) (qa6 L) (qr L))
                (oends_3 (qa0 L) (qa1 L) (qa2 L) (qa3 L) (qa4 L) (qa5 L) (qa6 L) (qr L)) (lawD_s4 L)
noncomputable def lawD_needs (L : List (List Int)) : List Prop :=
  [(!light_0 L) = false → L.length ≤ 1000000]
theorem lawD_0_eq (L : List (List Int)) : (lawD_0 L) = true := by
  unfold lawD_0
  cases !light_0 L
  · rw [cond_false]
    obtain ⟨A, B, hr⟩ := pair_ep L
    by_cases hk : lawD_s0 L < 4
    · rw [decide_eq_true hk]; rfl
    · rw [decide_eq_false hk, cond_false]
      have hk' : 4 ≤ qr L ∨ qr L ≤ -4 := by
        unfold lawD_s0 at hk
        rw [wrI (x := 0 - qr L) (by omega) (by omega)] at hk
        split at hk <;> omega
      by_cases h : oends_4 (qa0 L) (qa1 L) (qa2 L) (qa3 L) (qa4 L) (qa5 L) (qa6 L) (qr L) = 0
      · have e0 : (oends_4 (qa0 L) (qa1 L) (qa2 L) (qa3 L) (qa4 L) (qa5 L) (qa6 L) (qr L) != 0) = false := by simpa using h
        rw [e0, cond_false]
        have hm : lawD_s4 L = moreD (qr L) := by
          unfold lawD_s4 lawD_s1 moreD
          rw [wrI (x := qr L + 6) (by omega) (by omega), wrI (x := qr L - 6) (by omega) (by omega)]
          by_cases g : qr L < 0
          · rw [decide_eq_true g, cond_true, if_pos g]
          · rw [decide_eq_false g, cond_false, if_neg g]
        have hl : lawD_s3 L = lessD (qr L) := by
          unfold lawD_s3 lawD_s2 lawD_s1 lessD
          rw [wrI (x := qr L + 6) (by omega) (by omega), wrI (x := qr L - 6) (by omega) (by omega)]
          by_cases g : qr L < 0
          · rw [decide_eq_true g, cond_true, if_pos g, decide_eq_false (show ¬ qr L > 0 by omega)]
            by_cases g6 : qr L + 6 > 0
            · rw [decide_eq_true g6, if_neg (by omega)]; rfl
            · rw [decide_eq_false g6, if_pos (by omega)]; rfl
          · rw [decide_eq_false g, cond_false, if_neg g, decide_eq_true (show qr L > 0 by omega)]
            by_cases g6 : qr L - 6 > 0
            · rw [decide_eq_true g6, if_pos (by omega)]; rfl
            · rw [decide_eq_false g6]
              show (0 : Int) = _
              split <;> omega
        rw [hl, hm]
        by_cases hz : lessD (qr L) = 0 ∧ qr L < 0
        · have : (lessD (qr L) == 0 && lawD_s1 L) = true := by
            unfold lawD_s1
            rw [hz.1, decide_eq_true hz.2]; rfl
          rw [this, cond_true]
        · have : (lessD (qr L) == 0 && lawD_s1 L) = false := by
            unfold lawD_s1
            rw [Bool.and_eq_false_iff, beq_eq_false_iff_ne, decide_eq_false_iff_not]
            by_cases g : lessD (qr L) = 0
            · exact .inr fun g2 => hz ⟨g, g2⟩
            · exact .inl g
          rw [this, cond_false]
          obtain ⟨⟨x1, x2⟩, x3, x4⟩ := dist_ends A (pair_nz L).1 (fun h6 {_ _} hA hB => pair_rt L h6 hA hB) hr hk' h hz
          rw [x1, x2, x3, x4]; rfl
      · have e0 : (oends_4 (qa0 L) (qa1 L) (qa2 L) (qa3 L) (qa4 L) (qa5 L) (qa6 L) (qr L) != 0) = true := by simpa using h
        rw [e0, cond_true]
        rcases ends_err (qa0 L) (qa1 L) (qa2 L) (qa3 L) (qa4 L) (qa5 L) (qa6 L) (qr L) with h1 | h1 | h1
        · exact absurd h1 h
        · rw [h1]; rfl
        · rw [h1]; rfl
  · rfl
theorem lawD_need {L : List (List Int)} : ∀ q ∈ (lawD_needs L), q := by
  unfold lawD_needs
  simp only [List.forall_mem_cons, List.not_mem_nil, false_implies, implies_true, and_true]
  intro h
  exact light_len (L := L) (by simpa using h)
set_option maxRecDepth 1000000 in
theorem lawD_runs (L : List (List Int)) (hNeeds : ∀ pN ∈ (lawD_needs L), pN) : Runs (runF (sums K_pair) L_cr 12) (lawD_tpl.args []) (lawD_tpl.memo [] [L]) lawD_tpl.n (SV.one (SC.bool (SB.v (lawD_0 L))))
    ([(0, Obj.row true 3 1 (RowC.lst 1 [CK.int IntKind.i64] L))]) :=
  Runs.of (ps := (lawD_needs L)) (by kernel_rfl) (by kernel_rfl) hNeeds
noncomputable def lawD_out : List Pm → Lss → Option CRes
  | [], [L] => some ⟨SV.one (SC.bool (SB.v (lawD_0 L))),
    [(0, Obj.row true 3 1 (RowC.lst 1 [CK.int IntKind.i64] L))],
    [], [], 158504⟩
  | _, _ => none
theorem lawD_ok : FOk Try.prog 12 (tplS lawD_tpl lawD_out) := by
  refine tplS_ok (runF_ok known_pair 12) fun ps ls r hr hn _ => ?_
  unfold lawD_out at hr
  split at hr
  · cases hr; exact ⟨_, lawD_runs _ (fun p hp => lawD_need p hp), fun _ => by simp only [SV.den, SC.den, SB.val, lawD_0_eq]⟩
  · cases hr
noncomputable def K_lawD : List (Nat × Summ) := (12, tplS lawD_tpl lawD_out) :: K_pair
theorem known_lawD : Known Try.prog (sums K_lawD) L_cr := known_cons known_pair lawD_ok
end Go.Proofs.Ytjlkecfkjcanaaa
