/-
  CLEARANCEDECIDES: the walk. Conditions: none.
-/
import Derived.Test.YthgiaoidekdpfaaL2
import Derived.Test.YthgiaoidekdpfaaD4
set_option linter.all false
namespace Go.Proofs.Ythgiaoidekdpfaa
open Go.SX Go.RowKit
noncomputable def lawE_tpl : Tpl := ⟨[.one (.wh 0), .agg [.int .i64, .int .i64], .one (.int .i64), .one (.int .i64)], [(0, .row true 3 1 1 [.int .i64])], 2⟩
noncomputable def lawE_s0 (c : Int) (d : Int) : Int :=
  bif decide (between_0 c 0 4000 > between_0 d 0 4000) then between_0 c 0 4000 else between_0 d 0 4000
noncomputable def lawE_s1 (p0 : Int) (p1 : Int) (c : Int) (d : Int) (L : List (List Int)) : Bool :=
  !dstC Cl (e0 L) (e1 L) (e2 L) (e3 L) (e4 L) (e5 L) (e6 L) (e7 L) (small_0 p0 3000) (small_0 p1 3000) (lawE_s0 c d)
noncomputable def lawE_s2 (c : Int) (d : Int) : Int :=
  bif decide (between_0 c 0 4000 > between_0 d 0 4000) then between_0 d 0 4000 else between_0 c 0 4000
noncomputable def lawE_s3 (p0 : Int) (p1 : Int) (c : Int) (d : Int) (L : List (List Int)) : Bool :=
  !dstC Cl (e0 L) (e1 L) (e2 L) (e3 L) (e4 L) (e5 L) (e6 L) (e7 L) (small_0 p0 3000) (small_0 p1 3000) (lawE_s2 c d)
noncomputable def lawE_s4 (p0 : Int) (p1 : Int) (c : Int) (d : Int) (L : List (List Int)) : Bool :=
  !dstC Cg (e0 L) (e1 L) (e2 L) (e3 L) (e4 L) (e5 L) (e6 L) (e7 L) (small_0 p0 3000) (small_0 p1 3000) (lawE_s2 c d)
noncomputable def lawE_0 (p0 : Int) (p1 : Int) (c : Int) (d : Int) (L : List (List Int)) : Bool :=
  bif !light_0 L then true
  else
    bif
        false || lawE_s1 p0 p1 c d L && !lawE_s3 p0 p1 c d L ||
            lawE_s4 p0 p1 c d L && !!dstC Cg (e0 L) (e1 L) (e2 L) (e3 L) (e4 L) (e5 L) (e6 L) (e7 L) (small_0 p0 3000) (small_0 p1 3000) (lawE_s0 c d) ||
          !!dstC Cl (e0 L) (e1 L) (e2 L) (e3 L) (e4 L) (e5 L) (e6 L) (e7 L) (small_0 p0 3000) (small_0 p1 3000) 0 then
      false
    else e6 L != 0 || (lawE_s3 p0 p1 c d L || lawE_s4 p0 p1 c d L) && (lawE_s2 c d == lawE_s0 c d || !(lawE_s4 p0 p1 c d L && lawE_s1 p0 p1 c d L))
noncomputable def lawE_needs (L : List (List Int)) : List Prop :=
  [(!light_0 L) = false → L.length ≤ 1000000 ∧ Int.ofNat 6001 ≠ 0 ∧ Int.ofNat 6001 ≠ 0 ∧ Int.ofNat 4001 ≠ 0 ∧ Int.ofNat 4001 ≠ 0]
theorem lawE_0_eq (p0 p1 c d : Int) (L : List (List Int)) : (lawE_0 p0 p1 c d L) = true := by
  unfold lawE_0
  cases !light_0 L
  · rw [cond_false]
    have E := elem_ep L
    have s1 : ∀ x, bd 10000000 (small_0 x 3000) := fun x => by have := small_rng x 3000 (by omega) (by omega); omega
    have b1 := between_rng c 0 4000 (by omega) (by omega) (by omega)
    have b2 := between_rng d 0 4000 (by omega) (by omega) (by omega)
    have h : 0 ≤ lawE_s2 c d ∧ lawE_s2 c d ≤ lawE_s0 c d ∧ lawE_s0 c d ≤ 4000 := by
      unfold lawE_s2 lawE_s0
      by_cases h : between_0 c 0 4000 > between_0 d 0 4000
      · rw [decide_eq_true h, cond_true, cond_true]; omega
      · rw [decide_eq_false h, cond_false, cond_false]; omega
    unfold lawE_s1 lawE_s3 lawE_s4
    rw [far_eq E (s1 _) (s1 _) ⟨by omega, by omega⟩, far_eq E (s1 _) (s1 _) ⟨by omega, by omega⟩, far_eq E (s1 _) (s1 _) ⟨by omega, by omega⟩, near_eq E (s1 _) (s1 _) ⟨by omega, by omega⟩, near_eq E (s1 _) (s1 _) ⟨by omega, by omega⟩]
    obtain ⟨g1, g2⟩ := decides_law (a7 := e7 L) E (s1 p0) (s1 p1) h.1 h.2.1 (by omega)
    rw [Bool.not_eq_true'] at g1
    rw [Bool.false_or, g1, cond_false]
    exact g2
  · rfl
theorem lawE_need {L : List (List Int)} : ∀ q ∈ (lawE_needs L), q := by
  intro q hq
  unfold lawE_needs at hq
  simp only [List.mem_cons, List.not_mem_nil, or_false] at hq
  subst hq
  intro h
  exact ⟨light_len (by simpa using h), by decide, by decide, by decide, by decide⟩
set_option maxRecDepth 1000000 in
theorem lawE_runs (p0 p1 c d : Int) (L : List (List Int)) (hNeeds : ∀ pN ∈ (lawE_needs L), pN) : Runs (runF (sums K_rnear) L_mul 5) (lawE_tpl.args [.i p0, .i p1, .i c, .i d]) (lawE_tpl.memo [.i p0, .i p1, .i c, .i d] [L]) lawE_tpl.n (SV.one (SC.bool (SB.v (lawE_0 p0 p1 c d L))))
    ([(0, Obj.row true 3 1 (RowC.lst 1 [CK.int IntKind.i64] L))]) :=
  Runs.of (ps := (lawE_needs L)) (by kernel_rfl) (by kernel_rfl) hNeeds
noncomputable def lawE_out : List Pm → Lss → Option CRes
  | [.i p0, .i p1, .i c, .i d], [L] => some ⟨SV.one (SC.bool (SB.v (lawE_0 p0 p1 c d L))),
    [(0, Obj.row true 3 1 (RowC.lst 1 [CK.int IntKind.i64] L))],
    [], [], 5511⟩
  | _, _ => none
theorem lawE_ok : FOk Try.prog 5 (tplS lawE_tpl lawE_out) := by
  refine tplS_ok (runF_ok known_rnear 5) fun ps ls r hr hn _ => ?_
  unfold lawE_out at hr
  split at hr
  · cases hr; exact ⟨_, lawE_runs _ _ _ _ _ (fun p hp => lawE_need p hp), fun _ => by simp only [SV.den, SC.den, SB.val, lawE_0_eq]⟩
  · cases hr
noncomputable def K_lawE : List (Nat × Summ) := (5, tplS lawE_tpl lawE_out) :: K_rnear
theorem known_lawE : Known Try.prog (sums K_lawE) L_mul := known_cons known_rnear lawE_ok
end Go.Proofs.Ythgiaoidekdpfaa
