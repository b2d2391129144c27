/-
  CLEARANCEREVERSES: the walk. Conditions: none.
-/
import Derived.Test.YthgiaoidekdpfaaL2
import Derived.Test.YthgiaoidekdpfaaD5
set_option linter.all false
namespace Go.Proofs.Ythgiaoidekdpfaa
open Go.SX Go.RowKit
noncomputable def lawR_tpl : Tpl := ⟨[.one (.wh 0), .agg [.int .i64, .int .i64], .one (.int .i64)], [(0, .row true 3 1 1 [.int .i64])], 2⟩
noncomputable def lawR_0 (p0 : Int) (p1 : Int) (d : Int) (L : List (List Int)) : Bool :=
  bif !light_0 L then true
  else
    true &&
        (!dstC Cl (e0 L) (e1 L) (e2 L) (e3 L) (e4 L) (e5 L) (e6 L) (e7 L) (small_0 p0 3000) (small_0 p1 3000) (between_0 d 0 3000)) ==
          !dstC Cl (e2 L) (e3 L) (e0 L) (e1 L) (e4 L) (e5 L) (IntKind.i64.wrap (0 - e6 L)) (e7 L) (small_0 p0 3000) (small_0 p1 3000) (between_0 d 0 3000) &&
      (!dstC Cg (e0 L) (e1 L) (e2 L) (e3 L) (e4 L) (e5 L) (e6 L) (e7 L) (small_0 p0 3000) (small_0 p1 3000) (between_0 d 0 3000)) ==
        !dstC Cg (e2 L) (e3 L) (e0 L) (e1 L) (e4 L) (e5 L) (IntKind.i64.wrap (0 - e6 L)) (e7 L) (small_0 p0 3000) (small_0 p1 3000) (between_0 d 0 3000)
noncomputable def lawR_needs (L : List (List Int)) : List Prop :=
  [(!light_0 L) = false → L.length ≤ 1000000 ∧ Int.ofNat 6001 ≠ 0 ∧ Int.ofNat 6001 ≠ 0 ∧ Int.ofNat 3001 ≠ 0]
theorem lawR_0_eq (p0 p1 d : Int) (L : List (List Int)) : (lawR_0 p0 p1 d L) = true := by
  unfold lawR_0
  have E := elem_ep L
  have s1 : ∀ x, bd 10000000 (small_0 x 3000) := fun x => by have := small_rng x 3000 (by omega) (by omega); omega
  rw [dst_rev Cl (bd_up E.c0) (bd_up E.c1) (bd_up E.c2) (bd_up E.c3) (s1 _) (s1 _) E.dir, dst_rev Cg (bd_up E.c0) (bd_up E.c1) (bd_up E.c2) (bd_up E.c3) (s1 _) (s1 _) E.dir]
  cases light_0 L <;> simp
theorem lawR_need {L : List (List Int)} : ∀ q ∈ (lawR_needs L), q := by
  intro q hq
  unfold lawR_needs at hq
  simp only [List.mem_cons, List.not_mem_nil, or_false] at hq
  subst hq
  intro h
  exact ⟨light_len (by simpa using h), by decide, by decide, by decide⟩
set_option maxRecDepth 1000000 in
theorem lawR_runs (p0 p1 d : Int) (L : List (List Int)) (hNeeds : ∀ pN ∈ (lawR_needs L), pN) : Runs (runF (sums K_rnear) L_mul 7) (lawR_tpl.args [.i p0, .i p1, .i d]) (lawR_tpl.memo [.i p0, .i p1, .i d] [L]) lawR_tpl.n (SV.one (SC.bool (SB.v (lawR_0 p0 p1 d L))))
    ([(0, Obj.row true 3 1 (RowC.lst 1 [CK.int IntKind.i64] L))]) :=
  Runs.of (ps := (lawR_needs L)) (by kernel_rfl) (by kernel_rfl) hNeeds
noncomputable def lawR_out : List Pm → Lss → Option CRes
  | [.i p0, .i p1, .i d], [L] => some ⟨SV.one (SC.bool (SB.v (lawR_0 p0 p1 d L))),
    [(0, Obj.row true 3 1 (RowC.lst 1 [CK.int IntKind.i64] L))],
    [], [], 5472⟩
  | _, _ => none
theorem lawR_ok : FOk Try.prog 7 (tplS lawR_tpl lawR_out) := by
  refine tplS_ok (runF_ok known_rnear 7) fun ps ls r hr hn _ => ?_
  unfold lawR_out at hr
  split at hr
  · cases hr; exact ⟨_, lawR_runs _ _ _ _ (fun p hp => lawR_need p hp), fun _ => by simp only [SV.den, SC.den, SB.val, lawR_0_eq]⟩
  · cases hr
noncomputable def K_lawR : List (Nat × Summ) := (7, tplS lawR_tpl lawR_out) :: K_rnear
theorem known_lawR : Known Try.prog (sums K_lawR) L_mul := known_cons known_rnear lawR_ok
end Go.Proofs.Ythgiaoidekdpfaa
