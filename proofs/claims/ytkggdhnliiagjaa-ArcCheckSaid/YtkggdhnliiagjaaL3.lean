/-
  ARCCHECK: the walk. Conditions: none.
-/
import Derived.Test.YtkggdhnliiagjaaG2
import Derived.Test.YtkggdhnliiagjaaD5
set_option linter.all false
namespace Go.Proofs.Ytkggdhnliiagjaa
open Go.SX Go.RowKit
noncomputable def lawC_tpl : Tpl := ⟨[.agg [.int .i64, .int .i64, .int .i64, .int .i64, .int .i64, .int .i64, .int .i64, .int .i64, .int .i64, .int .i64, .int .i64, .int .i64, .int .i64, .bool, .int .i64, .bool, .int .i64, .int .i64, .int .i64, .int .i64, .int .i64, .bool], .one (.wh 0), .one (.int .i64), .one (.int .i64)], [(0, .row true 3 1 1 [.int .i64])], 2⟩
noncomputable def lawC_s0 (wh : Int) (by_ : Int) : Int :=
  bif mod_0 wh 10 == 0 then 3
  else
    bif mod_0 wh 10 == 1 then 3
    else
      bif mod_0 wh 10 == 2 then 3
      else bif mod_0 wh 10 == 3 then 3 else bif mod_0 wh 10 == 4 then 3 else bif mod_0 wh 10 == 5 then 3 else bif mod_0 wh 10 == 6 then 3 else bif mod_0 wh 10 == 7 then by_ else 3
noncomputable def lawC_s1 (wh : Int) (by_ : Int) (L : List (List Int)) : Int :=
  bif mod_0 wh 10 == 0 then arc_0 0 L
  else
    bif mod_0 wh 10 == 1 then arc_0 0 L
    else
      bif mod_0 wh 10 == 2 then arc_0 0 L
      else
        bif mod_0 wh 10 == 3 then arc_0 0 L
        else
          bif mod_0 wh 10 == 4 then arc_0 0 L
          else bif mod_0 wh 10 == 5 then arc_0 0 L else bif mod_0 wh 10 == 6 then arc_0 0 L else bif mod_0 wh 10 == 7 then arc_0 0 L else bif mod_0 wh 10 == 8 then by_ else arc_0 0 L
noncomputable def lawC_s2 (wh : Int) (by_ : Int) (L : List (List Int)) : Int :=
  bif mod_0 wh 10 == 0 then arc_2 0 L
  else
    bif mod_0 wh 10 == 1 then arc_2 0 L
    else
      bif mod_0 wh 10 == 2 then arc_2 0 L
      else bif mod_0 wh 10 == 3 then arc_2 0 L else bif mod_0 wh 10 == 4 then arc_2 0 L else bif mod_0 wh 10 == 5 then IntKind.i64.wrap (arc_2 0 L + between_0 by_ (-12) 12) else arc_2 0 L
noncomputable def lawC_s3 (wh : Int) (L : List (List Int)) : Int :=
  bif mod_0 wh 10 == 0 then arc_3 0 L
  else
    bif mod_0 wh 10 == 1 then arc_3 0 L
    else
      bif mod_0 wh 10 == 2 then arc_3 0 L
      else bif mod_0 wh 10 == 3 then arc_3 0 L else bif mod_0 wh 10 == 4 then arc_3 0 L else bif mod_0 wh 10 == 5 then arc_3 0 L else bif mod_0 wh 10 == 6 then arc_0 0 L else arc_3 0 L
noncomputable def lawC_s4 (wh : Int) (by_ : Int) (L : List (List Int)) : Int :=
  bif mod_0 wh 10 == 0 then arc_4 0 L
  else
    bif mod_0 wh 10 == 1 then arc_4 0 L
    else
      bif mod_0 wh 10 == 2 then arc_4 0 L
      else
        bif mod_0 wh 10 == 3 then arc_4 0 L
        else bif mod_0 wh 10 == 4 then IntKind.i64.wrap (arc_4 0 L + between_0 by_ (-12) 12) else bif mod_0 wh 10 == 5 then arc_4 0 L else bif mod_0 wh 10 == 6 then arc_1 0 L else arc_4 0 L
noncomputable def lawC_s5 (wh : Int) (L : List (List Int)) : Int :=
  bif mod_0 wh 10 == 0 then arc_5 0 L
  else
    bif mod_0 wh 10 == 1 then arc_5 0 L
    else
      bif mod_0 wh 10 == 2 then arc_5 0 L
      else bif mod_0 wh 10 == 3 then arc_5 0 L else bif mod_0 wh 10 == 4 then arc_5 0 L else bif mod_0 wh 10 == 5 then arc_5 0 L else bif mod_0 wh 10 == 6 then arc_2 0 L else arc_5 0 L
noncomputable def lawC_s6 (wh : Int) (by_ : Int) (L : List (List Int)) : Int :=
  bif mod_0 wh 10 == 0 then by_ else range_0 17 19 0 L
noncomputable def lawC_s7 (wh : Int) (by_ : Int) (L : List (List Int)) : Int :=
  bif mod_0 wh 10 == 0 then arc_6 0 L
  else bif mod_0 wh 10 == 1 then arc_6 0 L else bif mod_0 wh 10 == 2 then arc_6 0 L else bif mod_0 wh 10 == 3 then IntKind.i64.wrap (arc_6 0 L + between_0 by_ (-12) 12) else arc_6 0 L
noncomputable def lawC_s8 (wh : Int) (by_ : Int) (L : List (List Int)) : Int :=
  bif mod_0 wh 10 == 0 then arc_7 0 L
  else
    bif mod_0 wh 10 == 1 then arc_7 0 L
    else
      bif mod_0 wh 10 == 2 then arc_7 0 L
      else
        bif mod_0 wh 10 == 3 then arc_7 0 L
        else
          bif mod_0 wh 10 == 4 then arc_7 0 L
          else bif mod_0 wh 10 == 5 then arc_7 0 L else bif mod_0 wh 10 == 6 then arc_7 0 L else bif mod_0 wh 10 == 7 then arc_7 0 L else bif mod_0 wh 10 == 8 then arc_7 0 L else by_
noncomputable def lawC_s9 (wh : Int) (by_ : Int) (L : List (List Int)) : Int :=
  bif mod_0 wh 10 == 0 then arc_9 0 L else bif mod_0 wh 10 == 1 then by_ else arc_9 0 L
noncomputable def lawC_s10 (wh : Int) (L : List (List Int)) : Bool :=
  bif mod_0 wh 10 == 0 then arc_10 0 L else bif mod_0 wh 10 == 1 then arc_10 0 L else bif mod_0 wh 10 == 2 then !arc_10 0 L else arc_10 0 L
noncomputable def lawC_0 (k : Int) (f0 : Int) (f1 : Int) (f2 : Int) (t0 : Int) (t1 : Int) (t2 : Int) (p : Int) (c0 : Int) (c1 : Int) (c2 : Int) (d : Int) (fu : Bool) (wh : Int) (by_ : Int) (L : List (List Int)) : Bool :=
  bif !light_0 L then true
  else
    true && acheck_0 k f0 f1 f2 t0 t1 t2 p c0 c1 c2 d fu == rcheck_0 k f0 f1 f2 t0 t1 t2 p c0 c1 c2 d fu &&
        acheck_0 3 (arc_0 0 L) (arc_1 0 L) (arc_2 0 L) (arc_3 0 L) (arc_4 0 L) (arc_5 0 L) (range_0 17 19 0 L) (arc_6 0 L) (arc_7 0 L) (arc_8 0 L) (arc_9 0 L) (arc_10 0 L) == 0 &&
      acheck_0 (lawC_s0 wh by_) (lawC_s1 wh by_ L) (arc_1 0 L) (lawC_s2 wh by_ L) (lawC_s3 wh L) (lawC_s4 wh by_ L) (lawC_s5 wh L) (lawC_s6 wh by_ L) (lawC_s7 wh by_ L) (lawC_s8 wh by_ L) (arc_8 0 L)
          (lawC_s9 wh by_ L) (lawC_s10 wh L) ==
        rcheck_0 (lawC_s0 wh by_) (lawC_s1 wh by_ L) (arc_1 0 L) (lawC_s2 wh by_ L) (lawC_s3 wh L) (lawC_s4 wh by_ L) (lawC_s5 wh L) (lawC_s6 wh by_ L) (lawC_s7 wh by_ L) (lawC_s8 wh by_ L) (arc_8 0 L)
          (lawC_s9 wh by_ L) (lawC_s10 wh L)
noncomputable def lawC_needs (L : List (List Int)) : List Prop :=
  [(!light_0 L) = false → Int.ofNat 0 ≤ 0 ∧ L.length ≤ 1000000 ∧ Int.ofNat 25 ≠ 0 ∧ Int.ofNat 10 ≠ 0]
theorem lawC_0_eq (k f0 f1 f2 t0 t1 t2 p c0 c1 c2 d : Int) (fu : Bool) (wh by_ : Int) (L : List (List Int)) : (lawC_0 k f0 f1 f2 t0 t1 t2 p c0 c1 c2 d fu wh by_ L) = true := by
  unfold lawC_0 lawC_s0 lawC_s1 lawC_s2 lawC_s3 lawC_s4 lawC_s5 lawC_s6 lawC_s7 lawC_s8 lawC_s9 lawC_s10
  rw [check_same k, arcI_check (arc_i 0 L) (arc_g 0 L), check_same]
  cases !light_0 L <;> simp
theorem lawC_need {L : List (List Int)} : ∀ q ∈ (lawC_needs L), q := by
  unfold lawC_needs
  simp only [List.forall_mem_cons, List.not_mem_nil, false_implies, implies_true, and_true]
  intro h
  have := light_len (L := L) (by simpa using h)
  repeat' (first | assumption | decide | apply And.intro)
set_option maxRecDepth 1000000 in
theorem lawC_runs (k bl f0 f1 f2 t0 t1 t2 p c0 c1 c2 d : Int) (fu : Bool) (fe : Int) (pr : Bool) (si ra be n sp : Int) (on : Bool) (wh by_ : Int) (L : List (List Int)) (hNeeds : ∀ pN ∈ (lawC_needs L), pN) : Runs (runF (sums K_vec) L_ov 4) (lawC_tpl.args [.i k, .i bl, .i f0, .i f1, .i f2, .i t0, .i t1, .i t2, .i p, .i c0, .i c1, .i c2, .i d, .b fu, .i fe, .b pr, .i si, .i ra, .i be, .i n, .i sp, .b on, .i wh, .i by_]) (lawC_tpl.memo [.i k, .i bl, .i f0, .i f1, .i f2, .i t0, .i t1, .i t2, .i p, .i c0, .i c1, .i c2, .i d, .b fu, .i fe, .b pr, .i si, .i ra, .i be, .i n, .i sp, .b on, .i wh, .i by_] [L]) lawC_tpl.n (SV.one (SC.bool (SB.v (lawC_0 k f0 f1 f2 t0 t1 t2 p c0 c1 c2 d fu wh by_ L))))
    ([(0, Obj.row true 3 1 (RowC.lst 1 [CK.int IntKind.i64] L))]) :=
  Runs.of (ps := (lawC_needs L)) (by kernel_rfl) (by kernel_rfl) hNeeds
noncomputable def lawC_out : List Pm → Lss → Option CRes
  | [.i k, .i bl, .i f0, .i f1, .i f2, .i t0, .i t1, .i t2, .i p, .i c0, .i c1, .i c2, .i d, .b fu, .i fe, .b pr, .i si, .i ra, .i be, .i n, .i sp, .b on, .i wh, .i by_], [L] => some ⟨SV.one (SC.bool (SB.v (lawC_0 k f0 f1 f2 t0 t1 t2 p c0 c1 c2 d fu wh by_ L))),
    [(0, Obj.row true 3 1 (RowC.lst 1 [CK.int IntKind.i64] L))],
    [], [], 18649⟩
  | _, _ => none
theorem lawC_ok : FOk Try.prog 4 (tplS lawC_tpl lawC_out) := by
  refine tplS_ok (runF_ok known_vec 4) fun ps ls r hr hn _ => ?_
  unfold lawC_out at hr
  split at hr
  · cases hr; exact ⟨_, lawC_runs _ _ _ _ _ _ _ _ _ _ _ _ _ _ _ _ _ _ _ _ _ _ _ _ _ (fun p hp => lawC_need p hp), fun _ => by simp only [SV.den, SC.den, SB.val, lawC_0_eq]⟩
  · cases hr
noncomputable def K_lawC : List (Nat × Summ) := (4, tplS lawC_tpl lawC_out) :: K_vec
theorem known_lawC : Known Try.prog (sums K_lawC) L_ov := known_cons known_vec lawC_ok
end Go.Proofs.Ytkggdhnliiagjaa
