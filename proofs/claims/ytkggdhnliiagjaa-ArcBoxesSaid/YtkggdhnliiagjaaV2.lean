/-
  ARCS: Offset, Check. Conditions: none.
-/
import Derived.Test.YtkggdhnliiagjaaV1
set_option linter.all false
namespace Go.Proofs.Ytkggdhnliiagjaa
open Go.SX Go.RowKit
noncomputable def aoffset_tpl : Tpl := ⟨[.one (.int .i64), .agg [.int .i64, .int .i64, .int .i64], .one (.int .i64), .one (.int .i64), .one (.int .i64)], [], 0⟩
noncomputable def aoffset_0 (p : Int) (a : Int) (b : Int) (c : Int) (i : Int) (j : Int) (k : Int) : Int :=
  bif !flat_3 p || !vwithin_0 a b c then 0
  else
    bif flat_2 p i j k != 0 then 0
    else
      bif decide (flat_0 p i j k < -2097152) || decide (flat_0 p i j k > 2097152) || decide (flat_1 p i j k < -2097152) || decide (flat_1 p i j k > 2097152) then 0
      else acenter_0 p (IntKind.i64.wrap (flat_0 p a b c + flat_0 p i j k)) (IntKind.i64.wrap (flat_1 p a b c + flat_1 p i j k)) (flat_2 p a b c)
noncomputable def aoffset_1 (p : Int) (a : Int) (b : Int) (c : Int) (i : Int) (j : Int) (k : Int) : Int :=
  bif !flat_3 p || !vwithin_0 a b c then 0
  else
    bif flat_2 p i j k != 0 then 0
    else
      bif decide (flat_0 p i j k < -2097152) || decide (flat_0 p i j k > 2097152) || decide (flat_1 p i j k < -2097152) || decide (flat_1 p i j k > 2097152) then 0
      else acenter_1 p (IntKind.i64.wrap (flat_0 p a b c + flat_0 p i j k)) (IntKind.i64.wrap (flat_1 p a b c + flat_1 p i j k)) (flat_2 p a b c)
noncomputable def aoffset_2 (p : Int) (a : Int) (b : Int) (c : Int) (i : Int) (j : Int) (k : Int) : Int :=
  bif !flat_3 p || !vwithin_0 a b c then 0
  else
    bif flat_2 p i j k != 0 then 0
    else
      bif decide (flat_0 p i j k < -2097152) || decide (flat_0 p i j k > 2097152) || decide (flat_1 p i j k < -2097152) || decide (flat_1 p i j k > 2097152) then 0
      else acenter_2 p (IntKind.i64.wrap (flat_0 p a b c + flat_0 p i j k)) (IntKind.i64.wrap (flat_1 p a b c + flat_1 p i j k)) (flat_2 p a b c)
noncomputable def aoffset_3 (p : Int) (a : Int) (b : Int) (c : Int) (i : Int) (j : Int) (k : Int) : Int :=
  bif !flat_3 p || !vwithin_0 a b c then 1
  else
    bif flat_2 p i j k != 0 then 8
    else
      bif decide (flat_0 p i j k < -2097152) || decide (flat_0 p i j k > 2097152) || decide (flat_1 p i j k < -2097152) || decide (flat_1 p i j k > 2097152) then 3
      else acenter_3 p (IntKind.i64.wrap (flat_0 p a b c + flat_0 p i j k)) (IntKind.i64.wrap (flat_1 p a b c + flat_1 p i j k)) (flat_2 p a b c)
set_option maxRecDepth 1000000 in
theorem aoffset_runs (p a b c i j k : Int) : Runs (runF (sums K_rtang) L_ov 35) (aoffset_tpl.args [.i p, .i a, .i b, .i c, .i i, .i j, .i k]) (aoffset_tpl.memo [.i p, .i a, .i b, .i c, .i i, .i j, .i k] []) aoffset_tpl.n (SV.tup
    [(true, [SC.int IntKind.i64 (SI.v (aoffset_0 p a b c i j k)), SC.int IntKind.i64 (SI.v (aoffset_1 p a b c i j k)), SC.int IntKind.i64 (SI.v (aoffset_2 p a b c i j k))]),
      (false, [SC.int IntKind.i64 (SI.v (aoffset_3 p a b c i j k))])])
    ([]) :=
  Runs.of (ps := []) (by kernel_rfl) (by kernel_rfl) (by simp)
noncomputable def aoffset_out : List Pm → Lss → Option CRes
  | [.i p, .i a, .i b, .i c, .i i, .i j, .i k], [] => some ⟨SV.tup
    [(true, [SC.int IntKind.i64 (SI.v (aoffset_0 p a b c i j k)), SC.int IntKind.i64 (SI.v (aoffset_1 p a b c i j k)), SC.int IntKind.i64 (SI.v (aoffset_2 p a b c i j k))]),
      (false, [SC.int IntKind.i64 (SI.v (aoffset_3 p a b c i j k))])],
    [],
    [], [], 453⟩
  | _, _ => none
theorem aoffset_ok : FOk Try.prog 35 (tplS aoffset_tpl aoffset_out) := by
  refine tplS_ok (runF_ok known_rtang 35) fun ps ls r hr hn _ => ?_
  unfold aoffset_out at hr
  split at hr
  · cases hr; exact ⟨_, aoffset_runs _ _ _ _ _ _ _, fun _ => rfl⟩
  · cases hr
noncomputable def K_aoffset : List (Nat × Summ) := (35, tplS aoffset_tpl aoffset_out) :: K_rtang
theorem known_aoffset : Known Try.prog (sums K_aoffset) L_ov := known_cons known_rtang aoffset_ok
noncomputable def roffset_tpl : Tpl := ⟨[.one (.int .i64), .agg [.int .i64, .int .i64, .int .i64], .one (.int .i64), .one (.int .i64), .one (.int .i64)], [], 0⟩
noncomputable def roffset_0 (p : Int) (a : Int) (b : Int) (c : Int) (i : Int) (j : Int) (k : Int) : Int :=
  bif !rplane_0 p || !vwithin_0 a b c then 0 else bif flat_2 p i j k != 0 then 0 else bif !rsmall_0 i j k then 0 else bif !vwithin_0 (addpt_0 a i) (addpt_0 b j) (addpt_0 c k) then 0 else addpt_0 a i
noncomputable def roffset_1 (p : Int) (a : Int) (b : Int) (c : Int) (i : Int) (j : Int) (k : Int) : Int :=
  bif !rplane_0 p || !vwithin_0 a b c then 0 else bif flat_2 p i j k != 0 then 0 else bif !rsmall_0 i j k then 0 else bif !vwithin_0 (addpt_0 a i) (addpt_0 b j) (addpt_0 c k) then 0 else addpt_0 b j
noncomputable def roffset_2 (p : Int) (a : Int) (b : Int) (c : Int) (i : Int) (j : Int) (k : Int) : Int :=
  bif !rplane_0 p || !vwithin_0 a b c then 0 else bif flat_2 p i j k != 0 then 0 else bif !rsmall_0 i j k then 0 else bif !vwithin_0 (addpt_0 a i) (addpt_0 b j) (addpt_0 c k) then 0 else addpt_0 c k
noncomputable def roffset_3 (p : Int) (a : Int) (b : Int) (c : Int) (i : Int) (j : Int) (k : Int) : Int :=
  bif !rplane_0 p || !vwithin_0 a b c then 1 else bif flat_2 p i j k != 0 then 8 else bif !rsmall_0 i j k then 3 else bif !vwithin_0 (addpt_0 a i) (addpt_0 b j) (addpt_0 c k) then 3 else 0
set_option maxRecDepth 1000000 in
theorem roffset_runs (p a b c i j k : Int) : Runs (runF (sums K_aoffset) L_ov 36) (roffset_tpl.args [.i p, .i a, .i b, .i c, .i i, .i j, .i k]) (roffset_tpl.memo [.i p, .i a, .i b, .i c, .i i, .i j, .i k] []) roffset_tpl.n (SV.tup
    [(true, [SC.int IntKind.i64 (SI.v (roffset_0 p a b c i j k)), SC.int IntKind.i64 (SI.v (roffset_1 p a b c i j k)), SC.int IntKind.i64 (SI.v (roffset_2 p a b c i j k))]),
      (false, [SC.int IntKind.i64 (SI.v (roffset_3 p a b c i j k))])])
    ([]) :=
  Runs.of (ps := []) (by kernel_rfl) (by kernel_rfl) (by simp)
noncomputable def roffset_out : List Pm → Lss → Option CRes
  | [.i p, .i a, .i b, .i c, .i i, .i j, .i k], [] => some ⟨SV.tup
    [(true, [SC.int IntKind.i64 (SI.v (roffset_0 p a b c i j k)), SC.int IntKind.i64 (SI.v (roffset_1 p a b c i j k)), SC.int IntKind.i64 (SI.v (roffset_2 p a b c i j k))]),
      (false, [SC.int IntKind.i64 (SI.v (roffset_3 p a b c i j k))])],
    [],
    [], [], 388⟩
  | _, _ => none
theorem roffset_ok : FOk Try.prog 36 (tplS roffset_tpl roffset_out) := by
  refine tplS_ok (runF_ok known_aoffset 36) fun ps ls r hr hn _ => ?_
  unfold roffset_out at hr
  split at hr
  · cases hr; exact ⟨_, roffset_runs _ _ _ _ _ _ _, fun _ => rfl⟩
  · cases hr
noncomputable def K_roffset : List (Nat × Summ) := (36, tplS roffset_tpl roffset_out) :: K_aoffset
theorem known_roffset : Known Try.prog (sums K_roffset) L_ov := known_cons known_aoffset roffset_ok
noncomputable def acheck_tpl : Tpl := ⟨[.agg [.int .i64, .int .i64, .int .i64, .int .i64, .int .i64, .int .i64, .int .i64, .int .i64, .int .i64, .int .i64, .int .i64, .int .i64, .int .i64, .bool, .int .i64, .bool, .int .i64, .int .i64, .int .i64, .int .i64, .int .i64, .bool]], [], 0⟩
noncomputable def acheck_0 (k : Int) (f0 : Int) (f1 : Int) (f2 : Int) (t0 : Int) (t1 : Int) (t2 : Int) (p : Int) (c0 : Int) (c1 : Int) (c2 : Int) (d : Int) (fu : Bool) : Int :=
  bif k != 3 || !flat_3 p || !vwithin_0 f0 f1 f2 || !vwithin_0 t0 t1 t2 || !vwithin_0 c0 c1 c2 || d != 1 && d != -1 || flat_2 p f0 f1 f2 != flat_2 p c0 c1 c2 then 1
  else
    bif
        decide (vinner_0 (aspokes_0 f0 f1 f2 p c0 c1 c2) (aspokes_1 f0 f1 f2 p c0 c1 c2) (aspokes_0 f0 f1 f2 p c0 c1 c2) (aspokes_1 f0 f1 f2 p c0 c1 c2) < 64) ||
                decide (vinner_0 (aspokes_0 t0 t1 t2 p c0 c1 c2) (aspokes_1 t0 t1 t2 p c0 c1 c2) (aspokes_0 t0 t1 t2 p c0 c1 c2) (aspokes_1 t0 t1 t2 p c0 c1 c2) < 64) ||
              !similar_0 (vinner_0 (aspokes_0 f0 f1 f2 p c0 c1 c2) (aspokes_1 f0 f1 f2 p c0 c1 c2) (aspokes_0 f0 f1 f2 p c0 c1 c2) (aspokes_1 f0 f1 f2 p c0 c1 c2))
                  (vinner_0 (aspokes_0 t0 t1 t2 p c0 c1 c2) (aspokes_1 t0 t1 t2 p c0 c1 c2) (aspokes_0 t0 t1 t2 p c0 c1 c2) (aspokes_1 t0 t1 t2 p c0 c1 c2)) ||
            fu && !(aspokes_0 f0 f1 f2 p c0 c1 c2 == aspokes_0 t0 t1 t2 p c0 c1 c2 && aspokes_1 f0 f1 f2 p c0 c1 c2 == aspokes_1 t0 t1 t2 p c0 c1 c2) ||
          !fu && aligned_0 (aspokes_0 f0 f1 f2 p c0 c1 c2) (aspokes_1 f0 f1 f2 p c0 c1 c2) (aspokes_0 t0 t1 t2 p c0 c1 c2) (aspokes_1 t0 t1 t2 p c0 c1 c2) then
      12
    else 0
set_option maxRecDepth 1000000 in
theorem acheck_runs (k bl f0 f1 f2 t0 t1 t2 p c0 c1 c2 d : Int) (fu : Bool) (fe : Int) (pr : Bool) (si ra be n sp : Int) (on : Bool) : Runs (runF (sums K_roffset) L_ov 22) (acheck_tpl.args [.i k, .i bl, .i f0, .i f1, .i f2, .i t0, .i t1, .i t2, .i p, .i c0, .i c1, .i c2, .i d, .b fu, .i fe, .b pr, .i si, .i ra, .i be, .i n, .i sp, .b on]) (acheck_tpl.memo [.i k, .i bl, .i f0, .i f1, .i f2, .i t0, .i t1, .i t2, .i p, .i c0, .i c1, .i c2, .i d, .b fu, .i fe, .b pr, .i si, .i ra, .i be, .i n, .i sp, .b on] []) acheck_tpl.n (SV.one (SC.int IntKind.i64 (SI.v (acheck_0 k f0 f1 f2 t0 t1 t2 p c0 c1 c2 d fu))))
    ([]) :=
  Runs.of (ps := []) (by kernel_rfl) (by kernel_rfl) (by simp)
noncomputable def acheck_out : List Pm → Lss → Option CRes
  | [.i k, .i bl, .i f0, .i f1, .i f2, .i t0, .i t1, .i t2, .i p, .i c0, .i c1, .i c2, .i d, .b fu, .i fe, .b pr, .i si, .i ra, .i be, .i n, .i sp, .b on], [] => some ⟨SV.one (SC.int IntKind.i64 (SI.v (acheck_0 k f0 f1 f2 t0 t1 t2 p c0 c1 c2 d fu))),
    [],
    [], [], 1152⟩
  | _, _ => none
theorem acheck_ok : FOk Try.prog 22 (tplS acheck_tpl acheck_out) := by
  refine tplS_ok (runF_ok known_roffset 22) fun ps ls r hr hn _ => ?_
  unfold acheck_out at hr
  split at hr
  · cases hr; exact ⟨_, acheck_runs _ _ _ _ _ _ _ _ _ _ _ _ _ _ _ _ _ _ _ _ _ _, fun _ => rfl⟩
  · cases hr
noncomputable def K_acheck : List (Nat × Summ) := (22, tplS acheck_tpl acheck_out) :: K_roffset
theorem known_acheck : Known Try.prog (sums K_acheck) L_ov := known_cons known_roffset acheck_ok
noncomputable def rcheck_tpl : Tpl := ⟨[.agg [.int .i64, .int .i64, .int .i64, .int .i64, .int .i64, .int .i64, .int .i64, .int .i64, .int .i64, .int .i64, .int .i64, .int .i64, .int .i64, .bool, .int .i64, .bool, .int .i64, .int .i64, .int .i64, .int .i64, .int .i64, .bool]], [], 0⟩
noncomputable def rcheck_0 (k : Int) (f0 : Int) (f1 : Int) (f2 : Int) (t0 : Int) (t1 : Int) (t2 : Int) (p : Int) (c0 : Int) (c1 : Int) (c2 : Int) (d : Int) (fu : Bool) : Int :=
  bif k != 3 || !rplane_0 p || !vwithin_0 f0 f1 f2 || !vwithin_0 t0 t1 t2 || !vwithin_0 c0 c1 c2 || d != 1 && d != -1 || flat_2 p f0 f1 f2 != flat_2 p c0 c1 c2 then 1
  else
    bif
        !fit_0 (minus_0 (flat_0 p f0 f1 f2) (flat_0 p c0 c1 c2)) (minus_0 (flat_1 p f0 f1 f2) (flat_1 p c0 c1 c2)) (minus_0 (flat_0 p t0 t1 t2) (flat_0 p c0 c1 c2))
            (minus_0 (flat_1 p t0 t1 t2) (flat_1 p c0 c1 c2)) fu then
      12
    else 0
set_option maxRecDepth 1000000 in
theorem rcheck_runs (k bl f0 f1 f2 t0 t1 t2 p c0 c1 c2 d : Int) (fu : Bool) (fe : Int) (pr : Bool) (si ra be n sp : Int) (on : Bool) : Runs (runF (sums K_acheck) L_ov 23) (rcheck_tpl.args [.i k, .i bl, .i f0, .i f1, .i f2, .i t0, .i t1, .i t2, .i p, .i c0, .i c1, .i c2, .i d, .b fu, .i fe, .b pr, .i si, .i ra, .i be, .i n, .i sp, .b on]) (rcheck_tpl.memo [.i k, .i bl, .i f0, .i f1, .i f2, .i t0, .i t1, .i t2, .i p, .i c0, .i c1, .i c2, .i d, .b fu, .i fe, .b pr, .i si, .i ra, .i be, .i n, .i sp, .b on] []) rcheck_tpl.n (SV.one (SC.int IntKind.i64 (SI.v (rcheck_0 k f0 f1 f2 t0 t1 t2 p c0 c1 c2 d fu))))
    ([]) :=
  Runs.of (ps := []) (by kernel_rfl) (by kernel_rfl) (by simp)
noncomputable def rcheck_out : List Pm → Lss → Option CRes
  | [.i k, .i bl, .i f0, .i f1, .i f2, .i t0, .i t1, .i t2, .i p, .i c0, .i c1, .i c2, .i d, .b fu, .i fe, .b pr, .i si, .i ra, .i be, .i n, .i sp, .b on], [] => some ⟨SV.one (SC.int IntKind.i64 (SI.v (rcheck_0 k f0 f1 f2 t0 t1 t2 p c0 c1 c2 d fu))),
    [],
    [], [], 1394⟩
  | _, _ => none
theorem rcheck_ok : FOk Try.prog 23 (tplS rcheck_tpl rcheck_out) := by
  refine tplS_ok (runF_ok known_acheck 23) fun ps ls r hr hn _ => ?_
  unfold rcheck_out at hr
  split at hr
  · cases hr; exact ⟨_, rcheck_runs _ _ _ _ _ _ _ _ _ _ _ _ _ _ _ _ _ _ _ _ _ _, fun _ => rfl⟩
  · cases hr
noncomputable def K_rcheck : List (Nat × Summ) := (23, tplS rcheck_tpl rcheck_out) :: K_acheck
theorem known_rcheck : Known Try.prog (sums K_rcheck) L_ov := known_cons known_acheck rcheck_ok
end Go.Proofs.Ytkggdhnliiagjaa
