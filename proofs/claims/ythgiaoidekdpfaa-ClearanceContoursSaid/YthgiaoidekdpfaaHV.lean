/-
  REF04, REF13, REF17: planes, checks, what is valid. Conditions: none.
-/
import Derived.Test.YthgiaoidekdpfaaHB
import Derived.Test.YthgiaoidekdpfaaH2
set_option linter.all false
namespace Go.Proofs.Ythgiaoidekdpfaa
open Go.SX Go.RowKit
noncomputable def rmot_tpl : Tpl := ⟨[.one (.int .i64)], [], 0⟩
noncomputable def rmot_0 (k : Int) : Bool :=
  decide (k ≥ 1) && decide (k ≤ 6)
set_option maxRecDepth 1000000 in
theorem rmot_runs (k : Int) : Runs (runF (sums K_contour) L_con 61) (rmot_tpl.args [.i k]) (rmot_tpl.memo [.i k] []) rmot_tpl.n (SV.one (SC.bool (SB.v (rmot_0 k))))
    ([]) :=
  Runs.of1 (ps := []) (by kernel_rfl) (by simp)
noncomputable def rmot_out : List Pm → Lss → Option CRes
  | [.i k], [] => some ⟨SV.one (SC.bool (SB.v (rmot_0 k))),
    [],
    [], [], 8⟩
  | _, _ => none
theorem rmot_ok : FOk Try.prog 61 (tplS rmot_tpl rmot_out) := by
  refine tplS_ok (runF_ok known_contour 61) fun ps ls r hr hn _ => ?_
  unfold rmot_out at hr
  split at hr
  · cases hr; exact ⟨_, rmot_runs _, fun _ => rfl⟩
  · cases hr
noncomputable def K_rmot : List (Nat × Summ) := (61, tplS rmot_tpl rmot_out) :: K_contour
theorem known_rmot : Known Try.prog (sums K_rmot) L_con := known_cons known_contour rmot_ok
noncomputable def r4in_tpl : Tpl := ⟨[.one (.int .i64), .one (.int .i64)], [], 0⟩
set_option maxRecDepth 1000000 in
theorem r4in_runs (n m : Int) : Runs (runF (sums K_rmot) L_con 108) (r4in_tpl.args [.i n, .i m]) (r4in_tpl.memo [.i n, .i m] []) r4in_tpl.n (SV.one (SC.bool (SB.v (in19_0 n m))))
    ([]) :=
  Runs.of1 (ps := []) (by kernel_rfl) (by simp)
noncomputable def r4in_out : List Pm → Lss → Option CRes
  | [.i n, .i m], [] => some ⟨SV.one (SC.bool (SB.v (in19_0 n m))),
    [],
    [], [], 11⟩
  | _, _ => none
theorem r4in_ok : FOk Try.prog 108 (tplS r4in_tpl r4in_out) := by
  refine tplS_ok (runF_ok known_rmot 108) fun ps ls r hr hn _ => ?_
  unfold r4in_out at hr
  split at hr
  · cases hr; exact ⟨_, r4in_runs _ _, fun _ => rfl⟩
  · cases hr
noncomputable def K_r4in : List (Nat × Summ) := (108, tplS r4in_tpl r4in_out) :: K_rmot
theorem known_r4in : Known Try.prog (sums K_r4in) L_con := known_cons known_rmot r4in_ok
noncomputable def r4within_tpl : Tpl := ⟨[.agg [.int .i64, .int .i64, .int .i64]], [], 0⟩
noncomputable def r4within_0 (a : Int) (b : Int) (c : Int) : Bool :=
  in19_0 a 1048576 && in19_0 b 1048576 && in19_0 c 1048576
set_option maxRecDepth 1000000 in
theorem r4within_runs (a b c : Int) : Runs (runF (sums K_r4in) L_con 86) (r4within_tpl.args [.i a, .i b, .i c]) (r4within_tpl.memo [.i a, .i b, .i c] []) r4within_tpl.n (SV.one (SC.bool (SB.v (r4within_0 a b c))))
    ([]) :=
  Runs.of1 (ps := []) (by kernel_rfl) (by simp)
noncomputable def r4within_out : List Pm → Lss → Option CRes
  | [.i a, .i b, .i c], [] => some ⟨SV.one (SC.bool (SB.v (r4within_0 a b c))),
    [],
    [], [], 53⟩
  | _, _ => none
theorem r4within_ok : FOk Try.prog 86 (tplS r4within_tpl r4within_out) := by
  refine tplS_ok (runF_ok known_r4in 86) fun ps ls r hr hn _ => ?_
  unfold r4within_out at hr
  split at hr
  · cases hr; exact ⟨_, r4within_runs _ _ _, fun _ => rfl⟩
  · cases hr
noncomputable def K_r4within : List (Nat × Summ) := (86, tplS r4within_tpl r4within_out) :: K_r4in
theorem known_r4within : Known Try.prog (sums K_r4within) L_con := known_cons known_r4in r4within_ok
noncomputable def r4plane_tpl : Tpl := ⟨[.one (.int .i64)], [], 0⟩
noncomputable def r4plane_0 (p : Int) : Bool :=
  p == 17 || p == 18 || p == 19
set_option maxRecDepth 1000000 in
theorem r4plane_runs (p : Int) : Runs (runF (sums K_r4within) L_con 87) (r4plane_tpl.args [.i p]) (r4plane_tpl.memo [.i p] []) r4plane_tpl.n (SV.one (SC.bool (SB.v (r4plane_0 p))))
    ([]) :=
  Runs.of1 (ps := []) (by kernel_rfl) (by simp)
noncomputable def r4plane_out : List Pm → Lss → Option CRes
  | [.i p], [] => some ⟨SV.one (SC.bool (SB.v (r4plane_0 p))),
    [],
    [], [], 12⟩
  | _, _ => none
theorem r4plane_ok : FOk Try.prog 87 (tplS r4plane_tpl r4plane_out) := by
  refine tplS_ok (runF_ok known_r4within 87) fun ps ls r hr hn _ => ?_
  unfold r4plane_out at hr
  split at hr
  · cases hr; exact ⟨_, r4plane_runs _, fun _ => rfl⟩
  · cases hr
noncomputable def K_r4plane : List (Nat × Summ) := (87, tplS r4plane_tpl r4plane_out) :: K_r4within
theorem known_r4plane : Known Try.prog (sums K_r4plane) L_con := known_cons known_r4within r4plane_ok
noncomputable def r4flat_tpl : Tpl := ⟨[.one (.int .i64), .agg [.int .i64, .int .i64, .int .i64]], [], 0⟩
noncomputable def r4flat_0 (p : Int) (a : Int) (b : Int) (c : Int) : Int :=
  bif p == 17 then a else bif p == 18 then c else bif p == 19 then b else 0
noncomputable def r4flat_1 (p : Int) (a : Int) (b : Int) (c : Int) : Int :=
  bif p == 17 then b else bif p == 18 then a else bif p == 19 then c else 0
noncomputable def r4flat_2 (p : Int) (a : Int) (b : Int) (c : Int) : Int :=
  bif p == 17 then c else bif p == 18 then b else bif p == 19 then a else 0
noncomputable def r4flat_3 (p : Int) : Bool :=
  p == 17 || (p == 18 || p == 19)
set_option maxRecDepth 1000000 in
theorem r4flat_runs (p a b c : Int) : Runs (runF (sums K_r4plane) L_con 111) (r4flat_tpl.args [.i p, .i a, .i b, .i c]) (r4flat_tpl.memo [.i p, .i a, .i b, .i c] []) r4flat_tpl.n (SV.tup
    [(true, [SC.int IntKind.i64 (SI.v (r4flat_0 p a b c)), SC.int IntKind.i64 (SI.v (r4flat_1 p a b c))]), (false, [SC.int IntKind.i64 (SI.v (r4flat_2 p a b c))]),
     (false, [SC.bool (SB.v (r4flat_3 p))])])
    ([]) :=
  Runs.of1 (ps := []) (by kernel_rfl) (by simp)
noncomputable def r4flat_out : List Pm → Lss → Option CRes
  | [.i p, .i a, .i b, .i c], [] => some ⟨SV.tup
    [(true, [SC.int IntKind.i64 (SI.v (r4flat_0 p a b c)), SC.int IntKind.i64 (SI.v (r4flat_1 p a b c))]), (false, [SC.int IntKind.i64 (SI.v (r4flat_2 p a b c))]),
     (false, [SC.bool (SB.v (r4flat_3 p))])],
    [],
    [], [], 66⟩
  | _, _ => none
theorem r4flat_ok : FOk Try.prog 111 (tplS r4flat_tpl r4flat_out) := by
  refine tplS_ok (runF_ok known_r4plane 111) fun ps ls r hr hn _ => ?_
  unfold r4flat_out at hr
  split at hr
  · cases hr; exact ⟨_, r4flat_runs _ _ _ _, fun _ => rfl⟩
  · cases hr
noncomputable def K_r4flat : List (Nat × Summ) := (111, tplS r4flat_tpl r4flat_out) :: K_r4plane
theorem known_r4flat : Known Try.prog (sums K_r4flat) L_con := known_cons known_r4plane r4flat_ok
noncomputable def r4pt_tpl : Tpl := ⟨[.one (.int .i64), .agg [.int .i64, .int .i64, .int .i64]], [], 0⟩
set_option maxRecDepth 1000000 in
theorem r4pt_runs (p a b c : Int) : Runs (runF (sums K_r4flat) L_con 91) (r4pt_tpl.args [.i p, .i a, .i b, .i c]) (r4pt_tpl.memo [.i p, .i a, .i b, .i c] []) r4pt_tpl.n (SV.agg [SC.int IntKind.i64 (SI.v (r4flat_0 p a b c)), SC.int IntKind.i64 (SI.v (r4flat_1 p a b c))])
    ([]) :=
  Runs.of1 (ps := []) (by kernel_rfl) (by simp)
noncomputable def r4pt_out : List Pm → Lss → Option CRes
  | [.i p, .i a, .i b, .i c], [] => some ⟨SV.agg [SC.int IntKind.i64 (SI.v (r4flat_0 p a b c)), SC.int IntKind.i64 (SI.v (r4flat_1 p a b c))],
    [],
    [], [], 95⟩
  | _, _ => none
theorem r4pt_ok : FOk Try.prog 91 (tplS r4pt_tpl r4pt_out) := by
  refine tplS_ok (runF_ok known_r4flat 91) fun ps ls r hr hn _ => ?_
  unfold r4pt_out at hr
  split at hr
  · cases hr; exact ⟨_, r4pt_runs _ _ _ _, fun _ => rfl⟩
  · cases hr
noncomputable def K_r4pt : List (Nat × Summ) := (91, tplS r4pt_tpl r4pt_out) :: K_r4flat
theorem known_r4pt : Known Try.prog (sums K_r4pt) L_con := known_cons known_r4flat r4pt_ok
noncomputable def r4h_tpl : Tpl := ⟨[.one (.int .i64), .agg [.int .i64, .int .i64, .int .i64]], [], 0⟩
set_option maxRecDepth 1000000 in
theorem r4h_runs (p a b c : Int) : Runs (runF (sums K_r4pt) L_con 109) (r4h_tpl.args [.i p, .i a, .i b, .i c]) (r4h_tpl.memo [.i p, .i a, .i b, .i c] []) r4h_tpl.n (SV.one (SC.int IntKind.i64 (SI.v (r4flat_2 p a b c))))
    ([]) :=
  Runs.of1 (ps := []) (by kernel_rfl) (by simp)
noncomputable def r4h_out : List Pm → Lss → Option CRes
  | [.i p, .i a, .i b, .i c], [] => some ⟨SV.one (SC.int IntKind.i64 (SI.v (r4flat_2 p a b c))),
    [],
    [], [], 90⟩
  | _, _ => none
theorem r4h_ok : FOk Try.prog 109 (tplS r4h_tpl r4h_out) := by
  refine tplS_ok (runF_ok known_r4pt 109) fun ps ls r hr hn _ => ?_
  unfold r4h_out at hr
  split at hr
  · cases hr; exact ⟨_, r4h_runs _ _ _ _, fun _ => rfl⟩
  · cases hr
noncomputable def K_r4h : List (Nat × Summ) := (109, tplS r4h_tpl r4h_out) :: K_r4pt
theorem known_r4h : Known Try.prog (sums K_r4h) L_con := known_cons known_r4pt r4h_ok
noncomputable def r4solid_tpl : Tpl := ⟨[.one (.int .i64), .agg [.int .i64, .int .i64], .one (.int .i64)], [], 0⟩
noncomputable def r4solid_0 (p : Int) (u : Int) (w : Int) (h : Int) : Int :=
  bif p == 17 then u else bif p == 18 then w else bif p == 19 then h else 0
noncomputable def r4solid_1 (p : Int) (u : Int) (w : Int) (h : Int) : Int :=
  bif p == 17 then w else bif p == 18 then h else bif p == 19 then u else 0
noncomputable def r4solid_2 (p : Int) (u : Int) (w : Int) (h : Int) : Int :=
  bif p == 17 then h else bif p == 18 then u else bif p == 19 then w else 0
set_option maxRecDepth 1000000 in
theorem r4solid_runs (p u w h : Int) : Runs (runF (sums K_r4h) L_con 115) (r4solid_tpl.args [.i p, .i u, .i w, .i h]) (r4solid_tpl.memo [.i p, .i u, .i w, .i h] []) r4solid_tpl.n (SV.tup [(true, [SC.int IntKind.i64 (SI.v (r4solid_0 p u w h)), SC.int IntKind.i64 (SI.v (r4solid_1 p u w h)), SC.int IntKind.i64 (SI.v (r4solid_2 p u w h))]), (false, [SC.bool (SB.v (r4flat_3 p))])])
    ([]) :=
  Runs.of1 (ps := []) (by kernel_rfl) (by simp)
noncomputable def r4solid_out : List Pm → Lss → Option CRes
  | [.i p, .i u, .i w, .i h], [] => some ⟨SV.tup [(true, [SC.int IntKind.i64 (SI.v (r4solid_0 p u w h)), SC.int IntKind.i64 (SI.v (r4solid_1 p u w h)), SC.int IntKind.i64 (SI.v (r4solid_2 p u w h))]), (false, [SC.bool (SB.v (r4flat_3 p))])],
    [],
    [], [], 65⟩
  | _, _ => none
theorem r4solid_ok : FOk Try.prog 115 (tplS r4solid_tpl r4solid_out) := by
  refine tplS_ok (runF_ok known_r4h 115) fun ps ls r hr hn _ => ?_
  unfold r4solid_out at hr
  split at hr
  · cases hr; exact ⟨_, r4solid_runs _ _ _ _, fun _ => rfl⟩
  · cases hr
noncomputable def K_r4solid : List (Nat × Summ) := (115, tplS r4solid_tpl r4solid_out) :: K_r4h
theorem known_r4solid : Known Try.prog (sums K_r4solid) L_con := known_cons known_r4h r4solid_ok
noncomputable def r4at_tpl : Tpl := ⟨[.one (.int .i64), .agg [.int .i64, .int .i64], .one (.int .i64)], [], 0⟩
set_option maxRecDepth 1000000 in
theorem r4at_runs (p u w h : Int) : Runs (runF (sums K_r4solid) L_con 107) (r4at_tpl.args [.i p, .i u, .i w, .i h]) (r4at_tpl.memo [.i p, .i u, .i w, .i h] []) r4at_tpl.n (SV.agg [SC.int IntKind.i64 (SI.v (r4solid_0 p u w h)), SC.int IntKind.i64 (SI.v (r4solid_1 p u w h)), SC.int IntKind.i64 (SI.v (r4solid_2 p u w h))])
    ([]) :=
  Runs.of1 (ps := []) (by kernel_rfl) (by simp)
noncomputable def r4at_out : List Pm → Lss → Option CRes
  | [.i p, .i u, .i w, .i h], [] => some ⟨SV.agg [SC.int IntKind.i64 (SI.v (r4solid_0 p u w h)), SC.int IntKind.i64 (SI.v (r4solid_1 p u w h)), SC.int IntKind.i64 (SI.v (r4solid_2 p u w h))],
    [],
    [], [], 96⟩
  | _, _ => none
theorem r4at_ok : FOk Try.prog 107 (tplS r4at_tpl r4at_out) := by
  refine tplS_ok (runF_ok known_r4solid 107) fun ps ls r hr hn _ => ?_
  unfold r4at_out at hr
  split at hr
  · cases hr; exact ⟨_, r4at_runs _ _ _ _, fun _ => rfl⟩
  · cases hr
noncomputable def K_r4at : List (Nat × Summ) := (107, tplS r4at_tpl r4at_out) :: K_r4solid
theorem known_r4at : Known Try.prog (sums K_r4at) L_con := known_cons known_r4solid r4at_ok
noncomputable def rspokes_tpl : Tpl := ⟨[.agg [.int .i64, .int .i64, .int .i64, .int .i64, .int .i64, .int .i64, .int .i64, .int .i64, .int .i64, .int .i64, .int .i64, .int .i64, .int .i64, .bool, .int .i64, .bool, .int .i64, .int .i64, .int .i64, .int .i64, .int .i64, .bool]], [], 0⟩
set_option maxRecDepth 1000000 in
theorem rspokes_runs (k bl f0 f1 f2 t0 t1 t2 p c0 c1 c2 d : Int) (fu : Bool) (fe : Int) (pr : Bool) (si ra be n sp : Int) (on : Bool) : Runs (runF (sums K_r4at) L_con 110) (rspokes_tpl.args [.i k, .i bl, .i f0, .i f1, .i f2, .i t0, .i t1, .i t2, .i p, .i c0, .i c1, .i c2, .i d, .b fu, .i fe, .b pr, .i si, .i ra, .i be, .i n, .i sp, .b on]) (rspokes_tpl.memo [.i k, .i bl, .i f0, .i f1, .i f2, .i t0, .i t1, .i t2, .i p, .i c0, .i c1, .i c2, .i d, .b fu, .i fe, .b pr, .i si, .i ra, .i be, .i n, .i sp, .b on] []) rspokes_tpl.n (SV.tup
    [(true, [SC.int IntKind.i64 (SI.v (minus_0 (r4flat_0 p f0 f1 f2) (r4flat_0 p c0 c1 c2))), SC.int IntKind.i64 (SI.v (minus_0 (r4flat_1 p f0 f1 f2) (r4flat_1 p c0 c1 c2)))]),
     (true, [SC.int IntKind.i64 (SI.v (minus_0 (r4flat_0 p t0 t1 t2) (r4flat_0 p c0 c1 c2))), SC.int IntKind.i64 (SI.v (minus_0 (r4flat_1 p t0 t1 t2) (r4flat_1 p c0 c1 c2)))])])
    ([]) :=
  Runs.of1 (ps := []) (by kernel_rfl) (by simp)
noncomputable def rspokes_out : List Pm → Lss → Option CRes
  | [.i k, .i bl, .i f0, .i f1, .i f2, .i t0, .i t1, .i t2, .i p, .i c0, .i c1, .i c2, .i d, .b fu, .i fe, .b pr, .i si, .i ra, .i be, .i n, .i sp, .b on], [] => some ⟨SV.tup
    [(true, [SC.int IntKind.i64 (SI.v (minus_0 (r4flat_0 p f0 f1 f2) (r4flat_0 p c0 c1 c2))), SC.int IntKind.i64 (SI.v (minus_0 (r4flat_1 p f0 f1 f2) (r4flat_1 p c0 c1 c2)))]),
     (true, [SC.int IntKind.i64 (SI.v (minus_0 (r4flat_0 p t0 t1 t2) (r4flat_0 p c0 c1 c2))), SC.int IntKind.i64 (SI.v (minus_0 (r4flat_1 p t0 t1 t2) (r4flat_1 p c0 c1 c2)))])],
    [],
    [], [], 401⟩
  | _, _ => none
theorem rspokes_ok : FOk Try.prog 110 (tplS rspokes_tpl rspokes_out) := by
  refine tplS_ok (runF_ok known_r4at 110) fun ps ls r hr hn _ => ?_
  unfold rspokes_out at hr
  split at hr
  · cases hr; exact ⟨_, rspokes_runs _ _ _ _ _ _ _ _ _ _ _ _ _ _ _ _ _ _ _ _ _ _, fun _ => rfl⟩
  · cases hr
noncomputable def K_rspokes : List (Nat × Summ) := (110, tplS rspokes_tpl rspokes_out) :: K_r4at
theorem known_rspokes : Known Try.prog (sums K_rspokes) L_con := known_cons known_r4at rspokes_ok
noncomputable def rcheck_tpl : Tpl := ⟨[.agg [.int .i64, .int .i64, .int .i64, .int .i64, .int .i64, .int .i64, .int .i64, .int .i64, .int .i64, .int .i64, .int .i64, .int .i64, .int .i64, .bool, .int .i64, .bool, .int .i64, .int .i64, .int .i64, .int .i64, .int .i64, .bool]], [], 0⟩
noncomputable def rcheck_0 (k : Int) (f0 : Int) (f1 : Int) (f2 : Int) (t0 : Int) (t1 : Int) (t2 : Int) (p : Int) (c0 : Int) (c1 : Int) (c2 : Int) (d : Int) (fu : Bool) : Int :=
  bif k != 3 || !r4plane_0 p || !r4within_0 f0 f1 f2 || !r4within_0 t0 t1 t2 || !r4within_0 c0 c1 c2 || d != 1 && d != -1 || r4flat_2 p f0 f1 f2 != r4flat_2 p c0 c1 c2 then 1
  else
   bif
   !fit_0 (minus_0 (r4flat_0 p f0 f1 f2) (r4flat_0 p c0 c1 c2)) (minus_0 (r4flat_1 p f0 f1 f2) (r4flat_1 p c0 c1 c2)) (minus_0 (r4flat_0 p t0 t1 t2) (r4flat_0 p c0 c1 c2))
   (minus_0 (r4flat_1 p t0 t1 t2) (r4flat_1 p c0 c1 c2)) fu then
   12
   else 0
set_option maxRecDepth 1000000 in
theorem rcheck_runs (k bl f0 f1 f2 t0 t1 t2 p c0 c1 c2 d : Int) (fu : Bool) (fe : Int) (pr : Bool) (si ra be n sp : Int) (on : Bool) : Runs (runF (sums K_rspokes) L_con 89) (rcheck_tpl.args [.i k, .i bl, .i f0, .i f1, .i f2, .i t0, .i t1, .i t2, .i p, .i c0, .i c1, .i c2, .i d, .b fu, .i fe, .b pr, .i si, .i ra, .i be, .i n, .i sp, .b on]) (rcheck_tpl.memo [.i k, .i bl, .i f0, .i f1, .i f2, .i t0, .i t1, .i t2, .i p, .i c0, .i c1, .i c2, .i d, .b fu, .i fe, .b pr, .i si, .i ra, .i be, .i n, .i sp, .b on] []) rcheck_tpl.n (SV.one (SC.int IntKind.i64 (SI.v (rcheck_0 k f0 f1 f2 t0 t1 t2 p c0 c1 c2 d fu))))
    ([]) :=
  Runs.of1 (ps := []) (by kernel_rfl) (by simp)
noncomputable def rcheck_out : List Pm → Lss → Option CRes
  | [.i k, .i bl, .i f0, .i f1, .i f2, .i t0, .i t1, .i t2, .i p, .i c0, .i c1, .i c2, .i d, .b fu, .i fe, .b pr, .i si, .i ra, .i be, .i n, .i sp, .b on], [] => some ⟨SV.one (SC.int IntKind.i64 (SI.v (rcheck_0 k f0 f1 f2 t0 t1 t2 p c0 c1 c2 d fu))),
    [],
    [], [], 1394⟩
  | _, _ => none
theorem rcheck_ok : FOk Try.prog 89 (tplS rcheck_tpl rcheck_out) := by
  refine tplS_ok (runF_ok known_rspokes 89) fun ps ls r hr hn _ => ?_
  unfold rcheck_out at hr
  split at hr
  · cases hr; exact ⟨_, rcheck_runs _ _ _ _ _ _ _ _ _ _ _ _ _ _ _ _ _ _ _ _ _ _, fun _ => rfl⟩
  · cases hr
noncomputable def K_rcheck : List (Nat × Summ) := (89, tplS rcheck_tpl rcheck_out) :: K_rspokes
theorem known_rcheck : Known Try.prog (sums K_rcheck) L_con := known_cons known_rspokes rcheck_ok
noncomputable def r17in_tpl : Tpl := ⟨[.one (.int .i64), .one (.int .i64), .one (.int .i64)], [], 0⟩
noncomputable def r17in_0 (n : Int) (m : Int) (k : Int) : Bool :=
  decide (n ≥ m) && decide (n ≤ k)
set_option maxRecDepth 1000000 in
theorem r17in_runs (n m k : Int) : Runs (runF (sums K_rcheck) L_con 84) (r17in_tpl.args [.i n, .i m, .i k]) (r17in_tpl.memo [.i n, .i m, .i k] []) r17in_tpl.n (SV.one (SC.bool (SB.v (r17in_0 n m k))))
    ([]) :=
  Runs.of1 (ps := []) (by kernel_rfl) (by simp)
noncomputable def r17in_out : List Pm → Lss → Option CRes
  | [.i n, .i m, .i k], [] => some ⟨SV.one (SC.bool (SB.v (r17in_0 n m k))),
    [],
    [], [], 10⟩
  | _, _ => none
theorem r17in_ok : FOk Try.prog 84 (tplS r17in_tpl r17in_out) := by
  refine tplS_ok (runF_ok known_rcheck 84) fun ps ls r hr hn _ => ?_
  unfold r17in_out at hr
  split at hr
  · cases hr; exact ⟨_, r17in_runs _ _ _, fun _ => rfl⟩
  · cases hr
noncomputable def K_r17in : List (Nat × Summ) := (84, tplS r17in_tpl r17in_out) :: K_rcheck
theorem known_r17in : Known Try.prog (sums K_r17in) L_con := known_cons known_rcheck r17in_ok
noncomputable def r17base_tpl : Tpl := ⟨[.agg pI], [], 0⟩
noncomputable def r17base_sp : List GK := [.v itemB]
noncomputable def r17base_2 (x : List GC) : Int :=
  bif rmot_0 (xi x 0) then xi x 2 else 0
noncomputable def r17base_3 (x : List GC) : Int :=
  bif rmot_0 (xi x 0) then xi x 3 else 0
noncomputable def r17base_4 (x : List GC) : Int :=
  bif rmot_0 (xi x 0) then xi x 4 else 0
noncomputable def r17base_5 (x : List GC) : Int :=
  bif rmot_0 (xi x 0) then xi x 5 else 0
noncomputable def r17base_6 (x : List GC) : Int :=
  bif rmot_0 (xi x 0) then xi x 6 else 0
noncomputable def r17base_7 (x : List GC) : Int :=
  bif rmot_0 (xi x 0) then xi x 7 else 0
noncomputable def r17base_8 (x : List GC) : Int :=
  bif bif xi x 0 == 1 then xi x 0 == 1 else bif xi x 0 == 2 then xi x 0 == 2 else xi x 0 == 3 then xi x 8 else 0
noncomputable def r17base_9 (x : List GC) : Int :=
  bif xi x 0 == 2 then 0 else bif xi x 0 == 3 then xi x 9 else 0
noncomputable def r17base_10 (x : List GC) : Int :=
  bif xi x 0 == 2 then 0 else bif xi x 0 == 3 then xi x 10 else 0
noncomputable def r17base_11 (x : List GC) : Int :=
  bif xi x 0 == 2 then 0 else bif xi x 0 == 3 then xi x 11 else 0
noncomputable def r17base_12 (x : List GC) : Int :=
  bif xi x 0 == 2 then 0 else bif xi x 0 == 3 then xi x 12 else 0
noncomputable def r17base_13 (x : List GC) : Bool :=
  bif xi x 0 == 2 then false else xi x 0 == 3 && xb x 13
noncomputable def r17base_14 (x : List GC) : Int :=
  bif r17in_0 (xi x 0) 2 6 then xi x 14 else 0
noncomputable def r17base_15 (x : List GC) : Bool :=
  r17in_0 (xi x 0) 2 6 && xb x 15
noncomputable def r17base_16 (x : List GC) : Int :=
  bif bif xi x 0 == 1 then xi x 0 == 1 else bif xi x 0 == 2 then xi x 0 == 2 else xi x 0 == 3 then xi x 16 else 0
noncomputable def r17base_17 (x : List GC) : Int :=
  bif bif xi x 0 == 1 then xi x 0 == 1 else bif xi x 0 == 2 then xi x 0 == 2 else xi x 0 == 3 then xi x 17 else 0
noncomputable def r17base_18 (x : List GC) : Int :=
  bif xi x 0 == 2 then xi x 18 else bif xi x 0 == 3 then xi x 18 else 0
noncomputable def r17base_19 (x : List GC) : Int :=
  bif xi x 0 == 2 then 0
  else
   bif xi x 0 == 3 then 0
   else
   bif bif xi x 0 == 6 then xi x 0 == 6 else bif xi x 0 == 7 then xi x 0 == 7 else xi x 0 == 11 then xi x 19
   else bif xi x 0 == 8 then xi x 19 else bif bif xi x 0 == 9 then xi x 0 == 9 else xi x 0 == 10 then xi x 19 else 0
noncomputable def r17base_20 (x : List GC) : Int :=
  bif xi x 0 == 2 then 0 else bif xi x 0 == 3 then 0 else bif bif xi x 0 == 6 then xi x 0 == 6 else bif xi x 0 == 7 then xi x 0 == 7 else xi x 0 == 11 then 0 else bif xi x 0 == 8 then xi x 20 else 0
noncomputable def r17base_21 (x : List GC) : Bool :=
  bif xi x 0 == 2 then false
  else
   bif xi x 0 == 3 then false
   else
   bif bif xi x 0 == 6 then xi x 0 == 6 else bif xi x 0 == 7 then xi x 0 == 7 else xi x 0 == 11 then false
   else bif xi x 0 == 8 then false else (bif xi x 0 == 9 then xi x 0 == 9 else xi x 0 == 10) && xb x 21
set_option maxRecDepth 1000000 in
theorem r17base_runs (x : List GC) : Runs (runF (sums K_r17in) L_con 85) (r17base_tpl.args (spread r17base_sp [.v x])) (r17base_tpl.memo (spread r17base_sp [.v x]) []) r17base_tpl.n (SV.agg
    [SC.int IntKind.i64 (SI.v (xi x 0)), SC.int IntKind.i64 (SI.v (xi x 1)), SC.int IntKind.i64 (SI.v (r17base_2 x)), SC.int IntKind.i64 (SI.v (r17base_3 x)), SC.int IntKind.i64 (SI.v (r17base_4 x)),
     SC.int IntKind.i64 (SI.v (r17base_5 x)), SC.int IntKind.i64 (SI.v (r17base_6 x)), SC.int IntKind.i64 (SI.v (r17base_7 x)), SC.int IntKind.i64 (SI.v (r17base_8 x)),
     SC.int IntKind.i64 (SI.v (r17base_9 x)), SC.int IntKind.i64 (SI.v (r17base_10 x)), SC.int IntKind.i64 (SI.v (r17base_11 x)), SC.int IntKind.i64 (SI.v (r17base_12 x)),
     SC.bool (SB.v (r17base_13 x)), SC.int IntKind.i64 (SI.v (r17base_14 x)), SC.bool (SB.v (r17base_15 x)), SC.int IntKind.i64 (SI.v (r17base_16 x)), SC.int IntKind.i64 (SI.v (r17base_17 x)),
     SC.int IntKind.i64 (SI.v (r17base_18 x)), SC.int IntKind.i64 (SI.v (r17base_19 x)), SC.int IntKind.i64 (SI.v (r17base_20 x)), SC.bool (SB.v (r17base_21 x))])
    ([]) :=
  Runs.of1 (ps := []) (by kernel_rfl) (by simp)
noncomputable def r17base_out : List Gm → Lss → Option CRes
  | [.v x], [] => some ⟨SV.agg
    [SC.int IntKind.i64 (SI.v (xi x 0)), SC.int IntKind.i64 (SI.v (xi x 1)), SC.int IntKind.i64 (SI.v (r17base_2 x)), SC.int IntKind.i64 (SI.v (r17base_3 x)), SC.int IntKind.i64 (SI.v (r17base_4 x)),
     SC.int IntKind.i64 (SI.v (r17base_5 x)), SC.int IntKind.i64 (SI.v (r17base_6 x)), SC.int IntKind.i64 (SI.v (r17base_7 x)), SC.int IntKind.i64 (SI.v (r17base_8 x)),
     SC.int IntKind.i64 (SI.v (r17base_9 x)), SC.int IntKind.i64 (SI.v (r17base_10 x)), SC.int IntKind.i64 (SI.v (r17base_11 x)), SC.int IntKind.i64 (SI.v (r17base_12 x)),
     SC.bool (SB.v (r17base_13 x)), SC.int IntKind.i64 (SI.v (r17base_14 x)), SC.bool (SB.v (r17base_15 x)), SC.int IntKind.i64 (SI.v (r17base_16 x)), SC.int IntKind.i64 (SI.v (r17base_17 x)),
     SC.int IntKind.i64 (SI.v (r17base_18 x)), SC.int IntKind.i64 (SI.v (r17base_19 x)), SC.int IntKind.i64 (SI.v (r17base_20 x)), SC.bool (SB.v (r17base_21 x))],
    [],
    [], [], 307⟩
  | _, _ => none
theorem r17base_ok : FOk Try.prog 85 (tplG r17base_sp r17base_tpl r17base_out) := by
  refine tplG_ok (runF_ok known_r17in 85) fun ps ls r hr hn _ => ?_
  unfold r17base_out at hr
  split at hr
  · cases hr; exact ⟨_, r17base_runs _, fun _ => rfl⟩
  · cases hr
noncomputable def K_r17base : List (Nat × Summ) := (85, tplG r17base_sp r17base_tpl r17base_out) :: K_r17in
theorem known_r17base : Known Try.prog (sums K_r17base) L_con := known_cons known_r17in r17base_ok
noncomputable def r17num_tpl : Tpl := ⟨[.agg pI], [], 0⟩
noncomputable def r17num_sp : List GK := [.v itemB]
noncomputable def r17num_0 (x : List GC) : Bool :=
  bif xi x 0 == 5 then xb x 15
  else
   bif xi x 0 == 6 then xb x 15 && r17in_0 (xi x 19) 3 4
   else
   bif xi x 0 == 7 then r17in_0 (xi x 19) 0 60000
   else
   bif xi x 0 == 8 then r17in_0 (xi x 19) 3 5 && r17in_0 (xi x 20) 0 30000 && (xi x 19 != 5 || xi x 20 == 0)
   else bif xi x 0 == 9 then r17in_0 (xi x 19) 7 8 else bif xi x 0 == 10 then r17in_0 (xi x 19) 0 15 else bif xi x 0 == 11 then r17in_0 (xi x 19) 0 32 else true
set_option maxRecDepth 1000000 in
theorem r17num_runs (x : List GC) : Runs (runF (sums K_r17base) L_con 88) (r17num_tpl.args (spread r17num_sp [.v x])) (r17num_tpl.memo (spread r17num_sp [.v x]) []) r17num_tpl.n (SV.one (SC.bool (SB.v (r17num_0 x))))
    ([]) :=
  Runs.of1 (ps := []) (by kernel_rfl) (by simp)
noncomputable def r17num_out : List Gm → Lss → Option CRes
  | [.v x], [] => some ⟨SV.one (SC.bool (SB.v (r17num_0 x))),
    [],
    [], [], 158⟩
  | _, _ => none
theorem r17num_ok : FOk Try.prog 88 (tplG r17num_sp r17num_tpl r17num_out) := by
  refine tplG_ok (runF_ok known_r17base 88) fun ps ls r hr hn _ => ?_
  unfold r17num_out at hr
  split at hr
  · cases hr; exact ⟨_, r17num_runs _, fun _ => rfl⟩
  · cases hr
noncomputable def K_r17num : List (Nat × Summ) := (88, tplG r17num_sp r17num_tpl r17num_out) :: K_r17base
theorem known_r17num : Known Try.prog (sums K_r17num) L_con := known_cons known_r17base r17num_ok
noncomputable def rvalid_tpl : Tpl := ⟨[.agg pI], [], 0⟩
noncomputable def rvalid_sp : List GK := [.v itemB]
noncomputable def rvalid_0 (x : List GC) : Bool :=
  bif
   !r17in_0 (xi x 0) 1 14 || !r17in_0 (xi x 1) 0 1999 ||
   !(xi x 0 == xi x 0 &&
   (xi x 1 == xi x 1 &&
   (r17base_2 (nrm x) == xi x 2 &&
   (r17base_3 (nrm x) == xi x 3 &&
   (r17base_4 (nrm x) == xi x 4 &&
   (r17base_5 (nrm x) == xi x 5 &&
   (r17base_6 (nrm x) == xi x 6 &&
   (r17base_7 (nrm x) == xi x 7 &&
   (r17base_8 (nrm x) == xi x 8 &&
   (r17base_9 (nrm x) == xi x 9 &&
   (r17base_10 (nrm x) == xi x 10 &&
   (r17base_11 (nrm x) == xi x 11 &&
   (r17base_12 (nrm x) == xi x 12 &&
   (r17base_13 (nrm x) == xb x 13 &&
   (r17base_14 (nrm x) == xi x 14 &&
   (r17base_15 (nrm x) == xb x 15 &&
   (r17base_16 (nrm x) == xi x 16 &&
   (r17base_17 (nrm x) == xi x 17 &&
   (r17base_18 (nrm x) == xi x 18 &&
   (r17base_19 (nrm x) == xi x 19 && (r17base_20 (nrm x) == xi x 20 && r17base_21 (nrm x) == xb x 21))))))))))))))))))))) ||
   !r4within_0 (xi x 2) (xi x 3) (xi x 4) ||
   !r4within_0 (xi x 5) (xi x 6) (xi x 7) ||
   !r17in_0 (xi x 18) 0 1000 ||
   !r17in_0 (xi x 16) (-1) 1 then
   false
  else
   bif r17in_0 (xi x 0) 2 6 && !r17in_0 (xi x 14) 1 60000000 then false
   else
   bif xi x 16 == 0 && (xi x 17 != 0 || xi x 8 != 0 && xi x 0 != 3) || xi x 16 != 0 && (!r4plane_0 (xi x 8) || !r17in_0 (xi x 17) 0 32768) then false
   else r17num_0 (nrm x) && (xi x 0 != 3 || rcheck_0 (xi x 0) (xi x 2) (xi x 3) (xi x 4) (xi x 5) (xi x 6) (xi x 7) (xi x 8) (xi x 9) (xi x 10) (xi x 11) (xi x 12) (xb x 13) == 0)
set_option maxRecDepth 1000000 in
theorem rvalid_runs (x : List GC) : Runs (runF (sums K_r17num) L_con 60) (rvalid_tpl.args (spread rvalid_sp [.v x])) (rvalid_tpl.memo (spread rvalid_sp [.v x]) []) rvalid_tpl.n (SV.one (SC.bool (SB.v (rvalid_0 x))))
    ([]) :=
  Runs.of1 (ps := []) (by kernel_rfl) (by simp)
noncomputable def rvalid_out : List Gm → Lss → Option CRes
  | [.v x], [] => some ⟨SV.one (SC.bool (SB.v (rvalid_0 x))),
    [],
    [], [], 2172⟩
  | _, _ => none
theorem rvalid_ok : FOk Try.prog 60 (tplG rvalid_sp rvalid_tpl rvalid_out) := by
  refine tplG_ok (runF_ok known_r17num 60) fun ps ls r hr hn _ => ?_
  unfold rvalid_out at hr
  split at hr
  · cases hr; exact ⟨_, rvalid_runs _, fun _ => rfl⟩
  · cases hr
noncomputable def K_rvalid : List (Nat × Summ) := (60, tplG rvalid_sp rvalid_tpl rvalid_out) :: K_r17num
theorem known_rvalid : Known Try.prog (sums K_rvalid) L_con := known_cons known_r17num rvalid_ok
end Go.Proofs.Ythgiaoidekdpfaa
