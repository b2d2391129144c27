/-
  OFFSETS: ends, halves, quotients. Conditions: none.
-/
import Derived.Test.YthgiaoidekdpfaaGreatV1
set_option linter.all false
namespace Go.Proofs.YthgiaoidekdpfaaGreat
open Go.SX Go.RowKit
noncomputable def flat_tpl : Tpl := ⟨[.one (.int .i64), .agg [.int .i64, .int .i64, .int .i64]], [], 0⟩
noncomputable def flat_0 (p : Int) (a : Int) (b : Int) (c : Int) : Int :=
  bif p == 17 then a else bif p == 18 then c else bif p == 19 then b else 0
noncomputable def flat_1 (p : Int) (a : Int) (b : Int) (c : Int) : Int :=
  bif p == 17 then b else bif p == 18 then a else bif p == 19 then c else 0
noncomputable def flat_2 (p : Int) (a : Int) (b : Int) (c : Int) : Int :=
  bif p == 17 then c else bif p == 18 then b else bif p == 19 then a else 0
noncomputable def flat_3 (p : Int) : Bool :=
  p == 17 || (p == 18 || p == 19)
set_option maxRecDepth 1000000 in
theorem flat_runs (p a b c : Int) : Runs (runF (sums K_oclear) L_fl 47) (flat_tpl.args [.i p, .i a, .i b, .i c]) (flat_tpl.memo [.i p, .i a, .i b, .i c] []) flat_tpl.n (SV.tup [(true, [SC.int IntKind.i64 (SI.v (flat_0 p a b c)), SC.int IntKind.i64 (SI.v (flat_1 p a b c))]), (false, [SC.int IntKind.i64 (SI.v (flat_2 p a b c))]), (false, [SC.bool (SB.v (flat_3 p))])])
    ([]) :=
  Runs.of1 (ps := []) (by kernel_rfl) (by simp)
noncomputable def flat_out : List Pm → Lss → Option CRes
  | [.i p, .i a, .i b, .i c], [] => some ⟨SV.tup [(true, [SC.int IntKind.i64 (SI.v (flat_0 p a b c)), SC.int IntKind.i64 (SI.v (flat_1 p a b c))]), (false, [SC.int IntKind.i64 (SI.v (flat_2 p a b c))]), (false, [SC.bool (SB.v (flat_3 p))])],
    [],
    [], [], 66⟩
  | _, _ => none
theorem flat_ok : FOk Tryz.prog 47 (tplS flat_tpl flat_out) := by
  refine tplS_ok (runF_ok known_oclear 47) fun ps ls r hr hn _ => ?_
  unfold flat_out at hr
  split at hr
  · cases hr; exact ⟨_, flat_runs _ _ _ _, fun _ => rfl⟩
  · cases hr
noncomputable def K_flat : List (Nat × Summ) := (47, tplS flat_tpl flat_out) :: K_oclear
theorem known_flat : Known Tryz.prog (sums K_flat) L_fl := known_cons known_oclear flat_ok
noncomputable def solid_tpl : Tpl := ⟨[.one (.int .i64), .agg [.int .i64, .int .i64], .one (.int .i64)], [], 0⟩
noncomputable def solid_0 (p : Int) (u : Int) (w : Int) (h : Int) : Int :=
  bif p == 17 then u else bif p == 18 then w else bif p == 19 then h else 0
noncomputable def solid_1 (p : Int) (u : Int) (w : Int) (h : Int) : Int :=
  bif p == 17 then w else bif p == 18 then h else bif p == 19 then u else 0
noncomputable def solid_2 (p : Int) (u : Int) (w : Int) (h : Int) : Int :=
  bif p == 17 then h else bif p == 18 then u else bif p == 19 then w else 0
set_option maxRecDepth 1000000 in
theorem solid_runs (p u w h : Int) : Runs (runF (sums K_flat) L_fl 162) (solid_tpl.args [.i p, .i u, .i w, .i h]) (solid_tpl.memo [.i p, .i u, .i w, .i h] []) solid_tpl.n (SV.tup [(true, [SC.int IntKind.i64 (SI.v (solid_0 p u w h)), SC.int IntKind.i64 (SI.v (solid_1 p u w h)), SC.int IntKind.i64 (SI.v (solid_2 p u w h))]), (false, [SC.bool (SB.v (flat_3 p))])])
    ([]) :=
  Runs.of1 (ps := []) (by kernel_rfl) (by simp)
noncomputable def solid_out : List Pm → Lss → Option CRes
  | [.i p, .i u, .i w, .i h], [] => some ⟨SV.tup [(true, [SC.int IntKind.i64 (SI.v (solid_0 p u w h)), SC.int IntKind.i64 (SI.v (solid_1 p u w h)), SC.int IntKind.i64 (SI.v (solid_2 p u w h))]), (false, [SC.bool (SB.v (flat_3 p))])],
    [],
    [], [], 65⟩
  | _, _ => none
theorem solid_ok : FOk Tryz.prog 162 (tplS solid_tpl solid_out) := by
  refine tplS_ok (runF_ok known_flat 162) fun ps ls r hr hn _ => ?_
  unfold solid_out at hr
  split at hr
  · cases hr; exact ⟨_, solid_runs _ _ _ _, fun _ => rfl⟩
  · cases hr
noncomputable def K_solid : List (Nat × Summ) := (162, tplS solid_tpl solid_out) :: K_flat
theorem known_solid : Known Tryz.prog (sums K_solid) L_fl := known_cons known_flat solid_ok
noncomputable def vwithin_tpl : Tpl := ⟨[.agg [.int .i64, .int .i64, .int .i64]], [], 0⟩
noncomputable def vwithin_0 (a : Int) (b : Int) (c : Int) : Bool :=
  decide (a ≥ -1048576) && decide (a ≤ 1048576) && (decide (b ≥ -1048576) && decide (b ≤ 1048576)) && (decide (c ≥ -1048576) && decide (c ≤ 1048576))
set_option maxRecDepth 1000000 in
theorem vwithin_runs (a b c : Int) : Runs (runF (sums K_solid) L_fl 127) (vwithin_tpl.args [.i a, .i b, .i c]) (vwithin_tpl.memo [.i a, .i b, .i c] []) vwithin_tpl.n (SV.one (SC.bool (SB.v (vwithin_0 a b c))))
    ([]) :=
  Runs.of1 (ps := []) (by kernel_rfl) (by simp)
noncomputable def vwithin_out : List Pm → Lss → Option CRes
  | [.i a, .i b, .i c], [] => some ⟨SV.one (SC.bool (SB.v (vwithin_0 a b c))),
    [],
    [], [], 44⟩
  | _, _ => none
theorem vwithin_ok : FOk Tryz.prog 127 (tplS vwithin_tpl vwithin_out) := by
  refine tplS_ok (runF_ok known_solid 127) fun ps ls r hr hn _ => ?_
  unfold vwithin_out at hr
  split at hr
  · cases hr; exact ⟨_, vwithin_runs _ _ _, fun _ => rfl⟩
  · cases hr
noncomputable def K_vwithin : List (Nat × Summ) := (127, tplS vwithin_tpl vwithin_out) :: K_solid
theorem known_vwithin : Known Tryz.prog (sums K_vwithin) L_fl := known_cons known_solid vwithin_ok
noncomputable def oitem_tpl : Tpl := ⟨[.agg [.int .i64, .int .i64, .int .i64, .int .i64, .int .i64, .int .i64, .int .i64, .bool]], [], 0⟩
noncomputable def oitem_0 (e6 : Int) : Int :=
  bif e6 != 0 then 3 else 2
noncomputable def oitem_1 (e4 : Int) (e6 : Int) : Int :=
  bif e6 != 0 then e4 else 0
noncomputable def oitem_3 (e6 : Int) : Int :=
  bif e6 != 0 then e6 else 0
noncomputable def oitem_4 (e6 : Int) (e7 : Bool) : Bool :=
  e6 != 0 && e7
set_option maxRecDepth 1000000 in
theorem oitem_runs (e0 e1 e2 e3 e4 e5 e6 : Int) (e7 : Bool) : Runs (runF (sums K_vwithin) L_fl 134) (oitem_tpl.args [.i e0, .i e1, .i e2, .i e3, .i e4, .i e5, .i e6, .b e7]) (oitem_tpl.memo [.i e0, .i e1, .i e2, .i e3, .i e4, .i e5, .i e6, .b e7] []) oitem_tpl.n (SV.agg
    [SC.int IntKind.i64 (SI.v (oitem_0 e6)), SC.int IntKind.i64 (SI.c 0), SC.int IntKind.i64 (SI.v e0), SC.int IntKind.i64 (SI.v e1), SC.int IntKind.i64 (SI.c 0), SC.int IntKind.i64 (SI.v e2),
     SC.int IntKind.i64 (SI.v e3), SC.int IntKind.i64 (SI.c 0), SC.int IntKind.i64 (SI.c 17), SC.int IntKind.i64 (SI.v (oitem_1 e4 e6)), SC.int IntKind.i64 (SI.v (oitem_1 e5 e6)),
     SC.int IntKind.i64 (SI.c 0), SC.int IntKind.i64 (SI.v (oitem_3 e6)), SC.bool (SB.v (oitem_4 e6 e7)), SC.int IntKind.i64 (SI.c 0), SC.bool (SB.c false), SC.int IntKind.i64 (SI.c 0),
     SC.int IntKind.i64 (SI.c 0), SC.int IntKind.i64 (SI.c 0), SC.int IntKind.i64 (SI.c 0), SC.int IntKind.i64 (SI.c 0), SC.bool (SB.c false)])
    ([]) :=
  Runs.of1 (ps := []) (by kernel_rfl) (by simp)
noncomputable def oitem_out : List Pm → Lss → Option CRes
  | [.i e0, .i e1, .i e2, .i e3, .i e4, .i e5, .i e6, .b e7], [] => some ⟨SV.agg
    [SC.int IntKind.i64 (SI.v (oitem_0 e6)), SC.int IntKind.i64 (SI.c 0), SC.int IntKind.i64 (SI.v e0), SC.int IntKind.i64 (SI.v e1), SC.int IntKind.i64 (SI.c 0), SC.int IntKind.i64 (SI.v e2),
     SC.int IntKind.i64 (SI.v e3), SC.int IntKind.i64 (SI.c 0), SC.int IntKind.i64 (SI.c 17), SC.int IntKind.i64 (SI.v (oitem_1 e4 e6)), SC.int IntKind.i64 (SI.v (oitem_1 e5 e6)),
     SC.int IntKind.i64 (SI.c 0), SC.int IntKind.i64 (SI.v (oitem_3 e6)), SC.bool (SB.v (oitem_4 e6 e7)), SC.int IntKind.i64 (SI.c 0), SC.bool (SB.c false), SC.int IntKind.i64 (SI.c 0),
     SC.int IntKind.i64 (SI.c 0), SC.int IntKind.i64 (SI.c 0), SC.int IntKind.i64 (SI.c 0), SC.int IntKind.i64 (SI.c 0), SC.bool (SB.c false)],
    [],
    [], [], 206⟩
  | _, _ => none
theorem oitem_ok : FOk Tryz.prog 134 (tplS oitem_tpl oitem_out) := by
  refine tplS_ok (runF_ok known_vwithin 134) fun ps ls r hr hn _ => ?_
  unfold oitem_out at hr
  split at hr
  · cases hr; exact ⟨_, oitem_runs _ _ _ _ _ _ _ _, fun _ => rfl⟩
  · cases hr
noncomputable def K_oitem : List (Nat × Summ) := (134, tplS oitem_tpl oitem_out) :: K_vwithin
theorem known_oitem : Known Tryz.prog (sums K_oitem) L_fl := known_cons known_vwithin oitem_ok
noncomputable def aspokes_tpl : Tpl := ⟨[.agg [.int .i64, .int .i64, .int .i64, .int .i64, .int .i64, .int .i64, .int .i64, .int .i64, .int .i64, .int .i64, .int .i64, .int .i64, .int .i64, .bool, .int .i64, .bool, .int .i64, .int .i64, .int .i64, .int .i64, .int .i64, .bool]], [], 0⟩
noncomputable def aspokes_0 (f0 : Int) (f1 : Int) (f2 : Int) (p : Int) (c0 : Int) (c1 : Int) (c2 : Int) : Int :=
  IntKind.i64.wrap (flat_0 p f0 f1 f2 - flat_0 p c0 c1 c2)
noncomputable def aspokes_1 (f0 : Int) (f1 : Int) (f2 : Int) (p : Int) (c0 : Int) (c1 : Int) (c2 : Int) : Int :=
  IntKind.i64.wrap (flat_1 p f0 f1 f2 - flat_1 p c0 c1 c2)
set_option maxRecDepth 1000000 in
theorem aspokes_runs (k bl f0 f1 f2 t0 t1 t2 p c0 c1 c2 d : Int) (fu : Bool) (fe : Int) (pr : Bool) (si ra be n sp : Int) (on : Bool) : Runs (runF (sums K_oitem) L_fl 99) (aspokes_tpl.args [.i k, .i bl, .i f0, .i f1, .i f2, .i t0, .i t1, .i t2, .i p, .i c0, .i c1, .i c2, .i d, .b fu, .i fe, .b pr, .i si, .i ra, .i be, .i n, .i sp, .b on]) (aspokes_tpl.memo [.i k, .i bl, .i f0, .i f1, .i f2, .i t0, .i t1, .i t2, .i p, .i c0, .i c1, .i c2, .i d, .b fu, .i fe, .b pr, .i si, .i ra, .i be, .i n, .i sp, .b on] []) aspokes_tpl.n (SV.tup
    [(true, [SC.int IntKind.i64 (SI.v (aspokes_0 f0 f1 f2 p c0 c1 c2)), SC.int IntKind.i64 (SI.v (aspokes_1 f0 f1 f2 p c0 c1 c2))]),
     (true, [SC.int IntKind.i64 (SI.v (aspokes_0 t0 t1 t2 p c0 c1 c2)), SC.int IntKind.i64 (SI.v (aspokes_1 t0 t1 t2 p c0 c1 c2))])])
    ([]) :=
  Runs.of1 (ps := []) (by kernel_rfl) (by simp)
noncomputable def aspokes_out : List Pm → Lss → Option CRes
  | [.i k, .i bl, .i f0, .i f1, .i f2, .i t0, .i t1, .i t2, .i p, .i c0, .i c1, .i c2, .i d, .b fu, .i fe, .b pr, .i si, .i ra, .i be, .i n, .i sp, .b on], [] => some ⟨SV.tup
    [(true, [SC.int IntKind.i64 (SI.v (aspokes_0 f0 f1 f2 p c0 c1 c2)), SC.int IntKind.i64 (SI.v (aspokes_1 f0 f1 f2 p c0 c1 c2))]),
     (true, [SC.int IntKind.i64 (SI.v (aspokes_0 t0 t1 t2 p c0 c1 c2)), SC.int IntKind.i64 (SI.v (aspokes_1 t0 t1 t2 p c0 c1 c2))])],
    [],
    [], [], 312⟩
  | _, _ => none
theorem aspokes_ok : FOk Tryz.prog 99 (tplS aspokes_tpl aspokes_out) := by
  refine tplS_ok (runF_ok known_oitem 99) fun ps ls r hr hn _ => ?_
  unfold aspokes_out at hr
  split at hr
  · cases hr; exact ⟨_, aspokes_runs _ _ _ _ _ _ _ _ _ _ _ _ _ _ _ _ _ _ _ _ _ _, fun _ => rfl⟩
  · cases hr
noncomputable def K_aspokes : List (Nat × Summ) := (99, tplS aspokes_tpl aspokes_out) :: K_oitem
theorem known_aspokes : Known Tryz.prog (sums K_aspokes) L_fl := known_cons known_oitem aspokes_ok
noncomputable def atang_tpl : Tpl := ⟨[.agg [.int .i64, .int .i64, .int .i64, .int .i64, .int .i64, .int .i64, .int .i64, .int .i64, .int .i64, .int .i64, .int .i64, .int .i64, .int .i64, .bool, .int .i64, .bool, .int .i64, .int .i64, .int .i64, .int .i64, .int .i64, .bool], .one (.bool)], [], 0⟩
noncomputable def atang_s0 (f0 : Int) (f1 : Int) (f2 : Int) (t0 : Int) (t1 : Int) (t2 : Int) (p : Int) (c0 : Int) (c1 : Int) (c2 : Int) (e : Bool) : Int :=
  bif e then aspokes_1 t0 t1 t2 p c0 c1 c2 else aspokes_1 f0 f1 f2 p c0 c1 c2
noncomputable def atang_0 (k : Int) (f0 : Int) (f1 : Int) (f2 : Int) (t0 : Int) (t1 : Int) (t2 : Int) (p : Int) (c0 : Int) (c1 : Int) (c2 : Int) (d : Int) (e : Bool) : Int :=
  bif k != 3 then IntKind.i64.wrap (flat_0 p t0 t1 t2 - flat_0 p f0 f1 f2)
  else bif decide (d < 0) then atang_s0 f0 f1 f2 t0 t1 t2 p c0 c1 c2 e else IntKind.i64.wrap (0 - atang_s0 f0 f1 f2 t0 t1 t2 p c0 c1 c2 e)
noncomputable def atang_s1 (f0 : Int) (f1 : Int) (f2 : Int) (t0 : Int) (t1 : Int) (t2 : Int) (p : Int) (c0 : Int) (c1 : Int) (c2 : Int) (e : Bool) : Int :=
  bif e then aspokes_0 t0 t1 t2 p c0 c1 c2 else aspokes_0 f0 f1 f2 p c0 c1 c2
noncomputable def atang_1 (k : Int) (f0 : Int) (f1 : Int) (f2 : Int) (t0 : Int) (t1 : Int) (t2 : Int) (p : Int) (c0 : Int) (c1 : Int) (c2 : Int) (d : Int) (e : Bool) : Int :=
  bif k != 3 then IntKind.i64.wrap (flat_1 p t0 t1 t2 - flat_1 p f0 f1 f2)
  else bif decide (d < 0) then IntKind.i64.wrap (0 - atang_s1 f0 f1 f2 t0 t1 t2 p c0 c1 c2 e) else atang_s1 f0 f1 f2 t0 t1 t2 p c0 c1 c2 e
set_option maxRecDepth 1000000 in
theorem atang_runs (k bl f0 f1 f2 t0 t1 t2 p c0 c1 c2 d : Int) (fu : Bool) (fe : Int) (pr : Bool) (si ra be n sp : Int) (on e : Bool) : Runs (runF (sums K_aspokes) L_fl 133) (atang_tpl.args [.i k, .i bl, .i f0, .i f1, .i f2, .i t0, .i t1, .i t2, .i p, .i c0, .i c1, .i c2, .i d, .b fu, .i fe, .b pr, .i si, .i ra, .i be, .i n, .i sp, .b on, .b e]) (atang_tpl.memo [.i k, .i bl, .i f0, .i f1, .i f2, .i t0, .i t1, .i t2, .i p, .i c0, .i c1, .i c2, .i d, .b fu, .i fe, .b pr, .i si, .i ra, .i be, .i n, .i sp, .b on, .b e] []) atang_tpl.n (SV.agg [SC.int IntKind.i64 (SI.v (atang_0 k f0 f1 f2 t0 t1 t2 p c0 c1 c2 d e)), SC.int IntKind.i64 (SI.v (atang_1 k f0 f1 f2 t0 t1 t2 p c0 c1 c2 d e))])
    ([]) :=
  Runs.of1 (ps := []) (by kernel_rfl) (by simp)
noncomputable def atang_out : List Pm → Lss → Option CRes
  | [.i k, .i bl, .i f0, .i f1, .i f2, .i t0, .i t1, .i t2, .i p, .i c0, .i c1, .i c2, .i d, .b fu, .i fe, .b pr, .i si, .i ra, .i be, .i n, .i sp, .b on, .b e], [] => some ⟨SV.agg [SC.int IntKind.i64 (SI.v (atang_0 k f0 f1 f2 t0 t1 t2 p c0 c1 c2 d e)), SC.int IntKind.i64 (SI.v (atang_1 k f0 f1 f2 t0 t1 t2 p c0 c1 c2 d e))],
    [],
    [], [], 576⟩
  | _, _ => none
theorem atang_ok : FOk Tryz.prog 133 (tplS atang_tpl atang_out) := by
  refine tplS_ok (runF_ok known_aspokes 133) fun ps ls r hr hn _ => ?_
  unfold atang_out at hr
  split at hr
  · cases hr; exact ⟨_, atang_runs _ _ _ _ _ _ _ _ _ _ _ _ _ _ _ _ _ _ _ _ _ _ _, fun _ => rfl⟩
  · cases hr
noncomputable def K_atang : List (Nat × Summ) := (133, tplS atang_tpl atang_out) :: K_aspokes
theorem known_atang : Known Tryz.prog (sums K_atang) L_fl := known_cons known_aspokes atang_ok
noncomputable def oends_tpl : Tpl := ⟨[.agg [.int .i64, .int .i64, .int .i64, .int .i64, .int .i64, .int .i64, .int .i64, .bool], .one (.int .i64)], [], 0⟩
noncomputable def oends_s0 (r : Int) : Int :=
  IntKind.i64.wrap ((if IntKind.i64.wrap (0 - r) > r then IntKind.i64.wrap (0 - r) else r) + 8)
noncomputable def oends_s1 (e0 : Int) (e1 : Int) (e2 : Int) (e3 : Int) (e4 : Int) (e5 : Int) (e6 : Int) (r : Int) : Int :=
  onormal_0 e0 e1 (atang_0 (oitem_0 e6) e0 e1 0 e2 e3 0 17 (oitem_1 e4 e6) (oitem_1 e5 e6) 0 (oitem_3 e6) false)
   (atang_1 (oitem_0 e6) e0 e1 0 e2 e3 0 17 (oitem_1 e4 e6) (oitem_1 e5 e6) 0 (oitem_3 e6) false) r
noncomputable def oends_s2 (e0 : Int) (e1 : Int) (e2 : Int) (e3 : Int) (e4 : Int) (e5 : Int) (e6 : Int) (r : Int) : Int :=
  bif !oin_0 (oends_s1 e0 e1 e2 e3 e4 e5 e6 r) 1048576 then 0
  else
   bif
   !oin_0
   (onormal_1 e0 e1 (atang_0 (oitem_0 e6) e0 e1 0 e2 e3 0 17 (oitem_1 e4 e6) (oitem_1 e5 e6) 0 (oitem_3 e6) false)
   (atang_1 (oitem_0 e6) e0 e1 0 e2 e3 0 17 (oitem_1 e4 e6) (oitem_1 e5 e6) 0 (oitem_3 e6) false) r)
   1048576 then
   0
   else
   bif
   !oin_0
   (onormal_0 e2 e3 (atang_0 (oitem_0 e6) e0 e1 0 e2 e3 0 17 (oitem_1 e4 e6) (oitem_1 e5 e6) 0 (oitem_3 e6) true)
   (atang_1 (oitem_0 e6) e0 e1 0 e2 e3 0 17 (oitem_1 e4 e6) (oitem_1 e5 e6) 0 (oitem_3 e6) true) r)
   1048576 then
   0
   else
   bif
   !oin_0
   (onormal_1 e2 e3 (atang_0 (oitem_0 e6) e0 e1 0 e2 e3 0 17 (oitem_1 e4 e6) (oitem_1 e5 e6) 0 (oitem_3 e6) true)
   (atang_1 (oitem_0 e6) e0 e1 0 e2 e3 0 17 (oitem_1 e4 e6) (oitem_1 e5 e6) 0 (oitem_3 e6) true) r)
   1048576 then
   0
   else oends_s1 e0 e1 e2 e3 e4 e5 e6 r
noncomputable def oends_0 (e0 : Int) (e1 : Int) (e2 : Int) (e3 : Int) (e4 : Int) (e5 : Int) (e6 : Int) (r : Int) : Int :=
  bif e6 != 0 && oinward_0 e6 r then
   bif decide (vinner_0 (minus_0 e0 e4) (minus_0 e1 e5) (minus_0 e0 e4) (minus_0 e1 e5) < IntKind.i64.wrap (oends_s0 r * oends_s0 r)) then 0
   else bif decide (vinner_0 (minus_0 e2 e4) (minus_0 e3 e5) (minus_0 e2 e4) (minus_0 e3 e5) < IntKind.i64.wrap (oends_s0 r * oends_s0 r)) then 0 else oends_s2 e0 e1 e2 e3 e4 e5 e6 r
  else oends_s2 e0 e1 e2 e3 e4 e5 e6 r
noncomputable def oends_s3 (e0 : Int) (e1 : Int) (e2 : Int) (e3 : Int) (e4 : Int) (e5 : Int) (e6 : Int) (r : Int) : Int :=
  onormal_1 e0 e1 (atang_0 (oitem_0 e6) e0 e1 0 e2 e3 0 17 (oitem_1 e4 e6) (oitem_1 e5 e6) 0 (oitem_3 e6) false)
   (atang_1 (oitem_0 e6) e0 e1 0 e2 e3 0 17 (oitem_1 e4 e6) (oitem_1 e5 e6) 0 (oitem_3 e6) false) r
noncomputable def oends_s4 (e0 : Int) (e1 : Int) (e2 : Int) (e3 : Int) (e4 : Int) (e5 : Int) (e6 : Int) (r : Int) : Int :=
  bif
   !oin_0
   (onormal_0 e0 e1 (atang_0 (oitem_0 e6) e0 e1 0 e2 e3 0 17 (oitem_1 e4 e6) (oitem_1 e5 e6) 0 (oitem_3 e6) false)
   (atang_1 (oitem_0 e6) e0 e1 0 e2 e3 0 17 (oitem_1 e4 e6) (oitem_1 e5 e6) 0 (oitem_3 e6) false) r)
   1048576 then
   0
  else
   bif !oin_0 (oends_s3 e0 e1 e2 e3 e4 e5 e6 r) 1048576 then 0
   else
   bif
   !oin_0
   (onormal_0 e2 e3 (atang_0 (oitem_0 e6) e0 e1 0 e2 e3 0 17 (oitem_1 e4 e6) (oitem_1 e5 e6) 0 (oitem_3 e6) true)
   (atang_1 (oitem_0 e6) e0 e1 0 e2 e3 0 17 (oitem_1 e4 e6) (oitem_1 e5 e6) 0 (oitem_3 e6) true) r)
   1048576 then
   0
   else
   bif
   !oin_0
   (onormal_1 e2 e3 (atang_0 (oitem_0 e6) e0 e1 0 e2 e3 0 17 (oitem_1 e4 e6) (oitem_1 e5 e6) 0 (oitem_3 e6) true)
   (atang_1 (oitem_0 e6) e0 e1 0 e2 e3 0 17 (oitem_1 e4 e6) (oitem_1 e5 e6) 0 (oitem_3 e6) true) r)
   1048576 then
   0
   else oends_s3 e0 e1 e2 e3 e4 e5 e6 r
noncomputable def oends_1 (e0 : Int) (e1 : Int) (e2 : Int) (e3 : Int) (e4 : Int) (e5 : Int) (e6 : Int) (r : Int) : Int :=
  bif e6 != 0 && oinward_0 e6 r then
   bif decide (vinner_0 (minus_0 e0 e4) (minus_0 e1 e5) (minus_0 e0 e4) (minus_0 e1 e5) < IntKind.i64.wrap (oends_s0 r * oends_s0 r)) then 0
   else bif decide (vinner_0 (minus_0 e2 e4) (minus_0 e3 e5) (minus_0 e2 e4) (minus_0 e3 e5) < IntKind.i64.wrap (oends_s0 r * oends_s0 r)) then 0 else oends_s4 e0 e1 e2 e3 e4 e5 e6 r
  else oends_s4 e0 e1 e2 e3 e4 e5 e6 r
noncomputable def oends_s5 (e0 : Int) (e1 : Int) (e2 : Int) (e3 : Int) (e4 : Int) (e5 : Int) (e6 : Int) (r : Int) : Int :=
  onormal_0 e2 e3 (atang_0 (oitem_0 e6) e0 e1 0 e2 e3 0 17 (oitem_1 e4 e6) (oitem_1 e5 e6) 0 (oitem_3 e6) true)
   (atang_1 (oitem_0 e6) e0 e1 0 e2 e3 0 17 (oitem_1 e4 e6) (oitem_1 e5 e6) 0 (oitem_3 e6) true) r
noncomputable def oends_s6 (e0 : Int) (e1 : Int) (e2 : Int) (e3 : Int) (e4 : Int) (e5 : Int) (e6 : Int) (r : Int) : Int :=
  bif
   !oin_0
   (onormal_0 e0 e1 (atang_0 (oitem_0 e6) e0 e1 0 e2 e3 0 17 (oitem_1 e4 e6) (oitem_1 e5 e6) 0 (oitem_3 e6) false)
   (atang_1 (oitem_0 e6) e0 e1 0 e2 e3 0 17 (oitem_1 e4 e6) (oitem_1 e5 e6) 0 (oitem_3 e6) false) r)
   1048576 then
   0
  else
   bif
   !oin_0
   (onormal_1 e0 e1 (atang_0 (oitem_0 e6) e0 e1 0 e2 e3 0 17 (oitem_1 e4 e6) (oitem_1 e5 e6) 0 (oitem_3 e6) false)
   (atang_1 (oitem_0 e6) e0 e1 0 e2 e3 0 17 (oitem_1 e4 e6) (oitem_1 e5 e6) 0 (oitem_3 e6) false) r)
   1048576 then
   0
   else
   bif !oin_0 (oends_s5 e0 e1 e2 e3 e4 e5 e6 r) 1048576 then 0
   else
   bif
   !oin_0
   (onormal_1 e2 e3 (atang_0 (oitem_0 e6) e0 e1 0 e2 e3 0 17 (oitem_1 e4 e6) (oitem_1 e5 e6) 0 (oitem_3 e6) true)
   (atang_1 (oitem_0 e6) e0 e1 0 e2 e3 0 17 (oitem_1 e4 e6) (oitem_1 e5 e6) 0 (oitem_3 e6) true) r)
   1048576 then
   0
   else oends_s5 e0 e1 e2 e3 e4 e5 e6 r
noncomputable def oends_2 (e0 : Int) (e1 : Int) (e2 : Int) (e3 : Int) (e4 : Int) (e5 : Int) (e6 : Int) (r : Int) : Int :=
  bif e6 != 0 && oinward_0 e6 r then
   bif decide (vinner_0 (minus_0 e0 e4) (minus_0 e1 e5) (minus_0 e0 e4) (minus_0 e1 e5) < IntKind.i64.wrap (oends_s0 r * oends_s0 r)) then 0
   else bif decide (vinner_0 (minus_0 e2 e4) (minus_0 e3 e5) (minus_0 e2 e4) (minus_0 e3 e5) < IntKind.i64.wrap (oends_s0 r * oends_s0 r)) then 0 else oends_s6 e0 e1 e2 e3 e4 e5 e6 r
  else oends_s6 e0 e1 e2 e3 e4 e5 e6 r
noncomputable def oends_s7 (e0 : Int) (e1 : Int) (e2 : Int) (e3 : Int) (e4 : Int) (e5 : Int) (e6 : Int) (r : Int) : Int :=
  onormal_1 e2 e3 (atang_0 (oitem_0 e6) e0 e1 0 e2 e3 0 17 (oitem_1 e4 e6) (oitem_1 e5 e6) 0 (oitem_3 e6) true)
   (atang_1 (oitem_0 e6) e0 e1 0 e2 e3 0 17 (oitem_1 e4 e6) (oitem_1 e5 e6) 0 (oitem_3 e6) true) r
noncomputable def oends_s8 (e0 : Int) (e1 : Int) (e2 : Int) (e3 : Int) (e4 : Int) (e5 : Int) (e6 : Int) (r : Int) : Int :=
  bif
   !oin_0
   (onormal_0 e0 e1 (atang_0 (oitem_0 e6) e0 e1 0 e2 e3 0 17 (oitem_1 e4 e6) (oitem_1 e5 e6) 0 (oitem_3 e6) false)
   (atang_1 (oitem_0 e6) e0 e1 0 e2 e3 0 17 (oitem_1 e4 e6) (oitem_1 e5 e6) 0 (oitem_3 e6) false) r)
   1048576 then
   0
  else
   bif
   !oin_0
   (onormal_1 e0 e1 (atang_0 (oitem_0 e6) e0 e1 0 e2 e3 0 17 (oitem_1 e4 e6) (oitem_1 e5 e6) 0 (oitem_3 e6) false)
   (atang_1 (oitem_0 e6) e0 e1 0 e2 e3 0 17 (oitem_1 e4 e6) (oitem_1 e5 e6) 0 (oitem_3 e6) false) r)
   1048576 then
   0
   else
   bif
   !oin_0
   (onormal_0 e2 e3 (atang_0 (oitem_0 e6) e0 e1 0 e2 e3 0 17 (oitem_1 e4 e6) (oitem_1 e5 e6) 0 (oitem_3 e6) true)
   (atang_1 (oitem_0 e6) e0 e1 0 e2 e3 0 17 (oitem_1 e4 e6) (oitem_1 e5 e6) 0 (oitem_3 e6) true) r)
   1048576 then
   0
   else bif !oin_0 (oends_s7 e0 e1 e2 e3 e4 e5 e6 r) 1048576 then 0 else oends_s7 e0 e1 e2 e3 e4 e5 e6 r
noncomputable def oends_3 (e0 : Int) (e1 : Int) (e2 : Int) (e3 : Int) (e4 : Int) (e5 : Int) (e6 : Int) (r : Int) : Int :=
  bif e6 != 0 && oinward_0 e6 r then
   bif decide (vinner_0 (minus_0 e0 e4) (minus_0 e1 e5) (minus_0 e0 e4) (minus_0 e1 e5) < IntKind.i64.wrap (oends_s0 r * oends_s0 r)) then 0
   else bif decide (vinner_0 (minus_0 e2 e4) (minus_0 e3 e5) (minus_0 e2 e4) (minus_0 e3 e5) < IntKind.i64.wrap (oends_s0 r * oends_s0 r)) then 0 else oends_s8 e0 e1 e2 e3 e4 e5 e6 r
  else oends_s8 e0 e1 e2 e3 e4 e5 e6 r
noncomputable def oends_s9 (e0 : Int) (e1 : Int) (e2 : Int) (e3 : Int) (e4 : Int) (e5 : Int) (e6 : Int) (r : Int) : Int :=
  bif
   !oin_0
   (onormal_0 e0 e1 (atang_0 (oitem_0 e6) e0 e1 0 e2 e3 0 17 (oitem_1 e4 e6) (oitem_1 e5 e6) 0 (oitem_3 e6) false)
   (atang_1 (oitem_0 e6) e0 e1 0 e2 e3 0 17 (oitem_1 e4 e6) (oitem_1 e5 e6) 0 (oitem_3 e6) false) r)
   1048576 then
   3
  else
   bif
   !oin_0
   (onormal_1 e0 e1 (atang_0 (oitem_0 e6) e0 e1 0 e2 e3 0 17 (oitem_1 e4 e6) (oitem_1 e5 e6) 0 (oitem_3 e6) false)
   (atang_1 (oitem_0 e6) e0 e1 0 e2 e3 0 17 (oitem_1 e4 e6) (oitem_1 e5 e6) 0 (oitem_3 e6) false) r)
   1048576 then
   3
   else
   bif
   !oin_0
   (onormal_0 e2 e3 (atang_0 (oitem_0 e6) e0 e1 0 e2 e3 0 17 (oitem_1 e4 e6) (oitem_1 e5 e6) 0 (oitem_3 e6) true)
   (atang_1 (oitem_0 e6) e0 e1 0 e2 e3 0 17 (oitem_1 e4 e6) (oitem_1 e5 e6) 0 (oitem_3 e6) true) r)
   1048576 then
   3
   else
   bif
   !oin_0
   (onormal_1 e2 e3 (atang_0 (oitem_0 e6) e0 e1 0 e2 e3 0 17 (oitem_1 e4 e6) (oitem_1 e5 e6) 0 (oitem_3 e6) true)
   (atang_1 (oitem_0 e6) e0 e1 0 e2 e3 0 17 (oitem_1 e4 e6) (oitem_1 e5 e6) 0 (oitem_3 e6) true) r)
   1048576 then
   3
   else 0
noncomputable def oends_4 (e0 : Int) (e1 : Int) (e2 : Int) (e3 : Int) (e4 : Int) (e5 : Int) (e6 : Int) (r : Int) : Int :=
  bif e6 != 0 && oinward_0 e6 r then
   bif decide (vinner_0 (minus_0 e0 e4) (minus_0 e1 e5) (minus_0 e0 e4) (minus_0 e1 e5) < IntKind.i64.wrap (oends_s0 r * oends_s0 r)) then 16
   else bif decide (vinner_0 (minus_0 e2 e4) (minus_0 e3 e5) (minus_0 e2 e4) (minus_0 e3 e5) < IntKind.i64.wrap (oends_s0 r * oends_s0 r)) then 16 else oends_s9 e0 e1 e2 e3 e4 e5 e6 r
  else oends_s9 e0 e1 e2 e3 e4 e5 e6 r
set_option maxRecDepth 1000000 in
theorem oends_runs (e0 e1 e2 e3 e4 e5 e6 : Int) (e7 : Bool) (r : Int) : Runs (runF (sums K_atang) L_fl 89) (oends_tpl.args [.i e0, .i e1, .i e2, .i e3, .i e4, .i e5, .i e6, .b e7, .i r]) (oends_tpl.memo [.i e0, .i e1, .i e2, .i e3, .i e4, .i e5, .i e6, .b e7, .i r] []) oends_tpl.n (SV.tup
    [(true, [SC.int IntKind.i64 (SI.v (oends_0 e0 e1 e2 e3 e4 e5 e6 r)), SC.int IntKind.i64 (SI.v (oends_1 e0 e1 e2 e3 e4 e5 e6 r))]),
     (true, [SC.int IntKind.i64 (SI.v (oends_2 e0 e1 e2 e3 e4 e5 e6 r)), SC.int IntKind.i64 (SI.v (oends_3 e0 e1 e2 e3 e4 e5 e6 r))]),
     (false, [SC.int IntKind.i64 (SI.v (oends_4 e0 e1 e2 e3 e4 e5 e6 r))])])
    ([]) :=
  Runs.of1 (ps := []) (by kernel_rfl) (by simp)
noncomputable def oends_out : List Pm → Lss → Option CRes
  | [.i e0, .i e1, .i e2, .i e3, .i e4, .i e5, .i e6, .b e7, .i r], [] => some ⟨SV.tup
    [(true, [SC.int IntKind.i64 (SI.v (oends_0 e0 e1 e2 e3 e4 e5 e6 r)), SC.int IntKind.i64 (SI.v (oends_1 e0 e1 e2 e3 e4 e5 e6 r))]),
     (true, [SC.int IntKind.i64 (SI.v (oends_2 e0 e1 e2 e3 e4 e5 e6 r)), SC.int IntKind.i64 (SI.v (oends_3 e0 e1 e2 e3 e4 e5 e6 r))]),
     (false, [SC.int IntKind.i64 (SI.v (oends_4 e0 e1 e2 e3 e4 e5 e6 r))])],
    [],
    [], [], 10785⟩
  | _, _ => none
theorem oends_ok : FOk Tryz.prog 89 (tplS oends_tpl oends_out) := by
  refine tplS_ok (runF_ok known_atang 89) fun ps ls r hr hn _ => ?_
  unfold oends_out at hr
  split at hr
  · cases hr; exact ⟨_, oends_runs _ _ _ _ _ _ _ _ _, fun _ => rfl⟩
  · cases hr
noncomputable def K_oends : List (Nat × Summ) := (89, tplS oends_tpl oends_out) :: K_atang
theorem known_oends : Known Tryz.prog (sums K_oends) L_fl := known_cons known_atang oends_ok
theorem wsize_rng {a : Int} (h : isI a) : 0 ≤ wsize_0 a ∧ wsize_0 a < 18446744073709551616 := by
  rw [wsize_eq a h]
  obtain ⟨h1, h2⟩ := h
  split <;> omega
noncomputable def muldiv_tpl : Tpl := ⟨[.one (.int .i64), .one (.int .i64), .one (.int .i64), .one (.int .i64)], [], 0⟩
noncomputable def muldiv_s0 (a : Int) (b : Int) (c : Int) : Int :=
  IntKind.u64.wrap (wsize_0 c - div64_1 (mul64_0 (wsize_0 a) (wsize_0 b)) (mul64_1 (wsize_0 a) (wsize_0 b)) (wsize_0 c))
noncomputable def muldiv_s1 (a : Int) (b : Int) (c : Int) : Bool :=
  !decide (wsign_0 a b < 0) == decide (c < 0) && wsign_0 a b != 0
noncomputable def muldiv_s2 (a : Int) (b : Int) (c : Int) : Int :=
  IntKind.u64.wrap (div64_0 (mul64_0 (wsize_0 a) (wsize_0 b)) (mul64_1 (wsize_0 a) (wsize_0 b)) (wsize_0 c) + 1)
noncomputable def muldiv_0 (a : Int) (b : Int) (c : Int) (m : Int) : Int :=
  bif c == 0 || !(m == 0 || m == 1 || m == 2) then 0
  else
   bif decide (mul64_0 (wsize_0 a) (wsize_0 b) ≥ wsize_0 c) then 0
   else
   bif
   grows_0 m
   (bif decide (div64_1 (mul64_0 (wsize_0 a) (wsize_0 b)) (mul64_1 (wsize_0 a) (wsize_0 b)) (wsize_0 c) > muldiv_s0 a b c) then 1
   else bif decide (div64_1 (mul64_0 (wsize_0 a) (wsize_0 b)) (mul64_1 (wsize_0 a) (wsize_0 b)) (wsize_0 c) < muldiv_s0 a b c) then -1 else 0)
   (decide (div64_1 (mul64_0 (wsize_0 a) (wsize_0 b)) (mul64_1 (wsize_0 a) (wsize_0 b)) (wsize_0 c) > 0)) (muldiv_s1 a b c) then
   bif muldiv_s2 a b c == 0 then 0 else signed_0 (muldiv_s2 a b c) (muldiv_s1 a b c)
   else signed_0 (div64_0 (mul64_0 (wsize_0 a) (wsize_0 b)) (mul64_1 (wsize_0 a) (wsize_0 b)) (wsize_0 c)) (muldiv_s1 a b c)
noncomputable def muldiv_1 (a : Int) (b : Int) (c : Int) (m : Int) : Bool :=
  bif c == 0 || !(m == 0 || m == 1 || m == 2) then false
  else
   bif decide (mul64_0 (wsize_0 a) (wsize_0 b) ≥ wsize_0 c) then false
   else
   bif
   grows_0 m
   (bif decide (div64_1 (mul64_0 (wsize_0 a) (wsize_0 b)) (mul64_1 (wsize_0 a) (wsize_0 b)) (wsize_0 c) > muldiv_s0 a b c) then 1
   else bif decide (div64_1 (mul64_0 (wsize_0 a) (wsize_0 b)) (mul64_1 (wsize_0 a) (wsize_0 b)) (wsize_0 c) < muldiv_s0 a b c) then -1 else 0)
   (decide (div64_1 (mul64_0 (wsize_0 a) (wsize_0 b)) (mul64_1 (wsize_0 a) (wsize_0 b)) (wsize_0 c) > 0)) (muldiv_s1 a b c) then
   bif muldiv_s2 a b c == 0 then false else signed_1 (muldiv_s2 a b c) (muldiv_s1 a b c)
   else signed_1 (div64_0 (mul64_0 (wsize_0 a) (wsize_0 b)) (mul64_1 (wsize_0 a) (wsize_0 b)) (wsize_0 c)) (muldiv_s1 a b c)
noncomputable def muldiv_needs (a : Int) (b : Int) (c : Int) (m : Int) : List Prop :=
  [(c == 0 || !(m == 0 || m == 1 || m == 2)) = false →
   decide (mul64_0 (wsize_0 a) (wsize_0 b) ≥ wsize_0 c) = false →
   0 ≤ mul64_0 (wsize_0 a) (wsize_0 b) ∧
   mul64_0 (wsize_0 a) (wsize_0 b) < wsize_0 c ∧ 0 ≤ mul64_1 (wsize_0 a) (wsize_0 b) ∧ mul64_1 (wsize_0 a) (wsize_0 b) < 18446744073709551616 ∧ wsize_0 c < 18446744073709551616]
theorem muldiv_weak {a : Int} {b : Int} {c : Int} {m : Int} (hW : ∀ q ∈ ([isI a, isI b, isI c] : List Prop), q) : ∀ q ∈ (muldiv_needs a b c m), q := by
  simp only [List.mem_cons, List.not_mem_nil, or_false, forall_eq_or_imp, forall_eq] at hW
  unfold muldiv_needs
  simp only [List.forall_mem_cons, List.not_mem_nil, false_implies, implies_true, and_true]
  obtain ⟨ha, hb, hc⟩ := hW
  intro _ h
  have sa := wsize_rng ha
  have sb := wsize_rng hb
  have sc := wsize_rng hc
  have h0 := m0_u64 (x := wsize_0 a) (y := wsize_0 b) sa sb
  have h1 := m1_u64 (wsize_0 a) (wsize_0 b)
  rw [decide_eq_false_iff_not] at h
  exact ⟨h0.1, by omega, h1.1, h1.2, sc.2⟩
set_option maxRecDepth 1000000 in
theorem muldiv_runs (a b c m : Int) (hNeeds : ∀ pN ∈ (muldiv_needs a b c m), pN) : Runs (runF (sums K_oends) L_fl 183) (muldiv_tpl.args [.i a, .i b, .i c, .i m]) (muldiv_tpl.memo [.i a, .i b, .i c, .i m] []) muldiv_tpl.n (SV.tup [(false, [SC.int IntKind.i64 (SI.v (muldiv_0 a b c m))]), (false, [SC.bool (SB.v (muldiv_1 a b c m))])])
    ([]) :=
  Runs.of1 (ps := (muldiv_needs a b c m)) (by kernel_rfl) hNeeds
noncomputable def muldiv_out : List Pm → Lss → Option CRes
  | [.i a, .i b, .i c, .i m], [] => some ⟨SV.tup [(false, [SC.int IntKind.i64 (SI.v (muldiv_0 a b c m))]), (false, [SC.bool (SB.v (muldiv_1 a b c m))])],
    [],
    [isI a, isI b, isI c], [], 507⟩
  | _, _ => none
theorem muldiv_ok : FOk Tryz.prog 183 (tplS muldiv_tpl muldiv_out) := by
  refine tplS_ok (runF_ok known_oends 183) fun ps ls r hr hn _ => ?_
  unfold muldiv_out at hr
  split at hr
  · cases hr; exact ⟨_, muldiv_runs _ _ _ _ (muldiv_weak (by exact hn)), fun _ => rfl⟩
  · cases hr
noncomputable def K_muldiv : List (Nat × Summ) := (183, tplS muldiv_tpl muldiv_out) :: K_oends
theorem known_muldiv : Known Tryz.prog (sums K_muldiv) L_fl := known_cons known_oends muldiv_ok
end Go.Proofs.YthgiaoidekdpfaaGreat
