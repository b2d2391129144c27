/-
  OFFSETS: points, normals, corners, what is clear. Conditions: none.
-/
import Derived.Test.YthgiaoidekdpfaaGreatB3
import Derived.Test.YthgiaoidekdpfaaGreatP0
set_option linter.all false
namespace Go.Proofs.YthgiaoidekdpfaaGreat
open Go.SX Go.RowKit
noncomputable def oin_tpl : Tpl := ⟨[.one (.int .i64), .one (.int .i64)], [], 0⟩
noncomputable def oin_0 (n : Int) (m : Int) : Bool :=
  decide (n ≥ IntKind.i64.wrap (0 - m)) && decide (n ≤ m)
set_option maxRecDepth 1000000 in
theorem oin_runs (n m : Int) : Runs (runF (sums K_wOver) L_fl 135) (oin_tpl.args [.i n, .i m]) (oin_tpl.memo [.i n, .i m] []) oin_tpl.n (SV.one (SC.bool (SB.v (oin_0 n m))))
    ([]) :=
  Runs.of1 (ps := []) (by kernel_rfl) (by simp)
noncomputable def oin_out : List Pm → Lss → Option CRes
  | [.i n, .i m], [] => some ⟨SV.one (SC.bool (SB.v (oin_0 n m))),
    [],
    [], [], 11⟩
  | _, _ => none
theorem oin_ok : FOk Tryz.prog 135 (tplS oin_tpl oin_out) := by
  refine tplS_ok (runF_ok known_wOver 135) fun ps ls r hr hn _ => ?_
  unfold oin_out at hr
  split at hr
  · cases hr; exact ⟨_, oin_runs _ _, fun _ => rfl⟩
  · cases hr
noncomputable def K_oin : List (Nat × Summ) := (135, tplS oin_tpl oin_out) :: K_wOver
theorem known_oin : Known Tryz.prog (sums K_oin) L_fl := known_cons known_wOver oin_ok
theorem oin_iff {n m : Int} (h : 0 ≤ m) (h2 : m ≤ 1000000000) : oin_0 n m = true ↔ bd m n := by
  unfold oin_0
  rw [wrI (x := 0 - m) (by omega) (by omega)]
  simp only [Bool.and_eq_true, decide_eq_true_eq]
  omega
noncomputable def ocorner_tpl : Tpl := ⟨[.agg [.int .i64, .int .i64], .agg [.int .i64, .int .i64], .one (.int .i64)], [], 0⟩
noncomputable def ocorner_0 (a : Int) (b : Int) (c : Int) (d : Int) (s : Int) : Int :=
  bif vcross_0 a b c d == 0 && decide (vinner_0 a b c d > 0) then 0 else bif decide (vcross_0 a b c d > 0) && decide (s > 0) || decide (vcross_0 a b c d < 0) && decide (s < 0) then 2 else 1
set_option maxRecDepth 1000000 in
theorem ocorner_runs (a b c d s : Int) : Runs (runF (sums K_oin) L_fl 139) (ocorner_tpl.args [.i a, .i b, .i c, .i d, .i s]) (ocorner_tpl.memo [.i a, .i b, .i c, .i d, .i s] []) ocorner_tpl.n (SV.one (SC.int IntKind.i64 (SI.v (ocorner_0 a b c d s))))
    ([]) :=
  Runs.of1 (ps := []) (by kernel_rfl) (by simp)
noncomputable def ocorner_out : List Pm → Lss → Option CRes
  | [.i a, .i b, .i c, .i d, .i s], [] => some ⟨SV.one (SC.int IntKind.i64 (SI.v (ocorner_0 a b c d s))),
    [],
    [], [], 82⟩
  | _, _ => none
theorem ocorner_ok : FOk Tryz.prog 139 (tplS ocorner_tpl ocorner_out) := by
  refine tplS_ok (runF_ok known_oin 139) fun ps ls r hr hn _ => ?_
  unfold ocorner_out at hr
  split at hr
  · cases hr; exact ⟨_, ocorner_runs _ _ _ _ _, fun _ => rfl⟩
  · cases hr
noncomputable def K_ocorner : List (Nat × Summ) := (139, tplS ocorner_tpl ocorner_out) :: K_oin
theorem known_ocorner : Known Tryz.prog (sums K_ocorner) L_fl := known_cons known_oin ocorner_ok
theorem nrm_bd {p0 p1 t0 t1 r : Int} (h : (t0 == 0 && t1 == 0 || !oin_0 t0 4194304 || !oin_0 t1 4194304 || !oin_0 p0 1048576 || !oin_0 p1 1048576 || !oin_0 r 32768) = false) : (t0 ≠ 0 ∨ t1 ≠ 0) ∧ bd 4194304 t0 ∧ bd 4194304 t1 ∧ bd 1048576 p0 ∧ bd 1048576 p1 ∧ bd 32768 r := by
  simp only [Bool.or_eq_false_iff, Bool.not_eq_false', Bool.and_eq_false_iff, beq_eq_false_iff_ne] at h
  obtain ⟨⟨⟨⟨⟨h0, h1⟩, h2⟩, h3⟩, h4⟩, h5⟩ := h
  exact ⟨h0, (oin_iff (by omega) (by omega)).1 h1, (oin_iff (by omega) (by omega)).1 h2, (oin_iff (by omega) (by omega)).1 h3, (oin_iff (by omega) (by omega)).1 h4, (oin_iff (by omega) (by omega)).1 h5⟩
noncomputable def onormal_tpl : Tpl := ⟨[.agg [.int .i64, .int .i64], .agg [.int .i64, .int .i64], .one (.int .i64)], [], 0⟩
noncomputable def onormal_0 (p0 : Int) (p1 : Int) (t0 : Int) (t1 : Int) (r : Int) : Int :=
  bif t0 == 0 && t1 == 0 || !oin_0 t0 4194304 || !oin_0 t1 4194304 || !oin_0 p0 1048576 || !oin_0 p1 1048576 || !oin_0 r 32768 then 0
  else addpt_0 p0 (wOver_0 (IntKind.i64.wrap (0 - t1)) r (vinner_0 t0 t1 t0 t1) 2)
noncomputable def onormal_1 (p0 : Int) (p1 : Int) (t0 : Int) (t1 : Int) (r : Int) : Int :=
  bif t0 == 0 && t1 == 0 || !oin_0 t0 4194304 || !oin_0 t1 4194304 || !oin_0 p0 1048576 || !oin_0 p1 1048576 || !oin_0 r 32768 then 0 else addpt_0 p1 (wOver_0 t0 r (vinner_0 t0 t1 t0 t1) 2)
noncomputable def onormal_2 (p0 : Int) (p1 : Int) (t0 : Int) (t1 : Int) (r : Int) : Bool :=
  !(t0 == 0 && t1 == 0 || !oin_0 t0 4194304 || !oin_0 t1 4194304 || !oin_0 p0 1048576 || !oin_0 p1 1048576 || !oin_0 r 32768)
noncomputable def onormal_s0 (t0 : Int) (t1 : Int) : Prop :=
  -9223372036854775808 ≤ vinner_0 t0 t1 t0 t1 ∧ vinner_0 t0 t1 t0 t1 < 9223372036854775808
noncomputable def onormal_needs (p0 : Int) (p1 : Int) (t0 : Int) (t1 : Int) (r : Int) : List Prop :=
  [(t0 == 0 && t1 == 0 || !oin_0 t0 4194304 || !oin_0 t1 4194304 || !oin_0 p0 1048576 || !oin_0 p1 1048576 || !oin_0 r 32768) = false →
   (-9223372036854775808 ≤ IntKind.i64.wrap (0 - t1) ∧ IntKind.i64.wrap (0 - t1) < 9223372036854775808) ∧
   (-9223372036854775808 ≤ r ∧ r < 9223372036854775808) ∧
   onormal_s0 t0 t1 ∧ (-9223372036854775808 ≤ t0 ∧ t0 < 9223372036854775808) ∧ (-9223372036854775808 ≤ r ∧ r < 9223372036854775808) ∧ onormal_s0 t0 t1]
theorem onormal_need {p0 : Int} {p1 : Int} {t0 : Int} {t1 : Int} {r : Int} : ∀ q ∈ (onormal_needs p0 p1 t0 t1 r), q := by
  unfold onormal_needs
  simp only [List.forall_mem_cons, List.not_mem_nil, false_implies, implies_true, and_true]
  intro h
  obtain ⟨h0, h1, h2, h3, h4, h5⟩ := nrm_bd h
  exact ⟨wrap_isI _, ⟨by omega, by omega⟩, wrap_isI _, ⟨by omega, by omega⟩, ⟨by omega, by omega⟩, wrap_isI _⟩
set_option maxRecDepth 1000000 in
theorem onormal_runs (p0 p1 t0 t1 r : Int) (hNeeds : ∀ pN ∈ (onormal_needs p0 p1 t0 t1 r), pN) : Runs (runF (sums K_ocorner) L_fl 132) (onormal_tpl.args [.i p0, .i p1, .i t0, .i t1, .i r]) (onormal_tpl.memo [.i p0, .i p1, .i t0, .i t1, .i r] []) onormal_tpl.n (SV.tup [(true, [SC.int IntKind.i64 (SI.v (onormal_0 p0 p1 t0 t1 r)), SC.int IntKind.i64 (SI.v (onormal_1 p0 p1 t0 t1 r))]), (false, [SC.bool (SB.v (onormal_2 p0 p1 t0 t1 r))])])
    ([]) :=
  Runs.of1 (ps := (onormal_needs p0 p1 t0 t1 r)) (by kernel_rfl) hNeeds
noncomputable def onormal_out : List Pm → Lss → Option CRes
  | [.i p0, .i p1, .i t0, .i t1, .i r], [] => some ⟨SV.tup [(true, [SC.int IntKind.i64 (SI.v (onormal_0 p0 p1 t0 t1 r)), SC.int IntKind.i64 (SI.v (onormal_1 p0 p1 t0 t1 r))]), (false, [SC.bool (SB.v (onormal_2 p0 p1 t0 t1 r))])],
    [],
    [], [], 1758⟩
  | _, _ => none
theorem onormal_ok : FOk Tryz.prog 132 (tplS onormal_tpl onormal_out) := by
  refine tplS_ok (runF_ok known_ocorner 132) fun ps ls r hr hn _ => ?_
  unfold onormal_out at hr
  split at hr
  · cases hr; exact ⟨_, onormal_runs _ _ _ _ _ (fun p hp => onormal_need p hp), fun _ => rfl⟩
  · cases hr
noncomputable def K_onormal : List (Nat × Summ) := (132, tplS onormal_tpl onormal_out) :: K_ocorner
theorem known_onormal : Known Tryz.prog (sums K_onormal) L_fl := known_cons known_ocorner onormal_ok
noncomputable def oinward_tpl : Tpl := ⟨[.agg [.int .i64, .int .i64, .int .i64, .int .i64, .int .i64, .int .i64, .int .i64, .bool], .one (.int .i64)], [], 0⟩
noncomputable def oinward_0 (e6 : Int) (r : Int) : Bool :=
  decide (e6 > 0) && decide (r ≥ 0) || decide (e6 < 0) && decide (r < 0)
set_option maxRecDepth 1000000 in
theorem oinward_runs (e0 e1 e2 e3 e4 e5 e6 : Int) (e7 : Bool) (r : Int) : Runs (runF (sums K_onormal) L_fl 130) (oinward_tpl.args [.i e0, .i e1, .i e2, .i e3, .i e4, .i e5, .i e6, .b e7, .i r]) (oinward_tpl.memo [.i e0, .i e1, .i e2, .i e3, .i e4, .i e5, .i e6, .b e7, .i r] []) oinward_tpl.n (SV.one (SC.bool (SB.v (oinward_0 e6 r))))
    ([]) :=
  Runs.of1 (ps := []) (by kernel_rfl) (by simp)
noncomputable def oinward_out : List Pm → Lss → Option CRes
  | [.i e0, .i e1, .i e2, .i e3, .i e4, .i e5, .i e6, .b e7, .i r], [] => some ⟨SV.one (SC.bool (SB.v (oinward_0 e6 r))),
    [],
    [], [], 30⟩
  | _, _ => none
theorem oinward_ok : FOk Tryz.prog 130 (tplS oinward_tpl oinward_out) := by
  refine tplS_ok (runF_ok known_onormal 130) fun ps ls r hr hn _ => ?_
  unfold oinward_out at hr
  split at hr
  · cases hr; exact ⟨_, oinward_runs _ _ _ _ _ _ _ _ _, fun _ => rfl⟩
  · cases hr
noncomputable def K_oinward : List (Nat × Summ) := (130, tplS oinward_tpl oinward_out) :: K_onormal
theorem known_oinward : Known Tryz.prog (sums K_oinward) L_fl := known_cons known_onormal oinward_ok
noncomputable def reaches_tpl : Tpl := ⟨[.one (.int .i64), .one (.int .i64), .one (.int .i64)], [], 0⟩
noncomputable def reaches_s0 (a : Int) (b : Int) (c : Int) : Int :=
  IntKind.i64.wrap (IntKind.i64.wrap (c - a) - IntKind.i64.wrap (b * b))
noncomputable def reaches_s1 (a : Int) (b : Int) (c : Int) : Int :=
  wcmp_0 (IntKind.i64.wrap (IntKind.i64.wrap (4 * b) * b)) a (reaches_s0 a b c) (reaches_s0 a b c)
noncomputable def reaches_0 (a : Int) (b : Int) (c : Int) : Bool :=
  decide (reaches_s0 a b c ≥ 0) && decide (reaches_s1 a b c ≤ 0)
set_option maxRecDepth 1000000 in
theorem reaches_runs (a b c : Int) : Runs (runF (sums K_oinward) L_fl 181) (reaches_tpl.args [.i a, .i b, .i c]) (reaches_tpl.memo [.i a, .i b, .i c] []) reaches_tpl.n (SV.one (SC.bool (SB.v (reaches_0 a b c))))
    ([]) :=
  Runs.of1 (ps := []) (by kernel_rfl) (by simp)
noncomputable def reaches_out : List Pm → Lss → Option CRes
  | [.i a, .i b, .i c], [] => some ⟨SV.one (SC.bool (SB.v (reaches_0 a b c))),
    [],
    [], [], 309⟩
  | _, _ => none
theorem reaches_ok : FOk Tryz.prog 181 (tplS reaches_tpl reaches_out) := by
  refine tplS_ok (runF_ok known_oinward 181) fun ps ls r hr hn _ => ?_
  unfold reaches_out at hr
  split at hr
  · cases hr; exact ⟨_, reaches_runs _ _ _, fun _ => rfl⟩
  · cases hr
noncomputable def K_reaches : List (Nat × Summ) := (181, tplS reaches_tpl reaches_out) :: K_oinward
theorem known_reaches : Known Tryz.prog (sums K_reaches) L_fl := known_cons known_oinward reaches_ok
noncomputable def oclear_tpl : Tpl := ⟨[.agg [.int .i64, .int .i64, .int .i64, .int .i64, .int .i64, .int .i64, .int .i64, .bool], .agg [.int .i64, .int .i64], .one (.int .i64)], [], 0⟩
noncomputable def oclear_s0 (e0 : Int) (e1 : Int) (e2 : Int) (e3 : Int) (y0 : Int) (y1 : Int) (r : Int) : Int :=
  wcmp_0 (vcross_0 (minus_0 e2 e0) (minus_0 e3 e1) (minus_0 y0 e0) (minus_0 y1 e1)) (vcross_0 (minus_0 e2 e0) (minus_0 e3 e1) (minus_0 y0 e0) (minus_0 y1 e1)) (IntKind.i64.wrap (r * r))
   (vinner_0 (minus_0 e2 e0) (minus_0 e3 e1) (minus_0 e2 e0) (minus_0 e3 e1))
noncomputable def oclear_s1 (r : Int) : Int :=
  if IntKind.i64.wrap (0 - r) > r then IntKind.i64.wrap (0 - r) else r
noncomputable def oclear_0 (e0 : Int) (e1 : Int) (e2 : Int) (e3 : Int) (e4 : Int) (e5 : Int) (e6 : Int) (y0 : Int) (y1 : Int) (r : Int) : Bool :=
  bif e6 == 0 then
   (decide (r ≥ 0) && decide (vcross_0 (minus_0 e2 e0) (minus_0 e3 e1) (minus_0 y0 e0) (minus_0 y1 e1) ≥ 0) ||
   decide (r < 0) && decide (vcross_0 (minus_0 e2 e0) (minus_0 e3 e1) (minus_0 y0 e0) (minus_0 y1 e1) ≤ 0)) &&
   decide (oclear_s0 e0 e1 e2 e3 y0 y1 r ≥ 0)
  else
   bif oinward_0 e6 r then reaches_0 (vinner_0 (minus_0 y0 e4) (minus_0 y1 e5) (minus_0 y0 e4) (minus_0 y1 e5)) (oclear_s1 r) (vinner_0 (minus_0 e2 e4) (minus_0 e3 e5) (minus_0 e2 e4) (minus_0 e3 e5))
   else reaches_0 (vinner_0 (minus_0 e2 e4) (minus_0 e3 e5) (minus_0 e2 e4) (minus_0 e3 e5)) (oclear_s1 r) (vinner_0 (minus_0 y0 e4) (minus_0 y1 e5) (minus_0 y0 e4) (minus_0 y1 e5))
set_option maxRecDepth 1000000 in
theorem oclear_runs (e0 e1 e2 e3 e4 e5 e6 : Int) (e7 : Bool) (y0 y1 r : Int) : Runs (runF (sums K_reaches) L_fl 164) (oclear_tpl.args [.i e0, .i e1, .i e2, .i e3, .i e4, .i e5, .i e6, .b e7, .i y0, .i y1, .i r]) (oclear_tpl.memo [.i e0, .i e1, .i e2, .i e3, .i e4, .i e5, .i e6, .b e7, .i y0, .i y1, .i r] []) oclear_tpl.n (SV.one (SC.bool (SB.v (oclear_0 e0 e1 e2 e3 e4 e5 e6 y0 y1 r))))
    ([]) :=
  Runs.of1 (ps := []) (by kernel_rfl) (by simp)
noncomputable def oclear_out : List Pm → Lss → Option CRes
  | [.i e0, .i e1, .i e2, .i e3, .i e4, .i e5, .i e6, .b e7, .i y0, .i y1, .i r], [] => some ⟨SV.one (SC.bool (SB.v (oclear_0 e0 e1 e2 e3 e4 e5 e6 y0 y1 r))),
    [],
    [], [], 1236⟩
  | _, _ => none
theorem oclear_ok : FOk Tryz.prog 164 (tplS oclear_tpl oclear_out) := by
  refine tplS_ok (runF_ok known_reaches 164) fun ps ls r hr hn _ => ?_
  unfold oclear_out at hr
  split at hr
  · cases hr; exact ⟨_, oclear_runs _ _ _ _ _ _ _ _ _ _ _, fun _ => rfl⟩
  · cases hr
noncomputable def K_oclear : List (Nat × Summ) := (164, tplS oclear_tpl oclear_out) :: K_reaches
theorem known_oclear : Known Tryz.prog (sums K_oclear) L_fl := known_cons known_reaches oclear_ok
end Go.Proofs.YthgiaoidekdpfaaGreat
