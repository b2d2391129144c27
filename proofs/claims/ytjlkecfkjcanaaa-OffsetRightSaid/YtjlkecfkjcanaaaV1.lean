/-
  OFFSETS: points, normals, corners, what is clear. Conditions: none.
-/
import Derived.Test.YtjlkecfkjcanaaaR2
import Derived.Test.YtjlkecfkjcanaaaS2
set_option linter.all false
namespace Go.Proofs.Ytjlkecfkjcanaaa
open Go.SX Go.RowKit
noncomputable def plus_tpl : Tpl := ⟨[.agg [.int .i64, .int .i64], .agg [.int .i64, .int .i64]], [], 0⟩
set_option maxRecDepth 1000000 in
theorem plus_runs (a b c d : Int) : Runs (runF (sums K_rOver) L_ov 42) (plus_tpl.args [.i a, .i b, .i c, .i d]) (plus_tpl.memo [.i a, .i b, .i c, .i d] []) plus_tpl.n (SV.agg [SC.int IntKind.i64 (SI.v (addpt_0 a c)), SC.int IntKind.i64 (SI.v (addpt_0 b d))])
    ([]) :=
  Runs.of (ps := []) (by kernel_rfl) (by kernel_rfl) (by simp)
noncomputable def plus_out : List Pm → Lss → Option CRes
  | [.i a, .i b, .i c, .i d], [] => some ⟨SV.agg [SC.int IntKind.i64 (SI.v (addpt_0 a c)), SC.int IntKind.i64 (SI.v (addpt_0 b d))],
    [],
    [], [], 26⟩
  | _, _ => none
theorem plus_ok : FOk Try.prog 42 (tplS plus_tpl plus_out) := by
  refine tplS_ok (runF_ok known_rOver 42) fun ps ls r hr hn _ => ?_
  unfold plus_out at hr
  split at hr
  · cases hr; exact ⟨_, plus_runs _ _ _ _, fun _ => rfl⟩
  · cases hr
noncomputable def K_plus : List (Nat × Summ) := (42, tplS plus_tpl plus_out) :: K_rOver
theorem known_plus : Known Try.prog (sums K_plus) L_ov := known_cons known_rOver plus_ok
noncomputable def ominus_tpl : Tpl := ⟨[.agg [.int .i64, .int .i64], .agg [.int .i64, .int .i64]], [], 0⟩
set_option maxRecDepth 1000000 in
theorem ominus_runs (a b c d : Int) : Runs (runF (sums K_plus) L_ov 53) (ominus_tpl.args [.i a, .i b, .i c, .i d]) (ominus_tpl.memo [.i a, .i b, .i c, .i d] []) ominus_tpl.n (SV.agg [SC.int IntKind.i64 (SI.v (minus_0 a c)), SC.int IntKind.i64 (SI.v (minus_0 b d))])
    ([]) :=
  Runs.of (ps := []) (by kernel_rfl) (by kernel_rfl) (by simp)
noncomputable def ominus_out : List Pm → Lss → Option CRes
  | [.i a, .i b, .i c, .i d], [] => some ⟨SV.agg [SC.int IntKind.i64 (SI.v (minus_0 a c)), SC.int IntKind.i64 (SI.v (minus_0 b d))],
    [],
    [], [], 26⟩
  | _, _ => none
theorem ominus_ok : FOk Try.prog 53 (tplS ominus_tpl ominus_out) := by
  refine tplS_ok (runF_ok known_plus 53) fun ps ls r hr hn _ => ?_
  unfold ominus_out at hr
  split at hr
  · cases hr; exact ⟨_, ominus_runs _ _ _ _, fun _ => rfl⟩
  · cases hr
noncomputable def K_ominus : List (Nat × Summ) := (53, tplS ominus_tpl ominus_out) :: K_plus
theorem known_ominus : Known Try.prog (sums K_ominus) L_ov := known_cons known_plus ominus_ok
noncomputable def oin_tpl : Tpl := ⟨[.one (.int .i64), .one (.int .i64)], [], 0⟩
noncomputable def oin_0 (n : Int) (m : Int) : Bool :=
  decide (n ≥ IntKind.i64.wrap (0 - m)) && decide (n ≤ m)
set_option maxRecDepth 1000000 in
theorem oin_runs (n m : Int) : Runs (runF (sums K_ominus) L_ov 39) (oin_tpl.args [.i n, .i m]) (oin_tpl.memo [.i n, .i m] []) oin_tpl.n (SV.one (SC.bool (SB.v (oin_0 n m))))
    ([]) :=
  Runs.of (ps := []) (by kernel_rfl) (by kernel_rfl) (by simp)
noncomputable def oin_out : List Pm → Lss → Option CRes
  | [.i n, .i m], [] => some ⟨SV.one (SC.bool (SB.v (oin_0 n m))),
    [],
    [], [], 11⟩
  | _, _ => none
theorem oin_ok : FOk Try.prog 39 (tplS oin_tpl oin_out) := by
  refine tplS_ok (runF_ok known_ominus 39) fun ps ls r hr hn _ => ?_
  unfold oin_out at hr
  split at hr
  · cases hr; exact ⟨_, oin_runs _ _, fun _ => rfl⟩
  · cases hr
noncomputable def K_oin : List (Nat × Summ) := (39, tplS oin_tpl oin_out) :: K_ominus
theorem known_oin : Known Try.prog (sums K_oin) L_ov := known_cons known_ominus oin_ok
theorem oin_iff {n m : Int} (h : 0 ≤ m) (h2 : m ≤ 1000000000) : oin_0 n m = true ↔ bd m n := by
  unfold oin_0
  rw [wrI (x := 0 - m) (by omega) (by omega)]
  simp only [Bool.and_eq_true, decide_eq_true_eq]
  omega
noncomputable def rin_tpl : Tpl := ⟨[.one (.int .i64), .one (.int .i64)], [], 0⟩
set_option maxRecDepth 1000000 in
theorem rin_runs (n m : Int) : Runs (runF (sums K_oin) L_ov 45) (rin_tpl.args [.i n, .i m]) (rin_tpl.memo [.i n, .i m] []) rin_tpl.n (SV.one (SC.bool (SB.v (oin_0 n m))))
    ([]) :=
  Runs.of (ps := []) (by kernel_rfl) (by kernel_rfl) (by simp)
noncomputable def rin_out : List Pm → Lss → Option CRes
  | [.i n, .i m], [] => some ⟨SV.one (SC.bool (SB.v (oin_0 n m))),
    [],
    [], [], 11⟩
  | _, _ => none
theorem rin_ok : FOk Try.prog 45 (tplS rin_tpl rin_out) := by
  refine tplS_ok (runF_ok known_oin 45) fun ps ls r hr hn _ => ?_
  unfold rin_out at hr
  split at hr
  · cases hr; exact ⟨_, rin_runs _ _, fun _ => rfl⟩
  · cases hr
noncomputable def K_rin : List (Nat × Summ) := (45, tplS rin_tpl rin_out) :: K_oin
theorem known_rin : Known Try.prog (sums K_rin) L_ov := known_cons known_oin rin_ok
noncomputable def rwithin_tpl : Tpl := ⟨[.agg [.int .i64, .int .i64]], [], 0⟩
noncomputable def rwithin_0 (a : Int) (b : Int) : Bool :=
  oin_0 a 1048576 && oin_0 b 1048576
set_option maxRecDepth 1000000 in
theorem rwithin_runs (a b : Int) : Runs (runF (sums K_rin) L_ov 44) (rwithin_tpl.args [.i a, .i b]) (rwithin_tpl.memo [.i a, .i b] []) rwithin_tpl.n (SV.one (SC.bool (SB.v (rwithin_0 a b))))
    ([]) :=
  Runs.of (ps := []) (by kernel_rfl) (by kernel_rfl) (by simp)
noncomputable def rwithin_out : List Pm → Lss → Option CRes
  | [.i a, .i b], [] => some ⟨SV.one (SC.bool (SB.v (rwithin_0 a b))),
    [],
    [], [], 36⟩
  | _, _ => none
theorem rwithin_ok : FOk Try.prog 44 (tplS rwithin_tpl rwithin_out) := by
  refine tplS_ok (runF_ok known_rin 44) fun ps ls r hr hn _ => ?_
  unfold rwithin_out at hr
  split at hr
  · cases hr; exact ⟨_, rwithin_runs _ _, fun _ => rfl⟩
  · cases hr
noncomputable def K_rwithin : List (Nat × Summ) := (44, tplS rwithin_tpl rwithin_out) :: K_rin
theorem known_rwithin : Known Try.prog (sums K_rwithin) L_ov := known_cons known_rin rwithin_ok
noncomputable def rsmallpt_tpl : Tpl := ⟨[.agg [.int .i64, .int .i64]], [], 0⟩
noncomputable def rsmallpt_0 (a : Int) (b : Int) : Bool :=
  decide (a ≥ -4194304) && decide (a ≤ 4194304) && (decide (b ≥ -4194304) && decide (b ≤ 4194304))
set_option maxRecDepth 1000000 in
theorem rsmallpt_runs (a b : Int) : Runs (runF (sums K_rwithin) L_ov 43) (rsmallpt_tpl.args [.i a, .i b]) (rsmallpt_tpl.memo [.i a, .i b] []) rsmallpt_tpl.n (SV.one (SC.bool (SB.v (rsmallpt_0 a b))))
    ([]) :=
  Runs.of (ps := []) (by kernel_rfl) (by kernel_rfl) (by simp)
noncomputable def rsmallpt_out : List Pm → Lss → Option CRes
  | [.i a, .i b], [] => some ⟨SV.one (SC.bool (SB.v (rsmallpt_0 a b))),
    [],
    [], [], 36⟩
  | _, _ => none
theorem rsmallpt_ok : FOk Try.prog 43 (tplS rsmallpt_tpl rsmallpt_out) := by
  refine tplS_ok (runF_ok known_rwithin 43) fun ps ls r hr hn _ => ?_
  unfold rsmallpt_out at hr
  split at hr
  · cases hr; exact ⟨_, rsmallpt_runs _ _, fun _ => rfl⟩
  · cases hr
noncomputable def K_rsmallpt : List (Nat × Summ) := (43, tplS rsmallpt_tpl rsmallpt_out) :: K_rwithin
theorem known_rsmallpt : Known Try.prog (sums K_rsmallpt) L_ov := known_cons known_rwithin rsmallpt_ok
noncomputable def ocorner_tpl : Tpl := ⟨[.agg [.int .i64, .int .i64], .agg [.int .i64, .int .i64], .one (.int .i64)], [], 0⟩
noncomputable def ocorner_0 (a : Int) (b : Int) (c : Int) (d : Int) (s : Int) : Int :=
  bif vcross_0 a b c d == 0 && decide (vinner_0 a b c d > 0) then 0 else bif decide (vcross_0 a b c d > 0) && decide (s > 0) || decide (vcross_0 a b c d < 0) && decide (s < 0) then 2 else 1
set_option maxRecDepth 1000000 in
theorem ocorner_runs (a b c d s : Int) : Runs (runF (sums K_rsmallpt) L_ov 21) (ocorner_tpl.args [.i a, .i b, .i c, .i d, .i s]) (ocorner_tpl.memo [.i a, .i b, .i c, .i d, .i s] []) ocorner_tpl.n (SV.one (SC.int IntKind.i64 (SI.v (ocorner_0 a b c d s))))
    ([]) :=
  Runs.of (ps := []) (by kernel_rfl) (by kernel_rfl) (by simp)
noncomputable def ocorner_out : List Pm → Lss → Option CRes
  | [.i a, .i b, .i c, .i d, .i s], [] => some ⟨SV.one (SC.int IntKind.i64 (SI.v (ocorner_0 a b c d s))),
    [],
    [], [], 82⟩
  | _, _ => none
theorem ocorner_ok : FOk Try.prog 21 (tplS ocorner_tpl ocorner_out) := by
  refine tplS_ok (runF_ok known_rsmallpt 21) fun ps ls r hr hn _ => ?_
  unfold ocorner_out at hr
  split at hr
  · cases hr; exact ⟨_, ocorner_runs _ _ _ _ _, fun _ => rfl⟩
  · cases hr
noncomputable def K_ocorner : List (Nat × Summ) := (21, tplS ocorner_tpl ocorner_out) :: K_rsmallpt
theorem known_ocorner : Known Try.prog (sums K_ocorner) L_ov := known_cons known_rsmallpt ocorner_ok
noncomputable def rcorner_tpl : Tpl := ⟨[.agg [.int .i64, .int .i64], .agg [.int .i64, .int .i64], .one (.int .i64)], [], 0⟩
noncomputable def rcorner_s0 (a : Int) (b : Int) (c : Int) (d : Int) (s : Int) : Bool :=
  decide (vcross_0 a b c d > 0) && decide (s > 0)
noncomputable def rcorner_0 (a : Int) (b : Int) (c : Int) (d : Int) (s : Int) : Int :=
  bif vcross_0 a b c d == 0 && decide (vinner_0 a b c d > 0) then 0 else bif bif rcorner_s0 a b c d s then rcorner_s0 a b c d s else decide (vcross_0 a b c d < 0) && decide (s < 0) then 2 else 1
set_option maxRecDepth 1000000 in
theorem rcorner_runs (a b c d s : Int) : Runs (runF (sums K_ocorner) L_ov 22) (rcorner_tpl.args [.i a, .i b, .i c, .i d, .i s]) (rcorner_tpl.memo [.i a, .i b, .i c, .i d, .i s] []) rcorner_tpl.n (SV.one (SC.int IntKind.i64 (SI.v (rcorner_0 a b c d s))))
    ([]) :=
  Runs.of (ps := []) (by kernel_rfl) (by kernel_rfl) (by simp)
noncomputable def rcorner_out : List Pm → Lss → Option CRes
  | [.i a, .i b, .i c, .i d, .i s], [] => some ⟨SV.one (SC.int IntKind.i64 (SI.v (rcorner_0 a b c d s))),
    [],
    [], [], 82⟩
  | _, _ => none
theorem rcorner_ok : FOk Try.prog 22 (tplS rcorner_tpl rcorner_out) := by
  refine tplS_ok (runF_ok known_ocorner 22) fun ps ls r hr hn _ => ?_
  unfold rcorner_out at hr
  split at hr
  · cases hr; exact ⟨_, rcorner_runs _ _ _ _ _, fun _ => rfl⟩
  · cases hr
noncomputable def K_rcorner : List (Nat × Summ) := (22, tplS rcorner_tpl rcorner_out) :: K_ocorner
theorem known_rcorner : Known Try.prog (sums K_rcorner) L_ov := known_cons known_ocorner rcorner_ok
theorem nrm_cond (p0 p1 t0 t1 r : Int) : (t0 == 0 && t1 == 0 || !rsmallpt_0 t0 t1 || !rwithin_0 p0 p1 || !oin_0 r 32768) = (t0 == 0 && t1 == 0 || !oin_0 t0 4194304 || !oin_0 t1 4194304 || !oin_0 p0 1048576 || !oin_0 p1 1048576 || !oin_0 r 32768) := by
  have e1 : rsmallpt_0 t0 t1 = (oin_0 t0 4194304 && oin_0 t1 4194304) := rfl
  have e2 : rwithin_0 p0 p1 = (oin_0 p0 1048576 && oin_0 p1 1048576) := rfl
  rw [e1, e2]
  generalize (t0 == 0 && t1 == 0) = a
  generalize oin_0 t0 4194304 = b
  generalize oin_0 t1 4194304 = c
  generalize oin_0 p0 1048576 = d
  generalize oin_0 p1 1048576 = e
  generalize oin_0 r 32768 = f
  revert a b c d e f
  decide
theorem nrm_bd {p0 p1 t0 t1 r : Int} (h : (t0 == 0 && t1 == 0 || !oin_0 t0 4194304 || !oin_0 t1 4194304 || !oin_0 p0 1048576 || !oin_0 p1 1048576 || !oin_0 r 32768) = false) : (t0 ≠ 0 ∨ t1 ≠ 0) ∧ bd 4194304 t0 ∧ bd 4194304 t1 ∧ bd 1048576 p0 ∧ bd 1048576 p1 ∧ bd 32768 r := by
  simp only [Bool.or_eq_false_iff, Bool.not_eq_false', Bool.and_eq_false_iff, beq_eq_false_iff_ne] at h
  obtain ⟨⟨⟨⟨⟨h0, h1⟩, h2⟩, h3⟩, h4⟩, h5⟩ := h
  exact ⟨h0, (oin_iff (by omega) (by omega)).1 h1, (oin_iff (by omega) (by omega)).1 h2, (oin_iff (by omega) (by omega)).1 h3, (oin_iff (by omega) (by omega)).1 h4, (oin_iff (by omega) (by omega)).1 h5⟩
noncomputable def onormal_tpl : Tpl := ⟨[.agg [.int .i64, .int .i64], .agg [.int .i64, .int .i64], .one (.int .i64)], [], 0⟩
noncomputable def onormal_0 (p0 : Int) (p1 : Int) (t0 : Int) (t1 : Int) (r : Int) : Int :=
  bif t0 == 0 && t1 == 0 || !oin_0 t0 4194304 || !oin_0 t1 4194304 || !oin_0 p0 1048576 || !oin_0 p1 1048576 || !oin_0 r 32768 then 0
  else addpt_0 p0 (wOver_0 (IntKind.i64.wrap (0 - t1)) r (vinner_0 t0 t1 t0 t1) 2)
noncomputable def onormal_1 (p0 : Int) (p1 : Int) (t0 : Int) (t1 : Int) (r : Int) : Int :=
  bif t0 == 0 && t1 == 0 || !oin_0 t0 4194304 || !oin_0 t1 4194304 || !oin_0 p0 1048576 || !oin_0 p1 1048576 || !oin_0 r 32768 then 0 else addpt_0 p1 (wOver_0 t0 r (vinner_0 t0 t1 t0 t1) 2)
noncomputable def onormal_2 (p0 : Int) (p1 : Int) (t0 : Int) (t1 : Int) (r : Int) : Bool :=
  !(t0 == 0 && t1 == 0 || !oin_0 t0 4194304 || !oin_0 t1 4194304 || !oin_0 p0 1048576 || !oin_0 p1 1048576 || !oin_0 r 32768)
noncomputable def onormal_s0 (t0 : Int) (t1 : Int) : Prop :=
  -9223372036854775808 ≤ vinner_0 t0 t1 t0 t1 ∧ vinner_0 t0 t1 t0 t1 < 9223372036854775808
noncomputable def onormal_needs (p0 : Int) (p1 : Int) (t0 : Int) (t1 : Int) (r : Int) : List Prop :=
  [(t0 == 0 && t1 == 0 || !oin_0 t0 4194304 || !oin_0 t1 4194304 || !oin_0 p0 1048576 || !oin_0 p1 1048576 || !oin_0 r 32768) = false →
      (-9223372036854775808 ≤ IntKind.i64.wrap (0 - t1) ∧ IntKind.i64.wrap (0 - t1) < 9223372036854775808) ∧
        (-9223372036854775808 ≤ r ∧ r < 9223372036854775808) ∧
          onormal_s0 t0 t1 ∧ (-9223372036854775808 ≤ t0 ∧ t0 < 9223372036854775808) ∧ (-9223372036854775808 ≤ r ∧ r < 9223372036854775808) ∧ onormal_s0 t0 t1]
theorem onormal_need {p0 : Int} {p1 : Int} {t0 : Int} {t1 : Int} {r : Int} : ∀ q ∈ (onormal_needs p0 p1 t0 t1 r), q := by
  unfold onormal_needs
  simp only [List.forall_mem_cons, List.not_mem_nil, false_implies, implies_true, and_true]
  intro h
  obtain ⟨h0, h1, h2, h3, h4, h5⟩ := nrm_bd h
  exact ⟨wrap_isI _, ⟨by omega, by omega⟩, wrap_isI _, ⟨by omega, by omega⟩, ⟨by omega, by omega⟩, wrap_isI _⟩
set_option maxRecDepth 1000000 in
theorem onormal_runs (p0 p1 t0 t1 r : Int) (hNeeds : ∀ pN ∈ (onormal_needs p0 p1 t0 t1 r), pN) : Runs (runF (sums K_rcorner) L_ov 15) (onormal_tpl.args [.i p0, .i p1, .i t0, .i t1, .i r]) (onormal_tpl.memo [.i p0, .i p1, .i t0, .i t1, .i r] []) onormal_tpl.n (SV.tup [(true, [SC.int IntKind.i64 (SI.v (onormal_0 p0 p1 t0 t1 r)), SC.int IntKind.i64 (SI.v (onormal_1 p0 p1 t0 t1 r))]), (false, [SC.bool (SB.v (onormal_2 p0 p1 t0 t1 r))])])
    ([]) :=
  Runs.of (ps := (onormal_needs p0 p1 t0 t1 r)) (by kernel_rfl) (by kernel_rfl) hNeeds
noncomputable def onormal_out : List Pm → Lss → Option CRes
  | [.i p0, .i p1, .i t0, .i t1, .i r], [] => some ⟨SV.tup [(true, [SC.int IntKind.i64 (SI.v (onormal_0 p0 p1 t0 t1 r)), SC.int IntKind.i64 (SI.v (onormal_1 p0 p1 t0 t1 r))]), (false, [SC.bool (SB.v (onormal_2 p0 p1 t0 t1 r))])],
    [],
    [], [], 1758⟩
  | _, _ => none
theorem onormal_ok : FOk Try.prog 15 (tplS onormal_tpl onormal_out) := by
  refine tplS_ok (runF_ok known_rcorner 15) fun ps ls r hr hn _ => ?_
  unfold onormal_out at hr
  split at hr
  · cases hr; exact ⟨_, onormal_runs _ _ _ _ _ (fun p hp => onormal_need p hp), fun _ => rfl⟩
  · cases hr
noncomputable def K_onormal : List (Nat × Summ) := (15, tplS onormal_tpl onormal_out) :: K_rcorner
theorem known_onormal : Known Try.prog (sums K_onormal) L_ov := known_cons known_rcorner onormal_ok
noncomputable def rnormal_tpl : Tpl := ⟨[.agg [.int .i64, .int .i64], .agg [.int .i64, .int .i64], .one (.int .i64)], [], 0⟩
noncomputable def rnormal_0 (p0 : Int) (p1 : Int) (t0 : Int) (t1 : Int) (r : Int) : Int :=
  bif t0 == 0 && t1 == 0 || !rsmallpt_0 t0 t1 || !rwithin_0 p0 p1 || !oin_0 r 32768 then 0 else IntKind.i64.wrap (p0 + rOver_0 (IntKind.i64.wrap (0 - t1)) r (vinner_0 t0 t1 t0 t1) 2)
noncomputable def rnormal_1 (p0 : Int) (p1 : Int) (t0 : Int) (t1 : Int) (r : Int) : Int :=
  bif t0 == 0 && t1 == 0 || !rsmallpt_0 t0 t1 || !rwithin_0 p0 p1 || !oin_0 r 32768 then 0 else IntKind.i64.wrap (p1 + rOver_0 t0 r (vinner_0 t0 t1 t0 t1) 2)
noncomputable def rnormal_2 (p0 : Int) (p1 : Int) (t0 : Int) (t1 : Int) (r : Int) : Bool :=
  !(t0 == 0 && t1 == 0 || !rsmallpt_0 t0 t1 || !rwithin_0 p0 p1 || !oin_0 r 32768)
noncomputable def rnormal_s0 (t0 : Int) (t1 : Int) : Prop :=
  -9223372036854775808 ≤ vinner_0 t0 t1 t0 t1 ∧ vinner_0 t0 t1 t0 t1 < 9223372036854775808
noncomputable def rnormal_needs (p0 : Int) (p1 : Int) (t0 : Int) (t1 : Int) (r : Int) : List Prop :=
  [(t0 == 0 && t1 == 0 || !rsmallpt_0 t0 t1 || !rwithin_0 p0 p1 || !oin_0 r 32768) = false →
      (-9223372036854775808 ≤ IntKind.i64.wrap (0 - t1) ∧ IntKind.i64.wrap (0 - t1) < 9223372036854775808) ∧
        (-9223372036854775808 ≤ r ∧ r < 9223372036854775808) ∧
          rnormal_s0 t0 t1 ∧ (-9223372036854775808 ≤ t0 ∧ t0 < 9223372036854775808) ∧ (-9223372036854775808 ≤ r ∧ r < 9223372036854775808) ∧ rnormal_s0 t0 t1]
theorem rnormal_need {p0 : Int} {p1 : Int} {t0 : Int} {t1 : Int} {r : Int} : ∀ q ∈ (rnormal_needs p0 p1 t0 t1 r), q := by
  unfold rnormal_needs
  simp only [List.forall_mem_cons, List.not_mem_nil, false_implies, implies_true, and_true]
  intro h
  rw [nrm_cond] at h
  obtain ⟨h0, h1, h2, h3, h4, h5⟩ := nrm_bd h
  exact ⟨wrap_isI _, ⟨by omega, by omega⟩, wrap_isI _, ⟨by omega, by omega⟩, ⟨by omega, by omega⟩, wrap_isI _⟩
set_option maxRecDepth 1000000 in
theorem rnormal_runs (p0 p1 t0 t1 r : Int) (hNeeds : ∀ pN ∈ (rnormal_needs p0 p1 t0 t1 r), pN) : Runs (runF (sums K_onormal) L_ov 16) (rnormal_tpl.args [.i p0, .i p1, .i t0, .i t1, .i r]) (rnormal_tpl.memo [.i p0, .i p1, .i t0, .i t1, .i r] []) rnormal_tpl.n (SV.tup [(true, [SC.int IntKind.i64 (SI.v (rnormal_0 p0 p1 t0 t1 r)), SC.int IntKind.i64 (SI.v (rnormal_1 p0 p1 t0 t1 r))]), (false, [SC.bool (SB.v (rnormal_2 p0 p1 t0 t1 r))])])
    ([]) :=
  Runs.of (ps := (rnormal_needs p0 p1 t0 t1 r)) (by kernel_rfl) (by kernel_rfl) hNeeds
noncomputable def rnormal_out : List Pm → Lss → Option CRes
  | [.i p0, .i p1, .i t0, .i t1, .i r], [] => some ⟨SV.tup [(true, [SC.int IntKind.i64 (SI.v (rnormal_0 p0 p1 t0 t1 r)), SC.int IntKind.i64 (SI.v (rnormal_1 p0 p1 t0 t1 r))]), (false, [SC.bool (SB.v (rnormal_2 p0 p1 t0 t1 r))])],
    [],
    [], [], 2024⟩
  | _, _ => none
theorem rnormal_ok : FOk Try.prog 16 (tplS rnormal_tpl rnormal_out) := by
  refine tplS_ok (runF_ok known_onormal 16) fun ps ls r hr hn _ => ?_
  unfold rnormal_out at hr
  split at hr
  · cases hr; exact ⟨_, rnormal_runs _ _ _ _ _ (fun p hp => rnormal_need p hp), fun _ => rfl⟩
  · cases hr
noncomputable def K_rnormal : List (Nat × Summ) := (16, tplS rnormal_tpl rnormal_out) :: K_onormal
theorem known_rnormal : Known Try.prog (sums K_rnormal) L_ov := known_cons known_onormal rnormal_ok
noncomputable def rsquare_tpl : Tpl := ⟨[.agg [.int .i64, .int .i64]], [], 0⟩
set_option maxRecDepth 1000000 in
theorem rsquare_runs (a b : Int) : Runs (runF (sums K_rnormal) L_ov 57) (rsquare_tpl.args [.i a, .i b]) (rsquare_tpl.memo [.i a, .i b] []) rsquare_tpl.n (SV.one (SC.int IntKind.i64 (SI.v (vinner_0 a b a b))))
    ([]) :=
  Runs.of (ps := []) (by kernel_rfl) (by kernel_rfl) (by simp)
noncomputable def rsquare_out : List Pm → Lss → Option CRes
  | [.i a, .i b], [] => some ⟨SV.one (SC.int IntKind.i64 (SI.v (vinner_0 a b a b))),
    [],
    [], [], 30⟩
  | _, _ => none
theorem rsquare_ok : FOk Try.prog 57 (tplS rsquare_tpl rsquare_out) := by
  refine tplS_ok (runF_ok known_rnormal 57) fun ps ls r hr hn _ => ?_
  unfold rsquare_out at hr
  split at hr
  · cases hr; exact ⟨_, rsquare_runs _ _, fun _ => rfl⟩
  · cases hr
noncomputable def K_rsquare : List (Nat × Summ) := (57, tplS rsquare_tpl rsquare_out) :: K_rnormal
theorem known_rsquare : Known Try.prog (sums K_rsquare) L_ov := known_cons known_rnormal rsquare_ok
noncomputable def rinward_tpl : Tpl := ⟨[.agg [.int .i64, .int .i64, .int .i64, .int .i64, .int .i64, .int .i64, .int .i64, .bool], .one (.int .i64)], [], 0⟩
noncomputable def rinward_0 (e6 : Int) (r : Int) : Bool :=
  e6 == 1 && decide (r ≥ 0) || e6 == -1 && decide (r < 0)
set_option maxRecDepth 1000000 in
theorem rinward_runs (e0 e1 e2 e3 e4 e5 e6 : Int) (e7 : Bool) (r : Int) : Runs (runF (sums K_rsquare) L_ov 58) (rinward_tpl.args [.i e0, .i e1, .i e2, .i e3, .i e4, .i e5, .i e6, .b e7, .i r]) (rinward_tpl.memo [.i e0, .i e1, .i e2, .i e3, .i e4, .i e5, .i e6, .b e7, .i r] []) rinward_tpl.n (SV.one (SC.bool (SB.v (rinward_0 e6 r))))
    ([]) :=
  Runs.of (ps := []) (by kernel_rfl) (by kernel_rfl) (by simp)
noncomputable def rinward_out : List Pm → Lss → Option CRes
  | [.i e0, .i e1, .i e2, .i e3, .i e4, .i e5, .i e6, .b e7, .i r], [] => some ⟨SV.one (SC.bool (SB.v (rinward_0 e6 r))),
    [],
    [], [], 28⟩
  | _, _ => none
theorem rinward_ok : FOk Try.prog 58 (tplS rinward_tpl rinward_out) := by
  refine tplS_ok (runF_ok known_rsquare 58) fun ps ls r hr hn _ => ?_
  unfold rinward_out at hr
  split at hr
  · cases hr; exact ⟨_, rinward_runs _ _ _ _ _ _ _ _ _, fun _ => rfl⟩
  · cases hr
noncomputable def K_rinward : List (Nat × Summ) := (58, tplS rinward_tpl rinward_out) :: K_rsquare
theorem known_rinward : Known Try.prog (sums K_rinward) L_ov := known_cons known_rsquare rinward_ok
noncomputable def oinward_tpl : Tpl := ⟨[.agg [.int .i64, .int .i64, .int .i64, .int .i64, .int .i64, .int .i64, .int .i64, .bool], .one (.int .i64)], [], 0⟩
noncomputable def oinward_0 (e6 : Int) (r : Int) : Bool :=
  decide (e6 > 0) && decide (r ≥ 0) || decide (e6 < 0) && decide (r < 0)
set_option maxRecDepth 1000000 in
theorem oinward_runs (e0 e1 e2 e3 e4 e5 e6 : Int) (e7 : Bool) (r : Int) : Runs (runF (sums K_rinward) L_ov 54) (oinward_tpl.args [.i e0, .i e1, .i e2, .i e3, .i e4, .i e5, .i e6, .b e7, .i r]) (oinward_tpl.memo [.i e0, .i e1, .i e2, .i e3, .i e4, .i e5, .i e6, .b e7, .i r] []) oinward_tpl.n (SV.one (SC.bool (SB.v (oinward_0 e6 r))))
    ([]) :=
  Runs.of (ps := []) (by kernel_rfl) (by kernel_rfl) (by simp)
noncomputable def oinward_out : List Pm → Lss → Option CRes
  | [.i e0, .i e1, .i e2, .i e3, .i e4, .i e5, .i e6, .b e7, .i r], [] => some ⟨SV.one (SC.bool (SB.v (oinward_0 e6 r))),
    [],
    [], [], 30⟩
  | _, _ => none
theorem oinward_ok : FOk Try.prog 54 (tplS oinward_tpl oinward_out) := by
  refine tplS_ok (runF_ok known_rinward 54) fun ps ls r hr hn _ => ?_
  unfold oinward_out at hr
  split at hr
  · cases hr; exact ⟨_, oinward_runs _ _ _ _ _ _ _ _ _, fun _ => rfl⟩
  · cases hr
noncomputable def K_oinward : List (Nat × Summ) := (54, tplS oinward_tpl oinward_out) :: K_rinward
theorem known_oinward : Known Try.prog (sums K_oinward) L_ov := known_cons known_rinward oinward_ok
noncomputable def reaches_tpl : Tpl := ⟨[.one (.int .i64), .one (.int .i64), .one (.int .i64)], [], 0⟩
noncomputable def reaches_s0 (a : Int) (b : Int) (c : Int) : Int :=
  IntKind.i64.wrap (IntKind.i64.wrap (c - a) - IntKind.i64.wrap (b * b))
noncomputable def reaches_s1 (a : Int) (b : Int) (c : Int) : Int :=
  wcmp_0 (IntKind.i64.wrap (IntKind.i64.wrap (4 * b) * b)) a (reaches_s0 a b c) (reaches_s0 a b c)
noncomputable def reaches_0 (a : Int) (b : Int) (c : Int) : Bool :=
  decide (reaches_s0 a b c ≥ 0) && decide (reaches_s1 a b c ≤ 0)
set_option maxRecDepth 1000000 in
theorem reaches_runs (a b c : Int) : Runs (runF (sums K_oinward) L_ov 55) (reaches_tpl.args [.i a, .i b, .i c]) (reaches_tpl.memo [.i a, .i b, .i c] []) reaches_tpl.n (SV.one (SC.bool (SB.v (reaches_0 a b c))))
    ([]) :=
  Runs.of (ps := []) (by kernel_rfl) (by kernel_rfl) (by simp)
noncomputable def reaches_out : List Pm → Lss → Option CRes
  | [.i a, .i b, .i c], [] => some ⟨SV.one (SC.bool (SB.v (reaches_0 a b c))),
    [],
    [], [], 309⟩
  | _, _ => none
theorem reaches_ok : FOk Try.prog 55 (tplS reaches_tpl reaches_out) := by
  refine tplS_ok (runF_ok known_oinward 55) fun ps ls r hr hn _ => ?_
  unfold reaches_out at hr
  split at hr
  · cases hr; exact ⟨_, reaches_runs _ _ _, fun _ => rfl⟩
  · cases hr
noncomputable def K_reaches : List (Nat × Summ) := (55, tplS reaches_tpl reaches_out) :: K_oinward
theorem known_reaches : Known Try.prog (sums K_reaches) L_ov := known_cons known_oinward reaches_ok
noncomputable def rspoke_tpl : Tpl := ⟨[.agg [.int .i64, .int .i64, .int .i64, .int .i64, .int .i64, .int .i64, .int .i64, .bool], .one (.bool)], [], 0⟩
noncomputable def rspoke_0 (e0 : Int) (e2 : Int) (e4 : Int) (w : Bool) : Int :=
  bif w then minus_0 e2 e4 else minus_0 e0 e4
set_option maxRecDepth 1000000 in
theorem rspoke_runs (e0 e1 e2 e3 e4 e5 e6 : Int) (e7 w : Bool) : Runs (runF (sums K_reaches) L_ov 52) (rspoke_tpl.args [.i e0, .i e1, .i e2, .i e3, .i e4, .i e5, .i e6, .b e7, .b w]) (rspoke_tpl.memo [.i e0, .i e1, .i e2, .i e3, .i e4, .i e5, .i e6, .b e7, .b w] []) rspoke_tpl.n (SV.agg [SC.int IntKind.i64 (SI.v (rspoke_0 e0 e2 e4 w)), SC.int IntKind.i64 (SI.v (rspoke_0 e1 e3 e5 w))])
    ([]) :=
  Runs.of (ps := []) (by kernel_rfl) (by kernel_rfl) (by simp)
noncomputable def rspoke_out : List Pm → Lss → Option CRes
  | [.i e0, .i e1, .i e2, .i e3, .i e4, .i e5, .i e6, .b e7, .b w], [] => some ⟨SV.agg [SC.int IntKind.i64 (SI.v (rspoke_0 e0 e2 e4 w)), SC.int IntKind.i64 (SI.v (rspoke_0 e1 e3 e5 w))],
    [],
    [], [], 85⟩
  | _, _ => none
theorem rspoke_ok : FOk Try.prog 52 (tplS rspoke_tpl rspoke_out) := by
  refine tplS_ok (runF_ok known_reaches 52) fun ps ls r hr hn _ => ?_
  unfold rspoke_out at hr
  split at hr
  · cases hr; exact ⟨_, rspoke_runs _ _ _ _ _ _ _ _ _, fun _ => rfl⟩
  · cases hr
noncomputable def K_rspoke : List (Nat × Summ) := (52, tplS rspoke_tpl rspoke_out) :: K_reaches
theorem known_rspoke : Known Try.prog (sums K_rspoke) L_ov := known_cons known_reaches rspoke_ok
noncomputable def rtang_tpl : Tpl := ⟨[.agg [.int .i64, .int .i64, .int .i64, .int .i64, .int .i64, .int .i64, .int .i64, .bool], .one (.bool)], [], 0⟩
noncomputable def rtang_0 (e0 : Int) (e1 : Int) (e2 : Int) (e3 : Int) (e5 : Int) (e6 : Int) (w : Bool) : Int :=
  bif e6 == 0 then minus_0 e2 e0 else IntKind.i64.wrap (IntKind.i64.wrap (0 - rspoke_0 e1 e3 e5 w) * e6)
noncomputable def rtang_1 (e0 : Int) (e1 : Int) (e2 : Int) (e3 : Int) (e4 : Int) (e6 : Int) (w : Bool) : Int :=
  bif e6 == 0 then minus_0 e3 e1 else IntKind.i64.wrap (rspoke_0 e0 e2 e4 w * e6)
set_option maxRecDepth 1000000 in
theorem rtang_runs (e0 e1 e2 e3 e4 e5 e6 : Int) (e7 w : Bool) : Runs (runF (sums K_rspoke) L_ov 25) (rtang_tpl.args [.i e0, .i e1, .i e2, .i e3, .i e4, .i e5, .i e6, .b e7, .b w]) (rtang_tpl.memo [.i e0, .i e1, .i e2, .i e3, .i e4, .i e5, .i e6, .b e7, .b w] []) rtang_tpl.n (SV.agg [SC.int IntKind.i64 (SI.v (rtang_0 e0 e1 e2 e3 e5 e6 w)), SC.int IntKind.i64 (SI.v (rtang_1 e0 e1 e2 e3 e4 e6 w))])
    ([]) :=
  Runs.of (ps := []) (by kernel_rfl) (by kernel_rfl) (by simp)
noncomputable def rtang_out : List Pm → Lss → Option CRes
  | [.i e0, .i e1, .i e2, .i e3, .i e4, .i e5, .i e6, .b e7, .b w], [] => some ⟨SV.agg [SC.int IntKind.i64 (SI.v (rtang_0 e0 e1 e2 e3 e5 e6 w)), SC.int IntKind.i64 (SI.v (rtang_1 e0 e1 e2 e3 e4 e6 w))],
    [],
    [], [], 163⟩
  | _, _ => none
theorem rtang_ok : FOk Try.prog 25 (tplS rtang_tpl rtang_out) := by
  refine tplS_ok (runF_ok known_rspoke 25) fun ps ls r hr hn _ => ?_
  unfold rtang_out at hr
  split at hr
  · cases hr; exact ⟨_, rtang_runs _ _ _ _ _ _ _ _ _, fun _ => rfl⟩
  · cases hr
noncomputable def K_rtang : List (Nat × Summ) := (25, tplS rtang_tpl rtang_out) :: K_rspoke
theorem known_rtang : Known Try.prog (sums K_rtang) L_ov := known_cons known_rspoke rtang_ok
noncomputable def oclear_tpl : Tpl := ⟨[.agg [.int .i64, .int .i64, .int .i64, .int .i64, .int .i64, .int .i64, .int .i64, .bool], .agg [.int .i64, .int .i64], .one (.int .i64)], [], 0⟩
noncomputable def oclear_s0 (e0 : Int) (e1 : Int) (e2 : Int) (e3 : Int) (y0 : Int) (y1 : Int) (r : Int) : Int :=
  wcmp_0 (vcross_0 (minus_0 e2 e0) (minus_0 e3 e1) (minus_0 y0 e0) (minus_0 y1 e1)) (vcross_0 (minus_0 e2 e0) (minus_0 e3 e1) (minus_0 y0 e0) (minus_0 y1 e1)) (IntKind.i64.wrap (r * r))
    (vinner_0 (minus_0 e2 e0) (minus_0 e3 e1) (minus_0 e2 e0) (minus_0 e3 e1))
noncomputable def oclear_s1 (r : Int) : Int :=
  if IntKind.i64.wrap (0 - r) > r then IntKind.i64.wrap (0 - r) else r
noncomputable def oclear_0 (e0 : Int) (e1 : Int) (e2 : Int) (e3 : Int) (e4 : Int) (e5 : Int) (e6 : Int) (y0 : Int) (y1 : Int) (r : Int) : Bool :=
  bif e6 == 0 then
    (decide (r ≥ 0) && decide (vcross_0 (minus_0 e2 e0) (minus_0 e3 e1) (minus_0 y0 e0) (minus_0 y1 e1) ≥ 0) ||
        decide (r < 0) && decide (vcross_0 (minus_0 e2 e0) (minus_0 e3 e1) (minus_0 y0 e0) (minus_0 y1 e1) ≤ 0)) &&
      decide (oclear_s0 e0 e1 e2 e3 y0 y1 r ≥ 0)
  else
    bif oinward_0 e6 r then reaches_0 (vinner_0 (minus_0 y0 e4) (minus_0 y1 e5) (minus_0 y0 e4) (minus_0 y1 e5)) (oclear_s1 r) (vinner_0 (minus_0 e2 e4) (minus_0 e3 e5) (minus_0 e2 e4) (minus_0 e3 e5))
    else reaches_0 (vinner_0 (minus_0 e2 e4) (minus_0 e3 e5) (minus_0 e2 e4) (minus_0 e3 e5)) (oclear_s1 r) (vinner_0 (minus_0 y0 e4) (minus_0 y1 e5) (minus_0 y0 e4) (minus_0 y1 e5))
set_option maxRecDepth 1000000 in
theorem oclear_runs (e0 e1 e2 e3 e4 e5 e6 : Int) (e7 : Bool) (y0 y1 r : Int) : Runs (runF (sums K_rtang) L_ov 27) (oclear_tpl.args [.i e0, .i e1, .i e2, .i e3, .i e4, .i e5, .i e6, .b e7, .i y0, .i y1, .i r]) (oclear_tpl.memo [.i e0, .i e1, .i e2, .i e3, .i e4, .i e5, .i e6, .b e7, .i y0, .i y1, .i r] []) oclear_tpl.n (SV.one (SC.bool (SB.v (oclear_0 e0 e1 e2 e3 e4 e5 e6 y0 y1 r))))
    ([]) :=
  Runs.of (ps := []) (by kernel_rfl) (by kernel_rfl) (by simp)
noncomputable def oclear_out : List Pm → Lss → Option CRes
  | [.i e0, .i e1, .i e2, .i e3, .i e4, .i e5, .i e6, .b e7, .i y0, .i y1, .i r], [] => some ⟨SV.one (SC.bool (SB.v (oclear_0 e0 e1 e2 e3 e4 e5 e6 y0 y1 r))),
    [],
    [], [], 1236⟩
  | _, _ => none
theorem oclear_ok : FOk Try.prog 27 (tplS oclear_tpl oclear_out) := by
  refine tplS_ok (runF_ok known_rtang 27) fun ps ls r hr hn _ => ?_
  unfold oclear_out at hr
  split at hr
  · cases hr; exact ⟨_, oclear_runs _ _ _ _ _ _ _ _ _ _ _, fun _ => rfl⟩
  · cases hr
noncomputable def K_oclear : List (Nat × Summ) := (27, tplS oclear_tpl oclear_out) :: K_rtang
theorem known_oclear : Known Try.prog (sums K_oclear) L_ov := known_cons known_rtang oclear_ok
noncomputable def rclear_tpl : Tpl := ⟨[.agg [.int .i64, .int .i64, .int .i64, .int .i64, .int .i64, .int .i64, .int .i64, .bool], .agg [.int .i64, .int .i64], .one (.int .i64)], [], 0⟩
noncomputable def rclear_s0 (e0 : Int) (e1 : Int) (e2 : Int) (e3 : Int) (y0 : Int) (y1 : Int) (r : Int) : Int :=
  rcmp_0 (vcross_0 (minus_0 e2 e0) (minus_0 e3 e1) (minus_0 y0 e0) (minus_0 y1 e1)) (vcross_0 (minus_0 e2 e0) (minus_0 e3 e1) (minus_0 y0 e0) (minus_0 y1 e1)) (IntKind.i64.wrap (r * r))
    (vinner_0 (minus_0 e2 e0) (minus_0 e3 e1) (minus_0 e2 e0) (minus_0 e3 e1))
noncomputable def rclear_s1 (e0 : Int) (e1 : Int) (e2 : Int) (e3 : Int) (e4 : Int) (e5 : Int) (e6 : Int) (y0 : Int) (y1 : Int) (r : Int) : Int :=
  bif rinward_0 e6 r then vinner_0 (minus_0 y0 e4) (minus_0 y1 e5) (minus_0 y0 e4) (minus_0 y1 e5)
  else vinner_0 (rspoke_0 e0 e2 e4 true) (rspoke_0 e1 e3 e5 true) (rspoke_0 e0 e2 e4 true) (rspoke_0 e1 e3 e5 true)
noncomputable def rclear_s2 (e0 : Int) (e1 : Int) (e2 : Int) (e3 : Int) (e4 : Int) (e5 : Int) (e6 : Int) (y0 : Int) (y1 : Int) (r : Int) : Int :=
  IntKind.i64.wrap
    (IntKind.i64.wrap
        ((bif rinward_0 e6 r then vinner_0 (rspoke_0 e0 e2 e4 true) (rspoke_0 e1 e3 e5 true) (rspoke_0 e0 e2 e4 true) (rspoke_0 e1 e3 e5 true)
          else vinner_0 (minus_0 y0 e4) (minus_0 y1 e5) (minus_0 y0 e4) (minus_0 y1 e5)) -
          rclear_s1 e0 e1 e2 e3 e4 e5 e6 y0 y1 r) -
      IntKind.i64.wrap (r * r))
noncomputable def rclear_s3 (e0 : Int) (e1 : Int) (e2 : Int) (e3 : Int) (e4 : Int) (e5 : Int) (e6 : Int) (y0 : Int) (y1 : Int) (r : Int) : Int :=
  rcmp_0 (rclear_s2 e0 e1 e2 e3 e4 e5 e6 y0 y1 r) (rclear_s2 e0 e1 e2 e3 e4 e5 e6 y0 y1 r) (IntKind.i64.wrap (IntKind.i64.wrap (4 * r) * r)) (rclear_s1 e0 e1 e2 e3 e4 e5 e6 y0 y1 r)
noncomputable def rclear_0 (e0 : Int) (e1 : Int) (e2 : Int) (e3 : Int) (e4 : Int) (e5 : Int) (e6 : Int) (y0 : Int) (y1 : Int) (r : Int) : Bool :=
  bif e6 == 0 then
    (decide (r ≥ 0) && decide (vcross_0 (minus_0 e2 e0) (minus_0 e3 e1) (minus_0 y0 e0) (minus_0 y1 e1) ≥ 0) ||
        decide (r < 0) && decide (vcross_0 (minus_0 e2 e0) (minus_0 e3 e1) (minus_0 y0 e0) (minus_0 y1 e1) ≤ 0)) &&
      decide (rclear_s0 e0 e1 e2 e3 y0 y1 r ≥ 0)
  else decide (rclear_s2 e0 e1 e2 e3 e4 e5 e6 y0 y1 r ≥ 0) && decide (rclear_s3 e0 e1 e2 e3 e4 e5 e6 y0 y1 r ≥ 0)
noncomputable def rclear_s4 (e0 : Int) (e1 : Int) (e2 : Int) (e3 : Int) (y0 : Int) (y1 : Int) (r : Int) : Prop :=
  (decide (r ≥ 0) && decide (vcross_0 (minus_0 e2 e0) (minus_0 e3 e1) (minus_0 y0 e0) (minus_0 y1 e1) ≥ 0) ||
      decide (r < 0) && decide (vcross_0 (minus_0 e2 e0) (minus_0 e3 e1) (minus_0 y0 e0) (minus_0 y1 e1) ≤ 0)) =
    true
noncomputable def rclear_s5 (e0 : Int) (e1 : Int) (e2 : Int) (e3 : Int) (e4 : Int) (e5 : Int) (e6 : Int) (y0 : Int) (y1 : Int) (r : Int) : Prop :=
  decide (rclear_s2 e0 e1 e2 e3 e4 e5 e6 y0 y1 r ≥ 0) = true
noncomputable def rclear_s6 (r : Int) : Int :=
  IntKind.i64.wrap (IntKind.i64.wrap (4 * r) * r)
noncomputable def rclear_needs (e0 : Int) (e1 : Int) (e2 : Int) (e3 : Int) (e4 : Int) (e5 : Int) (e6 : Int) (y0 : Int) (y1 : Int) (r : Int) : List Prop :=
  [(e6 == 0) = true →
      (rclear_s4 e0 e1 e2 e3 y0 y1 r →
          -9223372036854775808 ≤ vcross_0 (minus_0 e2 e0) (minus_0 e3 e1) (minus_0 y0 e0) (minus_0 y1 e1) ∧
            vcross_0 (minus_0 e2 e0) (minus_0 e3 e1) (minus_0 y0 e0) (minus_0 y1 e1) < 9223372036854775808) ∧
        (rclear_s4 e0 e1 e2 e3 y0 y1 r →
            -9223372036854775808 ≤ vcross_0 (minus_0 e2 e0) (minus_0 e3 e1) (minus_0 y0 e0) (minus_0 y1 e1) ∧
              vcross_0 (minus_0 e2 e0) (minus_0 e3 e1) (minus_0 y0 e0) (minus_0 y1 e1) < 9223372036854775808) ∧
          (rclear_s4 e0 e1 e2 e3 y0 y1 r → -9223372036854775808 ≤ IntKind.i64.wrap (r * r) ∧ IntKind.i64.wrap (r * r) < 9223372036854775808) ∧
            (rclear_s4 e0 e1 e2 e3 y0 y1 r →
              -9223372036854775808 ≤ vinner_0 (minus_0 e2 e0) (minus_0 e3 e1) (minus_0 e2 e0) (minus_0 e3 e1) ∧
                vinner_0 (minus_0 e2 e0) (minus_0 e3 e1) (minus_0 e2 e0) (minus_0 e3 e1) < 9223372036854775808),
    (e6 == 0) = false →
      (rclear_s5 e0 e1 e2 e3 e4 e5 e6 y0 y1 r → -9223372036854775808 ≤ rclear_s2 e0 e1 e2 e3 e4 e5 e6 y0 y1 r ∧ rclear_s2 e0 e1 e2 e3 e4 e5 e6 y0 y1 r < 9223372036854775808) ∧
        (rclear_s5 e0 e1 e2 e3 e4 e5 e6 y0 y1 r → -9223372036854775808 ≤ rclear_s2 e0 e1 e2 e3 e4 e5 e6 y0 y1 r ∧ rclear_s2 e0 e1 e2 e3 e4 e5 e6 y0 y1 r < 9223372036854775808) ∧
          (rclear_s5 e0 e1 e2 e3 e4 e5 e6 y0 y1 r → -9223372036854775808 ≤ rclear_s6 r ∧ rclear_s6 r < 9223372036854775808) ∧
            (rclear_s5 e0 e1 e2 e3 e4 e5 e6 y0 y1 r → -9223372036854775808 ≤ rclear_s1 e0 e1 e2 e3 e4 e5 e6 y0 y1 r ∧ rclear_s1 e0 e1 e2 e3 e4 e5 e6 y0 y1 r < 9223372036854775808)]
theorem rclear_need {e0 : Int} {e1 : Int} {e2 : Int} {e3 : Int} {e4 : Int} {e5 : Int} {e6 : Int} {y0 : Int} {y1 : Int} {r : Int} : ∀ q ∈ (rclear_needs e0 e1 e2 e3 e4 e5 e6 y0 y1 r), q := by
  unfold rclear_needs
  simp only [List.forall_mem_cons, List.not_mem_nil, false_implies, implies_true, and_true]
  have s1 : isI (rclear_s1 e0 e1 e2 e3 e4 e5 e6 y0 y1 r) := by
    unfold rclear_s1
    cases rinward_0 e6 r <;> exact wrap_isI _
  exact ⟨fun _ => ⟨fun _ => wrap_isI _, fun _ => wrap_isI _, fun _ => wrap_isI _, fun _ => wrap_isI _⟩, fun _ => ⟨fun _ => wrap_isI _, fun _ => wrap_isI _, fun _ => wrap_isI _, fun _ => s1⟩⟩
set_option maxRecDepth 1000000 in
theorem rclear_runs (e0 e1 e2 e3 e4 e5 e6 : Int) (e7 : Bool) (y0 y1 r : Int) (hNeeds : ∀ pN ∈ (rclear_needs e0 e1 e2 e3 e4 e5 e6 y0 y1 r), pN) : Runs (runF (sums K_oclear) L_ov 28) (rclear_tpl.args [.i e0, .i e1, .i e2, .i e3, .i e4, .i e5, .i e6, .b e7, .i y0, .i y1, .i r]) (rclear_tpl.memo [.i e0, .i e1, .i e2, .i e3, .i e4, .i e5, .i e6, .b e7, .i y0, .i y1, .i r] []) rclear_tpl.n (SV.one (SC.bool (SB.v (rclear_0 e0 e1 e2 e3 e4 e5 e6 y0 y1 r))))
    ([]) :=
  Runs.of (ps := (rclear_needs e0 e1 e2 e3 e4 e5 e6 y0 y1 r)) (by kernel_rfl) (by kernel_rfl) hNeeds
noncomputable def rclear_out : List Pm → Lss → Option CRes
  | [.i e0, .i e1, .i e2, .i e3, .i e4, .i e5, .i e6, .b e7, .i y0, .i y1, .i r], [] => some ⟨SV.one (SC.bool (SB.v (rclear_0 e0 e1 e2 e3 e4 e5 e6 y0 y1 r))),
    [],
    [], [], 1194⟩
  | _, _ => none
theorem rclear_ok : FOk Try.prog 28 (tplS rclear_tpl rclear_out) := by
  refine tplS_ok (runF_ok known_oclear 28) fun ps ls r hr hn _ => ?_
  unfold rclear_out at hr
  split at hr
  · cases hr; exact ⟨_, rclear_runs _ _ _ _ _ _ _ _ _ _ _ (fun p hp => rclear_need p hp), fun _ => rfl⟩
  · cases hr
noncomputable def K_rclear : List (Nat × Summ) := (28, tplS rclear_tpl rclear_out) :: K_oclear
theorem known_rclear : Known Try.prog (sums K_rclear) L_ov := known_cons known_oclear rclear_ok
end Go.Proofs.Ytjlkecfkjcanaaa
