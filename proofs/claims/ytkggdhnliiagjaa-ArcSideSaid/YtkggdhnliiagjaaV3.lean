/-
  ARCS: Radius. Conditions: none.
-/
import Derived.Test.YtkggdhnliiagjaaV2
import Derived.Test.YtkggdhnliiagjaaD1
set_option linter.all false
namespace Go.Proofs.Ytkggdhnliiagjaa
open Go.SX Go.RowKit
theorem wS_isI {n : Int} (h : isI n) : isI (wSqrt_0 (if 0 > n then 0 else n) 2) := by
  have h0 : 0 ≤ (if 0 > n then 0 else n) ∧ isI (if 0 > n then 0 else n) := by split <;> omega
  generalize (if 0 > n then 0 else n) = k at *
  obtain ⟨_, e⟩ := wSqrt_law (m := 2) h0.1 h0.2 (.inr (.inr rfl))
  obtain ⟨a, b, c, d⟩ := sqr_law h0.1 h0.2.2
  rw [e]
  split <;> omega
theorem rS_isI {n : Int} (h : isI n) : isI (rRoot_0 (if 0 > n then 0 else n) 1 2) := by
  have h0 : 0 ≤ (if 0 > n then 0 else n) ∧ isI (if 0 > n then 0 else n) := by split <;> omega
  rw [← (sqrt_same (m := 2) h0.1 h0.2 (.inr (.inr rfl))).1]
  exact wS_isI h
theorem mx_isI {n : Int} (h : isI n) : isI (if 0 > n then 0 else n) := by split <;> omega
noncomputable def aradius_tpl : Tpl := ⟨[.one (.int .i64), .agg [.int .i64, .int .i64, .int .i64], .agg [.int .i64, .int .i64, .int .i64], .one (.int .i64), .one (.int .i64)], [], 0⟩
noncomputable def aradius_s0 (p : Int) (a : Int) (b : Int) (c : Int) (d : Int) (e : Int) (f : Int) : Int :=
  IntKind.i64.wrap (flat_0 p d e f - flat_0 p a b c)
noncomputable def aradius_s1 (p : Int) (a : Int) (b : Int) (c : Int) (d : Int) (e : Int) (f : Int) : Int :=
  IntKind.i64.wrap (flat_1 p d e f - flat_1 p a b c)
noncomputable def aradius_s2 (r : Int) : Int :=
  IntKind.i64.wrap (IntKind.i64.wrap (2 * bif decide (r < 0) then IntKind.i64.wrap (0 - r) else r) + 2)
noncomputable def aradius_s3 (p : Int) (a : Int) (b : Int) (c : Int) (d : Int) (e : Int) (f : Int) (r : Int) : Int :=
  IntKind.i64.wrap (IntKind.i64.wrap (IntKind.i64.wrap (4 * r) * r) - vinner_0 (aradius_s0 p a b c d e f) (aradius_s1 p a b c d e f) (aradius_s0 p a b c d e f) (aradius_s1 p a b c d e f))
noncomputable def aradius_s4 (p : Int) (a : Int) (b : Int) (c : Int) (d : Int) (e : Int) (f : Int) (r : Int) : Int :=
  wSqrt_0 (if 0 > aradius_s3 p a b c d e f r then 0 else aradius_s3 p a b c d e f r) 2
noncomputable def aradius_s5 (p : Int) (a : Int) (b : Int) (c : Int) (d : Int) (e : Int) (f : Int) : Int :=
  IntKind.i64.wrap (4 * vinner_0 (aradius_s0 p a b c d e f) (aradius_s1 p a b c d e f) (aradius_s0 p a b c d e f) (aradius_s1 p a b c d e f))
noncomputable def aradius_0 (p : Int) (a : Int) (b : Int) (c : Int) (d : Int) (e : Int) (f : Int) (di : Int) (r : Int) : Int :=
  bif !flat_3 p || !vwithin_0 a b c || !vwithin_0 d e f || di != 1 && di != -1 || decide (r > -8) && decide (r < 8) || decide (r < -1048576) || decide (r > 1048576) then 0
  else
    bif
        vinner_0 (aradius_s0 p a b c d e f) (aradius_s1 p a b c d e f) (aradius_s0 p a b c d e f) (aradius_s1 p a b c d e f) == 0 ||
          decide (vinner_0 (aradius_s0 p a b c d e f) (aradius_s1 p a b c d e f) (aradius_s0 p a b c d e f) (aradius_s1 p a b c d e f) > IntKind.i64.wrap (aradius_s2 r * aradius_s2 r)) then
      0
    else
      acenter_0 p
        (IntKind.i64.wrap
          (ishift BinOp.shr IntKind.i64 (IntKind.i64.wrap (flat_0 p a b c + flat_0 p d e f)) 1 -
            IntKind.i64.wrap ((bif decide (r < 0) then IntKind.i64.wrap (0 - di) else di) * wOver_0 (aradius_s1 p a b c d e f) (aradius_s4 p a b c d e f r) (aradius_s5 p a b c d e f) 2)))
        (IntKind.i64.wrap
          (ishift BinOp.shr IntKind.i64 (IntKind.i64.wrap (flat_1 p a b c + flat_1 p d e f)) 1 +
            IntKind.i64.wrap ((bif decide (r < 0) then IntKind.i64.wrap (0 - di) else di) * wOver_0 (aradius_s0 p a b c d e f) (aradius_s4 p a b c d e f r) (aradius_s5 p a b c d e f) 2)))
        (flat_2 p a b c)
noncomputable def aradius_1 (p : Int) (a : Int) (b : Int) (c : Int) (d : Int) (e : Int) (f : Int) (di : Int) (r : Int) : Int :=
  bif !flat_3 p || !vwithin_0 a b c || !vwithin_0 d e f || di != 1 && di != -1 || decide (r > -8) && decide (r < 8) || decide (r < -1048576) || decide (r > 1048576) then 0
  else
    bif
        vinner_0 (aradius_s0 p a b c d e f) (aradius_s1 p a b c d e f) (aradius_s0 p a b c d e f) (aradius_s1 p a b c d e f) == 0 ||
          decide (vinner_0 (aradius_s0 p a b c d e f) (aradius_s1 p a b c d e f) (aradius_s0 p a b c d e f) (aradius_s1 p a b c d e f) > IntKind.i64.wrap (aradius_s2 r * aradius_s2 r)) then
      0
    else
      acenter_1 p
        (IntKind.i64.wrap
          (ishift BinOp.shr IntKind.i64 (IntKind.i64.wrap (flat_0 p a b c + flat_0 p d e f)) 1 -
            IntKind.i64.wrap ((bif decide (r < 0) then IntKind.i64.wrap (0 - di) else di) * wOver_0 (aradius_s1 p a b c d e f) (aradius_s4 p a b c d e f r) (aradius_s5 p a b c d e f) 2)))
        (IntKind.i64.wrap
          (ishift BinOp.shr IntKind.i64 (IntKind.i64.wrap (flat_1 p a b c + flat_1 p d e f)) 1 +
            IntKind.i64.wrap ((bif decide (r < 0) then IntKind.i64.wrap (0 - di) else di) * wOver_0 (aradius_s0 p a b c d e f) (aradius_s4 p a b c d e f r) (aradius_s5 p a b c d e f) 2)))
        (flat_2 p a b c)
noncomputable def aradius_2 (p : Int) (a : Int) (b : Int) (c : Int) (d : Int) (e : Int) (f : Int) (di : Int) (r : Int) : Int :=
  bif !flat_3 p || !vwithin_0 a b c || !vwithin_0 d e f || di != 1 && di != -1 || decide (r > -8) && decide (r < 8) || decide (r < -1048576) || decide (r > 1048576) then 0
  else
    bif
        vinner_0 (aradius_s0 p a b c d e f) (aradius_s1 p a b c d e f) (aradius_s0 p a b c d e f) (aradius_s1 p a b c d e f) == 0 ||
          decide (vinner_0 (aradius_s0 p a b c d e f) (aradius_s1 p a b c d e f) (aradius_s0 p a b c d e f) (aradius_s1 p a b c d e f) > IntKind.i64.wrap (aradius_s2 r * aradius_s2 r)) then
      0
    else
      acenter_2 p
        (IntKind.i64.wrap
          (ishift BinOp.shr IntKind.i64 (IntKind.i64.wrap (flat_0 p a b c + flat_0 p d e f)) 1 -
            IntKind.i64.wrap ((bif decide (r < 0) then IntKind.i64.wrap (0 - di) else di) * wOver_0 (aradius_s1 p a b c d e f) (aradius_s4 p a b c d e f r) (aradius_s5 p a b c d e f) 2)))
        (IntKind.i64.wrap
          (ishift BinOp.shr IntKind.i64 (IntKind.i64.wrap (flat_1 p a b c + flat_1 p d e f)) 1 +
            IntKind.i64.wrap ((bif decide (r < 0) then IntKind.i64.wrap (0 - di) else di) * wOver_0 (aradius_s0 p a b c d e f) (aradius_s4 p a b c d e f r) (aradius_s5 p a b c d e f) 2)))
        (flat_2 p a b c)
noncomputable def aradius_3 (p : Int) (a : Int) (b : Int) (c : Int) (d : Int) (e : Int) (f : Int) (di : Int) (r : Int) : Int :=
  bif !flat_3 p || !vwithin_0 a b c || !vwithin_0 d e f || di != 1 && di != -1 || decide (r > -8) && decide (r < 8) || decide (r < -1048576) || decide (r > 1048576) then 1
  else
    bif
        vinner_0 (aradius_s0 p a b c d e f) (aradius_s1 p a b c d e f) (aradius_s0 p a b c d e f) (aradius_s1 p a b c d e f) == 0 ||
          decide (vinner_0 (aradius_s0 p a b c d e f) (aradius_s1 p a b c d e f) (aradius_s0 p a b c d e f) (aradius_s1 p a b c d e f) > IntKind.i64.wrap (aradius_s2 r * aradius_s2 r)) then
      12
    else
      acenter_3 p
        (IntKind.i64.wrap
          (ishift BinOp.shr IntKind.i64 (IntKind.i64.wrap (flat_0 p a b c + flat_0 p d e f)) 1 -
            IntKind.i64.wrap ((bif decide (r < 0) then IntKind.i64.wrap (0 - di) else di) * wOver_0 (aradius_s1 p a b c d e f) (aradius_s4 p a b c d e f r) (aradius_s5 p a b c d e f) 2)))
        (IntKind.i64.wrap
          (ishift BinOp.shr IntKind.i64 (IntKind.i64.wrap (flat_1 p a b c + flat_1 p d e f)) 1 +
            IntKind.i64.wrap ((bif decide (r < 0) then IntKind.i64.wrap (0 - di) else di) * wOver_0 (aradius_s0 p a b c d e f) (aradius_s4 p a b c d e f r) (aradius_s5 p a b c d e f) 2)))
        (flat_2 p a b c)
noncomputable def aradius_s6 (p : Int) (a : Int) (b : Int) (c : Int) (d : Int) (e : Int) (f : Int) (r : Int) : Int :=
  if 0 > aradius_s3 p a b c d e f r then 0 else aradius_s3 p a b c d e f r
noncomputable def aradius_s7 (p : Int) (a : Int) (b : Int) (c : Int) (d : Int) (e : Int) (f : Int) : Prop :=
  -9223372036854775808 ≤ aradius_s5 p a b c d e f ∧ aradius_s5 p a b c d e f < 9223372036854775808
noncomputable def aradius_needs (p : Int) (a : Int) (b : Int) (c : Int) (d : Int) (e : Int) (f : Int) (di : Int) (r : Int) : List Prop :=
  [(!flat_3 p || !vwithin_0 a b c || !vwithin_0 d e f || di != 1 && di != -1 || decide (r > -8) && decide (r < 8) || decide (r < -1048576) || decide (r > 1048576)) = false →
      (vinner_0 (aradius_s0 p a b c d e f) (aradius_s1 p a b c d e f) (aradius_s0 p a b c d e f) (aradius_s1 p a b c d e f) == 0 ||
            decide (vinner_0 (aradius_s0 p a b c d e f) (aradius_s1 p a b c d e f) (aradius_s0 p a b c d e f) (aradius_s1 p a b c d e f) > IntKind.i64.wrap (aradius_s2 r * aradius_s2 r))) =
          false →
        (-9223372036854775808 ≤ aradius_s6 p a b c d e f r ∧ aradius_s6 p a b c d e f r < 9223372036854775808) ∧
          (-9223372036854775808 ≤ aradius_s1 p a b c d e f ∧ aradius_s1 p a b c d e f < 9223372036854775808) ∧
            (-9223372036854775808 ≤ wSqrt_0 (aradius_s6 p a b c d e f r) 2 ∧ wSqrt_0 (aradius_s6 p a b c d e f r) 2 < 9223372036854775808) ∧
              aradius_s7 p a b c d e f ∧
                (-9223372036854775808 ≤ aradius_s0 p a b c d e f ∧ aradius_s0 p a b c d e f < 9223372036854775808) ∧
                  (-9223372036854775808 ≤ wSqrt_0 (aradius_s6 p a b c d e f r) 2 ∧ wSqrt_0 (aradius_s6 p a b c d e f r) 2 < 9223372036854775808) ∧ aradius_s7 p a b c d e f]
theorem aradius_need {p : Int} {a : Int} {b : Int} {c : Int} {d : Int} {e : Int} {f : Int} {di : Int} {r : Int} : ∀ q ∈ (aradius_needs p a b c d e f di r), q := by
  unfold aradius_needs
  simp only [List.forall_mem_cons, List.not_mem_nil, false_implies, implies_true, and_true]
  intro _ _
  exact ⟨mx_isI (wrap_isI _), wrap_isI _, wS_isI (wrap_isI _), wrap_isI _, wrap_isI _, wS_isI (wrap_isI _), wrap_isI _⟩
set_option maxRecDepth 1000000 in
theorem aradius_runs (p a b c d e f di r : Int) (hNeeds : ∀ pN ∈ (aradius_needs p a b c d e f di r), pN) : Runs (runF (sums K_rcheck) L_ov 13) (aradius_tpl.args [.i p, .i a, .i b, .i c, .i d, .i e, .i f, .i di, .i r]) (aradius_tpl.memo [.i p, .i a, .i b, .i c, .i d, .i e, .i f, .i di, .i r] []) aradius_tpl.n (SV.tup
    [(true, [SC.int IntKind.i64 (SI.v (aradius_0 p a b c d e f di r)), SC.int IntKind.i64 (SI.v (aradius_1 p a b c d e f di r)), SC.int IntKind.i64 (SI.v (aradius_2 p a b c d e f di r))]),
      (false, [SC.int IntKind.i64 (SI.v (aradius_3 p a b c d e f di r))])])
    ([]) :=
  Runs.of (ps := (aradius_needs p a b c d e f di r)) (by kernel_rfl) (by kernel_rfl) hNeeds
noncomputable def aradius_out : List Pm → Lss → Option CRes
  | [.i p, .i a, .i b, .i c, .i d, .i e, .i f, .i di, .i r], [] => some ⟨SV.tup
    [(true, [SC.int IntKind.i64 (SI.v (aradius_0 p a b c d e f di r)), SC.int IntKind.i64 (SI.v (aradius_1 p a b c d e f di r)), SC.int IntKind.i64 (SI.v (aradius_2 p a b c d e f di r))]),
      (false, [SC.int IntKind.i64 (SI.v (aradius_3 p a b c d e f di r))])],
    [],
    [], [], 2383⟩
  | _, _ => none
theorem aradius_ok : FOk Try.prog 13 (tplS aradius_tpl aradius_out) := by
  refine tplS_ok (runF_ok known_rcheck 13) fun ps ls r hr hn _ => ?_
  unfold aradius_out at hr
  split at hr
  · cases hr; exact ⟨_, aradius_runs _ _ _ _ _ _ _ _ _ (fun p hp => aradius_need p hp), fun _ => rfl⟩
  · cases hr
noncomputable def K_aradius : List (Nat × Summ) := (13, tplS aradius_tpl aradius_out) :: K_rcheck
theorem known_aradius : Known Try.prog (sums K_aradius) L_ov := known_cons known_rcheck aradius_ok
noncomputable def rradius_tpl : Tpl := ⟨[.one (.int .i64), .agg [.int .i64, .int .i64, .int .i64], .agg [.int .i64, .int .i64, .int .i64], .one (.int .i64), .one (.int .i64)], [], 0⟩
noncomputable def rradius_s0 (p : Int) (a : Int) (b : Int) (c : Int) (d : Int) (e : Int) (f : Int) : Int :=
  vinner_0 (minus_0 (flat_0 p d e f) (flat_0 p a b c)) (minus_0 (flat_1 p d e f) (flat_1 p a b c)) (minus_0 (flat_0 p d e f) (flat_0 p a b c)) (minus_0 (flat_1 p d e f) (flat_1 p a b c))
noncomputable def rradius_s1 (r : Int) : Int :=
  bif decide (r < 0) then IntKind.i64.wrap (0 - r) else r
noncomputable def rradius_s2 (r : Int) : Int :=
  IntKind.i64.wrap (IntKind.i64.wrap (2 * rradius_s1 r) + 2)
noncomputable def rradius_s3 (p : Int) (a : Int) (b : Int) (c : Int) (d : Int) (e : Int) (f : Int) (r : Int) : Int :=
  IntKind.i64.wrap (IntKind.i64.wrap (IntKind.i64.wrap (4 * rradius_s1 r) * rradius_s1 r) - rradius_s0 p a b c d e f)
noncomputable def rradius_s4 (p : Int) (a : Int) (b : Int) (c : Int) (d : Int) (e : Int) (f : Int) (r : Int) : Int :=
  rRoot_0 (if 0 > rradius_s3 p a b c d e f r then 0 else rradius_s3 p a b c d e f r) 1 2
noncomputable def rradius_s5 (p : Int) (a : Int) (b : Int) (c : Int) (d : Int) (e : Int) (f : Int) : Int :=
  IntKind.i64.wrap (4 * rradius_s0 p a b c d e f)
noncomputable def rradius_s6 (p : Int) (a : Int) (b : Int) (c : Int) (d : Int) (e : Int) (f : Int) (di : Int) (r : Int) : Int :=
  IntKind.i64.wrap
    (ishift BinOp.shr IntKind.i64 (IntKind.i64.wrap (flat_0 p a b c + flat_0 p d e f)) 1 -
      IntKind.i64.wrap ((bif decide (r < 0) then IntKind.i64.wrap (0 - di) else di) * rOver_0 (minus_0 (flat_1 p d e f) (flat_1 p a b c)) (rradius_s4 p a b c d e f r) (rradius_s5 p a b c d e f) 2))
noncomputable def rradius_s7 (p : Int) (a : Int) (b : Int) (c : Int) (d : Int) (e : Int) (f : Int) (di : Int) (r : Int) : Int :=
  IntKind.i64.wrap
    (ishift BinOp.shr IntKind.i64 (IntKind.i64.wrap (flat_1 p a b c + flat_1 p d e f)) 1 +
      IntKind.i64.wrap ((bif decide (r < 0) then IntKind.i64.wrap (0 - di) else di) * rOver_0 (minus_0 (flat_0 p d e f) (flat_0 p a b c)) (rradius_s4 p a b c d e f r) (rradius_s5 p a b c d e f) 2))
noncomputable def rradius_0 (p : Int) (a : Int) (b : Int) (c : Int) (d : Int) (e : Int) (f : Int) (di : Int) (r : Int) : Int :=
  bif !rplane_0 p || !vwithin_0 a b c || !vwithin_0 d e f || di != 1 && di != -1 || decide (r < 8) && decide (r > -8) || decide (r > 1048576) || decide (r < -1048576) then 0
  else
    bif rradius_s0 p a b c d e f == 0 || decide (rradius_s0 p a b c d e f > IntKind.i64.wrap (rradius_s2 r * rradius_s2 r)) then 0
    else
      bif
          !vwithin_0 (solid_0 p (rradius_s6 p a b c d e f di r) (rradius_s7 p a b c d e f di r) (flat_2 p a b c))
              (solid_1 p (rradius_s6 p a b c d e f di r) (rradius_s7 p a b c d e f di r) (flat_2 p a b c))
              (solid_2 p (rradius_s6 p a b c d e f di r) (rradius_s7 p a b c d e f di r) (flat_2 p a b c)) then
        0
      else solid_0 p (rradius_s6 p a b c d e f di r) (rradius_s7 p a b c d e f di r) (flat_2 p a b c)
noncomputable def rradius_1 (p : Int) (a : Int) (b : Int) (c : Int) (d : Int) (e : Int) (f : Int) (di : Int) (r : Int) : Int :=
  bif !rplane_0 p || !vwithin_0 a b c || !vwithin_0 d e f || di != 1 && di != -1 || decide (r < 8) && decide (r > -8) || decide (r > 1048576) || decide (r < -1048576) then 0
  else
    bif rradius_s0 p a b c d e f == 0 || decide (rradius_s0 p a b c d e f > IntKind.i64.wrap (rradius_s2 r * rradius_s2 r)) then 0
    else
      bif
          !vwithin_0 (solid_0 p (rradius_s6 p a b c d e f di r) (rradius_s7 p a b c d e f di r) (flat_2 p a b c))
              (solid_1 p (rradius_s6 p a b c d e f di r) (rradius_s7 p a b c d e f di r) (flat_2 p a b c))
              (solid_2 p (rradius_s6 p a b c d e f di r) (rradius_s7 p a b c d e f di r) (flat_2 p a b c)) then
        0
      else solid_1 p (rradius_s6 p a b c d e f di r) (rradius_s7 p a b c d e f di r) (flat_2 p a b c)
noncomputable def rradius_2 (p : Int) (a : Int) (b : Int) (c : Int) (d : Int) (e : Int) (f : Int) (di : Int) (r : Int) : Int :=
  bif !rplane_0 p || !vwithin_0 a b c || !vwithin_0 d e f || di != 1 && di != -1 || decide (r < 8) && decide (r > -8) || decide (r > 1048576) || decide (r < -1048576) then 0
  else
    bif rradius_s0 p a b c d e f == 0 || decide (rradius_s0 p a b c d e f > IntKind.i64.wrap (rradius_s2 r * rradius_s2 r)) then 0
    else
      bif
          !vwithin_0 (solid_0 p (rradius_s6 p a b c d e f di r) (rradius_s7 p a b c d e f di r) (flat_2 p a b c))
              (solid_1 p (rradius_s6 p a b c d e f di r) (rradius_s7 p a b c d e f di r) (flat_2 p a b c))
              (solid_2 p (rradius_s6 p a b c d e f di r) (rradius_s7 p a b c d e f di r) (flat_2 p a b c)) then
        0
      else solid_2 p (rradius_s6 p a b c d e f di r) (rradius_s7 p a b c d e f di r) (flat_2 p a b c)
noncomputable def rradius_3 (p : Int) (a : Int) (b : Int) (c : Int) (d : Int) (e : Int) (f : Int) (di : Int) (r : Int) : Int :=
  bif !rplane_0 p || !vwithin_0 a b c || !vwithin_0 d e f || di != 1 && di != -1 || decide (r < 8) && decide (r > -8) || decide (r > 1048576) || decide (r < -1048576) then 1
  else
    bif rradius_s0 p a b c d e f == 0 || decide (rradius_s0 p a b c d e f > IntKind.i64.wrap (rradius_s2 r * rradius_s2 r)) then 12
    else
      bif
          !vwithin_0 (solid_0 p (rradius_s6 p a b c d e f di r) (rradius_s7 p a b c d e f di r) (flat_2 p a b c))
              (solid_1 p (rradius_s6 p a b c d e f di r) (rradius_s7 p a b c d e f di r) (flat_2 p a b c))
              (solid_2 p (rradius_s6 p a b c d e f di r) (rradius_s7 p a b c d e f di r) (flat_2 p a b c)) then
        3
      else 0
noncomputable def rradius_s8 (p : Int) (a : Int) (b : Int) (c : Int) (d : Int) (e : Int) (f : Int) (r : Int) : Int :=
  if 0 > rradius_s3 p a b c d e f r then 0 else rradius_s3 p a b c d e f r
noncomputable def rradius_s9 (p : Int) (a : Int) (b : Int) (c : Int) (d : Int) (e : Int) (f : Int) : Prop :=
  -9223372036854775808 ≤ rradius_s5 p a b c d e f ∧ rradius_s5 p a b c d e f < 9223372036854775808
noncomputable def rradius_needs (p : Int) (a : Int) (b : Int) (c : Int) (d : Int) (e : Int) (f : Int) (di : Int) (r : Int) : List Prop :=
  [(!rplane_0 p || !vwithin_0 a b c || !vwithin_0 d e f || di != 1 && di != -1 || decide (r < 8) && decide (r > -8) || decide (r > 1048576) || decide (r < -1048576)) = false →
      (rradius_s0 p a b c d e f == 0 || decide (rradius_s0 p a b c d e f > IntKind.i64.wrap (rradius_s2 r * rradius_s2 r))) = false →
        (-9223372036854775808 ≤ rradius_s8 p a b c d e f r ∧ rradius_s8 p a b c d e f r < 9223372036854775808) ∧
          (-9223372036854775808 ≤ minus_0 (flat_1 p d e f) (flat_1 p a b c) ∧ minus_0 (flat_1 p d e f) (flat_1 p a b c) < 9223372036854775808) ∧
            (-9223372036854775808 ≤ rRoot_0 (rradius_s8 p a b c d e f r) 1 2 ∧ rRoot_0 (rradius_s8 p a b c d e f r) 1 2 < 9223372036854775808) ∧
              rradius_s9 p a b c d e f ∧
                (-9223372036854775808 ≤ minus_0 (flat_0 p d e f) (flat_0 p a b c) ∧ minus_0 (flat_0 p d e f) (flat_0 p a b c) < 9223372036854775808) ∧
                  (-9223372036854775808 ≤ rRoot_0 (rradius_s8 p a b c d e f r) 1 2 ∧ rRoot_0 (rradius_s8 p a b c d e f r) 1 2 < 9223372036854775808) ∧ rradius_s9 p a b c d e f]
theorem rradius_need {p : Int} {a : Int} {b : Int} {c : Int} {d : Int} {e : Int} {f : Int} {di : Int} {r : Int} : ∀ q ∈ (rradius_needs p a b c d e f di r), q := by
  unfold rradius_needs
  simp only [List.forall_mem_cons, List.not_mem_nil, false_implies, implies_true, and_true]
  intro _ _
  exact ⟨mx_isI (wrap_isI _), wrap_isI _, rS_isI (wrap_isI _), wrap_isI _, wrap_isI _, rS_isI (wrap_isI _), wrap_isI _⟩
set_option maxRecDepth 1000000 in
theorem rradius_runs (p a b c d e f di r : Int) (hNeeds : ∀ pN ∈ (rradius_needs p a b c d e f di r), pN) : Runs (runF (sums K_aradius) L_ov 14) (rradius_tpl.args [.i p, .i a, .i b, .i c, .i d, .i e, .i f, .i di, .i r]) (rradius_tpl.memo [.i p, .i a, .i b, .i c, .i d, .i e, .i f, .i di, .i r] []) rradius_tpl.n (SV.tup
    [(true, [SC.int IntKind.i64 (SI.v (rradius_0 p a b c d e f di r)), SC.int IntKind.i64 (SI.v (rradius_1 p a b c d e f di r)), SC.int IntKind.i64 (SI.v (rradius_2 p a b c d e f di r))]),
      (false, [SC.int IntKind.i64 (SI.v (rradius_3 p a b c d e f di r))])])
    ([]) :=
  Runs.of (ps := (rradius_needs p a b c d e f di r)) (by kernel_rfl) (by kernel_rfl) hNeeds
noncomputable def rradius_out : List Pm → Lss → Option CRes
  | [.i p, .i a, .i b, .i c, .i d, .i e, .i f, .i di, .i r], [] => some ⟨SV.tup
    [(true, [SC.int IntKind.i64 (SI.v (rradius_0 p a b c d e f di r)), SC.int IntKind.i64 (SI.v (rradius_1 p a b c d e f di r)), SC.int IntKind.i64 (SI.v (rradius_2 p a b c d e f di r))]),
      (false, [SC.int IntKind.i64 (SI.v (rradius_3 p a b c d e f di r))])],
    [],
    [], [], 3298⟩
  | _, _ => none
theorem rradius_ok : FOk Try.prog 14 (tplS rradius_tpl rradius_out) := by
  refine tplS_ok (runF_ok known_aradius 14) fun ps ls r hr hn _ => ?_
  unfold rradius_out at hr
  split at hr
  · cases hr; exact ⟨_, rradius_runs _ _ _ _ _ _ _ _ _ (fun p hp => rradius_need p hp), fun _ => rfl⟩
  · cases hr
noncomputable def K_rradius : List (Nat × Summ) := (14, tplS rradius_tpl rradius_out) :: K_aradius
theorem known_rradius : Known Try.prog (sums K_rradius) L_ov := known_cons known_aradius rradius_ok
noncomputable def abox_tpl : Tpl := ⟨[.agg [.int .i64, .int .i64, .int .i64], .agg [.int .i64, .int .i64, .int .i64]], [], 0⟩
noncomputable def abox_0 (a : Int) (d : Int) : Int :=
  if d < a then d else a
noncomputable def abox_3 (a : Int) (d : Int) : Int :=
  if d > a then d else a
set_option maxRecDepth 1000000 in
theorem abox_runs (a b c d e f : Int) : Runs (runF (sums K_rradius) L_ov 71) (abox_tpl.args [.i a, .i b, .i c, .i d, .i e, .i f]) (abox_tpl.memo [.i a, .i b, .i c, .i d, .i e, .i f] []) abox_tpl.n (SV.tup
    [(true, [SC.int IntKind.i64 (SI.v (abox_0 a d)), SC.int IntKind.i64 (SI.v (abox_0 b e)), SC.int IntKind.i64 (SI.v (abox_0 c f))]),
      (true, [SC.int IntKind.i64 (SI.v (abox_3 a d)), SC.int IntKind.i64 (SI.v (abox_3 b e)), SC.int IntKind.i64 (SI.v (abox_3 c f))])])
    ([]) :=
  Runs.of (ps := []) (by kernel_rfl) (by kernel_rfl) (by simp)
noncomputable def abox_out : List Pm → Lss → Option CRes
  | [.i a, .i b, .i c, .i d, .i e, .i f], [] => some ⟨SV.tup
    [(true, [SC.int IntKind.i64 (SI.v (abox_0 a d)), SC.int IntKind.i64 (SI.v (abox_0 b e)), SC.int IntKind.i64 (SI.v (abox_0 c f))]),
      (true, [SC.int IntKind.i64 (SI.v (abox_3 a d)), SC.int IntKind.i64 (SI.v (abox_3 b e)), SC.int IntKind.i64 (SI.v (abox_3 c f))])],
    [],
    [], [], 60⟩
  | _, _ => none
theorem abox_ok : FOk Try.prog 71 (tplS abox_tpl abox_out) := by
  refine tplS_ok (runF_ok known_rradius 71) fun ps ls r hr hn _ => ?_
  unfold abox_out at hr
  split at hr
  · cases hr; exact ⟨_, abox_runs _ _ _ _ _ _, fun _ => rfl⟩
  · cases hr
noncomputable def K_abox : List (Nat × Summ) := (71, tplS abox_tpl abox_out) :: K_rradius
theorem known_abox : Known Try.prog (sums K_abox) L_ov := known_cons known_rradius abox_ok
noncomputable def rleast_tpl : Tpl := ⟨[.agg [.int .i64, .int .i64, .int .i64], .agg [.int .i64, .int .i64, .int .i64]], [], 0⟩
set_option maxRecDepth 1000000 in
theorem rleast_runs (a b c d e f : Int) : Runs (runF (sums K_abox) L_ov 73) (rleast_tpl.args [.i a, .i b, .i c, .i d, .i e, .i f]) (rleast_tpl.memo [.i a, .i b, .i c, .i d, .i e, .i f] []) rleast_tpl.n (SV.agg [SC.int IntKind.i64 (SI.v (abox_0 a d)), SC.int IntKind.i64 (SI.v (abox_0 b e)), SC.int IntKind.i64 (SI.v (abox_0 c f))])
    ([]) :=
  Runs.of (ps := []) (by kernel_rfl) (by kernel_rfl) (by simp)
noncomputable def rleast_out : List Pm → Lss → Option CRes
  | [.i a, .i b, .i c, .i d, .i e, .i f], [] => some ⟨SV.agg [SC.int IntKind.i64 (SI.v (abox_0 a d)), SC.int IntKind.i64 (SI.v (abox_0 b e)), SC.int IntKind.i64 (SI.v (abox_0 c f))],
    [],
    [], [], 35⟩
  | _, _ => none
theorem rleast_ok : FOk Try.prog 73 (tplS rleast_tpl rleast_out) := by
  refine tplS_ok (runF_ok known_abox 73) fun ps ls r hr hn _ => ?_
  unfold rleast_out at hr
  split at hr
  · cases hr; exact ⟨_, rleast_runs _ _ _ _ _ _, fun _ => rfl⟩
  · cases hr
noncomputable def K_rleast : List (Nat × Summ) := (73, tplS rleast_tpl rleast_out) :: K_abox
theorem known_rleast : Known Try.prog (sums K_rleast) L_ov := known_cons known_abox rleast_ok
noncomputable def rmost_tpl : Tpl := ⟨[.agg [.int .i64, .int .i64, .int .i64], .agg [.int .i64, .int .i64, .int .i64]], [], 0⟩
set_option maxRecDepth 1000000 in
theorem rmost_runs (a b c d e f : Int) : Runs (runF (sums K_rleast) L_ov 74) (rmost_tpl.args [.i a, .i b, .i c, .i d, .i e, .i f]) (rmost_tpl.memo [.i a, .i b, .i c, .i d, .i e, .i f] []) rmost_tpl.n (SV.agg [SC.int IntKind.i64 (SI.v (abox_3 a d)), SC.int IntKind.i64 (SI.v (abox_3 b e)), SC.int IntKind.i64 (SI.v (abox_3 c f))])
    ([]) :=
  Runs.of (ps := []) (by kernel_rfl) (by kernel_rfl) (by simp)
noncomputable def rmost_out : List Pm → Lss → Option CRes
  | [.i a, .i b, .i c, .i d, .i e, .i f], [] => some ⟨SV.agg [SC.int IntKind.i64 (SI.v (abox_3 a d)), SC.int IntKind.i64 (SI.v (abox_3 b e)), SC.int IntKind.i64 (SI.v (abox_3 c f))],
    [],
    [], [], 35⟩
  | _, _ => none
theorem rmost_ok : FOk Try.prog 74 (tplS rmost_tpl rmost_out) := by
  refine tplS_ok (runF_ok known_rleast 74) fun ps ls r hr hn _ => ?_
  unfold rmost_out at hr
  split at hr
  · cases hr; exact ⟨_, rmost_runs _ _ _ _ _ _, fun _ => rfl⟩
  · cases hr
noncomputable def K_rmost : List (Nat × Summ) := (74, tplS rmost_tpl rmost_out) :: K_rleast
theorem known_rmost : Known Try.prog (sums K_rmost) L_ov := known_cons known_rleast rmost_ok
noncomputable def aext_tpl : Tpl := ⟨[.agg [.int .i64, .int .i64, .int .i64, .int .i64, .int .i64, .int .i64, .int .i64, .int .i64, .int .i64, .int .i64, .int .i64, .int .i64, .int .i64, .bool, .int .i64, .bool, .int .i64, .int .i64, .int .i64, .int .i64, .int .i64, .bool]], [], 0⟩
noncomputable def aext_s0 (f0 : Int) (f1 : Int) (f2 : Int) (t0 : Int) (t1 : Int) (t2 : Int) (p : Int) (c0 : Int) (c1 : Int) (c2 : Int) : Int :=
  IntKind.i64.wrap
    (wSqrt_0
        (if
            vinner_0 (aspokes_0 t0 t1 t2 p c0 c1 c2) (aspokes_1 t0 t1 t2 p c0 c1 c2) (aspokes_0 t0 t1 t2 p c0 c1 c2) (aspokes_1 t0 t1 t2 p c0 c1 c2) >
              vinner_0 (aspokes_0 f0 f1 f2 p c0 c1 c2) (aspokes_1 f0 f1 f2 p c0 c1 c2) (aspokes_0 f0 f1 f2 p c0 c1 c2) (aspokes_1 f0 f1 f2 p c0 c1 c2) then
          vinner_0 (aspokes_0 t0 t1 t2 p c0 c1 c2) (aspokes_1 t0 t1 t2 p c0 c1 c2) (aspokes_0 t0 t1 t2 p c0 c1 c2) (aspokes_1 t0 t1 t2 p c0 c1 c2)
        else vinner_0 (aspokes_0 f0 f1 f2 p c0 c1 c2) (aspokes_1 f0 f1 f2 p c0 c1 c2) (aspokes_0 f0 f1 f2 p c0 c1 c2) (aspokes_1 f0 f1 f2 p c0 c1 c2))
        1 *
      1)
noncomputable def aext_s1 (f0 : Int) (f1 : Int) (f2 : Int) (t0 : Int) (t1 : Int) (t2 : Int) (p : Int) (c0 : Int) (c1 : Int) (c2 : Int) : Int :=
  IntKind.i64.wrap
    (wSqrt_0
        (if
            vinner_0 (aspokes_0 t0 t1 t2 p c0 c1 c2) (aspokes_1 t0 t1 t2 p c0 c1 c2) (aspokes_0 t0 t1 t2 p c0 c1 c2) (aspokes_1 t0 t1 t2 p c0 c1 c2) >
              vinner_0 (aspokes_0 f0 f1 f2 p c0 c1 c2) (aspokes_1 f0 f1 f2 p c0 c1 c2) (aspokes_0 f0 f1 f2 p c0 c1 c2) (aspokes_1 f0 f1 f2 p c0 c1 c2) then
          vinner_0 (aspokes_0 t0 t1 t2 p c0 c1 c2) (aspokes_1 t0 t1 t2 p c0 c1 c2) (aspokes_0 t0 t1 t2 p c0 c1 c2) (aspokes_1 t0 t1 t2 p c0 c1 c2)
        else vinner_0 (aspokes_0 f0 f1 f2 p c0 c1 c2) (aspokes_1 f0 f1 f2 p c0 c1 c2) (aspokes_0 f0 f1 f2 p c0 c1 c2) (aspokes_1 f0 f1 f2 p c0 c1 c2))
        1 *
      0)
noncomputable def aext_s2 (f0 : Int) (f1 : Int) (f2 : Int) (t0 : Int) (t1 : Int) (t2 : Int) (p : Int) (c0 : Int) (c1 : Int) (c2 : Int) : Int :=
  IntKind.i64.wrap (flat_1 p c0 c1 c2 + aext_s1 f0 f1 f2 t0 t1 t2 p c0 c1 c2)
noncomputable def aext_s3 (f0 : Int) (f1 : Int) (f2 : Int) (t0 : Int) (t1 : Int) (t2 : Int) (p : Int) (c0 : Int) (c1 : Int) (c2 : Int) (d : Int) (fu : Bool) : Int :=
  bif !ainside_0 f0 f1 f2 t0 t1 t2 p c0 c1 c2 d fu 1 0 then abox_0 f0 t0
  else abox_0 (abox_0 f0 t0) (solid_0 p (IntKind.i64.wrap (flat_0 p c0 c1 c2 + aext_s0 f0 f1 f2 t0 t1 t2 p c0 c1 c2)) (aext_s2 f0 f1 f2 t0 t1 t2 p c0 c1 c2) (flat_2 p c0 c1 c2))
noncomputable def aext_s4 (f0 : Int) (f1 : Int) (f2 : Int) (t0 : Int) (t1 : Int) (t2 : Int) (p : Int) (c0 : Int) (c1 : Int) (c2 : Int) (d : Int) (fu : Bool) : Int :=
  bif !ainside_0 f0 f1 f2 t0 t1 t2 p c0 c1 c2 d fu 0 1 then aext_s3 f0 f1 f2 t0 t1 t2 p c0 c1 c2 d fu
  else
    abox_0 (aext_s3 f0 f1 f2 t0 t1 t2 p c0 c1 c2 d fu)
      (solid_0 p (IntKind.i64.wrap (flat_0 p c0 c1 c2 + aext_s1 f0 f1 f2 t0 t1 t2 p c0 c1 c2)) (IntKind.i64.wrap (flat_1 p c0 c1 c2 + aext_s0 f0 f1 f2 t0 t1 t2 p c0 c1 c2)) (flat_2 p c0 c1 c2))
noncomputable def aext_s5 (f0 : Int) (f1 : Int) (f2 : Int) (t0 : Int) (t1 : Int) (t2 : Int) (p : Int) (c0 : Int) (c1 : Int) (c2 : Int) : Int :=
  IntKind.i64.wrap
    (wSqrt_0
        (if
            vinner_0 (aspokes_0 t0 t1 t2 p c0 c1 c2) (aspokes_1 t0 t1 t2 p c0 c1 c2) (aspokes_0 t0 t1 t2 p c0 c1 c2) (aspokes_1 t0 t1 t2 p c0 c1 c2) >
              vinner_0 (aspokes_0 f0 f1 f2 p c0 c1 c2) (aspokes_1 f0 f1 f2 p c0 c1 c2) (aspokes_0 f0 f1 f2 p c0 c1 c2) (aspokes_1 f0 f1 f2 p c0 c1 c2) then
          vinner_0 (aspokes_0 t0 t1 t2 p c0 c1 c2) (aspokes_1 t0 t1 t2 p c0 c1 c2) (aspokes_0 t0 t1 t2 p c0 c1 c2) (aspokes_1 t0 t1 t2 p c0 c1 c2)
        else vinner_0 (aspokes_0 f0 f1 f2 p c0 c1 c2) (aspokes_1 f0 f1 f2 p c0 c1 c2) (aspokes_0 f0 f1 f2 p c0 c1 c2) (aspokes_1 f0 f1 f2 p c0 c1 c2))
        1 *
      -1)
noncomputable def aext_s6 (f0 : Int) (f1 : Int) (f2 : Int) (t0 : Int) (t1 : Int) (t2 : Int) (p : Int) (c0 : Int) (c1 : Int) (c2 : Int) (d : Int) (fu : Bool) : Int :=
  bif !ainside_0 f0 f1 f2 t0 t1 t2 p c0 c1 c2 d fu (-1) 0 then aext_s4 f0 f1 f2 t0 t1 t2 p c0 c1 c2 d fu
  else
    abox_0 (aext_s4 f0 f1 f2 t0 t1 t2 p c0 c1 c2 d fu)
      (solid_0 p (IntKind.i64.wrap (flat_0 p c0 c1 c2 + aext_s5 f0 f1 f2 t0 t1 t2 p c0 c1 c2)) (aext_s2 f0 f1 f2 t0 t1 t2 p c0 c1 c2) (flat_2 p c0 c1 c2))
noncomputable def aext_0 (k : Int) (f0 : Int) (f1 : Int) (f2 : Int) (t0 : Int) (t1 : Int) (t2 : Int) (p : Int) (c0 : Int) (c1 : Int) (c2 : Int) (d : Int) (fu : Bool) : Int :=
  bif k != 3 then abox_0 f0 t0
  else
    bif !ainside_0 f0 f1 f2 t0 t1 t2 p c0 c1 c2 d fu 0 (-1) then aext_s6 f0 f1 f2 t0 t1 t2 p c0 c1 c2 d fu
    else
      abox_0 (aext_s6 f0 f1 f2 t0 t1 t2 p c0 c1 c2 d fu)
        (solid_0 p (IntKind.i64.wrap (flat_0 p c0 c1 c2 + aext_s1 f0 f1 f2 t0 t1 t2 p c0 c1 c2)) (IntKind.i64.wrap (flat_1 p c0 c1 c2 + aext_s5 f0 f1 f2 t0 t1 t2 p c0 c1 c2)) (flat_2 p c0 c1 c2))
noncomputable def aext_s7 (f0 : Int) (f1 : Int) (f2 : Int) (t0 : Int) (t1 : Int) (t2 : Int) (p : Int) (c0 : Int) (c1 : Int) (c2 : Int) (d : Int) (fu : Bool) : Int :=
  bif !ainside_0 f0 f1 f2 t0 t1 t2 p c0 c1 c2 d fu 1 0 then abox_0 f1 t1
  else abox_0 (abox_0 f1 t1) (solid_1 p (IntKind.i64.wrap (flat_0 p c0 c1 c2 + aext_s0 f0 f1 f2 t0 t1 t2 p c0 c1 c2)) (aext_s2 f0 f1 f2 t0 t1 t2 p c0 c1 c2) (flat_2 p c0 c1 c2))
noncomputable def aext_s8 (f0 : Int) (f1 : Int) (f2 : Int) (t0 : Int) (t1 : Int) (t2 : Int) (p : Int) (c0 : Int) (c1 : Int) (c2 : Int) (d : Int) (fu : Bool) : Int :=
  bif !ainside_0 f0 f1 f2 t0 t1 t2 p c0 c1 c2 d fu 0 1 then aext_s7 f0 f1 f2 t0 t1 t2 p c0 c1 c2 d fu
  else
    abox_0 (aext_s7 f0 f1 f2 t0 t1 t2 p c0 c1 c2 d fu)
      (solid_1 p (IntKind.i64.wrap (flat_0 p c0 c1 c2 + aext_s1 f0 f1 f2 t0 t1 t2 p c0 c1 c2)) (IntKind.i64.wrap (flat_1 p c0 c1 c2 + aext_s0 f0 f1 f2 t0 t1 t2 p c0 c1 c2)) (flat_2 p c0 c1 c2))
noncomputable def aext_s9 (f0 : Int) (f1 : Int) (f2 : Int) (t0 : Int) (t1 : Int) (t2 : Int) (p : Int) (c0 : Int) (c1 : Int) (c2 : Int) (d : Int) (fu : Bool) : Int :=
  bif !ainside_0 f0 f1 f2 t0 t1 t2 p c0 c1 c2 d fu (-1) 0 then aext_s8 f0 f1 f2 t0 t1 t2 p c0 c1 c2 d fu
  else
    abox_0 (aext_s8 f0 f1 f2 t0 t1 t2 p c0 c1 c2 d fu)
      (solid_1 p (IntKind.i64.wrap (flat_0 p c0 c1 c2 + aext_s5 f0 f1 f2 t0 t1 t2 p c0 c1 c2)) (aext_s2 f0 f1 f2 t0 t1 t2 p c0 c1 c2) (flat_2 p c0 c1 c2))
noncomputable def aext_1 (k : Int) (f0 : Int) (f1 : Int) (f2 : Int) (t0 : Int) (t1 : Int) (t2 : Int) (p : Int) (c0 : Int) (c1 : Int) (c2 : Int) (d : Int) (fu : Bool) : Int :=
  bif k != 3 then abox_0 f1 t1
  else
    bif !ainside_0 f0 f1 f2 t0 t1 t2 p c0 c1 c2 d fu 0 (-1) then aext_s9 f0 f1 f2 t0 t1 t2 p c0 c1 c2 d fu
    else
      abox_0 (aext_s9 f0 f1 f2 t0 t1 t2 p c0 c1 c2 d fu)
        (solid_1 p (IntKind.i64.wrap (flat_0 p c0 c1 c2 + aext_s1 f0 f1 f2 t0 t1 t2 p c0 c1 c2)) (IntKind.i64.wrap (flat_1 p c0 c1 c2 + aext_s5 f0 f1 f2 t0 t1 t2 p c0 c1 c2)) (flat_2 p c0 c1 c2))
noncomputable def aext_s10 (f0 : Int) (f1 : Int) (f2 : Int) (t0 : Int) (t1 : Int) (t2 : Int) (p : Int) (c0 : Int) (c1 : Int) (c2 : Int) (d : Int) (fu : Bool) : Int :=
  bif !ainside_0 f0 f1 f2 t0 t1 t2 p c0 c1 c2 d fu 1 0 then abox_0 f2 t2
  else abox_0 (abox_0 f2 t2) (solid_2 p (IntKind.i64.wrap (flat_0 p c0 c1 c2 + aext_s0 f0 f1 f2 t0 t1 t2 p c0 c1 c2)) (aext_s2 f0 f1 f2 t0 t1 t2 p c0 c1 c2) (flat_2 p c0 c1 c2))
noncomputable def aext_s11 (f0 : Int) (f1 : Int) (f2 : Int) (t0 : Int) (t1 : Int) (t2 : Int) (p : Int) (c0 : Int) (c1 : Int) (c2 : Int) (d : Int) (fu : Bool) : Int :=
  bif !ainside_0 f0 f1 f2 t0 t1 t2 p c0 c1 c2 d fu 0 1 then aext_s10 f0 f1 f2 t0 t1 t2 p c0 c1 c2 d fu
  else
    abox_0 (aext_s10 f0 f1 f2 t0 t1 t2 p c0 c1 c2 d fu)
      (solid_2 p (IntKind.i64.wrap (flat_0 p c0 c1 c2 + aext_s1 f0 f1 f2 t0 t1 t2 p c0 c1 c2)) (IntKind.i64.wrap (flat_1 p c0 c1 c2 + aext_s0 f0 f1 f2 t0 t1 t2 p c0 c1 c2)) (flat_2 p c0 c1 c2))
noncomputable def aext_s12 (f0 : Int) (f1 : Int) (f2 : Int) (t0 : Int) (t1 : Int) (t2 : Int) (p : Int) (c0 : Int) (c1 : Int) (c2 : Int) (d : Int) (fu : Bool) : Int :=
  bif !ainside_0 f0 f1 f2 t0 t1 t2 p c0 c1 c2 d fu (-1) 0 then aext_s11 f0 f1 f2 t0 t1 t2 p c0 c1 c2 d fu
  else
    abox_0 (aext_s11 f0 f1 f2 t0 t1 t2 p c0 c1 c2 d fu)
      (solid_2 p (IntKind.i64.wrap (flat_0 p c0 c1 c2 + aext_s5 f0 f1 f2 t0 t1 t2 p c0 c1 c2)) (aext_s2 f0 f1 f2 t0 t1 t2 p c0 c1 c2) (flat_2 p c0 c1 c2))
noncomputable def aext_2 (k : Int) (f0 : Int) (f1 : Int) (f2 : Int) (t0 : Int) (t1 : Int) (t2 : Int) (p : Int) (c0 : Int) (c1 : Int) (c2 : Int) (d : Int) (fu : Bool) : Int :=
  bif k != 3 then abox_0 f2 t2
  else
    bif !ainside_0 f0 f1 f2 t0 t1 t2 p c0 c1 c2 d fu 0 (-1) then aext_s12 f0 f1 f2 t0 t1 t2 p c0 c1 c2 d fu
    else
      abox_0 (aext_s12 f0 f1 f2 t0 t1 t2 p c0 c1 c2 d fu)
        (solid_2 p (IntKind.i64.wrap (flat_0 p c0 c1 c2 + aext_s1 f0 f1 f2 t0 t1 t2 p c0 c1 c2)) (IntKind.i64.wrap (flat_1 p c0 c1 c2 + aext_s5 f0 f1 f2 t0 t1 t2 p c0 c1 c2)) (flat_2 p c0 c1 c2))
noncomputable def aext_s13 (f0 : Int) (f1 : Int) (f2 : Int) (t0 : Int) (t1 : Int) (t2 : Int) (p : Int) (c0 : Int) (c1 : Int) (c2 : Int) (d : Int) (fu : Bool) : Int :=
  bif !ainside_0 f0 f1 f2 t0 t1 t2 p c0 c1 c2 d fu 1 0 then abox_3 f0 t0
  else abox_3 (abox_3 f0 t0) (solid_0 p (IntKind.i64.wrap (flat_0 p c0 c1 c2 + aext_s0 f0 f1 f2 t0 t1 t2 p c0 c1 c2)) (aext_s2 f0 f1 f2 t0 t1 t2 p c0 c1 c2) (flat_2 p c0 c1 c2))
noncomputable def aext_s14 (f0 : Int) (f1 : Int) (f2 : Int) (t0 : Int) (t1 : Int) (t2 : Int) (p : Int) (c0 : Int) (c1 : Int) (c2 : Int) (d : Int) (fu : Bool) : Int :=
  bif !ainside_0 f0 f1 f2 t0 t1 t2 p c0 c1 c2 d fu 0 1 then aext_s13 f0 f1 f2 t0 t1 t2 p c0 c1 c2 d fu
  else
    abox_3 (aext_s13 f0 f1 f2 t0 t1 t2 p c0 c1 c2 d fu)
      (solid_0 p (IntKind.i64.wrap (flat_0 p c0 c1 c2 + aext_s1 f0 f1 f2 t0 t1 t2 p c0 c1 c2)) (IntKind.i64.wrap (flat_1 p c0 c1 c2 + aext_s0 f0 f1 f2 t0 t1 t2 p c0 c1 c2)) (flat_2 p c0 c1 c2))
noncomputable def aext_s15 (f0 : Int) (f1 : Int) (f2 : Int) (t0 : Int) (t1 : Int) (t2 : Int) (p : Int) (c0 : Int) (c1 : Int) (c2 : Int) (d : Int) (fu : Bool) : Int :=
  bif !ainside_0 f0 f1 f2 t0 t1 t2 p c0 c1 c2 d fu (-1) 0 then aext_s14 f0 f1 f2 t0 t1 t2 p c0 c1 c2 d fu
  else
    abox_3 (aext_s14 f0 f1 f2 t0 t1 t2 p c0 c1 c2 d fu)
      (solid_0 p (IntKind.i64.wrap (flat_0 p c0 c1 c2 + aext_s5 f0 f1 f2 t0 t1 t2 p c0 c1 c2)) (aext_s2 f0 f1 f2 t0 t1 t2 p c0 c1 c2) (flat_2 p c0 c1 c2))
noncomputable def aext_3 (k : Int) (f0 : Int) (f1 : Int) (f2 : Int) (t0 : Int) (t1 : Int) (t2 : Int) (p : Int) (c0 : Int) (c1 : Int) (c2 : Int) (d : Int) (fu : Bool) : Int :=
  bif k != 3 then abox_3 f0 t0
  else
    bif !ainside_0 f0 f1 f2 t0 t1 t2 p c0 c1 c2 d fu 0 (-1) then aext_s15 f0 f1 f2 t0 t1 t2 p c0 c1 c2 d fu
    else
      abox_3 (aext_s15 f0 f1 f2 t0 t1 t2 p c0 c1 c2 d fu)
        (solid_0 p (IntKind.i64.wrap (flat_0 p c0 c1 c2 + aext_s1 f0 f1 f2 t0 t1 t2 p c0 c1 c2)) (IntKind.i64.wrap (flat_1 p c0 c1 c2 + aext_s5 f0 f1 f2 t0 t1 t2 p c0 c1 c2)) (flat_2 p c0 c1 c2))
noncomputable def aext_s16 (f0 : Int) (f1 : Int) (f2 : Int) (t0 : Int) (t1 : Int) (t2 : Int) (p : Int) (c0 : Int) (c1 : Int) (c2 : Int) (d : Int) (fu : Bool) : Int :=
  bif !ainside_0 f0 f1 f2 t0 t1 t2 p c0 c1 c2 d fu 1 0 then abox_3 f1 t1
  else abox_3 (abox_3 f1 t1) (solid_1 p (IntKind.i64.wrap (flat_0 p c0 c1 c2 + aext_s0 f0 f1 f2 t0 t1 t2 p c0 c1 c2)) (aext_s2 f0 f1 f2 t0 t1 t2 p c0 c1 c2) (flat_2 p c0 c1 c2))
noncomputable def aext_s17 (f0 : Int) (f1 : Int) (f2 : Int) (t0 : Int) (t1 : Int) (t2 : Int) (p : Int) (c0 : Int) (c1 : Int) (c2 : Int) (d : Int) (fu : Bool) : Int :=
  bif !ainside_0 f0 f1 f2 t0 t1 t2 p c0 c1 c2 d fu 0 1 then aext_s16 f0 f1 f2 t0 t1 t2 p c0 c1 c2 d fu
  else
    abox_3 (aext_s16 f0 f1 f2 t0 t1 t2 p c0 c1 c2 d fu)
      (solid_1 p (IntKind.i64.wrap (flat_0 p c0 c1 c2 + aext_s1 f0 f1 f2 t0 t1 t2 p c0 c1 c2)) (IntKind.i64.wrap (flat_1 p c0 c1 c2 + aext_s0 f0 f1 f2 t0 t1 t2 p c0 c1 c2)) (flat_2 p c0 c1 c2))
noncomputable def aext_s18 (f0 : Int) (f1 : Int) (f2 : Int) (t0 : Int) (t1 : Int) (t2 : Int) (p : Int) (c0 : Int) (c1 : Int) (c2 : Int) (d : Int) (fu : Bool) : Int :=
  bif !ainside_0 f0 f1 f2 t0 t1 t2 p c0 c1 c2 d fu (-1) 0 then aext_s17 f0 f1 f2 t0 t1 t2 p c0 c1 c2 d fu
  else
    abox_3 (aext_s17 f0 f1 f2 t0 t1 t2 p c0 c1 c2 d fu)
      (solid_1 p (IntKind.i64.wrap (flat_0 p c0 c1 c2 + aext_s5 f0 f1 f2 t0 t1 t2 p c0 c1 c2)) (aext_s2 f0 f1 f2 t0 t1 t2 p c0 c1 c2) (flat_2 p c0 c1 c2))
noncomputable def aext_4 (k : Int) (f0 : Int) (f1 : Int) (f2 : Int) (t0 : Int) (t1 : Int) (t2 : Int) (p : Int) (c0 : Int) (c1 : Int) (c2 : Int) (d : Int) (fu : Bool) : Int :=
  bif k != 3 then abox_3 f1 t1
  else
    bif !ainside_0 f0 f1 f2 t0 t1 t2 p c0 c1 c2 d fu 0 (-1) then aext_s18 f0 f1 f2 t0 t1 t2 p c0 c1 c2 d fu
    else
      abox_3 (aext_s18 f0 f1 f2 t0 t1 t2 p c0 c1 c2 d fu)
        (solid_1 p (IntKind.i64.wrap (flat_0 p c0 c1 c2 + aext_s1 f0 f1 f2 t0 t1 t2 p c0 c1 c2)) (IntKind.i64.wrap (flat_1 p c0 c1 c2 + aext_s5 f0 f1 f2 t0 t1 t2 p c0 c1 c2)) (flat_2 p c0 c1 c2))
noncomputable def aext_s19 (f0 : Int) (f1 : Int) (f2 : Int) (t0 : Int) (t1 : Int) (t2 : Int) (p : Int) (c0 : Int) (c1 : Int) (c2 : Int) (d : Int) (fu : Bool) : Int :=
  bif !ainside_0 f0 f1 f2 t0 t1 t2 p c0 c1 c2 d fu 1 0 then abox_3 f2 t2
  else abox_3 (abox_3 f2 t2) (solid_2 p (IntKind.i64.wrap (flat_0 p c0 c1 c2 + aext_s0 f0 f1 f2 t0 t1 t2 p c0 c1 c2)) (aext_s2 f0 f1 f2 t0 t1 t2 p c0 c1 c2) (flat_2 p c0 c1 c2))
noncomputable def aext_s20 (f0 : Int) (f1 : Int) (f2 : Int) (t0 : Int) (t1 : Int) (t2 : Int) (p : Int) (c0 : Int) (c1 : Int) (c2 : Int) (d : Int) (fu : Bool) : Int :=
  bif !ainside_0 f0 f1 f2 t0 t1 t2 p c0 c1 c2 d fu 0 1 then aext_s19 f0 f1 f2 t0 t1 t2 p c0 c1 c2 d fu
  else
    abox_3 (aext_s19 f0 f1 f2 t0 t1 t2 p c0 c1 c2 d fu)
      (solid_2 p (IntKind.i64.wrap (flat_0 p c0 c1 c2 + aext_s1 f0 f1 f2 t0 t1 t2 p c0 c1 c2)) (IntKind.i64.wrap (flat_1 p c0 c1 c2 + aext_s0 f0 f1 f2 t0 t1 t2 p c0 c1 c2)) (flat_2 p c0 c1 c2))
noncomputable def aext_s21 (f0 : Int) (f1 : Int) (f2 : Int) (t0 : Int) (t1 : Int) (t2 : Int) (p : Int) (c0 : Int) (c1 : Int) (c2 : Int) (d : Int) (fu : Bool) : Int :=
  bif !ainside_0 f0 f1 f2 t0 t1 t2 p c0 c1 c2 d fu (-1) 0 then aext_s20 f0 f1 f2 t0 t1 t2 p c0 c1 c2 d fu
  else
    abox_3 (aext_s20 f0 f1 f2 t0 t1 t2 p c0 c1 c2 d fu)
      (solid_2 p (IntKind.i64.wrap (flat_0 p c0 c1 c2 + aext_s5 f0 f1 f2 t0 t1 t2 p c0 c1 c2)) (aext_s2 f0 f1 f2 t0 t1 t2 p c0 c1 c2) (flat_2 p c0 c1 c2))
noncomputable def aext_5 (k : Int) (f0 : Int) (f1 : Int) (f2 : Int) (t0 : Int) (t1 : Int) (t2 : Int) (p : Int) (c0 : Int) (c1 : Int) (c2 : Int) (d : Int) (fu : Bool) : Int :=
  bif k != 3 then abox_3 f2 t2
  else
    bif !ainside_0 f0 f1 f2 t0 t1 t2 p c0 c1 c2 d fu 0 (-1) then aext_s21 f0 f1 f2 t0 t1 t2 p c0 c1 c2 d fu
    else
      abox_3 (aext_s21 f0 f1 f2 t0 t1 t2 p c0 c1 c2 d fu)
        (solid_2 p (IntKind.i64.wrap (flat_0 p c0 c1 c2 + aext_s1 f0 f1 f2 t0 t1 t2 p c0 c1 c2)) (IntKind.i64.wrap (flat_1 p c0 c1 c2 + aext_s5 f0 f1 f2 t0 t1 t2 p c0 c1 c2)) (flat_2 p c0 c1 c2))
noncomputable def aext_s22 (f0 : Int) (f1 : Int) (f2 : Int) (t0 : Int) (t1 : Int) (t2 : Int) (p : Int) (c0 : Int) (c1 : Int) (c2 : Int) : Int :=
  if
      vinner_0 (aspokes_0 t0 t1 t2 p c0 c1 c2) (aspokes_1 t0 t1 t2 p c0 c1 c2) (aspokes_0 t0 t1 t2 p c0 c1 c2) (aspokes_1 t0 t1 t2 p c0 c1 c2) >
        vinner_0 (aspokes_0 f0 f1 f2 p c0 c1 c2) (aspokes_1 f0 f1 f2 p c0 c1 c2) (aspokes_0 f0 f1 f2 p c0 c1 c2) (aspokes_1 f0 f1 f2 p c0 c1 c2) then
    vinner_0 (aspokes_0 t0 t1 t2 p c0 c1 c2) (aspokes_1 t0 t1 t2 p c0 c1 c2) (aspokes_0 t0 t1 t2 p c0 c1 c2) (aspokes_1 t0 t1 t2 p c0 c1 c2)
  else vinner_0 (aspokes_0 f0 f1 f2 p c0 c1 c2) (aspokes_1 f0 f1 f2 p c0 c1 c2) (aspokes_0 f0 f1 f2 p c0 c1 c2) (aspokes_1 f0 f1 f2 p c0 c1 c2)
noncomputable def aext_needs (k : Int) (f0 : Int) (f1 : Int) (f2 : Int) (t0 : Int) (t1 : Int) (t2 : Int) (p : Int) (c0 : Int) (c1 : Int) (c2 : Int) : List Prop :=
  [(k != 3) = false → -9223372036854775808 ≤ aext_s22 f0 f1 f2 t0 t1 t2 p c0 c1 c2 ∧ aext_s22 f0 f1 f2 t0 t1 t2 p c0 c1 c2 < 9223372036854775808]
theorem aext_need {k : Int} {f0 : Int} {f1 : Int} {f2 : Int} {t0 : Int} {t1 : Int} {t2 : Int} {p : Int} {c0 : Int} {c1 : Int} {c2 : Int} : ∀ q ∈ (aext_needs k f0 f1 f2 t0 t1 t2 p c0 c1 c2), q := by
  unfold aext_needs
  simp only [List.forall_mem_cons, List.not_mem_nil, false_implies, implies_true, and_true]
  intro _
  show isI (if _ then _ else _)
  split <;> exact wrap_isI _
set_option maxRecDepth 1000000 in
theorem aext_runs (k bl f0 f1 f2 t0 t1 t2 p c0 c1 c2 d : Int) (fu : Bool) (fe : Int) (pr : Bool) (si ra be n sp : Int) (on : Bool) (hNeeds : ∀ pN ∈ (aext_needs k f0 f1 f2 t0 t1 t2 p c0 c1 c2), pN) : Runs (runF (sums K_rmost) L_ov 39) (aext_tpl.args [.i k, .i bl, .i f0, .i f1, .i f2, .i t0, .i t1, .i t2, .i p, .i c0, .i c1, .i c2, .i d, .b fu, .i fe, .b pr, .i si, .i ra, .i be, .i n, .i sp, .b on]) (aext_tpl.memo [.i k, .i bl, .i f0, .i f1, .i f2, .i t0, .i t1, .i t2, .i p, .i c0, .i c1, .i c2, .i d, .b fu, .i fe, .b pr, .i si, .i ra, .i be, .i n, .i sp, .b on] []) aext_tpl.n (SV.tup
    [(true,
        [SC.int IntKind.i64 (SI.v (aext_0 k f0 f1 f2 t0 t1 t2 p c0 c1 c2 d fu)), SC.int IntKind.i64 (SI.v (aext_1 k f0 f1 f2 t0 t1 t2 p c0 c1 c2 d fu)),
          SC.int IntKind.i64 (SI.v (aext_2 k f0 f1 f2 t0 t1 t2 p c0 c1 c2 d fu))]),
      (true,
        [SC.int IntKind.i64 (SI.v (aext_3 k f0 f1 f2 t0 t1 t2 p c0 c1 c2 d fu)), SC.int IntKind.i64 (SI.v (aext_4 k f0 f1 f2 t0 t1 t2 p c0 c1 c2 d fu)),
          SC.int IntKind.i64 (SI.v (aext_5 k f0 f1 f2 t0 t1 t2 p c0 c1 c2 d fu))])])
    ([]) :=
  Runs.of (ps := (aext_needs k f0 f1 f2 t0 t1 t2 p c0 c1 c2)) (by kernel_rfl) (by kernel_rfl) hNeeds
noncomputable def aext_out : List Pm → Lss → Option CRes
  | [.i k, .i bl, .i f0, .i f1, .i f2, .i t0, .i t1, .i t2, .i p, .i c0, .i c1, .i c2, .i d, .b fu, .i fe, .b pr, .i si, .i ra, .i be, .i n, .i sp, .b on], [] => some ⟨SV.tup
    [(true,
        [SC.int IntKind.i64 (SI.v (aext_0 k f0 f1 f2 t0 t1 t2 p c0 c1 c2 d fu)), SC.int IntKind.i64 (SI.v (aext_1 k f0 f1 f2 t0 t1 t2 p c0 c1 c2 d fu)),
          SC.int IntKind.i64 (SI.v (aext_2 k f0 f1 f2 t0 t1 t2 p c0 c1 c2 d fu))]),
      (true,
        [SC.int IntKind.i64 (SI.v (aext_3 k f0 f1 f2 t0 t1 t2 p c0 c1 c2 d fu)), SC.int IntKind.i64 (SI.v (aext_4 k f0 f1 f2 t0 t1 t2 p c0 c1 c2 d fu)),
          SC.int IntKind.i64 (SI.v (aext_5 k f0 f1 f2 t0 t1 t2 p c0 c1 c2 d fu))])],
    [],
    [], [], 4213⟩
  | _, _ => none
theorem aext_ok : FOk Try.prog 39 (tplS aext_tpl aext_out) := by
  refine tplS_ok (runF_ok known_rmost 39) fun ps ls r hr hn _ => ?_
  unfold aext_out at hr
  split at hr
  · cases hr; exact ⟨_, aext_runs _ _ _ _ _ _ _ _ _ _ _ _ _ _ _ _ _ _ _ _ _ _ (fun p hp => aext_need p hp), fun _ => rfl⟩
  · cases hr
noncomputable def K_aext : List (Nat × Summ) := (39, tplS aext_tpl aext_out) :: K_rmost
theorem known_aext : Known Try.prog (sums K_aext) L_ov := known_cons known_rmost aext_ok
noncomputable def rext_tpl : Tpl := ⟨[.agg [.int .i64, .int .i64, .int .i64, .int .i64, .int .i64, .int .i64, .int .i64, .int .i64, .int .i64, .int .i64, .int .i64, .int .i64, .int .i64, .bool, .int .i64, .bool, .int .i64, .int .i64, .int .i64, .int .i64, .int .i64, .bool]], [], 0⟩
noncomputable def rext_s0 (t0 : Int) (t1 : Int) (t2 : Int) (p : Int) (c0 : Int) (c1 : Int) (c2 : Int) : Int :=
  vinner_0 (minus_0 (flat_0 p t0 t1 t2) (flat_0 p c0 c1 c2)) (minus_0 (flat_1 p t0 t1 t2) (flat_1 p c0 c1 c2)) (minus_0 (flat_0 p t0 t1 t2) (flat_0 p c0 c1 c2))
    (minus_0 (flat_1 p t0 t1 t2) (flat_1 p c0 c1 c2))
noncomputable def rext_s2 (f0 : Int) (f1 : Int) (f2 : Int) (t0 : Int) (t1 : Int) (t2 : Int) (p : Int) (c0 : Int) (c1 : Int) (c2 : Int) : Int :=
  IntKind.i64.wrap (rRoot_0 (if rext_s0 t0 t1 t2 p c0 c1 c2 > rext_s0 f0 f1 f2 p c0 c1 c2 then rext_s0 t0 t1 t2 p c0 c1 c2 else rext_s0 f0 f1 f2 p c0 c1 c2) 1 1 * 1)
noncomputable def rext_s3 (f0 : Int) (f1 : Int) (f2 : Int) (t0 : Int) (t1 : Int) (t2 : Int) (p : Int) (c0 : Int) (c1 : Int) (c2 : Int) : Int :=
  IntKind.i64.wrap (rRoot_0 (if rext_s0 t0 t1 t2 p c0 c1 c2 > rext_s0 f0 f1 f2 p c0 c1 c2 then rext_s0 t0 t1 t2 p c0 c1 c2 else rext_s0 f0 f1 f2 p c0 c1 c2) 1 1 * 0)
noncomputable def rext_s4 (f0 : Int) (f1 : Int) (f2 : Int) (t0 : Int) (t1 : Int) (t2 : Int) (p : Int) (c0 : Int) (c1 : Int) (c2 : Int) : Int :=
  IntKind.i64.wrap (flat_1 p c0 c1 c2 + rext_s3 f0 f1 f2 t0 t1 t2 p c0 c1 c2)
noncomputable def rext_s5 (f0 : Int) (f1 : Int) (f2 : Int) (t0 : Int) (t1 : Int) (t2 : Int) (p : Int) (c0 : Int) (c1 : Int) (c2 : Int) (d : Int) (fu : Bool) : Int :=
  bif rinside_0 f0 f1 f2 t0 t1 t2 p c0 c1 c2 d fu 1 0 then
    abox_0 (abox_0 f0 t0) (solid_0 p (IntKind.i64.wrap (flat_0 p c0 c1 c2 + rext_s2 f0 f1 f2 t0 t1 t2 p c0 c1 c2)) (rext_s4 f0 f1 f2 t0 t1 t2 p c0 c1 c2) (flat_2 p f0 f1 f2))
  else abox_0 f0 t0
noncomputable def rext_s6 (f0 : Int) (f1 : Int) (f2 : Int) (t0 : Int) (t1 : Int) (t2 : Int) (p : Int) (c0 : Int) (c1 : Int) (c2 : Int) (d : Int) (fu : Bool) : Int :=
  bif rinside_0 f0 f1 f2 t0 t1 t2 p c0 c1 c2 d fu 0 1 then
    abox_0 (rext_s5 f0 f1 f2 t0 t1 t2 p c0 c1 c2 d fu)
      (solid_0 p (IntKind.i64.wrap (flat_0 p c0 c1 c2 + rext_s3 f0 f1 f2 t0 t1 t2 p c0 c1 c2)) (IntKind.i64.wrap (flat_1 p c0 c1 c2 + rext_s2 f0 f1 f2 t0 t1 t2 p c0 c1 c2)) (flat_2 p f0 f1 f2))
  else rext_s5 f0 f1 f2 t0 t1 t2 p c0 c1 c2 d fu
noncomputable def rext_s7 (f0 : Int) (f1 : Int) (f2 : Int) (t0 : Int) (t1 : Int) (t2 : Int) (p : Int) (c0 : Int) (c1 : Int) (c2 : Int) : Int :=
  IntKind.i64.wrap (rRoot_0 (if rext_s0 t0 t1 t2 p c0 c1 c2 > rext_s0 f0 f1 f2 p c0 c1 c2 then rext_s0 t0 t1 t2 p c0 c1 c2 else rext_s0 f0 f1 f2 p c0 c1 c2) 1 1 * -1)
noncomputable def rext_s8 (f0 : Int) (f1 : Int) (f2 : Int) (t0 : Int) (t1 : Int) (t2 : Int) (p : Int) (c0 : Int) (c1 : Int) (c2 : Int) (d : Int) (fu : Bool) : Int :=
  bif rinside_0 f0 f1 f2 t0 t1 t2 p c0 c1 c2 d fu (-1) 0 then
    abox_0 (rext_s6 f0 f1 f2 t0 t1 t2 p c0 c1 c2 d fu)
      (solid_0 p (IntKind.i64.wrap (flat_0 p c0 c1 c2 + rext_s7 f0 f1 f2 t0 t1 t2 p c0 c1 c2)) (rext_s4 f0 f1 f2 t0 t1 t2 p c0 c1 c2) (flat_2 p f0 f1 f2))
  else rext_s6 f0 f1 f2 t0 t1 t2 p c0 c1 c2 d fu
noncomputable def rext_0 (k : Int) (f0 : Int) (f1 : Int) (f2 : Int) (t0 : Int) (t1 : Int) (t2 : Int) (p : Int) (c0 : Int) (c1 : Int) (c2 : Int) (d : Int) (fu : Bool) : Int :=
  bif k != 3 then abox_0 f0 t0
  else
    bif rinside_0 f0 f1 f2 t0 t1 t2 p c0 c1 c2 d fu 0 (-1) then
      abox_0 (rext_s8 f0 f1 f2 t0 t1 t2 p c0 c1 c2 d fu)
        (solid_0 p (IntKind.i64.wrap (flat_0 p c0 c1 c2 + rext_s3 f0 f1 f2 t0 t1 t2 p c0 c1 c2)) (IntKind.i64.wrap (flat_1 p c0 c1 c2 + rext_s7 f0 f1 f2 t0 t1 t2 p c0 c1 c2)) (flat_2 p f0 f1 f2))
    else rext_s8 f0 f1 f2 t0 t1 t2 p c0 c1 c2 d fu
noncomputable def rext_s9 (f0 : Int) (f1 : Int) (f2 : Int) (t0 : Int) (t1 : Int) (t2 : Int) (p : Int) (c0 : Int) (c1 : Int) (c2 : Int) (d : Int) (fu : Bool) : Int :=
  bif rinside_0 f0 f1 f2 t0 t1 t2 p c0 c1 c2 d fu 1 0 then
    abox_0 (abox_0 f1 t1) (solid_1 p (IntKind.i64.wrap (flat_0 p c0 c1 c2 + rext_s2 f0 f1 f2 t0 t1 t2 p c0 c1 c2)) (rext_s4 f0 f1 f2 t0 t1 t2 p c0 c1 c2) (flat_2 p f0 f1 f2))
  else abox_0 f1 t1
noncomputable def rext_s10 (f0 : Int) (f1 : Int) (f2 : Int) (t0 : Int) (t1 : Int) (t2 : Int) (p : Int) (c0 : Int) (c1 : Int) (c2 : Int) (d : Int) (fu : Bool) : Int :=
  bif rinside_0 f0 f1 f2 t0 t1 t2 p c0 c1 c2 d fu 0 1 then
    abox_0 (rext_s9 f0 f1 f2 t0 t1 t2 p c0 c1 c2 d fu)
      (solid_1 p (IntKind.i64.wrap (flat_0 p c0 c1 c2 + rext_s3 f0 f1 f2 t0 t1 t2 p c0 c1 c2)) (IntKind.i64.wrap (flat_1 p c0 c1 c2 + rext_s2 f0 f1 f2 t0 t1 t2 p c0 c1 c2)) (flat_2 p f0 f1 f2))
  else rext_s9 f0 f1 f2 t0 t1 t2 p c0 c1 c2 d fu
noncomputable def rext_s11 (f0 : Int) (f1 : Int) (f2 : Int) (t0 : Int) (t1 : Int) (t2 : Int) (p : Int) (c0 : Int) (c1 : Int) (c2 : Int) (d : Int) (fu : Bool) : Int :=
  bif rinside_0 f0 f1 f2 t0 t1 t2 p c0 c1 c2 d fu (-1) 0 then
    abox_0 (rext_s10 f0 f1 f2 t0 t1 t2 p c0 c1 c2 d fu)
      (solid_1 p (IntKind.i64.wrap (flat_0 p c0 c1 c2 + rext_s7 f0 f1 f2 t0 t1 t2 p c0 c1 c2)) (rext_s4 f0 f1 f2 t0 t1 t2 p c0 c1 c2) (flat_2 p f0 f1 f2))
  else rext_s10 f0 f1 f2 t0 t1 t2 p c0 c1 c2 d fu
noncomputable def rext_1 (k : Int) (f0 : Int) (f1 : Int) (f2 : Int) (t0 : Int) (t1 : Int) (t2 : Int) (p : Int) (c0 : Int) (c1 : Int) (c2 : Int) (d : Int) (fu : Bool) : Int :=
  bif k != 3 then abox_0 f1 t1
  else
    bif rinside_0 f0 f1 f2 t0 t1 t2 p c0 c1 c2 d fu 0 (-1) then
      abox_0 (rext_s11 f0 f1 f2 t0 t1 t2 p c0 c1 c2 d fu)
        (solid_1 p (IntKind.i64.wrap (flat_0 p c0 c1 c2 + rext_s3 f0 f1 f2 t0 t1 t2 p c0 c1 c2)) (IntKind.i64.wrap (flat_1 p c0 c1 c2 + rext_s7 f0 f1 f2 t0 t1 t2 p c0 c1 c2)) (flat_2 p f0 f1 f2))
    else rext_s11 f0 f1 f2 t0 t1 t2 p c0 c1 c2 d fu
noncomputable def rext_s12 (f0 : Int) (f1 : Int) (f2 : Int) (t0 : Int) (t1 : Int) (t2 : Int) (p : Int) (c0 : Int) (c1 : Int) (c2 : Int) (d : Int) (fu : Bool) : Int :=
  bif rinside_0 f0 f1 f2 t0 t1 t2 p c0 c1 c2 d fu 1 0 then
    abox_0 (abox_0 f2 t2) (solid_2 p (IntKind.i64.wrap (flat_0 p c0 c1 c2 + rext_s2 f0 f1 f2 t0 t1 t2 p c0 c1 c2)) (rext_s4 f0 f1 f2 t0 t1 t2 p c0 c1 c2) (flat_2 p f0 f1 f2))
  else abox_0 f2 t2
noncomputable def rext_s13 (f0 : Int) (f1 : Int) (f2 : Int) (t0 : Int) (t1 : Int) (t2 : Int) (p : Int) (c0 : Int) (c1 : Int) (c2 : Int) (d : Int) (fu : Bool) : Int :=
  bif rinside_0 f0 f1 f2 t0 t1 t2 p c0 c1 c2 d fu 0 1 then
    abox_0 (rext_s12 f0 f1 f2 t0 t1 t2 p c0 c1 c2 d fu)
      (solid_2 p (IntKind.i64.wrap (flat_0 p c0 c1 c2 + rext_s3 f0 f1 f2 t0 t1 t2 p c0 c1 c2)) (IntKind.i64.wrap (flat_1 p c0 c1 c2 + rext_s2 f0 f1 f2 t0 t1 t2 p c0 c1 c2)) (flat_2 p f0 f1 f2))
  else rext_s12 f0 f1 f2 t0 t1 t2 p c0 c1 c2 d fu
noncomputable def rext_s14 (f0 : Int) (f1 : Int) (f2 : Int) (t0 : Int) (t1 : Int) (t2 : Int) (p : Int) (c0 : Int) (c1 : Int) (c2 : Int) (d : Int) (fu : Bool) : Int :=
  bif rinside_0 f0 f1 f2 t0 t1 t2 p c0 c1 c2 d fu (-1) 0 then
    abox_0 (rext_s13 f0 f1 f2 t0 t1 t2 p c0 c1 c2 d fu)
      (solid_2 p (IntKind.i64.wrap (flat_0 p c0 c1 c2 + rext_s7 f0 f1 f2 t0 t1 t2 p c0 c1 c2)) (rext_s4 f0 f1 f2 t0 t1 t2 p c0 c1 c2) (flat_2 p f0 f1 f2))
  else rext_s13 f0 f1 f2 t0 t1 t2 p c0 c1 c2 d fu
noncomputable def rext_2 (k : Int) (f0 : Int) (f1 : Int) (f2 : Int) (t0 : Int) (t1 : Int) (t2 : Int) (p : Int) (c0 : Int) (c1 : Int) (c2 : Int) (d : Int) (fu : Bool) : Int :=
  bif k != 3 then abox_0 f2 t2
  else
    bif rinside_0 f0 f1 f2 t0 t1 t2 p c0 c1 c2 d fu 0 (-1) then
      abox_0 (rext_s14 f0 f1 f2 t0 t1 t2 p c0 c1 c2 d fu)
        (solid_2 p (IntKind.i64.wrap (flat_0 p c0 c1 c2 + rext_s3 f0 f1 f2 t0 t1 t2 p c0 c1 c2)) (IntKind.i64.wrap (flat_1 p c0 c1 c2 + rext_s7 f0 f1 f2 t0 t1 t2 p c0 c1 c2)) (flat_2 p f0 f1 f2))
    else rext_s14 f0 f1 f2 t0 t1 t2 p c0 c1 c2 d fu
noncomputable def rext_s15 (f0 : Int) (f1 : Int) (f2 : Int) (t0 : Int) (t1 : Int) (t2 : Int) (p : Int) (c0 : Int) (c1 : Int) (c2 : Int) (d : Int) (fu : Bool) : Int :=
  bif rinside_0 f0 f1 f2 t0 t1 t2 p c0 c1 c2 d fu 1 0 then
    abox_3 (abox_3 f0 t0) (solid_0 p (IntKind.i64.wrap (flat_0 p c0 c1 c2 + rext_s2 f0 f1 f2 t0 t1 t2 p c0 c1 c2)) (rext_s4 f0 f1 f2 t0 t1 t2 p c0 c1 c2) (flat_2 p f0 f1 f2))
  else abox_3 f0 t0
noncomputable def rext_s16 (f0 : Int) (f1 : Int) (f2 : Int) (t0 : Int) (t1 : Int) (t2 : Int) (p : Int) (c0 : Int) (c1 : Int) (c2 : Int) (d : Int) (fu : Bool) : Int :=
  bif rinside_0 f0 f1 f2 t0 t1 t2 p c0 c1 c2 d fu 0 1 then
    abox_3 (rext_s15 f0 f1 f2 t0 t1 t2 p c0 c1 c2 d fu)
      (solid_0 p (IntKind.i64.wrap (flat_0 p c0 c1 c2 + rext_s3 f0 f1 f2 t0 t1 t2 p c0 c1 c2)) (IntKind.i64.wrap (flat_1 p c0 c1 c2 + rext_s2 f0 f1 f2 t0 t1 t2 p c0 c1 c2)) (flat_2 p f0 f1 f2))
  else rext_s15 f0 f1 f2 t0 t1 t2 p c0 c1 c2 d fu
noncomputable def rext_s17 (f0 : Int) (f1 : Int) (f2 : Int) (t0 : Int) (t1 : Int) (t2 : Int) (p : Int) (c0 : Int) (c1 : Int) (c2 : Int) (d : Int) (fu : Bool) : Int :=
  bif rinside_0 f0 f1 f2 t0 t1 t2 p c0 c1 c2 d fu (-1) 0 then
    abox_3 (rext_s16 f0 f1 f2 t0 t1 t2 p c0 c1 c2 d fu)
      (solid_0 p (IntKind.i64.wrap (flat_0 p c0 c1 c2 + rext_s7 f0 f1 f2 t0 t1 t2 p c0 c1 c2)) (rext_s4 f0 f1 f2 t0 t1 t2 p c0 c1 c2) (flat_2 p f0 f1 f2))
  else rext_s16 f0 f1 f2 t0 t1 t2 p c0 c1 c2 d fu
noncomputable def rext_3 (k : Int) (f0 : Int) (f1 : Int) (f2 : Int) (t0 : Int) (t1 : Int) (t2 : Int) (p : Int) (c0 : Int) (c1 : Int) (c2 : Int) (d : Int) (fu : Bool) : Int :=
  bif k != 3 then abox_3 f0 t0
  else
    bif rinside_0 f0 f1 f2 t0 t1 t2 p c0 c1 c2 d fu 0 (-1) then
      abox_3 (rext_s17 f0 f1 f2 t0 t1 t2 p c0 c1 c2 d fu)
        (solid_0 p (IntKind.i64.wrap (flat_0 p c0 c1 c2 + rext_s3 f0 f1 f2 t0 t1 t2 p c0 c1 c2)) (IntKind.i64.wrap (flat_1 p c0 c1 c2 + rext_s7 f0 f1 f2 t0 t1 t2 p c0 c1 c2)) (flat_2 p f0 f1 f2))
    else rext_s17 f0 f1 f2 t0 t1 t2 p c0 c1 c2 d fu
noncomputable def rext_s18 (f0 : Int) (f1 : Int) (f2 : Int) (t0 : Int) (t1 : Int) (t2 : Int) (p : Int) (c0 : Int) (c1 : Int) (c2 : Int) (d : Int) (fu : Bool) : Int :=
  bif rinside_0 f0 f1 f2 t0 t1 t2 p c0 c1 c2 d fu 1 0 then
    abox_3 (abox_3 f1 t1) (solid_1 p (IntKind.i64.wrap (flat_0 p c0 c1 c2 + rext_s2 f0 f1 f2 t0 t1 t2 p c0 c1 c2)) (rext_s4 f0 f1 f2 t0 t1 t2 p c0 c1 c2) (flat_2 p f0 f1 f2))
  else abox_3 f1 t1
noncomputable def rext_s19 (f0 : Int) (f1 : Int) (f2 : Int) (t0 : Int) (t1 : Int) (t2 : Int) (p : Int) (c0 : Int) (c1 : Int) (c2 : Int) (d : Int) (fu : Bool) : Int :=
  bif rinside_0 f0 f1 f2 t0 t1 t2 p c0 c1 c2 d fu 0 1 then
    abox_3 (rext_s18 f0 f1 f2 t0 t1 t2 p c0 c1 c2 d fu)
      (solid_1 p (IntKind.i64.wrap (flat_0 p c0 c1 c2 + rext_s3 f0 f1 f2 t0 t1 t2 p c0 c1 c2)) (IntKind.i64.wrap (flat_1 p c0 c1 c2 + rext_s2 f0 f1 f2 t0 t1 t2 p c0 c1 c2)) (flat_2 p f0 f1 f2))
  else rext_s18 f0 f1 f2 t0 t1 t2 p c0 c1 c2 d fu
noncomputable def rext_s20 (f0 : Int) (f1 : Int) (f2 : Int) (t0 : Int) (t1 : Int) (t2 : Int) (p : Int) (c0 : Int) (c1 : Int) (c2 : Int) (d : Int) (fu : Bool) : Int :=
  bif rinside_0 f0 f1 f2 t0 t1 t2 p c0 c1 c2 d fu (-1) 0 then
    abox_3 (rext_s19 f0 f1 f2 t0 t1 t2 p c0 c1 c2 d fu)
      (solid_1 p (IntKind.i64.wrap (flat_0 p c0 c1 c2 + rext_s7 f0 f1 f2 t0 t1 t2 p c0 c1 c2)) (rext_s4 f0 f1 f2 t0 t1 t2 p c0 c1 c2) (flat_2 p f0 f1 f2))
  else rext_s19 f0 f1 f2 t0 t1 t2 p c0 c1 c2 d fu
noncomputable def rext_4 (k : Int) (f0 : Int) (f1 : Int) (f2 : Int) (t0 : Int) (t1 : Int) (t2 : Int) (p : Int) (c0 : Int) (c1 : Int) (c2 : Int) (d : Int) (fu : Bool) : Int :=
  bif k != 3 then abox_3 f1 t1
  else
    bif rinside_0 f0 f1 f2 t0 t1 t2 p c0 c1 c2 d fu 0 (-1) then
      abox_3 (rext_s20 f0 f1 f2 t0 t1 t2 p c0 c1 c2 d fu)
        (solid_1 p (IntKind.i64.wrap (flat_0 p c0 c1 c2 + rext_s3 f0 f1 f2 t0 t1 t2 p c0 c1 c2)) (IntKind.i64.wrap (flat_1 p c0 c1 c2 + rext_s7 f0 f1 f2 t0 t1 t2 p c0 c1 c2)) (flat_2 p f0 f1 f2))
    else rext_s20 f0 f1 f2 t0 t1 t2 p c0 c1 c2 d fu
noncomputable def rext_s21 (f0 : Int) (f1 : Int) (f2 : Int) (t0 : Int) (t1 : Int) (t2 : Int) (p : Int) (c0 : Int) (c1 : Int) (c2 : Int) (d : Int) (fu : Bool) : Int :=
  bif rinside_0 f0 f1 f2 t0 t1 t2 p c0 c1 c2 d fu 1 0 then
    abox_3 (abox_3 f2 t2) (solid_2 p (IntKind.i64.wrap (flat_0 p c0 c1 c2 + rext_s2 f0 f1 f2 t0 t1 t2 p c0 c1 c2)) (rext_s4 f0 f1 f2 t0 t1 t2 p c0 c1 c2) (flat_2 p f0 f1 f2))
  else abox_3 f2 t2
noncomputable def rext_s22 (f0 : Int) (f1 : Int) (f2 : Int) (t0 : Int) (t1 : Int) (t2 : Int) (p : Int) (c0 : Int) (c1 : Int) (c2 : Int) (d : Int) (fu : Bool) : Int :=
  bif rinside_0 f0 f1 f2 t0 t1 t2 p c0 c1 c2 d fu 0 1 then
    abox_3 (rext_s21 f0 f1 f2 t0 t1 t2 p c0 c1 c2 d fu)
      (solid_2 p (IntKind.i64.wrap (flat_0 p c0 c1 c2 + rext_s3 f0 f1 f2 t0 t1 t2 p c0 c1 c2)) (IntKind.i64.wrap (flat_1 p c0 c1 c2 + rext_s2 f0 f1 f2 t0 t1 t2 p c0 c1 c2)) (flat_2 p f0 f1 f2))
  else rext_s21 f0 f1 f2 t0 t1 t2 p c0 c1 c2 d fu
noncomputable def rext_s23 (f0 : Int) (f1 : Int) (f2 : Int) (t0 : Int) (t1 : Int) (t2 : Int) (p : Int) (c0 : Int) (c1 : Int) (c2 : Int) (d : Int) (fu : Bool) : Int :=
  bif rinside_0 f0 f1 f2 t0 t1 t2 p c0 c1 c2 d fu (-1) 0 then
    abox_3 (rext_s22 f0 f1 f2 t0 t1 t2 p c0 c1 c2 d fu)
      (solid_2 p (IntKind.i64.wrap (flat_0 p c0 c1 c2 + rext_s7 f0 f1 f2 t0 t1 t2 p c0 c1 c2)) (rext_s4 f0 f1 f2 t0 t1 t2 p c0 c1 c2) (flat_2 p f0 f1 f2))
  else rext_s22 f0 f1 f2 t0 t1 t2 p c0 c1 c2 d fu
noncomputable def rext_5 (k : Int) (f0 : Int) (f1 : Int) (f2 : Int) (t0 : Int) (t1 : Int) (t2 : Int) (p : Int) (c0 : Int) (c1 : Int) (c2 : Int) (d : Int) (fu : Bool) : Int :=
  bif k != 3 then abox_3 f2 t2
  else
    bif rinside_0 f0 f1 f2 t0 t1 t2 p c0 c1 c2 d fu 0 (-1) then
      abox_3 (rext_s23 f0 f1 f2 t0 t1 t2 p c0 c1 c2 d fu)
        (solid_2 p (IntKind.i64.wrap (flat_0 p c0 c1 c2 + rext_s3 f0 f1 f2 t0 t1 t2 p c0 c1 c2)) (IntKind.i64.wrap (flat_1 p c0 c1 c2 + rext_s7 f0 f1 f2 t0 t1 t2 p c0 c1 c2)) (flat_2 p f0 f1 f2))
    else rext_s23 f0 f1 f2 t0 t1 t2 p c0 c1 c2 d fu
noncomputable def rext_s24 (f0 : Int) (f1 : Int) (f2 : Int) (t0 : Int) (t1 : Int) (t2 : Int) (p : Int) (c0 : Int) (c1 : Int) (c2 : Int) : Int :=
  if rext_s0 t0 t1 t2 p c0 c1 c2 > rext_s0 f0 f1 f2 p c0 c1 c2 then rext_s0 t0 t1 t2 p c0 c1 c2 else rext_s0 f0 f1 f2 p c0 c1 c2
noncomputable def rext_needs (k : Int) (f0 : Int) (f1 : Int) (f2 : Int) (t0 : Int) (t1 : Int) (t2 : Int) (p : Int) (c0 : Int) (c1 : Int) (c2 : Int) : List Prop :=
  [(k != 3) = false → -9223372036854775808 ≤ rext_s24 f0 f1 f2 t0 t1 t2 p c0 c1 c2 ∧ rext_s24 f0 f1 f2 t0 t1 t2 p c0 c1 c2 < 9223372036854775808]
theorem rext_need {k : Int} {f0 : Int} {f1 : Int} {f2 : Int} {t0 : Int} {t1 : Int} {t2 : Int} {p : Int} {c0 : Int} {c1 : Int} {c2 : Int} : ∀ q ∈ (rext_needs k f0 f1 f2 t0 t1 t2 p c0 c1 c2), q := by
  unfold rext_needs
  simp only [List.forall_mem_cons, List.not_mem_nil, false_implies, implies_true, and_true]
  intro _
  show isI (if _ then _ else _)
  split <;> exact wrap_isI _
set_option maxRecDepth 1000000 in
theorem rext_runs (k bl f0 f1 f2 t0 t1 t2 p c0 c1 c2 d : Int) (fu : Bool) (fe : Int) (pr : Bool) (si ra be n sp : Int) (on : Bool) (hNeeds : ∀ pN ∈ (rext_needs k f0 f1 f2 t0 t1 t2 p c0 c1 c2), pN) : Runs (runF (sums K_aext) L_ov 40) (rext_tpl.args [.i k, .i bl, .i f0, .i f1, .i f2, .i t0, .i t1, .i t2, .i p, .i c0, .i c1, .i c2, .i d, .b fu, .i fe, .b pr, .i si, .i ra, .i be, .i n, .i sp, .b on]) (rext_tpl.memo [.i k, .i bl, .i f0, .i f1, .i f2, .i t0, .i t1, .i t2, .i p, .i c0, .i c1, .i c2, .i d, .b fu, .i fe, .b pr, .i si, .i ra, .i be, .i n, .i sp, .b on] []) rext_tpl.n (SV.tup
    [(true,
        [SC.int IntKind.i64 (SI.v (rext_0 k f0 f1 f2 t0 t1 t2 p c0 c1 c2 d fu)), SC.int IntKind.i64 (SI.v (rext_1 k f0 f1 f2 t0 t1 t2 p c0 c1 c2 d fu)),
          SC.int IntKind.i64 (SI.v (rext_2 k f0 f1 f2 t0 t1 t2 p c0 c1 c2 d fu))]),
      (true,
        [SC.int IntKind.i64 (SI.v (rext_3 k f0 f1 f2 t0 t1 t2 p c0 c1 c2 d fu)), SC.int IntKind.i64 (SI.v (rext_4 k f0 f1 f2 t0 t1 t2 p c0 c1 c2 d fu)),
          SC.int IntKind.i64 (SI.v (rext_5 k f0 f1 f2 t0 t1 t2 p c0 c1 c2 d fu))])])
    ([]) :=
  Runs.of (ps := (rext_needs k f0 f1 f2 t0 t1 t2 p c0 c1 c2)) (by kernel_rfl) (by kernel_rfl) hNeeds
noncomputable def rext_out : List Pm → Lss → Option CRes
  | [.i k, .i bl, .i f0, .i f1, .i f2, .i t0, .i t1, .i t2, .i p, .i c0, .i c1, .i c2, .i d, .b fu, .i fe, .b pr, .i si, .i ra, .i be, .i n, .i sp, .b on], [] => some ⟨SV.tup
    [(true,
        [SC.int IntKind.i64 (SI.v (rext_0 k f0 f1 f2 t0 t1 t2 p c0 c1 c2 d fu)), SC.int IntKind.i64 (SI.v (rext_1 k f0 f1 f2 t0 t1 t2 p c0 c1 c2 d fu)),
          SC.int IntKind.i64 (SI.v (rext_2 k f0 f1 f2 t0 t1 t2 p c0 c1 c2 d fu))]),
      (true,
        [SC.int IntKind.i64 (SI.v (rext_3 k f0 f1 f2 t0 t1 t2 p c0 c1 c2 d fu)), SC.int IntKind.i64 (SI.v (rext_4 k f0 f1 f2 t0 t1 t2 p c0 c1 c2 d fu)),
          SC.int IntKind.i64 (SI.v (rext_5 k f0 f1 f2 t0 t1 t2 p c0 c1 c2 d fu))])],
    [],
    [], [], 5665⟩
  | _, _ => none
theorem rext_ok : FOk Try.prog 40 (tplS rext_tpl rext_out) := by
  refine tplS_ok (runF_ok known_aext 40) fun ps ls r hr hn _ => ?_
  unfold rext_out at hr
  split at hr
  · cases hr; exact ⟨_, rext_runs _ _ _ _ _ _ _ _ _ _ _ _ _ _ _ _ _ _ _ _ _ _ (fun p hp => rext_need p hp), fun _ => rfl⟩
  · cases hr
noncomputable def K_rext : List (Nat × Summ) := (40, tplS rext_tpl rext_out) :: K_aext
theorem known_rext : Known Try.prog (sums K_rext) L_ov := known_cons known_aext rext_ok
noncomputable def awake_tpl : Tpl := ⟨[], [], 0⟩
set_option maxRecDepth 1000000 in
theorem awake_runs : Runs (runF (sums K_rext) L_ov 18) (awake_tpl.args []) (awake_tpl.memo [] []) awake_tpl.n (SV.one (SC.bool (SB.v true)))
    ([]) :=
  Runs.of (ps := []) (by kernel_rfl) (by kernel_rfl) (by simp)
noncomputable def awake_out : List Pm → Lss → Option CRes
  | [], [] => some ⟨SV.one (SC.bool (SB.v true)),
    [],
    [], [], 4889⟩
  | _, _ => none
theorem awake_ok : FOk Try.prog 18 (tplS awake_tpl awake_out) := by
  refine tplS_ok (runF_ok known_rext 18) fun ps ls r hr hn _ => ?_
  unfold awake_out at hr
  split at hr
  · cases hr; exact ⟨_, awake_runs, fun _ => rfl⟩
  · cases hr
noncomputable def K_awake : List (Nat × Summ) := (18, tplS awake_tpl awake_out) :: K_rext
theorem known_awake : Known Try.prog (sums K_awake) L_ov := known_cons known_rext awake_ok
end Go.Proofs.Ytkggdhnliiagjaa
