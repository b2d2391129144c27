/-
  The reference's distances. Conditions: none.
-/
import Derived.Test.YthgiaoidekdpfaaD2
set_option linter.all false
namespace Go.Proofs.Ythgiaoidekdpfaa
open Go.SX Go.RowKit
noncomputable def atleast_tpl : Tpl := ⟨[.one (.int .i64), .one (.int .i64), .one (.int .i64)], [], 0⟩
noncomputable def atleast_s0 (m : Int) (n : Int) (d : Int) : Int :=
  IntKind.i64.wrap (IntKind.i64.wrap ((if n > m then n else m) - if n < m then n else m) - IntKind.i64.wrap (d * d))
noncomputable def atleast_s1 (m : Int) (n : Int) (d : Int) : Int :=
  rcmp_0 (atleast_s0 m n d) (atleast_s0 m n d) (IntKind.i64.wrap (IntKind.i64.wrap (4 * d) * d)) (if n < m then n else m)
noncomputable def atleast_0 (m : Int) (n : Int) (d : Int) : Bool :=
  decide (atleast_s0 m n d ≥ 0) && decide (atleast_s1 m n d ≥ 0)
noncomputable def atleast_s2 (m : Int) (n : Int) (d : Int) : Prop :=
  decide (atleast_s0 m n d ≥ 0) = true
noncomputable def atleast_s3 (d : Int) : Int :=
  IntKind.i64.wrap (IntKind.i64.wrap (4 * d) * d)
noncomputable def atleast_needs (m : Int) (n : Int) (d : Int) : List Prop :=
  [atleast_s2 m n d → -9223372036854775808 ≤ atleast_s0 m n d ∧ atleast_s0 m n d < 9223372036854775808,
    atleast_s2 m n d → -9223372036854775808 ≤ atleast_s0 m n d ∧ atleast_s0 m n d < 9223372036854775808, atleast_s2 m n d → -9223372036854775808 ≤ atleast_s3 d ∧ atleast_s3 d < 9223372036854775808,
    atleast_s2 m n d → (-9223372036854775808 ≤ if n < m then n else m) ∧ (if n < m then n else m) < 9223372036854775808]
theorem atleast_weak {m : Int} {n : Int} {d : Int} (hW : ∀ q ∈ ([isI m, isI n] : List Prop), q) : ∀ q ∈ (atleast_needs m n d), q := by
  simp only [List.mem_cons, List.not_mem_nil, or_false, forall_eq_or_imp, forall_eq] at hW
  intro q hq
  unfold atleast_needs at hq
  simp only [List.mem_cons, List.not_mem_nil, or_false] at hq
  obtain ⟨h1, h2⟩ := hW
  rcases hq with rfl | rfl | rfl | rfl
  · exact fun _ => wrap_isI _
  · exact fun _ => wrap_isI _
  · exact fun _ => wrap_isI _
  · exact fun _ => by split <;> assumption
set_option maxRecDepth 1000000 in
theorem atleast_runs (m n d : Int) (hNeeds : ∀ pN ∈ (atleast_needs m n d), pN) : Runs (runF (sums K_elem) L_mul 44) (atleast_tpl.args [.i m, .i n, .i d]) (atleast_tpl.memo [.i m, .i n, .i d] []) atleast_tpl.n (SV.one (SC.bool (SB.v (atleast_0 m n d))))
    ([]) :=
  Runs.of (ps := (atleast_needs m n d)) (by kernel_rfl) (by kernel_rfl) hNeeds
noncomputable def atleast_out : List Pm → Lss → Option CRes
  | [.i m, .i n, .i d], [] => some ⟨SV.one (SC.bool (SB.v (atleast_0 m n d))),
    [],
    [isI m, isI n], [], 423⟩
  | _, _ => none
theorem atleast_ok : FOk Try.prog 44 (tplS atleast_tpl atleast_out) := by
  refine tplS_ok (runF_ok known_elem 44) fun ps ls r hr hn _ => ?_
  unfold atleast_out at hr
  split at hr
  · cases hr; exact ⟨_, atleast_runs _ _ _ (atleast_weak (by exact hn)), fun _ => rfl⟩
  · cases hr
noncomputable def K_atleast : List (Nat × Summ) := (44, tplS atleast_tpl atleast_out) :: K_elem
theorem known_atleast : Known Try.prog (sums K_atleast) L_mul := known_cons known_elem atleast_ok
noncomputable def atmost_tpl : Tpl := ⟨[.one (.int .i64), .one (.int .i64), .one (.int .i64)], [], 0⟩
noncomputable def atmost_s0 (m : Int) (n : Int) (d : Int) : Int :=
  IntKind.i64.wrap (IntKind.i64.wrap ((if n > m then n else m) - if n < m then n else m) - IntKind.i64.wrap (d * d))
noncomputable def atmost_s1 (m : Int) (n : Int) (d : Int) : Int :=
  rcmp_0 (atmost_s0 m n d) (atmost_s0 m n d) (IntKind.i64.wrap (IntKind.i64.wrap (4 * d) * d)) (if n < m then n else m)
noncomputable def atmost_0 (m : Int) (n : Int) (d : Int) : Bool :=
  decide (atmost_s0 m n d ≤ 0) || decide (atmost_s1 m n d ≤ 0)
noncomputable def atmost_s2 (m : Int) (n : Int) (d : Int) : Prop :=
  decide (atmost_s0 m n d ≤ 0) = false
noncomputable def atmost_s3 (d : Int) : Int :=
  IntKind.i64.wrap (IntKind.i64.wrap (4 * d) * d)
noncomputable def atmost_needs (m : Int) (n : Int) (d : Int) : List Prop :=
  [atmost_s2 m n d → -9223372036854775808 ≤ atmost_s0 m n d ∧ atmost_s0 m n d < 9223372036854775808, atmost_s2 m n d → -9223372036854775808 ≤ atmost_s0 m n d ∧ atmost_s0 m n d < 9223372036854775808,
    atmost_s2 m n d → -9223372036854775808 ≤ atmost_s3 d ∧ atmost_s3 d < 9223372036854775808,
    atmost_s2 m n d → (-9223372036854775808 ≤ if n < m then n else m) ∧ (if n < m then n else m) < 9223372036854775808]
theorem atmost_weak {m : Int} {n : Int} {d : Int} (hW : ∀ q ∈ ([isI m, isI n] : List Prop), q) : ∀ q ∈ (atmost_needs m n d), q := by
  simp only [List.mem_cons, List.not_mem_nil, or_false, forall_eq_or_imp, forall_eq] at hW
  intro q hq
  unfold atmost_needs at hq
  simp only [List.mem_cons, List.not_mem_nil, or_false] at hq
  obtain ⟨h1, h2⟩ := hW
  rcases hq with rfl | rfl | rfl | rfl
  · exact fun _ => wrap_isI _
  · exact fun _ => wrap_isI _
  · exact fun _ => wrap_isI _
  · exact fun _ => by split <;> assumption
set_option maxRecDepth 1000000 in
theorem atmost_runs (m n d : Int) (hNeeds : ∀ pN ∈ (atmost_needs m n d), pN) : Runs (runF (sums K_atleast) L_mul 46) (atmost_tpl.args [.i m, .i n, .i d]) (atmost_tpl.memo [.i m, .i n, .i d] []) atmost_tpl.n (SV.one (SC.bool (SB.v (atmost_0 m n d))))
    ([]) :=
  Runs.of (ps := (atmost_needs m n d)) (by kernel_rfl) (by kernel_rfl) hNeeds
noncomputable def atmost_out : List Pm → Lss → Option CRes
  | [.i m, .i n, .i d], [] => some ⟨SV.one (SC.bool (SB.v (atmost_0 m n d))),
    [],
    [isI m, isI n], [], 423⟩
  | _, _ => none
theorem atmost_ok : FOk Try.prog 46 (tplS atmost_tpl atmost_out) := by
  refine tplS_ok (runF_ok known_atleast 46) fun ps ls r hr hn _ => ?_
  unfold atmost_out at hr
  split at hr
  · cases hr; exact ⟨_, atmost_runs _ _ _ (atmost_weak (by exact hn)), fun _ => rfl⟩
  · cases hr
noncomputable def K_atmost : List (Nat × Summ) := (46, tplS atmost_tpl atmost_out) :: K_atleast
theorem known_atmost : Known Try.prog (sums K_atmost) L_mul := known_cons known_atleast atmost_ok
noncomputable def rfar_tpl : Tpl := ⟨[.agg [.int .i64, .int .i64, .int .i64, .int .i64, .int .i64, .int .i64, .int .i64, .bool], .agg [.int .i64, .int .i64], .one (.int .i64)], [], 0⟩
noncomputable def rfar_s0 (a0 : Int) (a1 : Int) (a2 : Int) (a3 : Int) (y : Int) (z : Int) : Int :=
  if vinner_0 (minus_0 y a2) (minus_0 z a3) (minus_0 y a2) (minus_0 z a3) < vinner_0 (minus_0 y a0) (minus_0 z a1) (minus_0 y a0) (minus_0 z a1) then
    vinner_0 (minus_0 y a2) (minus_0 z a3) (minus_0 y a2) (minus_0 z a3)
  else vinner_0 (minus_0 y a0) (minus_0 z a1) (minus_0 y a0) (minus_0 z a1)
noncomputable def rfar_s1 (a0 : Int) (a1 : Int) (a2 : Int) (a3 : Int) (y : Int) (z : Int) (d : Int) : Int :=
  rcmp_0 (vcross_0 (minus_0 a2 a0) (minus_0 a3 a1) (minus_0 y a0) (minus_0 z a1)) (vcross_0 (minus_0 a2 a0) (minus_0 a3 a1) (minus_0 y a0) (minus_0 z a1)) (IntKind.i64.wrap (d * d))
    (vinner_0 (minus_0 a2 a0) (minus_0 a3 a1) (minus_0 a2 a0) (minus_0 a3 a1))
noncomputable def rfar_0 (a0 : Int) (a1 : Int) (a2 : Int) (a3 : Int) (a4 : Int) (a5 : Int) (a6 : Int) (a7 : Bool) (y : Int) (z : Int) (d : Int) : Bool :=
  bif !beside_0 a0 a1 a2 a3 a4 a5 a6 a7 y z then decide (rfar_s0 a0 a1 a2 a3 y z ≥ IntKind.i64.wrap (d * d))
  else
    bif a6 == 0 then decide (rfar_s1 a0 a1 a2 a3 y z d ≥ 0)
    else
      atleast_0 (vinner_0 (minus_0 y a4) (minus_0 z a5) (minus_0 y a4) (minus_0 z a5)) (vinner_0 (spoke_0 a0 a2 a4 false) (spoke_0 a1 a3 a5 false) (spoke_0 a0 a2 a4 false) (spoke_0 a1 a3 a5 false)) d &&
        atleast_0 (vinner_0 (minus_0 y a4) (minus_0 z a5) (minus_0 y a4) (minus_0 z a5)) (vinner_0 (spoke_0 a0 a2 a4 true) (spoke_0 a1 a3 a5 true) (spoke_0 a0 a2 a4 true) (spoke_0 a1 a3 a5 true)) d
noncomputable def rfar_s2 (a4 : Int) (a5 : Int) (y : Int) (z : Int) : Prop :=
  -9223372036854775808 ≤ vinner_0 (minus_0 y a4) (minus_0 z a5) (minus_0 y a4) (minus_0 z a5) ∧ vinner_0 (minus_0 y a4) (minus_0 z a5) (minus_0 y a4) (minus_0 z a5) < 9223372036854775808
noncomputable def rfar_s3 (a0 : Int) (a1 : Int) (a2 : Int) (a3 : Int) (a4 : Int) (a5 : Int) (y : Int) (z : Int) (d : Int) : Prop :=
  atleast_0 (vinner_0 (minus_0 y a4) (minus_0 z a5) (minus_0 y a4) (minus_0 z a5)) (vinner_0 (spoke_0 a0 a2 a4 false) (spoke_0 a1 a3 a5 false) (spoke_0 a0 a2 a4 false) (spoke_0 a1 a3 a5 false)) d = true
noncomputable def rfar_needs (a0 : Int) (a1 : Int) (a2 : Int) (a3 : Int) (a4 : Int) (a5 : Int) (a6 : Int) (a7 : Bool) (y : Int) (z : Int) (d : Int) : List Prop :=
  [(!beside_0 a0 a1 a2 a3 a4 a5 a6 a7 y z) = false →
      ((a6 == 0) = true →
          (-9223372036854775808 ≤ vcross_0 (minus_0 a2 a0) (minus_0 a3 a1) (minus_0 y a0) (minus_0 z a1) ∧ vcross_0 (minus_0 a2 a0) (minus_0 a3 a1) (minus_0 y a0) (minus_0 z a1) < 9223372036854775808) ∧
            (-9223372036854775808 ≤ vcross_0 (minus_0 a2 a0) (minus_0 a3 a1) (minus_0 y a0) (minus_0 z a1) ∧
                vcross_0 (minus_0 a2 a0) (minus_0 a3 a1) (minus_0 y a0) (minus_0 z a1) < 9223372036854775808) ∧
              (-9223372036854775808 ≤ IntKind.i64.wrap (d * d) ∧ IntKind.i64.wrap (d * d) < 9223372036854775808) ∧
                -9223372036854775808 ≤ vinner_0 (minus_0 a2 a0) (minus_0 a3 a1) (minus_0 a2 a0) (minus_0 a3 a1) ∧
                  vinner_0 (minus_0 a2 a0) (minus_0 a3 a1) (minus_0 a2 a0) (minus_0 a3 a1) < 9223372036854775808) ∧
        ((a6 == 0) = false →
          rfar_s2 a4 a5 y z ∧
            (-9223372036854775808 ≤ vinner_0 (spoke_0 a0 a2 a4 false) (spoke_0 a1 a3 a5 false) (spoke_0 a0 a2 a4 false) (spoke_0 a1 a3 a5 false) ∧
                vinner_0 (spoke_0 a0 a2 a4 false) (spoke_0 a1 a3 a5 false) (spoke_0 a0 a2 a4 false) (spoke_0 a1 a3 a5 false) < 9223372036854775808) ∧
              (rfar_s3 a0 a1 a2 a3 a4 a5 y z d → rfar_s2 a4 a5 y z) ∧
                (rfar_s3 a0 a1 a2 a3 a4 a5 y z d →
                  -9223372036854775808 ≤ vinner_0 (spoke_0 a0 a2 a4 true) (spoke_0 a1 a3 a5 true) (spoke_0 a0 a2 a4 true) (spoke_0 a1 a3 a5 true) ∧
                    vinner_0 (spoke_0 a0 a2 a4 true) (spoke_0 a1 a3 a5 true) (spoke_0 a0 a2 a4 true) (spoke_0 a1 a3 a5 true) < 9223372036854775808))]
theorem rfar_need {a0 : Int} {a1 : Int} {a2 : Int} {a3 : Int} {a4 : Int} {a5 : Int} {a6 : Int} {a7 : Bool} {y : Int} {z : Int} {d : Int} : ∀ q ∈ (rfar_needs a0 a1 a2 a3 a4 a5 a6 a7 y z d), q := by
  intro q hq
  unfold rfar_needs at hq
  simp only [List.mem_cons, List.not_mem_nil, or_false] at hq
  subst hq
  intro _
  exact ⟨fun _ => ⟨wrap_isI _, wrap_isI _, wrap_isI _, wrap_isI _⟩, fun _ => ⟨wrap_isI _, wrap_isI _, fun _ => wrap_isI _, fun _ => wrap_isI _⟩⟩
set_option maxRecDepth 1000000 in
theorem rfar_runs (a0 a1 a2 a3 a4 a5 a6 : Int) (a7 : Bool) (y z d : Int) (hNeeds : ∀ pN ∈ (rfar_needs a0 a1 a2 a3 a4 a5 a6 a7 y z d), pN) : Runs (runF (sums K_atmost) L_mul 21) (rfar_tpl.args [.i a0, .i a1, .i a2, .i a3, .i a4, .i a5, .i a6, .b a7, .i y, .i z, .i d]) (rfar_tpl.memo [.i a0, .i a1, .i a2, .i a3, .i a4, .i a5, .i a6, .b a7, .i y, .i z, .i d] []) rfar_tpl.n (SV.one (SC.bool (SB.v (rfar_0 a0 a1 a2 a3 a4 a5 a6 a7 y z d))))
    ([]) :=
  Runs.of (ps := (rfar_needs a0 a1 a2 a3 a4 a5 a6 a7 y z d)) (by kernel_rfl) (by kernel_rfl) hNeeds
noncomputable def rfar_out : List Pm → Lss → Option CRes
  | [.i a0, .i a1, .i a2, .i a3, .i a4, .i a5, .i a6, .b a7, .i y, .i z, .i d], [] => some ⟨SV.one (SC.bool (SB.v (rfar_0 a0 a1 a2 a3 a4 a5 a6 a7 y z d))),
    [],
    [], [], 2403⟩
  | _, _ => none
theorem rfar_ok : FOk Try.prog 21 (tplS rfar_tpl rfar_out) := by
  refine tplS_ok (runF_ok known_atmost 21) fun ps ls r hr hn _ => ?_
  unfold rfar_out at hr
  split at hr
  · cases hr; exact ⟨_, rfar_runs _ _ _ _ _ _ _ _ _ _ _ (fun p hp => rfar_need p hp), fun _ => rfl⟩
  · cases hr
noncomputable def K_rfar : List (Nat × Summ) := (21, tplS rfar_tpl rfar_out) :: K_atmost
theorem known_rfar : Known Try.prog (sums K_rfar) L_mul := known_cons known_atmost rfar_ok
noncomputable def rnear_tpl : Tpl := ⟨[.agg [.int .i64, .int .i64, .int .i64, .int .i64, .int .i64, .int .i64, .int .i64, .bool], .agg [.int .i64, .int .i64], .one (.int .i64)], [], 0⟩
noncomputable def rnear_s0 (a0 : Int) (a1 : Int) (a2 : Int) (a3 : Int) (y : Int) (z : Int) : Int :=
  if vinner_0 (minus_0 y a2) (minus_0 z a3) (minus_0 y a2) (minus_0 z a3) < vinner_0 (minus_0 y a0) (minus_0 z a1) (minus_0 y a0) (minus_0 z a1) then
    vinner_0 (minus_0 y a2) (minus_0 z a3) (minus_0 y a2) (minus_0 z a3)
  else vinner_0 (minus_0 y a0) (minus_0 z a1) (minus_0 y a0) (minus_0 z a1)
noncomputable def rnear_s1 (a0 : Int) (a1 : Int) (a2 : Int) (a3 : Int) (y : Int) (z : Int) (d : Int) : Int :=
  rcmp_0 (vcross_0 (minus_0 a2 a0) (minus_0 a3 a1) (minus_0 y a0) (minus_0 z a1)) (vcross_0 (minus_0 a2 a0) (minus_0 a3 a1) (minus_0 y a0) (minus_0 z a1)) (IntKind.i64.wrap (d * d))
    (vinner_0 (minus_0 a2 a0) (minus_0 a3 a1) (minus_0 a2 a0) (minus_0 a3 a1))
noncomputable def rnear_0 (a0 : Int) (a1 : Int) (a2 : Int) (a3 : Int) (a4 : Int) (a5 : Int) (a6 : Int) (a7 : Bool) (y : Int) (z : Int) (d : Int) : Bool :=
  bif !beside_0 a0 a1 a2 a3 a4 a5 a6 a7 y z then decide (rnear_s0 a0 a1 a2 a3 y z ≤ IntKind.i64.wrap (d * d))
  else
    bif a6 == 0 then decide (rnear_s1 a0 a1 a2 a3 y z d ≤ 0)
    else
      atmost_0 (vinner_0 (minus_0 y a4) (minus_0 z a5) (minus_0 y a4) (minus_0 z a5)) (vinner_0 (spoke_0 a0 a2 a4 false) (spoke_0 a1 a3 a5 false) (spoke_0 a0 a2 a4 false) (spoke_0 a1 a3 a5 false)) d &&
        atmost_0 (vinner_0 (minus_0 y a4) (minus_0 z a5) (minus_0 y a4) (minus_0 z a5)) (vinner_0 (spoke_0 a0 a2 a4 true) (spoke_0 a1 a3 a5 true) (spoke_0 a0 a2 a4 true) (spoke_0 a1 a3 a5 true)) d
noncomputable def rnear_s2 (a4 : Int) (a5 : Int) (y : Int) (z : Int) : Prop :=
  -9223372036854775808 ≤ vinner_0 (minus_0 y a4) (minus_0 z a5) (minus_0 y a4) (minus_0 z a5) ∧ vinner_0 (minus_0 y a4) (minus_0 z a5) (minus_0 y a4) (minus_0 z a5) < 9223372036854775808
noncomputable def rnear_s3 (a0 : Int) (a1 : Int) (a2 : Int) (a3 : Int) (a4 : Int) (a5 : Int) (y : Int) (z : Int) (d : Int) : Prop :=
  atmost_0 (vinner_0 (minus_0 y a4) (minus_0 z a5) (minus_0 y a4) (minus_0 z a5)) (vinner_0 (spoke_0 a0 a2 a4 false) (spoke_0 a1 a3 a5 false) (spoke_0 a0 a2 a4 false) (spoke_0 a1 a3 a5 false)) d = true
noncomputable def rnear_needs (a0 : Int) (a1 : Int) (a2 : Int) (a3 : Int) (a4 : Int) (a5 : Int) (a6 : Int) (a7 : Bool) (y : Int) (z : Int) (d : Int) : List Prop :=
  [(!beside_0 a0 a1 a2 a3 a4 a5 a6 a7 y z) = false →
      ((a6 == 0) = true →
          (-9223372036854775808 ≤ vcross_0 (minus_0 a2 a0) (minus_0 a3 a1) (minus_0 y a0) (minus_0 z a1) ∧ vcross_0 (minus_0 a2 a0) (minus_0 a3 a1) (minus_0 y a0) (minus_0 z a1) < 9223372036854775808) ∧
            (-9223372036854775808 ≤ vcross_0 (minus_0 a2 a0) (minus_0 a3 a1) (minus_0 y a0) (minus_0 z a1) ∧
                vcross_0 (minus_0 a2 a0) (minus_0 a3 a1) (minus_0 y a0) (minus_0 z a1) < 9223372036854775808) ∧
              (-9223372036854775808 ≤ IntKind.i64.wrap (d * d) ∧ IntKind.i64.wrap (d * d) < 9223372036854775808) ∧
                -9223372036854775808 ≤ vinner_0 (minus_0 a2 a0) (minus_0 a3 a1) (minus_0 a2 a0) (minus_0 a3 a1) ∧
                  vinner_0 (minus_0 a2 a0) (minus_0 a3 a1) (minus_0 a2 a0) (minus_0 a3 a1) < 9223372036854775808) ∧
        ((a6 == 0) = false →
          rnear_s2 a4 a5 y z ∧
            (-9223372036854775808 ≤ vinner_0 (spoke_0 a0 a2 a4 false) (spoke_0 a1 a3 a5 false) (spoke_0 a0 a2 a4 false) (spoke_0 a1 a3 a5 false) ∧
                vinner_0 (spoke_0 a0 a2 a4 false) (spoke_0 a1 a3 a5 false) (spoke_0 a0 a2 a4 false) (spoke_0 a1 a3 a5 false) < 9223372036854775808) ∧
              (rnear_s3 a0 a1 a2 a3 a4 a5 y z d → rnear_s2 a4 a5 y z) ∧
                (rnear_s3 a0 a1 a2 a3 a4 a5 y z d →
                  -9223372036854775808 ≤ vinner_0 (spoke_0 a0 a2 a4 true) (spoke_0 a1 a3 a5 true) (spoke_0 a0 a2 a4 true) (spoke_0 a1 a3 a5 true) ∧
                    vinner_0 (spoke_0 a0 a2 a4 true) (spoke_0 a1 a3 a5 true) (spoke_0 a0 a2 a4 true) (spoke_0 a1 a3 a5 true) < 9223372036854775808))]
theorem rnear_need {a0 : Int} {a1 : Int} {a2 : Int} {a3 : Int} {a4 : Int} {a5 : Int} {a6 : Int} {a7 : Bool} {y : Int} {z : Int} {d : Int} : ∀ q ∈ (rnear_needs a0 a1 a2 a3 a4 a5 a6 a7 y z d), q := by
  intro q hq
  unfold rnear_needs at hq
  simp only [List.mem_cons, List.not_mem_nil, or_false] at hq
  subst hq
  intro _
  exact ⟨fun _ => ⟨wrap_isI _, wrap_isI _, wrap_isI _, wrap_isI _⟩, fun _ => ⟨wrap_isI _, wrap_isI _, fun _ => wrap_isI _, fun _ => wrap_isI _⟩⟩
set_option maxRecDepth 1000000 in
theorem rnear_runs (a0 a1 a2 a3 a4 a5 a6 : Int) (a7 : Bool) (y z d : Int) (hNeeds : ∀ pN ∈ (rnear_needs a0 a1 a2 a3 a4 a5 a6 a7 y z d), pN) : Runs (runF (sums K_rfar) L_mul 23) (rnear_tpl.args [.i a0, .i a1, .i a2, .i a3, .i a4, .i a5, .i a6, .b a7, .i y, .i z, .i d]) (rnear_tpl.memo [.i a0, .i a1, .i a2, .i a3, .i a4, .i a5, .i a6, .b a7, .i y, .i z, .i d] []) rnear_tpl.n (SV.one (SC.bool (SB.v (rnear_0 a0 a1 a2 a3 a4 a5 a6 a7 y z d))))
    ([]) :=
  Runs.of (ps := (rnear_needs a0 a1 a2 a3 a4 a5 a6 a7 y z d)) (by kernel_rfl) (by kernel_rfl) hNeeds
noncomputable def rnear_out : List Pm → Lss → Option CRes
  | [.i a0, .i a1, .i a2, .i a3, .i a4, .i a5, .i a6, .b a7, .i y, .i z, .i d], [] => some ⟨SV.one (SC.bool (SB.v (rnear_0 a0 a1 a2 a3 a4 a5 a6 a7 y z d))),
    [],
    [], [], 2403⟩
  | _, _ => none
theorem rnear_ok : FOk Try.prog 23 (tplS rnear_tpl rnear_out) := by
  refine tplS_ok (runF_ok known_rfar 23) fun ps ls r hr hn _ => ?_
  unfold rnear_out at hr
  split at hr
  · cases hr; exact ⟨_, rnear_runs _ _ _ _ _ _ _ _ _ _ _ (fun p hp => rnear_need p hp), fun _ => rfl⟩
  · cases hr
noncomputable def K_rnear : List (Nat × Summ) := (23, tplS rnear_tpl rnear_out) :: K_rfar
theorem known_rnear : Known Try.prog (sums K_rnear) L_mul := known_cons known_rfar rnear_ok
end Go.Proofs.Ythgiaoidekdpfaa
