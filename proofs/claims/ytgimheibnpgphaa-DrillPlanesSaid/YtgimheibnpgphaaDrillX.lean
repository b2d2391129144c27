/-
  HEIGHTS, THE BUILDER'S METHODS, and the reference's steps: what they return. Conditions: none.
-/
import Derived.Test.YtgimheibnpgphaaDrillV
set_option linter.all false
namespace Go.Proofs.Ytgimheibnpgphaa
open Go.SX Go.RowKit
/-- The cells of an item. -/
abbrev itemKs : List CK := [.int .i64, .int .i64, .int .i64, .int .i64, .int .i64, .int .i64, .int .i64, .int .i64, .int .i64, .int .i64, .int .i64, .int .i64, .int .i64, .bool, .int .i64, .bool, .int .i64, .int .i64, .int .i64, .int .i64, .int .i64, .bool]
/-- The number of pecks. -/
noncomputable def hn (c0 c8 c9 c11 : Int) : Int := bif c0 == 73 || c0 == 83 then pk c8 c9 c11 else 1
/-- The return height. -/
noncomputable def hr (c8 c10 c13 : Int) : Int := bif c13 == 98 then (if c8 > c10 then c8 else c10) else c8
theorem hn_not (c0 c8 c9 c11 : Int) : (bif !(c0 == 73 || c0 == 83) then 1 else pk c8 c9 c11) = hn c0 c8 c9 c11 := by unfold hn; cases (c0 == 73 || c0 == 83) <;> rfl
theorem chk_peck (c0 c1 c2 c3 c4 c5 c6 c7 c8 c9 c10 c11 c12 c13 c14 c15 : Int) (h : (chk c0 c1 c2 c3 c4 c5 c6 c7 c8 c9 c10 c11 c12 c13 c14 c15 != 0) = false) (hp : (c0 == 73 || c0 == 83) = true) : 1 ≤ c11 := by
  unfold chk at h
  rw [hp] at h
  cases h1 : codeOk c0 <;> rw [h1] at h
  · simp at h
  cases h2 : argBad c1 c2 c3 c4 c5 c6 c7 c8 c9 c10 c12 c13 c14 c15 <;> rw [h2] at h
  · by_cases h3 : c11 < 1
    · simp [h3] at h
    · omega
  · simp at h
noncomputable def pecks_tpl : Tpl := ⟨[.agg [.int .i64, .int .i64, .int .i64, .int .i64, .int .i64, .int .i64, .int .i64, .int .i64, .int .i64, .int .i64, .int .i64, .int .i64, .int .i64, .int .i64, .int .i64, .int .i64]], [], 0⟩
noncomputable def pecks_0 (c0 : Int) (c8 : Int) (c9 : Int) (c11 : Int) : Int :=
  bif !(c0 == 73 || c0 == 83) then 1 else IntKind.i64.wrap (IntKind.i64.wrap ((IntKind.i64.wrap (IntKind.i64.wrap (c8 - c9) - 1)).tdiv c11) + 1)
noncomputable def pecks_needs (c0 : Int) (c11 : Int) : List Prop :=
  [(!(c0 == 73 || c0 == 83)) = false → c11 ≠ 0]
theorem pecks_0_eq (c0 c8 c9 c11 : Int) : (pecks_0 c0 c8 c9 c11) = hn c0 c8 c9 c11 := hn_not c0 c8 c9 c11
set_option maxRecDepth 1000000 in
theorem pecks_runs (c0 c1 c2 c3 c4 c5 c6 c7 c8 c9 c10 c11 c12 c13 c14 c15 : Int) (hNeeds : ∀ pN ∈ (pecks_needs c0 c11), pN) : Runs (runF (sums K_rcheck) L0 31) (pecks_tpl.args [.i c0, .i c1, .i c2, .i c3, .i c4, .i c5, .i c6, .i c7, .i c8, .i c9, .i c10, .i c11, .i c12, .i c13, .i c14, .i c15]) (pecks_tpl.memo [.i c0, .i c1, .i c2, .i c3, .i c4, .i c5, .i c6, .i c7, .i c8, .i c9, .i c10, .i c11, .i c12, .i c13, .i c14, .i c15] []) pecks_tpl.n (SV.one (SC.int IntKind.i64 (SI.v (pecks_0 c0 c8 c9 c11))))
    ([]) :=
  Runs.of (ps := (pecks_needs c0 c11)) (by kernel_rfl) (by kernel_rfl) hNeeds
noncomputable def pecks_out : List Pm → Lss → Option CRes
  | [.i c0, .i c1, .i c2, .i c3, .i c4, .i c5, .i c6, .i c7, .i c8, .i c9, .i c10, .i c11, .i c12, .i c13, .i c14, .i c15], [] => some ⟨SV.one (SC.int IntKind.i64 (SI.v (hn c0 c8 c9 c11))),
    [],
    (pecks_needs c0 c11), [], 43⟩
  | _, _ => none
theorem pecks_turned (c0 c1 c2 c3 c4 c5 c6 c7 c8 c9 c10 c11 c12 c13 c14 c15 : Int) (hNeeds : ∀ pN ∈ (pecks_needs c0 c11), pN) : Runs (runF (sums K_rcheck) L0 31) (pecks_tpl.args [.i c0, .i c1, .i c2, .i c3, .i c4, .i c5, .i c6, .i c7, .i c8, .i c9, .i c10, .i c11, .i c12, .i c13, .i c14, .i c15]) (pecks_tpl.memo [.i c0, .i c1, .i c2, .i c3, .i c4, .i c5, .i c6, .i c7, .i c8, .i c9, .i c10, .i c11, .i c12, .i c13, .i c14, .i c15] []) pecks_tpl.n (SV.one (SC.int IntKind.i64 (SI.v (hn c0 c8 c9 c11))))
    ([]) :=
  (pecks_runs c0 c1 c2 c3 c4 c5 c6 c7 c8 c9 c10 c11 c12 c13 c14 c15 hNeeds).to (by rw [pecks_0_eq]) (rfl)
theorem pecks_ok : FOk Try.prog 31 (tplS pecks_tpl pecks_out) := by
  refine tplS_ok (runF_ok known_rcheck 31) fun ps ls r hr hn _ => ?_
  unfold pecks_out at hr
  split at hr
  · cases hr; exact ⟨_, pecks_turned _ _ _ _ _ _ _ _ _ _ _ _ _ _ _ _ hn, fun _ => rfl⟩
  · cases hr
noncomputable def K_pecks : List (Nat × Summ) := (31, tplS pecks_tpl pecks_out) :: K_rcheck
theorem known_pecks : Known Try.prog (sums K_pecks) L0 := known_cons known_rcheck pecks_ok
noncomputable def heights_tpl : Tpl := ⟨[.agg [.int .i64, .int .i64, .int .i64, .int .i64, .int .i64, .int .i64, .int .i64, .int .i64, .int .i64, .int .i64, .int .i64, .int .i64, .int .i64, .int .i64, .int .i64, .int .i64]], [], 0⟩
noncomputable def heights_0 (c0 : Int) (c1 : Int) (c2 : Int) (c3 : Int) (c4 : Int) (c5 : Int) (c6 : Int) (c7 : Int) (c8 : Int) (c9 : Int) (c10 : Int) (c11 : Int) (c12 : Int) (c13 : Int) (c14 : Int) (c15 : Int) : Int :=
  bif chk c0 c1 c2 c3 c4 c5 c6 c7 c8 c9 c10 c11 c12 c13 c14 c15 != 0 then 0 else bif c13 == 98 then if c8 > c10 then c8 else c10 else c8
noncomputable def heights_1 (c0 : Int) (c1 : Int) (c2 : Int) (c3 : Int) (c4 : Int) (c5 : Int) (c6 : Int) (c7 : Int) (c8 : Int) (c9 : Int) (c10 : Int) (c11 : Int) (c12 : Int) (c13 : Int) (c14 : Int) (c15 : Int) : Int :=
  bif chk c0 c1 c2 c3 c4 c5 c6 c7 c8 c9 c10 c11 c12 c13 c14 c15 != 0 then 0 else bif c13 == 98 then hn c0 c8 c9 c11 else hn c0 c8 c9 c11
noncomputable def heights_2 (c0 : Int) (c1 : Int) (c2 : Int) (c3 : Int) (c4 : Int) (c5 : Int) (c6 : Int) (c7 : Int) (c8 : Int) (c9 : Int) (c10 : Int) (c11 : Int) (c12 : Int) (c13 : Int) (c14 : Int) (c15 : Int) : Bool :=
  !chk c0 c1 c2 c3 c4 c5 c6 c7 c8 c9 c10 c11 c12 c13 c14 c15 != 0
noncomputable def heights_s0 (c0 : Int) (c11 : Int) : Prop :=
  (!(c0 == 73 || c0 == 83)) = false → c11 ≠ 0
noncomputable def heights_needs (c0 : Int) (c1 : Int) (c2 : Int) (c3 : Int) (c4 : Int) (c5 : Int) (c6 : Int) (c7 : Int) (c8 : Int) (c9 : Int) (c10 : Int) (c11 : Int) (c12 : Int) (c13 : Int) (c14 : Int) (c15 : Int) : List Prop :=
  [(chk c0 c1 c2 c3 c4 c5 c6 c7 c8 c9 c10 c11 c12 c13 c14 c15 != 0) = false → ((c13 == 98) = true → heights_s0 c0 c11) ∧ ((c13 == 98) = false → heights_s0 c0 c11)]
noncomputable def hts0 (c0 c1 c2 c3 c4 c5 c6 c7 c8 c9 c10 c11 c12 c13 c14 c15 : Int) : Int := bif chk c0 c1 c2 c3 c4 c5 c6 c7 c8 c9 c10 c11 c12 c13 c14 c15 != 0 then 0 else hr c8 c10 c13
noncomputable def hts1 (c0 c1 c2 c3 c4 c5 c6 c7 c8 c9 c10 c11 c12 c13 c14 c15 : Int) : Int := bif chk c0 c1 c2 c3 c4 c5 c6 c7 c8 c9 c10 c11 c12 c13 c14 c15 != 0 then 0 else hn c0 c8 c9 c11
theorem heights_0_eq (c0 c1 c2 c3 c4 c5 c6 c7 c8 c9 c10 c11 c12 c13 c14 c15 : Int) : (heights_0 c0 c1 c2 c3 c4 c5 c6 c7 c8 c9 c10 c11 c12 c13 c14 c15) = hts0 c0 c1 c2 c3 c4 c5 c6 c7 c8 c9 c10 c11 c12 c13 c14 c15 := rfl
theorem heights_1_eq (c0 c1 c2 c3 c4 c5 c6 c7 c8 c9 c10 c11 c12 c13 c14 c15 : Int) : (heights_1 c0 c1 c2 c3 c4 c5 c6 c7 c8 c9 c10 c11 c12 c13 c14 c15) = hts1 c0 c1 c2 c3 c4 c5 c6 c7 c8 c9 c10 c11 c12 c13 c14 c15 := by
  unfold heights_1 hts1; cases c13 == 98 <;> rfl
theorem heights_need {c0 : Int} {c1 : Int} {c2 : Int} {c3 : Int} {c4 : Int} {c5 : Int} {c6 : Int} {c7 : Int} {c8 : Int} {c9 : Int} {c10 : Int} {c11 : Int} {c12 : Int} {c13 : Int} {c14 : Int} {c15 : Int} : ∀ q ∈ (heights_needs c0 c1 c2 c3 c4 c5 c6 c7 c8 c9 c10 c11 c12 c13 c14 c15), q := by
  intro q hq
  unfold heights_needs at hq
  simp only [List.mem_cons, List.not_mem_nil, or_false] at hq
  subst hq
  intro h
  have := chk_peck c0 c1 c2 c3 c4 c5 c6 c7 c8 c9 c10 c11 c12 c13 c14 c15 h
  have key : (!(c0 == 73 || c0 == 83)) = false → c11 ≠ 0 := fun h2 => by
    rw [Bool.not_eq_false'] at h2
    have := this h2
    omega
  exact ⟨fun _ => key, fun _ => key⟩
set_option maxRecDepth 1000000 in
theorem heights_runs (c0 c1 c2 c3 c4 c5 c6 c7 c8 c9 c10 c11 c12 c13 c14 c15 : Int) (hNeeds : ∀ pN ∈ (heights_needs c0 c1 c2 c3 c4 c5 c6 c7 c8 c9 c10 c11 c12 c13 c14 c15), pN) : Runs (runF (sums K_pecks) L0 17) (heights_tpl.args [.i c0, .i c1, .i c2, .i c3, .i c4, .i c5, .i c6, .i c7, .i c8, .i c9, .i c10, .i c11, .i c12, .i c13, .i c14, .i c15]) (heights_tpl.memo [.i c0, .i c1, .i c2, .i c3, .i c4, .i c5, .i c6, .i c7, .i c8, .i c9, .i c10, .i c11, .i c12, .i c13, .i c14, .i c15] []) heights_tpl.n (SV.tup
    [(false, [SC.int IntKind.i64 (SI.v (heights_0 c0 c1 c2 c3 c4 c5 c6 c7 c8 c9 c10 c11 c12 c13 c14 c15))]),
      (false, [SC.int IntKind.i64 (SI.v (heights_1 c0 c1 c2 c3 c4 c5 c6 c7 c8 c9 c10 c11 c12 c13 c14 c15))]), (false, [SC.bool (SB.v (heights_2 c0 c1 c2 c3 c4 c5 c6 c7 c8 c9 c10 c11 c12 c13 c14 c15))])])
    ([]) :=
  Runs.of (ps := (heights_needs c0 c1 c2 c3 c4 c5 c6 c7 c8 c9 c10 c11 c12 c13 c14 c15)) (by kernel_rfl) (by kernel_rfl) hNeeds
noncomputable def heights_out : List Pm → Lss → Option CRes
  | [.i c0, .i c1, .i c2, .i c3, .i c4, .i c5, .i c6, .i c7, .i c8, .i c9, .i c10, .i c11, .i c12, .i c13, .i c14, .i c15], [] => some ⟨SV.tup [(false, [SC.int IntKind.i64 (SI.v (hts0 c0 c1 c2 c3 c4 c5 c6 c7 c8 c9 c10 c11 c12 c13 c14 c15))]), (false, [SC.int IntKind.i64 (SI.v (hts1 c0 c1 c2 c3 c4 c5 c6 c7 c8 c9 c10 c11 c12 c13 c14 c15))]), (false, [SC.bool (SB.v (heights_2 c0 c1 c2 c3 c4 c5 c6 c7 c8 c9 c10 c11 c12 c13 c14 c15))])],
    [],
    [], [], 668⟩
  | _, _ => none
theorem heights_turned (c0 c1 c2 c3 c4 c5 c6 c7 c8 c9 c10 c11 c12 c13 c14 c15 : Int) : Runs (runF (sums K_pecks) L0 17) (heights_tpl.args [.i c0, .i c1, .i c2, .i c3, .i c4, .i c5, .i c6, .i c7, .i c8, .i c9, .i c10, .i c11, .i c12, .i c13, .i c14, .i c15]) (heights_tpl.memo [.i c0, .i c1, .i c2, .i c3, .i c4, .i c5, .i c6, .i c7, .i c8, .i c9, .i c10, .i c11, .i c12, .i c13, .i c14, .i c15] []) heights_tpl.n (SV.tup [(false, [SC.int IntKind.i64 (SI.v (hts0 c0 c1 c2 c3 c4 c5 c6 c7 c8 c9 c10 c11 c12 c13 c14 c15))]), (false, [SC.int IntKind.i64 (SI.v (hts1 c0 c1 c2 c3 c4 c5 c6 c7 c8 c9 c10 c11 c12 c13 c14 c15))]), (false, [SC.bool (SB.v (heights_2 c0 c1 c2 c3 c4 c5 c6 c7 c8 c9 c10 c11 c12 c13 c14 c15))])])
    ([]) :=
  (heights_runs c0 c1 c2 c3 c4 c5 c6 c7 c8 c9 c10 c11 c12 c13 c14 c15 (fun p hp => heights_need p hp)).to (by rw [heights_0_eq, heights_1_eq]) (rfl)
theorem heights_ok : FOk Try.prog 17 (tplS heights_tpl heights_out) := by
  refine tplS_ok (runF_ok known_pecks 17) fun ps ls r hr hn _ => ?_
  unfold heights_out at hr
  split at hr
  · cases hr; exact ⟨_, heights_turned _ _ _ _ _ _ _ _ _ _ _ _ _ _ _ _, fun _ => rfl⟩
  · cases hr
noncomputable def K_heights : List (Nat × Summ) := (17, tplS heights_tpl heights_out) :: K_pecks
theorem known_heights : Known Try.prog (sums K_heights) L0 := known_cons known_pecks heights_ok
noncomputable def rheights_tpl : Tpl := ⟨[.agg [.int .i64, .int .i64, .int .i64, .int .i64, .int .i64, .int .i64, .int .i64, .int .i64, .int .i64, .int .i64, .int .i64, .int .i64, .int .i64, .int .i64, .int .i64, .int .i64]], [], 0⟩
noncomputable def rheights_s0 (c0 : Int) (c8 : Int) (c9 : Int) (c11 : Int) : Int :=
  bif c0 == 73 || c0 == 83 then IntKind.i64.wrap (IntKind.i64.wrap ((IntKind.i64.wrap (IntKind.i64.wrap (c8 - c9) - 1)).tdiv c11) + 1) else 1
noncomputable def rheights_1 (c0 : Int) (c1 : Int) (c2 : Int) (c3 : Int) (c4 : Int) (c5 : Int) (c6 : Int) (c7 : Int) (c8 : Int) (c9 : Int) (c10 : Int) (c11 : Int) (c12 : Int) (c13 : Int) (c14 : Int) (c15 : Int) : Int :=
  bif chk c0 c1 c2 c3 c4 c5 c6 c7 c8 c9 c10 c11 c12 c13 c14 c15 != 0 then 0 else bif c13 == 98 then rheights_s0 c0 c8 c9 c11 else rheights_s0 c0 c8 c9 c11
noncomputable def rheights_needs (c0 : Int) (c1 : Int) (c2 : Int) (c3 : Int) (c4 : Int) (c5 : Int) (c6 : Int) (c7 : Int) (c8 : Int) (c9 : Int) (c10 : Int) (c11 : Int) (c12 : Int) (c13 : Int) (c14 : Int) (c15 : Int) : List Prop :=
  [(chk c0 c1 c2 c3 c4 c5 c6 c7 c8 c9 c10 c11 c12 c13 c14 c15 != 0) = false → (c0 == 73 || c0 == 83) = true → c11 ≠ 0]
theorem rheights_1_eq (c0 c1 c2 c3 c4 c5 c6 c7 c8 c9 c10 c11 c12 c13 c14 c15 : Int) : (rheights_1 c0 c1 c2 c3 c4 c5 c6 c7 c8 c9 c10 c11 c12 c13 c14 c15) = hts1 c0 c1 c2 c3 c4 c5 c6 c7 c8 c9 c10 c11 c12 c13 c14 c15 := by
  unfold rheights_1 rheights_s0 hts1; cases c13 == 98 <;> rfl
theorem rheights_need {c0 : Int} {c1 : Int} {c2 : Int} {c3 : Int} {c4 : Int} {c5 : Int} {c6 : Int} {c7 : Int} {c8 : Int} {c9 : Int} {c10 : Int} {c11 : Int} {c12 : Int} {c13 : Int} {c14 : Int} {c15 : Int} : ∀ q ∈ (rheights_needs c0 c1 c2 c3 c4 c5 c6 c7 c8 c9 c10 c11 c12 c13 c14 c15), q := by
  intro q hq
  unfold rheights_needs at hq
  simp only [List.mem_cons, List.not_mem_nil, or_false] at hq
  subst hq
  intro h h2
  have := chk_peck c0 c1 c2 c3 c4 c5 c6 c7 c8 c9 c10 c11 c12 c13 c14 c15 h h2
  omega
set_option maxRecDepth 1000000 in
theorem rheights_runs (c0 c1 c2 c3 c4 c5 c6 c7 c8 c9 c10 c11 c12 c13 c14 c15 : Int) (hNeeds : ∀ pN ∈ (rheights_needs c0 c1 c2 c3 c4 c5 c6 c7 c8 c9 c10 c11 c12 c13 c14 c15), pN) : Runs (runF (sums K_heights) L0 33) (rheights_tpl.args [.i c0, .i c1, .i c2, .i c3, .i c4, .i c5, .i c6, .i c7, .i c8, .i c9, .i c10, .i c11, .i c12, .i c13, .i c14, .i c15]) (rheights_tpl.memo [.i c0, .i c1, .i c2, .i c3, .i c4, .i c5, .i c6, .i c7, .i c8, .i c9, .i c10, .i c11, .i c12, .i c13, .i c14, .i c15] []) rheights_tpl.n (SV.tup
    [(false, [SC.int IntKind.i64 (SI.v (heights_0 c0 c1 c2 c3 c4 c5 c6 c7 c8 c9 c10 c11 c12 c13 c14 c15))]),
      (false, [SC.int IntKind.i64 (SI.v (rheights_1 c0 c1 c2 c3 c4 c5 c6 c7 c8 c9 c10 c11 c12 c13 c14 c15))]),
      (false, [SC.bool (SB.v (heights_2 c0 c1 c2 c3 c4 c5 c6 c7 c8 c9 c10 c11 c12 c13 c14 c15))])])
    ([]) :=
  Runs.of (ps := (rheights_needs c0 c1 c2 c3 c4 c5 c6 c7 c8 c9 c10 c11 c12 c13 c14 c15)) (by kernel_rfl) (by kernel_rfl) hNeeds
noncomputable def rheights_out : List Pm → Lss → Option CRes
  | [.i c0, .i c1, .i c2, .i c3, .i c4, .i c5, .i c6, .i c7, .i c8, .i c9, .i c10, .i c11, .i c12, .i c13, .i c14, .i c15], [] => some ⟨SV.tup [(false, [SC.int IntKind.i64 (SI.v (hts0 c0 c1 c2 c3 c4 c5 c6 c7 c8 c9 c10 c11 c12 c13 c14 c15))]), (false, [SC.int IntKind.i64 (SI.v (hts1 c0 c1 c2 c3 c4 c5 c6 c7 c8 c9 c10 c11 c12 c13 c14 c15))]), (false, [SC.bool (SB.v (heights_2 c0 c1 c2 c3 c4 c5 c6 c7 c8 c9 c10 c11 c12 c13 c14 c15))])],
    [],
    [], [], 487⟩
  | _, _ => none
theorem rheights_turned (c0 c1 c2 c3 c4 c5 c6 c7 c8 c9 c10 c11 c12 c13 c14 c15 : Int) : Runs (runF (sums K_heights) L0 33) (rheights_tpl.args [.i c0, .i c1, .i c2, .i c3, .i c4, .i c5, .i c6, .i c7, .i c8, .i c9, .i c10, .i c11, .i c12, .i c13, .i c14, .i c15]) (rheights_tpl.memo [.i c0, .i c1, .i c2, .i c3, .i c4, .i c5, .i c6, .i c7, .i c8, .i c9, .i c10, .i c11, .i c12, .i c13, .i c14, .i c15] []) rheights_tpl.n (SV.tup [(false, [SC.int IntKind.i64 (SI.v (hts0 c0 c1 c2 c3 c4 c5 c6 c7 c8 c9 c10 c11 c12 c13 c14 c15))]), (false, [SC.int IntKind.i64 (SI.v (hts1 c0 c1 c2 c3 c4 c5 c6 c7 c8 c9 c10 c11 c12 c13 c14 c15))]), (false, [SC.bool (SB.v (heights_2 c0 c1 c2 c3 c4 c5 c6 c7 c8 c9 c10 c11 c12 c13 c14 c15))])])
    ([]) :=
  (rheights_runs c0 c1 c2 c3 c4 c5 c6 c7 c8 c9 c10 c11 c12 c13 c14 c15 (fun p hp => rheights_need p hp)).to (by rw [heights_0_eq, rheights_1_eq]) (rfl)
theorem rheights_ok : FOk Try.prog 33 (tplS rheights_tpl rheights_out) := by
  refine tplS_ok (runF_ok known_heights 33) fun ps ls r hr hn _ => ?_
  unfold rheights_out at hr
  split at hr
  · cases hr; exact ⟨_, rheights_turned _ _ _ _ _ _ _ _ _ _ _ _ _ _ _ _, fun _ => rfl⟩
  · cases hr
noncomputable def K_rheights : List (Nat × Summ) := (33, tplS rheights_tpl rheights_out) :: K_heights
theorem known_rheights : Known Try.prog (sums K_rheights) L0 := known_cons known_heights rheights_ok
noncomputable def turnN_tpl : Tpl := ⟨[.one (.ptr 0 0), .one (.int .i64), .one (.int .i64), .one (.int .i64)], [(0, .blk 62 [(1, .int .i64), (2, .int .i64), (3, .int .i64), (4, .nilsl)])], 5⟩
set_option maxRecDepth 1000000 in
theorem turnN_runs (k h n p u w : Int) : Runs (runF (sums K_rheights) L0 38) (turnN_tpl.args [.i k, .i h, .i n, .i p, .i u, .i w]) (turnN_tpl.memo [.i k, .i h, .i n, .i p, .i u, .i w] []) turnN_tpl.n (SV.one (SC.ptr 0 0))
    ([(0, Obj.blk 62 [(1, SC.int IntKind.i64 (SI.v p)), (2, SC.int IntKind.i64 (SI.v u)), (3, SC.int IntKind.i64 (SI.v w)), (112, SC.wh 106)]),
    (106,
      Obj.row false 44 22
        (RowC.lit 108
          [[SC.int IntKind.i64 (SI.v k), SC.int IntKind.i64 (SI.c 0), SC.int IntKind.i64 (SI.c 0), SC.int IntKind.i64 (SI.c 0), SC.int IntKind.i64 (SI.c 0), SC.int IntKind.i64 (SI.v (solid_0 p u w h)),
              SC.int IntKind.i64 (SI.v (solid_1 p u w h)), SC.int IntKind.i64 (SI.v (solid_2 p u w h)), SC.int IntKind.i64 (SI.c 0), SC.int IntKind.i64 (SI.c 0), SC.int IntKind.i64 (SI.c 0),
              SC.int IntKind.i64 (SI.c 0), SC.int IntKind.i64 (SI.c 0), SC.bool (SB.c false), SC.int IntKind.i64 (SI.c 0), SC.bool (SB.c false), SC.int IntKind.i64 (SI.c 0), SC.int IntKind.i64 (SI.c 0),
              SC.int IntKind.i64 (SI.c 0), SC.int IntKind.i64 (SI.v n), SC.int IntKind.i64 (SI.c 0), SC.bool (SB.c false)]]))]) :=
  Runs.of (ps := []) (by kernel_rfl) (by kernel_rfl) (by simp)
noncomputable def turnN_out : List Pm → Lss → Option CRes
  | [.i k, .i h, .i n, .i p, .i u, .i w], [] => some ⟨SV.one (SC.ptr 0 0),
    [(0, Obj.blk 62 [(1, SC.int IntKind.i64 (SI.v p)), (2, SC.int IntKind.i64 (SI.v u)), (3, SC.int IntKind.i64 (SI.v w)), (112, SC.wh 106)]),
    (106,
      Obj.row false 44 22
        (RowC.lit 108
          [[SC.int IntKind.i64 (SI.v k), SC.int IntKind.i64 (SI.c 0), SC.int IntKind.i64 (SI.c 0), SC.int IntKind.i64 (SI.c 0), SC.int IntKind.i64 (SI.c 0), SC.int IntKind.i64 (SI.v (solid_0 p u w h)),
              SC.int IntKind.i64 (SI.v (solid_1 p u w h)), SC.int IntKind.i64 (SI.v (solid_2 p u w h)), SC.int IntKind.i64 (SI.c 0), SC.int IntKind.i64 (SI.c 0), SC.int IntKind.i64 (SI.c 0),
              SC.int IntKind.i64 (SI.c 0), SC.int IntKind.i64 (SI.c 0), SC.bool (SB.c false), SC.int IntKind.i64 (SI.c 0), SC.bool (SB.c false), SC.int IntKind.i64 (SI.c 0), SC.int IntKind.i64 (SI.c 0),
              SC.int IntKind.i64 (SI.c 0), SC.int IntKind.i64 (SI.v n), SC.int IntKind.i64 (SI.c 0), SC.bool (SB.c false)]]))],
    [], [], 116⟩
  | _, _ => none
theorem turnN_ok : FOk Try.prog 38 (tplS turnN_tpl turnN_out) := by
  refine tplS_ok (runF_ok known_rheights 38) fun ps ls r hr hn _ => ?_
  unfold turnN_out at hr
  split at hr
  · cases hr; exact ⟨_, turnN_runs _ _ _ _ _ _, fun _ => rfl⟩
  · cases hr
noncomputable def K_turnN : List (Nat × Summ) := (38, tplS turnN_tpl turnN_out) :: K_rheights
theorem known_turnN : Known Try.prog (sums K_turnN) L0 := known_cons known_rheights turnN_ok
noncomputable def turn_tpl : Tpl := ⟨[.one (.ptr 0 0), .one (.int .i64), .one (.int .i64), .one (.int .i64)], [(0, .blk 62 [(2, .int .i64), (3, .int .i64), (4, .int .i64), (5, .wh 1)]), (1, .row false 44 22 6 itemKs)], 7⟩
noncomputable def turn_0 (k : Int) (h : Int) (n : Int) (p : Int) (u : Int) (w : Int) (xs : List (List Int)) : List (List Int) :=
  xs ++ [[k, 0, 0, 0, 0, solid_0 p u w h, solid_1 p u w h, solid_2 p u w h, 0, 0, 0, 0, 0, 0, 0, 0, 0, 0, 0, n, 0, 0]]
noncomputable def turn_needs (xs : List (List Int)) : List Prop :=
  [(xs.length + 1) * 176 ≤ 140737488355328, xs.length + 1 ≤ 9223372036854775807]
theorem turn_len (k h n p u w : Int) (xs : List (List Int)) : (turn_0 k h n p u w xs).length = xs.length + 1 := by simp [turn_0]
theorem turn_weak {xs : List (List Int)} (hW : ∀ q ∈ ([xs.length ≤ 100000] : List Prop), q) : ∀ q ∈ (turn_needs xs), q := by
  simp only [List.mem_cons, List.not_mem_nil, or_false, forall_eq_or_imp, forall_eq] at hW
  intro q hq
  unfold turn_needs at hq
  simp only [List.mem_cons, List.not_mem_nil, or_false] at hq
  rcases hq with rfl | rfl <;> omega
set_option maxRecDepth 1000000 in
theorem turn_runs (k h n p u w : Int) (xs : List (List Int)) (hNeeds : ∀ pN ∈ (turn_needs xs), pN) : Runs (runF (sums K_turnN) L0 38) (turn_tpl.args [.i k, .i h, .i n, .i p, .i u, .i w]) (turn_tpl.memo [.i k, .i h, .i n, .i p, .i u, .i w] [xs]) turn_tpl.n (SV.one (SC.ptr 0 0))
    ([(0, Obj.blk 62 [(2, SC.int IntKind.i64 (SI.v p)), (3, SC.int IntKind.i64 (SI.v u)), (4, SC.int IntKind.i64 (SI.v w)), (114, SC.wh 108)]),
    (108,
      Obj.row false 44 22
        (RowC.lst 110
          [CK.int IntKind.i64, CK.int IntKind.i64, CK.int IntKind.i64, CK.int IntKind.i64, CK.int IntKind.i64, CK.int IntKind.i64, CK.int IntKind.i64, CK.int IntKind.i64, CK.int IntKind.i64,
            CK.int IntKind.i64, CK.int IntKind.i64, CK.int IntKind.i64, CK.int IntKind.i64, CK.bool, CK.int IntKind.i64, CK.bool, CK.int IntKind.i64, CK.int IntKind.i64, CK.int IntKind.i64,
            CK.int IntKind.i64, CK.int IntKind.i64, CK.bool]
          (turn_0 k h n p u w xs)))]) :=
  Runs.of (ps := (turn_needs xs)) (by kernel_rfl) (by kernel_rfl) hNeeds
noncomputable def turn_out : List Pm → Lss → Option CRes
  | [.i k, .i h, .i n, .i p, .i u, .i w], [xs] => some ⟨SV.one (SC.ptr 0 0),
    [(0, Obj.blk 62 [(2, SC.int IntKind.i64 (SI.v p)), (3, SC.int IntKind.i64 (SI.v u)), (4, SC.int IntKind.i64 (SI.v w)), (114, SC.wh 108)]),
    (108,
      Obj.row false 44 22
        (RowC.lst 110
          [CK.int IntKind.i64, CK.int IntKind.i64, CK.int IntKind.i64, CK.int IntKind.i64, CK.int IntKind.i64, CK.int IntKind.i64, CK.int IntKind.i64, CK.int IntKind.i64, CK.int IntKind.i64,
            CK.int IntKind.i64, CK.int IntKind.i64, CK.int IntKind.i64, CK.int IntKind.i64, CK.bool, CK.int IntKind.i64, CK.bool, CK.int IntKind.i64, CK.int IntKind.i64, CK.int IntKind.i64,
            CK.int IntKind.i64, CK.int IntKind.i64, CK.bool]
          (turn_0 k h n p u w xs)))],
    [xs.length ≤ 100000], [], 118⟩
  | _, _ => none
theorem turn_ok : FOk Try.prog 38 (tplS turn_tpl turn_out) := by
  refine tplS_ok (runF_ok known_turnN 38) fun ps ls r hr hn _ => ?_
  unfold turn_out at hr
  split at hr
  · cases hr; exact ⟨_, turn_runs _ _ _ _ _ _ _ (turn_weak (by exact hn)), fun _ => rfl⟩
  · cases hr
noncomputable def K_turn : List (Nat × Summ) := (38, orS (tplS turn_tpl turn_out) (tplS turnN_tpl turnN_out)) :: K_turnN
theorem known_turn : Known Try.prog (sums K_turn) L0 := known_cons known_turnN (orS_ok turn_ok turnN_ok)
noncomputable def dwell_tpl : Tpl := ⟨[.one (.ptr 0 0), .one (.int .i64)], [(0, .blk 62 [(2, .int .i64), (3, .int .i64), (4, .int .i64), (5, .wh 1)]), (1, .row false 44 22 6 itemKs)], 7⟩
noncomputable def dwell_0 (n : Int) (xs : List (List Int)) : List (List Int) :=
  xs ++ [[7, 0, 0, 0, 0, 0, 0, 0, 0, 0, 0, 0, 0, 0, 0, 0, 0, 0, 0, n, 0, 0]]
noncomputable def dwell_needs (xs : List (List Int)) : List Prop :=
  [(xs.length + 1) * 176 ≤ 140737488355328, xs.length + 1 ≤ 9223372036854775807]
theorem dwell_len (n : Int) (xs : List (List Int)) : (dwell_0 n xs).length = xs.length + 1 := by simp [dwell_0]
theorem dwell_weak {xs : List (List Int)} (hW : ∀ q ∈ ([xs.length ≤ 100000] : List Prop), q) : ∀ q ∈ (dwell_needs xs), q := by
  simp only [List.mem_cons, List.not_mem_nil, or_false, forall_eq_or_imp, forall_eq] at hW
  intro q hq
  unfold dwell_needs at hq
  simp only [List.mem_cons, List.not_mem_nil, or_false] at hq
  rcases hq with rfl | rfl <;> omega
set_option maxRecDepth 1000000 in
theorem dwell_runs (n p u w : Int) (xs : List (List Int)) (hNeeds : ∀ pN ∈ (dwell_needs xs), pN) : Runs (runF (sums K_turn) L0 39) (dwell_tpl.args [.i n, .i p, .i u, .i w]) (dwell_tpl.memo [.i n, .i p, .i u, .i w] [xs]) dwell_tpl.n (SV.one (SC.ptr 0 0))
    ([(0, Obj.blk 62 [(2, SC.int IntKind.i64 (SI.v p)), (3, SC.int IntKind.i64 (SI.v u)), (4, SC.int IntKind.i64 (SI.v w)), (24, SC.wh 18)]),
    (18,
      Obj.row false 44 22
        (RowC.lst 20
          [CK.int IntKind.i64, CK.int IntKind.i64, CK.int IntKind.i64, CK.int IntKind.i64, CK.int IntKind.i64, CK.int IntKind.i64, CK.int IntKind.i64, CK.int IntKind.i64, CK.int IntKind.i64,
            CK.int IntKind.i64, CK.int IntKind.i64, CK.int IntKind.i64, CK.int IntKind.i64, CK.bool, CK.int IntKind.i64, CK.bool, CK.int IntKind.i64, CK.int IntKind.i64, CK.int IntKind.i64,
            CK.int IntKind.i64, CK.int IntKind.i64, CK.bool]
          (dwell_0 n xs)))]) :=
  Runs.of (ps := (dwell_needs xs)) (by kernel_rfl) (by kernel_rfl) hNeeds
noncomputable def dwell_out : List Pm → Lss → Option CRes
  | [.i n, .i p, .i u, .i w], [xs] => some ⟨SV.one (SC.ptr 0 0),
    [(0, Obj.blk 62 [(2, SC.int IntKind.i64 (SI.v p)), (3, SC.int IntKind.i64 (SI.v u)), (4, SC.int IntKind.i64 (SI.v w)), (24, SC.wh 18)]),
    (18,
      Obj.row false 44 22
        (RowC.lst 20
          [CK.int IntKind.i64, CK.int IntKind.i64, CK.int IntKind.i64, CK.int IntKind.i64, CK.int IntKind.i64, CK.int IntKind.i64, CK.int IntKind.i64, CK.int IntKind.i64, CK.int IntKind.i64,
            CK.int IntKind.i64, CK.int IntKind.i64, CK.int IntKind.i64, CK.int IntKind.i64, CK.bool, CK.int IntKind.i64, CK.bool, CK.int IntKind.i64, CK.int IntKind.i64, CK.int IntKind.i64,
            CK.int IntKind.i64, CK.int IntKind.i64, CK.bool]
          (dwell_0 n xs)))],
    [xs.length ≤ 100000], [], 28⟩
  | _, _ => none
theorem dwell_ok : FOk Try.prog 39 (tplS dwell_tpl dwell_out) := by
  refine tplS_ok (runF_ok known_turn 39) fun ps ls r hr hn _ => ?_
  unfold dwell_out at hr
  split at hr
  · cases hr; exact ⟨_, dwell_runs _ _ _ _ _ (dwell_weak (by exact hn)), fun _ => rfl⟩
  · cases hr
noncomputable def K_dwell : List (Nat × Summ) := (39, tplS dwell_tpl dwell_out) :: K_turn
theorem known_dwell : Known Try.prog (sums K_dwell) L0 := known_cons known_turn dwell_ok
noncomputable def spin_tpl : Tpl := ⟨[.one (.ptr 0 0), .one (.int .i64), .one (.int .i64)], [(0, .blk 62 [(2, .int .i64), (3, .int .i64), (4, .int .i64), (5, .wh 1)]), (1, .row false 44 22 6 itemKs)], 7⟩
noncomputable def spin_0 (n : Int) (sp : Int) (xs : List (List Int)) : List (List Int) :=
  xs ++ [[8, 0, 0, 0, 0, 0, 0, 0, 0, 0, 0, 0, 0, 0, 0, 0, 0, 0, 0, n, sp, 0]]
noncomputable def spin_needs (xs : List (List Int)) : List Prop :=
  [(xs.length + 1) * 176 ≤ 140737488355328, xs.length + 1 ≤ 9223372036854775807]
theorem spin_len (n sp : Int) (xs : List (List Int)) : (spin_0 n sp xs).length = xs.length + 1 := by simp [spin_0]
theorem spin_weak {xs : List (List Int)} (hW : ∀ q ∈ ([xs.length ≤ 100000] : List Prop), q) : ∀ q ∈ (spin_needs xs), q := by
  simp only [List.mem_cons, List.not_mem_nil, or_false, forall_eq_or_imp, forall_eq] at hW
  intro q hq
  unfold spin_needs at hq
  simp only [List.mem_cons, List.not_mem_nil, or_false] at hq
  rcases hq with rfl | rfl <;> omega
set_option maxRecDepth 1000000 in
theorem spin_runs (n sp p u w : Int) (xs : List (List Int)) (hNeeds : ∀ pN ∈ (spin_needs xs), pN) : Runs (runF (sums K_dwell) L0 40) (spin_tpl.args [.i n, .i sp, .i p, .i u, .i w]) (spin_tpl.memo [.i n, .i sp, .i p, .i u, .i w] [xs]) spin_tpl.n (SV.one (SC.ptr 0 0))
    ([(0, Obj.blk 62 [(2, SC.int IntKind.i64 (SI.v p)), (3, SC.int IntKind.i64 (SI.v u)), (4, SC.int IntKind.i64 (SI.v w)), (25, SC.wh 19)]),
    (19,
      Obj.row false 44 22
        (RowC.lst 21
          [CK.int IntKind.i64, CK.int IntKind.i64, CK.int IntKind.i64, CK.int IntKind.i64, CK.int IntKind.i64, CK.int IntKind.i64, CK.int IntKind.i64, CK.int IntKind.i64, CK.int IntKind.i64,
            CK.int IntKind.i64, CK.int IntKind.i64, CK.int IntKind.i64, CK.int IntKind.i64, CK.bool, CK.int IntKind.i64, CK.bool, CK.int IntKind.i64, CK.int IntKind.i64, CK.int IntKind.i64,
            CK.int IntKind.i64, CK.int IntKind.i64, CK.bool]
          (spin_0 n sp xs)))]) :=
  Runs.of (ps := (spin_needs xs)) (by kernel_rfl) (by kernel_rfl) hNeeds
noncomputable def spin_out : List Pm → Lss → Option CRes
  | [.i n, .i sp, .i p, .i u, .i w], [xs] => some ⟨SV.one (SC.ptr 0 0),
    [(0, Obj.blk 62 [(2, SC.int IntKind.i64 (SI.v p)), (3, SC.int IntKind.i64 (SI.v u)), (4, SC.int IntKind.i64 (SI.v w)), (25, SC.wh 19)]),
    (19,
      Obj.row false 44 22
        (RowC.lst 21
          [CK.int IntKind.i64, CK.int IntKind.i64, CK.int IntKind.i64, CK.int IntKind.i64, CK.int IntKind.i64, CK.int IntKind.i64, CK.int IntKind.i64, CK.int IntKind.i64, CK.int IntKind.i64,
            CK.int IntKind.i64, CK.int IntKind.i64, CK.int IntKind.i64, CK.int IntKind.i64, CK.bool, CK.int IntKind.i64, CK.bool, CK.int IntKind.i64, CK.int IntKind.i64, CK.int IntKind.i64,
            CK.int IntKind.i64, CK.int IntKind.i64, CK.bool]
          (spin_0 n sp xs)))],
    [xs.length ≤ 100000], [], 29⟩
  | _, _ => none
theorem spin_ok : FOk Try.prog 40 (tplS spin_tpl spin_out) := by
  refine tplS_ok (runF_ok known_dwell 40) fun ps ls r hr hn _ => ?_
  unfold spin_out at hr
  split at hr
  · cases hr; exact ⟨_, spin_runs _ _ _ _ _ _ (spin_weak (by exact hn)), fun _ => rfl⟩
  · cases hr
noncomputable def K_spin : List (Nat × Summ) := (40, tplS spin_tpl spin_out) :: K_dwell
theorem known_spin : Known Try.prog (sums K_spin) L0 := known_cons known_dwell spin_ok
noncomputable def rto_tpl : Tpl := ⟨[.agg [.int .i64, .int .i64, .int .i64, .int .i64, .int .i64, .int .i64, .int .i64, .int .i64, .int .i64, .int .i64, .int .i64, .int .i64, .int .i64, .int .i64, .int .i64, .int .i64], .one (.int .i64), .one (.int .i64), .one (.int .i64)], [], 0⟩
set_option maxRecDepth 1000000 in
theorem rto_runs (c0 c1 c2 c3 c4 c5 c6 c7 c8 c9 c10 c11 c12 c13 c14 c15 k h n : Int) : Runs (runF (sums K_spin) L0 45) (rto_tpl.args [.i c0, .i c1, .i c2, .i c3, .i c4, .i c5, .i c6, .i c7, .i c8, .i c9, .i c10, .i c11, .i c12, .i c13, .i c14, .i c15, .i k, .i h, .i n]) (rto_tpl.memo [.i c0, .i c1, .i c2, .i c3, .i c4, .i c5, .i c6, .i c7, .i c8, .i c9, .i c10, .i c11, .i c12, .i c13, .i c14, .i c15, .i k, .i h, .i n] []) rto_tpl.n (SV.agg
    [SC.int IntKind.i64 (SI.v k), SC.int IntKind.i64 (SI.c 0), SC.int IntKind.i64 (SI.c 0), SC.int IntKind.i64 (SI.c 0), SC.int IntKind.i64 (SI.c 0),
      SC.int IntKind.i64 (SI.v (solid_0 c1 (flat_0 c1 c5 c6 c7) (flat_1 c1 c5 c6 c7) h)), SC.int IntKind.i64 (SI.v (solid_1 c1 (flat_0 c1 c5 c6 c7) (flat_1 c1 c5 c6 c7) h)),
      SC.int IntKind.i64 (SI.v (solid_2 c1 (flat_0 c1 c5 c6 c7) (flat_1 c1 c5 c6 c7) h)), SC.int IntKind.i64 (SI.c 0), SC.int IntKind.i64 (SI.c 0), SC.int IntKind.i64 (SI.c 0),
      SC.int IntKind.i64 (SI.c 0), SC.int IntKind.i64 (SI.c 0), SC.bool (SB.c false), SC.int IntKind.i64 (SI.c 0), SC.bool (SB.c false), SC.int IntKind.i64 (SI.c 0), SC.int IntKind.i64 (SI.c 0),
      SC.int IntKind.i64 (SI.c 0), SC.int IntKind.i64 (SI.v n), SC.int IntKind.i64 (SI.c 0), SC.bool (SB.c false)])
    ([]) :=
  Runs.of (ps := []) (by kernel_rfl) (by kernel_rfl) (by simp)
noncomputable def rto_out : List Pm → Lss → Option CRes
  | [.i c0, .i c1, .i c2, .i c3, .i c4, .i c5, .i c6, .i c7, .i c8, .i c9, .i c10, .i c11, .i c12, .i c13, .i c14, .i c15, .i k, .i h, .i n], [] => some ⟨SV.agg
    [SC.int IntKind.i64 (SI.v k), SC.int IntKind.i64 (SI.c 0), SC.int IntKind.i64 (SI.c 0), SC.int IntKind.i64 (SI.c 0), SC.int IntKind.i64 (SI.c 0),
      SC.int IntKind.i64 (SI.v (solid_0 c1 (flat_0 c1 c5 c6 c7) (flat_1 c1 c5 c6 c7) h)), SC.int IntKind.i64 (SI.v (solid_1 c1 (flat_0 c1 c5 c6 c7) (flat_1 c1 c5 c6 c7) h)),
      SC.int IntKind.i64 (SI.v (solid_2 c1 (flat_0 c1 c5 c6 c7) (flat_1 c1 c5 c6 c7) h)), SC.int IntKind.i64 (SI.c 0), SC.int IntKind.i64 (SI.c 0), SC.int IntKind.i64 (SI.c 0),
      SC.int IntKind.i64 (SI.c 0), SC.int IntKind.i64 (SI.c 0), SC.bool (SB.c false), SC.int IntKind.i64 (SI.c 0), SC.bool (SB.c false), SC.int IntKind.i64 (SI.c 0), SC.int IntKind.i64 (SI.c 0),
      SC.int IntKind.i64 (SI.c 0), SC.int IntKind.i64 (SI.v n), SC.int IntKind.i64 (SI.c 0), SC.bool (SB.c false)],
    [],
    [], [], 268⟩
  | _, _ => none
theorem rto_ok : FOk Try.prog 45 (tplS rto_tpl rto_out) := by
  refine tplS_ok (runF_ok known_spin 45) fun ps ls r hr hn _ => ?_
  unfold rto_out at hr
  split at hr
  · cases hr; exact ⟨_, rto_runs _ _ _ _ _ _ _ _ _ _ _ _ _ _ _ _ _ _ _, fun _ => rfl⟩
  · cases hr
noncomputable def K_rto : List (Nat × Summ) := (45, tplS rto_tpl rto_out) :: K_spin
theorem known_rto : Known Try.prog (sums K_rto) L0 := known_cons known_spin rto_ok
end Go.Proofs.Ytgimheibnpgphaa
