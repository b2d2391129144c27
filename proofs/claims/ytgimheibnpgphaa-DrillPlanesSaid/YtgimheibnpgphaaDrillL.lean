/-
  The laws of the drill: the walks. Conditions: none.
-/
import Derived.Test.YtgimheibnpgphaaDrillC
set_option linter.all false
namespace Go.Proofs.Ytgimheibnpgphaa
open Go.SX Go.RowKit
noncomputable def lawE_tpl : Tpl := ⟨[.one (.wh 0)], [(0, .row true 3 1 1 [.int .i64])], 2⟩
noncomputable def lawE_0 (L : List (List Int)) : Bool :=
  !light_0 L ||
    chk (cycle_0 L) (cycle_1 L) (cycle_2 L) (cycle_3 L) (cycle_4 L) (cycle_5 L) (cycle_6 L) (cycle_7 L) (cycle_8 L) (cycle_9 L) (cycle_10 L) (cycle_11 L) (cyc12 L) (cycle_12 L) (cycle_13 L) (cyc15 L) ==
      0
noncomputable def lawE_needs (L : List (List Int)) : List Prop :=
  [(!light_0 L) = false → L.length ≤ 1000000]
theorem lawE_0_eq (L : List (List Int)) : (lawE_0 L) = true := by
  unfold lawE_0
  rw [cycle_chk]
  simp
theorem lawE_need {L : List (List Int)} : ∀ q ∈ (lawE_needs L), q := by
  intro q hq
  unfold lawE_needs at hq
  simp only [List.mem_cons, List.not_mem_nil, or_false] at hq
  subst hq
  intro h
  have : (L.length : Int) ≤ 120 := by simpa [light_0] using h
  omega
set_option maxRecDepth 1000000 in
theorem lawE_runs (L : List (List Int)) (hNeeds : ∀ pN ∈ (lawE_needs L), pN) : Runs (runF (sums K_cycle) L_same 3) (lawE_tpl.args []) (lawE_tpl.memo [] [L]) lawE_tpl.n (SV.one (SC.bool (SB.v (lawE_0 L))))
    ([(0, Obj.row true 3 1 (RowC.lst 1 [CK.int IntKind.i64] L))]) :=
  Runs.of (ps := (lawE_needs L)) (by kernel_rfl) (by kernel_rfl) hNeeds
noncomputable def lawE_out : List Pm → Lss → Option CRes
  | [], [L] => some ⟨SV.one (SC.bool (SB.c true)),
    [(0, Obj.row true 3 1 (RowC.lst 1 [CK.int IntKind.i64] L))],
    [], [], 27167⟩
  | _, _ => none
theorem lawE_ok : FOk Try.prog 3 (tplS lawE_tpl lawE_out) := by
  refine tplS_ok (runF_ok known_cycle 3) fun ps ls r hr hn _ => ?_
  unfold lawE_out at hr
  split at hr
  · cases hr; exact ⟨_, lawE_runs _ (fun p hp => lawE_need p hp), fun _ => by simp only [SV.den, SC.den, SB.val, lawE_0_eq]⟩
  · cases hr
noncomputable def K_lawE : List (Nat × Summ) := (3, tplS lawE_tpl lawE_out) :: K_cycle
theorem known_lawE : Known Try.prog (sums K_lawE) L_same := known_cons known_cycle lawE_ok
noncomputable def lawC_tpl : Tpl := ⟨[.agg [.int .i64, .int .i64, .int .i64, .int .i64, .int .i64, .int .i64, .int .i64, .int .i64, .int .i64, .int .i64, .int .i64, .int .i64, .int .i64, .int .i64, .int .i64, .int .i64], .one (.wh 0), .one (.int .i64), .one (.int .i64)], [(0, .row true 3 1 1 [.int .i64])], 2⟩
noncomputable def lawC_needs (wh : Int) (L : List (List Int)) : List Prop :=
  [(!light_0 L) = false →
      L.length ≤ 1000000 ∧
        Int.ofNat 14 ≠ 0 ∧
          ((mod_0 wh 14 == 0) = false →
            (mod_0 wh 14 == 1) = false →
              (mod_0 wh 14 == 2) = false →
                (mod_0 wh 14 == 3) = false →
                  (mod_0 wh 14 == 4) = false →
                    (mod_0 wh 14 == 5) = false →
                      (mod_0 wh 14 == 6) = false →
                        (mod_0 wh 14 == 7) = false →
                          (mod_0 wh 14 == 8) = false →
                            (mod_0 wh 14 == 9) = false →
                              (mod_0 wh 14 == 10) = false → (mod_0 wh 14 == 11) = false → ((mod_0 wh 14 == 12) = true → Int.ofNat 9 ≠ 0) ∧ ((mod_0 wh 14 == 12) = false → Int.ofNat 3 ≠ 0))]
theorem lawC_need {wh : Int} {L : List (List Int)} : ∀ q ∈ (lawC_needs wh L), q := by
  intro q hq
  unfold lawC_needs at hq
  simp only [List.mem_cons, List.not_mem_nil, or_false] at hq
  subst hq
  intro h
  have : (L.length : Int) ≤ 120 := by simpa [light_0] using h
  exact ⟨by omega, by decide, fun _ _ _ _ _ _ _ _ _ _ _ _ => ⟨fun _ => by decide, fun _ => by decide⟩⟩
set_option maxRecDepth 1000000 in
theorem lawC_runs (c0 c1 c2 c3 c4 c5 c6 c7 c8 c9 c10 c11 c12 c13 c14 c15 wh b : Int) (L : List (List Int)) (hNeeds : ∀ pN ∈ (lawC_needs wh L), pN) : Runs (runF (sums K_lawE) L_same 4) (lawC_tpl.args [.i c0, .i c1, .i c2, .i c3, .i c4, .i c5, .i c6, .i c7, .i c8, .i c9, .i c10, .i c11, .i c12, .i c13, .i c14, .i c15, .i wh, .i b]) (lawC_tpl.memo [.i c0, .i c1, .i c2, .i c3, .i c4, .i c5, .i c6, .i c7, .i c8, .i c9, .i c10, .i c11, .i c12, .i c13, .i c14, .i c15, .i wh, .i b] [L]) lawC_tpl.n (SV.one (SC.bool (SB.c true)))
    ([(0, Obj.row true 3 1 (RowC.lst 1 [CK.int IntKind.i64] L))]) :=
  Runs.of (ps := (lawC_needs wh L)) (by kernel_rfl) (by kernel_rfl) hNeeds
noncomputable def lawC_out : List Pm → Lss → Option CRes
  | [.i c0, .i c1, .i c2, .i c3, .i c4, .i c5, .i c6, .i c7, .i c8, .i c9, .i c10, .i c11, .i c12, .i c13, .i c14, .i c15, .i wh, .i b], [L] => some ⟨SV.one (SC.bool (SB.c true)),
    [(0, Obj.row true 3 1 (RowC.lst 1 [CK.int IntKind.i64] L))],
    [], [], 48495⟩
  | _, _ => none
theorem lawC_ok : FOk Try.prog 4 (tplS lawC_tpl lawC_out) := by
  refine tplS_ok (runF_ok known_lawE 4) fun ps ls r hr hn _ => ?_
  unfold lawC_out at hr
  split at hr
  · cases hr; exact ⟨_, lawC_runs _ _ _ _ _ _ _ _ _ _ _ _ _ _ _ _ _ _ _ (fun p hp => lawC_need p hp), fun _ => rfl⟩
  · cases hr
noncomputable def K_lawC : List (Nat × Summ) := (4, tplS lawC_tpl lawC_out) :: K_lawE
theorem known_lawC : Known Try.prog (sums K_lawC) L_same := known_cons known_lawE lawC_ok
end Go.Proofs.Ytgimheibnpgphaa
