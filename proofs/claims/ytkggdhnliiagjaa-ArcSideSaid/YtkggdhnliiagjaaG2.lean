/-
  ARCS that are made. Conditions: none.
-/
import Derived.Test.YtkggdhnliiagjaaG1
set_option linter.all false
namespace Go.Proofs.Ytkggdhnliiagjaa
open Go.SX Go.RowKit
noncomputable def arc_tpl : Tpl := ⟨[.one (.ptr 0 0)], [(0, .blk 80 [(2, .wh 1), (3, .int .i64)]), (1, .row true 3 1 4 [.int .i64])], 5⟩
noncomputable def arc_0 (a : Int) (L : List (List Int)) : Int :=
  solid_0 (range_0 17 19 a L)
    (addpt_0 (ptm_0 30000 (spokes_6 (next_1 a L) L) L)
      (bif !fit_0 (spokes_0 (next_1 a L) L) (spokes_1 (next_1 a L) L) (spokes_2 (next_1 a L) L) (spokes_3 (next_1 a L) L) (spokes_4 (next_1 a L) L) then 50 else spokes_0 (next_1 a L) L))
    (addpt_0 (ptm_1 30000 (spokes_6 (next_1 a L) L) L)
      (bif !fit_0 (spokes_0 (next_1 a L) L) (spokes_1 (next_1 a L) L) (spokes_2 (next_1 a L) L) (spokes_3 (next_1 a L) L) (spokes_4 (next_1 a L) L) then 0 else spokes_1 (next_1 a L) L))
    (range_0 (-500) 500 (next_1 (next_1 (spokes_6 (next_1 a L) L) L) L) L)
noncomputable def arc_1 (a : Int) (L : List (List Int)) : Int :=
  solid_1 (range_0 17 19 a L)
    (addpt_0 (ptm_0 30000 (spokes_6 (next_1 a L) L) L)
      (bif !fit_0 (spokes_0 (next_1 a L) L) (spokes_1 (next_1 a L) L) (spokes_2 (next_1 a L) L) (spokes_3 (next_1 a L) L) (spokes_4 (next_1 a L) L) then 50 else spokes_0 (next_1 a L) L))
    (addpt_0 (ptm_1 30000 (spokes_6 (next_1 a L) L) L)
      (bif !fit_0 (spokes_0 (next_1 a L) L) (spokes_1 (next_1 a L) L) (spokes_2 (next_1 a L) L) (spokes_3 (next_1 a L) L) (spokes_4 (next_1 a L) L) then 0 else spokes_1 (next_1 a L) L))
    (range_0 (-500) 500 (next_1 (next_1 (spokes_6 (next_1 a L) L) L) L) L)
noncomputable def arc_2 (a : Int) (L : List (List Int)) : Int :=
  solid_2 (range_0 17 19 a L)
    (addpt_0 (ptm_0 30000 (spokes_6 (next_1 a L) L) L)
      (bif !fit_0 (spokes_0 (next_1 a L) L) (spokes_1 (next_1 a L) L) (spokes_2 (next_1 a L) L) (spokes_3 (next_1 a L) L) (spokes_4 (next_1 a L) L) then 50 else spokes_0 (next_1 a L) L))
    (addpt_0 (ptm_1 30000 (spokes_6 (next_1 a L) L) L)
      (bif !fit_0 (spokes_0 (next_1 a L) L) (spokes_1 (next_1 a L) L) (spokes_2 (next_1 a L) L) (spokes_3 (next_1 a L) L) (spokes_4 (next_1 a L) L) then 0 else spokes_1 (next_1 a L) L))
    (range_0 (-500) 500 (next_1 (next_1 (spokes_6 (next_1 a L) L) L) L) L)
noncomputable def arc_3 (a : Int) (L : List (List Int)) : Int :=
  solid_0 (range_0 17 19 a L)
    (addpt_0 (ptm_0 30000 (spokes_6 (next_1 a L) L) L)
      (bif !fit_0 (spokes_0 (next_1 a L) L) (spokes_1 (next_1 a L) L) (spokes_2 (next_1 a L) L) (spokes_3 (next_1 a L) L) (spokes_4 (next_1 a L) L) then 0 else spokes_2 (next_1 a L) L))
    (addpt_0 (ptm_1 30000 (spokes_6 (next_1 a L) L) L)
      (bif !fit_0 (spokes_0 (next_1 a L) L) (spokes_1 (next_1 a L) L) (spokes_2 (next_1 a L) L) (spokes_3 (next_1 a L) L) (spokes_4 (next_1 a L) L) then 50 else spokes_3 (next_1 a L) L))
    (range_0 (-500) 500 (next_1 (next_1 (next_1 (spokes_6 (next_1 a L) L) L) L) L) L)
noncomputable def arc_4 (a : Int) (L : List (List Int)) : Int :=
  solid_1 (range_0 17 19 a L)
    (addpt_0 (ptm_0 30000 (spokes_6 (next_1 a L) L) L)
      (bif !fit_0 (spokes_0 (next_1 a L) L) (spokes_1 (next_1 a L) L) (spokes_2 (next_1 a L) L) (spokes_3 (next_1 a L) L) (spokes_4 (next_1 a L) L) then 0 else spokes_2 (next_1 a L) L))
    (addpt_0 (ptm_1 30000 (spokes_6 (next_1 a L) L) L)
      (bif !fit_0 (spokes_0 (next_1 a L) L) (spokes_1 (next_1 a L) L) (spokes_2 (next_1 a L) L) (spokes_3 (next_1 a L) L) (spokes_4 (next_1 a L) L) then 50 else spokes_3 (next_1 a L) L))
    (range_0 (-500) 500 (next_1 (next_1 (next_1 (spokes_6 (next_1 a L) L) L) L) L) L)
noncomputable def arc_5 (a : Int) (L : List (List Int)) : Int :=
  solid_2 (range_0 17 19 a L)
    (addpt_0 (ptm_0 30000 (spokes_6 (next_1 a L) L) L)
      (bif !fit_0 (spokes_0 (next_1 a L) L) (spokes_1 (next_1 a L) L) (spokes_2 (next_1 a L) L) (spokes_3 (next_1 a L) L) (spokes_4 (next_1 a L) L) then 0 else spokes_2 (next_1 a L) L))
    (addpt_0 (ptm_1 30000 (spokes_6 (next_1 a L) L) L)
      (bif !fit_0 (spokes_0 (next_1 a L) L) (spokes_1 (next_1 a L) L) (spokes_2 (next_1 a L) L) (spokes_3 (next_1 a L) L) (spokes_4 (next_1 a L) L) then 50 else spokes_3 (next_1 a L) L))
    (range_0 (-500) 500 (next_1 (next_1 (next_1 (spokes_6 (next_1 a L) L) L) L) L) L)
noncomputable def arc_6 (a : Int) (L : List (List Int)) : Int :=
  solid_0 (range_0 17 19 a L) (ptm_0 30000 (spokes_6 (next_1 a L) L) L) (ptm_1 30000 (spokes_6 (next_1 a L) L) L) (range_0 (-500) 500 (next_1 (next_1 (spokes_6 (next_1 a L) L) L) L) L)
noncomputable def arc_7 (a : Int) (L : List (List Int)) : Int :=
  solid_1 (range_0 17 19 a L) (ptm_0 30000 (spokes_6 (next_1 a L) L) L) (ptm_1 30000 (spokes_6 (next_1 a L) L) L) (range_0 (-500) 500 (next_1 (next_1 (spokes_6 (next_1 a L) L) L) L) L)
noncomputable def arc_8 (a : Int) (L : List (List Int)) : Int :=
  solid_2 (range_0 17 19 a L) (ptm_0 30000 (spokes_6 (next_1 a L) L) L) (ptm_1 30000 (spokes_6 (next_1 a L) L) L) (range_0 (-500) 500 (next_1 (next_1 (spokes_6 (next_1 a L) L) L) L) L)
noncomputable def arc_9 (a : Int) (L : List (List Int)) : Int :=
  IntKind.i64.wrap (1 - IntKind.i64.wrap (2 * next_0 2 (next_1 (next_1 (next_1 (next_1 (spokes_6 (next_1 a L) L) L) L) L) L) L))
noncomputable def arc_10 (a : Int) (L : List (List Int)) : Bool :=
  bif !fit_0 (spokes_0 (next_1 a L) L) (spokes_1 (next_1 a L) L) (spokes_2 (next_1 a L) L) (spokes_3 (next_1 a L) L) (spokes_4 (next_1 a L) L) then false else spokes_4 (next_1 a L) L
noncomputable def arc_11 (a : Int) (L : List (List Int)) : Bool :=
  next_0 4 (next_1 (next_1 (next_1 (next_1 (next_1 (next_1 (spokes_6 (next_1 a L) L) L) L) L) L) L) L) L == 0
noncomputable def arc_needs (a : Int) (L : List (List Int)) : List Prop :=
  [0 ≤ a, L.length ≤ 1000000, Int.ofNat 3 ≠ 0, 0 ≤ next_1 a L, L.length ≤ 1000000, 0 ≤ spokes_6 (next_1 a L) L, L.length ≤ 1000000, Int.ofNat 0 < 30000 ∧ Int.ofNat 30000 ≤ 1000000,
    0 ≤ next_1 (next_1 (spokes_6 (next_1 a L) L) L) L, L.length ≤ 1000000, Int.ofNat 1001 ≠ 0, 0 ≤ next_1 (next_1 (next_1 (spokes_6 (next_1 a L) L) L) L) L, L.length ≤ 1000000, Int.ofNat 1001 ≠ 0,
    0 ≤ next_1 (next_1 (next_1 (next_1 (spokes_6 (next_1 a L) L) L) L) L) L, L.length ≤ 1000000, Int.ofNat 2 ≠ 0, 0 ≤ next_1 (next_1 (next_1 (next_1 (next_1 (spokes_6 (next_1 a L) L) L) L) L) L) L,
    L.length ≤ 1000000, Int.ofNat 90000 ≠ 0, 0 ≤ next_1 (next_1 (next_1 (next_1 (next_1 (next_1 (spokes_6 (next_1 a L) L) L) L) L) L) L) L, L.length ≤ 1000000, Int.ofNat 4 ≠ 0,
    0 ≤ next_1 (next_1 (next_1 (next_1 (next_1 (next_1 (next_1 (spokes_6 (next_1 a L) L) L) L) L) L) L) L) L, L.length ≤ 1000000, Int.ofNat 200 ≠ 0,
    0 ≤ next_1 (next_1 (next_1 (next_1 (next_1 (next_1 (next_1 (next_1 (spokes_6 (next_1 a L) L) L) L) L) L) L) L) L) L, L.length ≤ 1000000, Int.ofNat 20 ≠ 0]
theorem arc_weak {a : Int} {L : List (List Int)} (hW : ∀ q ∈ ([0 ≤ a, L.length ≤ 1000000] : List Prop), q) : ∀ q ∈ (arc_needs a L), q := by
  simp only [List.mem_cons, List.not_mem_nil, or_false, forall_eq_or_imp, forall_eq] at hW
  unfold arc_needs
  simp only [List.forall_mem_cons, List.not_mem_nil, false_implies, implies_true, and_true]
  obtain ⟨h1, h2⟩ := hW
  have nn : ∀ x, 0 ≤ x → 0 ≤ next_1 x L := fun x h => next_1_nn x L h h2
  have s6 := spokes_6_nn (next_1 a L) L (nn a h1) h2
  repeat' (first | assumption | decide | apply And.intro | apply nn)
set_option maxRecDepth 1000000 in
theorem arc_runs (a : Int) (L : List (List Int)) (hNeeds : ∀ pN ∈ (arc_needs a L), pN) : Runs (runF (sums K_spokes) L_ov 20) (arc_tpl.args [.i a]) (arc_tpl.memo [.i a] [L]) arc_tpl.n (SV.agg
    [SC.int IntKind.i64 (SI.c 3), SC.int IntKind.i64 (SI.v (next_0 20 (next_1 (next_1 (next_1 (next_1 (next_1 (next_1 (next_1 (next_1 (spokes_6 (next_1 a L) L) L) L) L) L) L) L) L) L) L)),
      SC.int IntKind.i64 (SI.v (arc_0 a L)), SC.int IntKind.i64 (SI.v (arc_1 a L)), SC.int IntKind.i64 (SI.v (arc_2 a L)), SC.int IntKind.i64 (SI.v (arc_3 a L)), SC.int IntKind.i64 (SI.v (arc_4 a L)),
      SC.int IntKind.i64 (SI.v (arc_5 a L)), SC.int IntKind.i64 (SI.v (range_0 17 19 a L)), SC.int IntKind.i64 (SI.v (arc_6 a L)), SC.int IntKind.i64 (SI.v (arc_7 a L)),
      SC.int IntKind.i64 (SI.v (arc_8 a L)), SC.int IntKind.i64 (SI.v (arc_9 a L)), SC.bool (SB.v (arc_10 a L)),
      SC.int IntKind.i64 (SI.v (range_0 1 90000 (next_1 (next_1 (next_1 (next_1 (next_1 (spokes_6 (next_1 a L) L) L) L) L) L) L) L)), SC.bool (SB.v (arc_11 a L)), SC.int IntKind.i64 (SI.c 0),
      SC.int IntKind.i64 (SI.c 0), SC.int IntKind.i64 (SI.v (next_0 200 (next_1 (next_1 (next_1 (next_1 (next_1 (next_1 (next_1 (spokes_6 (next_1 a L) L) L) L) L) L) L) L) L) L)),
      SC.int IntKind.i64 (SI.c 0), SC.int IntKind.i64 (SI.c 0), SC.bool (SB.c false)])
    ([(0, Obj.blk 80 [(2, SC.wh 1), (2247, SC.int IntKind.i64 (SI.v (next_1 (next_1 (next_1 (next_1 (next_1 (next_1 (next_1 (next_1 (next_1 (spokes_6 (next_1 a L) L) L) L) L) L) L) L) L) L) L)))]),
    (1, Obj.row true 3 1 (RowC.lst 4 [CK.int IntKind.i64] L))]) :=
  Runs.of (ps := (arc_needs a L)) (by kernel_rfl) (by kernel_rfl) hNeeds
noncomputable def arc_out : List Pm → Lss → Option CRes
  | [.i a], [L] => some ⟨SV.agg
    [SC.int IntKind.i64 (SI.c 3), SC.int IntKind.i64 (SI.v (next_0 20 (next_1 (next_1 (next_1 (next_1 (next_1 (next_1 (next_1 (next_1 (spokes_6 (next_1 a L) L) L) L) L) L) L) L) L) L) L)),
      SC.int IntKind.i64 (SI.v (arc_0 a L)), SC.int IntKind.i64 (SI.v (arc_1 a L)), SC.int IntKind.i64 (SI.v (arc_2 a L)), SC.int IntKind.i64 (SI.v (arc_3 a L)), SC.int IntKind.i64 (SI.v (arc_4 a L)),
      SC.int IntKind.i64 (SI.v (arc_5 a L)), SC.int IntKind.i64 (SI.v (range_0 17 19 a L)), SC.int IntKind.i64 (SI.v (arc_6 a L)), SC.int IntKind.i64 (SI.v (arc_7 a L)),
      SC.int IntKind.i64 (SI.v (arc_8 a L)), SC.int IntKind.i64 (SI.v (arc_9 a L)), SC.bool (SB.v (arc_10 a L)),
      SC.int IntKind.i64 (SI.v (range_0 1 90000 (next_1 (next_1 (next_1 (next_1 (next_1 (spokes_6 (next_1 a L) L) L) L) L) L) L) L)), SC.bool (SB.v (arc_11 a L)), SC.int IntKind.i64 (SI.c 0),
      SC.int IntKind.i64 (SI.c 0), SC.int IntKind.i64 (SI.v (next_0 200 (next_1 (next_1 (next_1 (next_1 (next_1 (next_1 (next_1 (spokes_6 (next_1 a L) L) L) L) L) L) L) L) L) L)),
      SC.int IntKind.i64 (SI.c 0), SC.int IntKind.i64 (SI.c 0), SC.bool (SB.c false)],
    [(0, Obj.blk 80 [(2, SC.wh 1), (2247, SC.int IntKind.i64 (SI.v (next_1 (next_1 (next_1 (next_1 (next_1 (next_1 (next_1 (next_1 (next_1 (spokes_6 (next_1 a L) L) L) L) L) L) L) L) L) L) L)))]),
    (1, Obj.row true 3 1 (RowC.lst 4 [CK.int IntKind.i64] L))],
    [0 ≤ a, L.length ≤ 1000000], [], 2273⟩
  | _, _ => none
theorem arc_ok : FOk Try.prog 20 (tplS arc_tpl arc_out) := by
  refine tplS_ok (runF_ok known_spokes 20) fun ps ls r hr hn _ => ?_
  unfold arc_out at hr
  split at hr
  · cases hr; exact ⟨_, arc_runs _ _ (arc_weak (by exact hn)), fun _ => rfl⟩
  · cases hr
noncomputable def K_arc : List (Nat × Summ) := (20, tplS arc_tpl arc_out) :: K_spokes
theorem known_arc : Known Try.prog (sums K_arc) L_ov := known_cons known_spokes arc_ok
noncomputable def vec_tpl : Tpl := ⟨[.one (.ptr 0 0), .one (.int .i64)], [(0, .blk 80 [(2, .wh 1), (3, .int .i64)]), (1, .row true 3 1 4 [.int .i64])], 5⟩
noncomputable def vec_2 (n : Int) (a : Int) (L : List (List Int)) : Int :=
  range_0 (IntKind.i64.wrap (0 - n)) n (next_1 (next_1 a L) L) L
noncomputable def vec_needs (n : Int) (a : Int) (L : List (List Int)) : List Prop :=
  [0 ≤ a, L.length ≤ 1000000, IntKind.i64.wrap (IntKind.i64.wrap (n - IntKind.i64.wrap (0 - n)) + 1) ≠ 0, 0 ≤ next_1 a L, L.length ≤ 1000000,
    IntKind.i64.wrap (IntKind.i64.wrap (n - IntKind.i64.wrap (0 - n)) + 1) ≠ 0, 0 ≤ next_1 (next_1 a L) L, L.length ≤ 1000000, IntKind.i64.wrap (IntKind.i64.wrap (n - IntKind.i64.wrap (0 - n)) + 1) ≠ 0]
theorem vec_weak {n : Int} {a : Int} {L : List (List Int)} (hW : ∀ q ∈ ([0 ≤ a, L.length ≤ 1000000, 0 < n ∧ n ≤ 1000000] : List Prop), q) : ∀ q ∈ (vec_needs n a L), q := by
  simp only [List.mem_cons, List.not_mem_nil, or_false, forall_eq_or_imp, forall_eq] at hW
  unfold vec_needs
  simp only [List.forall_mem_cons, List.not_mem_nil, false_implies, implies_true, and_true]
  obtain ⟨h1, h2, h3, h4⟩ := hW
  have h5 : IntKind.i64.wrap (IntKind.i64.wrap (n - IntKind.i64.wrap (0 - n)) + 1) ≠ 0 := by
    rw [wrI (x := 0 - n) (by omega) (by omega), wrI (x := n - (0 - n)) (by omega) (by omega), wrI (by omega) (by omega)]
    omega
  have nn : ∀ x, 0 ≤ x → 0 ≤ next_1 x L := fun x h => next_1_nn x L h h2
  repeat' (first | assumption | apply And.intro | apply nn)
set_option maxRecDepth 1000000 in
theorem vec_runs (n a : Int) (L : List (List Int)) (hNeeds : ∀ pN ∈ (vec_needs n a L), pN) : Runs (runF (sums K_arc) L_ov 38) (vec_tpl.args [.i n, .i a]) (vec_tpl.memo [.i n, .i a] [L]) vec_tpl.n (SV.agg [SC.int IntKind.i64 (SI.v (ptm_0 n a L)), SC.int IntKind.i64 (SI.v (ptm_1 n a L)), SC.int IntKind.i64 (SI.v (vec_2 n a L))])
    ([(0, Obj.blk 80 [(2, SC.wh 1), (234, SC.int IntKind.i64 (SI.v (next_1 (next_1 (next_1 a L) L) L)))]), (1, Obj.row true 3 1 (RowC.lst 4 [CK.int IntKind.i64] L))]) :=
  Runs.of (ps := (vec_needs n a L)) (by kernel_rfl) (by kernel_rfl) hNeeds
noncomputable def vec_out : List Pm → Lss → Option CRes
  | [.i n, .i a], [L] => some ⟨SV.agg [SC.int IntKind.i64 (SI.v (ptm_0 n a L)), SC.int IntKind.i64 (SI.v (ptm_1 n a L)), SC.int IntKind.i64 (SI.v (vec_2 n a L))],
    [(0, Obj.blk 80 [(2, SC.wh 1), (234, SC.int IntKind.i64 (SI.v (next_1 (next_1 (next_1 a L) L) L)))]), (1, Obj.row true 3 1 (RowC.lst 4 [CK.int IntKind.i64] L))],
    [0 ≤ a, L.length ≤ 1000000, 0 < n ∧ n ≤ 1000000], [], 244⟩
  | _, _ => none
theorem vec_ok : FOk Try.prog 38 (tplS vec_tpl vec_out) := by
  refine tplS_ok (runF_ok known_arc 38) fun ps ls r hr hn _ => ?_
  unfold vec_out at hr
  split at hr
  · cases hr; exact ⟨_, vec_runs _ _ _ (vec_weak (by exact hn)), fun _ => rfl⟩
  · cases hr
noncomputable def K_vec : List (Nat × Summ) := (38, tplS vec_tpl vec_out) :: K_arc
theorem known_vec : Known Try.prog (sums K_vec) L_ov := known_cons known_arc vec_ok
end Go.Proofs.Ytkggdhnliiagjaa
