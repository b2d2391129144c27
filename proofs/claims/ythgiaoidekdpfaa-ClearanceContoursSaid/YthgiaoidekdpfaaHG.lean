/-
  STAGE: points, spokes, arcs, items. Conditions: none.
-/
import Derived.Test.YthgiaoidekdpfaaHV
set_option linter.all false
namespace Go.Proofs.Ythgiaoidekdpfaa
open Go.SX Go.RowKit
noncomputable def sarc_tpl : Tpl := ⟨[.one (.ptr 0 0)], [(0, .blk 76 [(2, .wh 1), (3, .int .i64)]), (1, .row true 3 1 4 [.int .i64])], 5⟩
noncomputable def sarc_0 (a : Int) (L : List (List Int)) : Int :=
  r4solid_0 (range_0 17 19 a L)
   (addpt_0 (ptm_0 30000 (spokes_6 (next_1 a L) L) L)
   (bif !fit_0 (spokes_0 (next_1 a L) L) (spokes_1 (next_1 a L) L) (spokes_2 (next_1 a L) L) (spokes_3 (next_1 a L) L) (spokes_4 (next_1 a L) L) then 50 else spokes_0 (next_1 a L) L))
   (addpt_0 (ptm_1 30000 (spokes_6 (next_1 a L) L) L)
   (bif !fit_0 (spokes_0 (next_1 a L) L) (spokes_1 (next_1 a L) L) (spokes_2 (next_1 a L) L) (spokes_3 (next_1 a L) L) (spokes_4 (next_1 a L) L) then 0 else spokes_1 (next_1 a L) L))
   (range_0 (-500) 500 (next_1 (next_1 (spokes_6 (next_1 a L) L) L) L) L)
noncomputable def sarc_1 (a : Int) (L : List (List Int)) : Int :=
  r4solid_1 (range_0 17 19 a L)
   (addpt_0 (ptm_0 30000 (spokes_6 (next_1 a L) L) L)
   (bif !fit_0 (spokes_0 (next_1 a L) L) (spokes_1 (next_1 a L) L) (spokes_2 (next_1 a L) L) (spokes_3 (next_1 a L) L) (spokes_4 (next_1 a L) L) then 50 else spokes_0 (next_1 a L) L))
   (addpt_0 (ptm_1 30000 (spokes_6 (next_1 a L) L) L)
   (bif !fit_0 (spokes_0 (next_1 a L) L) (spokes_1 (next_1 a L) L) (spokes_2 (next_1 a L) L) (spokes_3 (next_1 a L) L) (spokes_4 (next_1 a L) L) then 0 else spokes_1 (next_1 a L) L))
   (range_0 (-500) 500 (next_1 (next_1 (spokes_6 (next_1 a L) L) L) L) L)
noncomputable def sarc_2 (a : Int) (L : List (List Int)) : Int :=
  r4solid_2 (range_0 17 19 a L)
   (addpt_0 (ptm_0 30000 (spokes_6 (next_1 a L) L) L)
   (bif !fit_0 (spokes_0 (next_1 a L) L) (spokes_1 (next_1 a L) L) (spokes_2 (next_1 a L) L) (spokes_3 (next_1 a L) L) (spokes_4 (next_1 a L) L) then 50 else spokes_0 (next_1 a L) L))
   (addpt_0 (ptm_1 30000 (spokes_6 (next_1 a L) L) L)
   (bif !fit_0 (spokes_0 (next_1 a L) L) (spokes_1 (next_1 a L) L) (spokes_2 (next_1 a L) L) (spokes_3 (next_1 a L) L) (spokes_4 (next_1 a L) L) then 0 else spokes_1 (next_1 a L) L))
   (range_0 (-500) 500 (next_1 (next_1 (spokes_6 (next_1 a L) L) L) L) L)
noncomputable def sarc_3 (a : Int) (L : List (List Int)) : Int :=
  r4solid_0 (range_0 17 19 a L)
   (addpt_0 (ptm_0 30000 (spokes_6 (next_1 a L) L) L)
   (bif !fit_0 (spokes_0 (next_1 a L) L) (spokes_1 (next_1 a L) L) (spokes_2 (next_1 a L) L) (spokes_3 (next_1 a L) L) (spokes_4 (next_1 a L) L) then 0 else spokes_2 (next_1 a L) L))
   (addpt_0 (ptm_1 30000 (spokes_6 (next_1 a L) L) L)
   (bif !fit_0 (spokes_0 (next_1 a L) L) (spokes_1 (next_1 a L) L) (spokes_2 (next_1 a L) L) (spokes_3 (next_1 a L) L) (spokes_4 (next_1 a L) L) then 50 else spokes_3 (next_1 a L) L))
   (range_0 (-500) 500 (next_1 (next_1 (next_1 (spokes_6 (next_1 a L) L) L) L) L) L)
noncomputable def sarc_4 (a : Int) (L : List (List Int)) : Int :=
  r4solid_1 (range_0 17 19 a L)
   (addpt_0 (ptm_0 30000 (spokes_6 (next_1 a L) L) L)
   (bif !fit_0 (spokes_0 (next_1 a L) L) (spokes_1 (next_1 a L) L) (spokes_2 (next_1 a L) L) (spokes_3 (next_1 a L) L) (spokes_4 (next_1 a L) L) then 0 else spokes_2 (next_1 a L) L))
   (addpt_0 (ptm_1 30000 (spokes_6 (next_1 a L) L) L)
   (bif !fit_0 (spokes_0 (next_1 a L) L) (spokes_1 (next_1 a L) L) (spokes_2 (next_1 a L) L) (spokes_3 (next_1 a L) L) (spokes_4 (next_1 a L) L) then 50 else spokes_3 (next_1 a L) L))
   (range_0 (-500) 500 (next_1 (next_1 (next_1 (spokes_6 (next_1 a L) L) L) L) L) L)
noncomputable def sarc_5 (a : Int) (L : List (List Int)) : Int :=
  r4solid_2 (range_0 17 19 a L)
   (addpt_0 (ptm_0 30000 (spokes_6 (next_1 a L) L) L)
   (bif !fit_0 (spokes_0 (next_1 a L) L) (spokes_1 (next_1 a L) L) (spokes_2 (next_1 a L) L) (spokes_3 (next_1 a L) L) (spokes_4 (next_1 a L) L) then 0 else spokes_2 (next_1 a L) L))
   (addpt_0 (ptm_1 30000 (spokes_6 (next_1 a L) L) L)
   (bif !fit_0 (spokes_0 (next_1 a L) L) (spokes_1 (next_1 a L) L) (spokes_2 (next_1 a L) L) (spokes_3 (next_1 a L) L) (spokes_4 (next_1 a L) L) then 50 else spokes_3 (next_1 a L) L))
   (range_0 (-500) 500 (next_1 (next_1 (next_1 (spokes_6 (next_1 a L) L) L) L) L) L)
noncomputable def sarc_6 (a : Int) (L : List (List Int)) : Int :=
  r4solid_0 (range_0 17 19 a L) (ptm_0 30000 (spokes_6 (next_1 a L) L) L) (ptm_1 30000 (spokes_6 (next_1 a L) L) L) (range_0 (-500) 500 (next_1 (next_1 (spokes_6 (next_1 a L) L) L) L) L)
noncomputable def sarc_7 (a : Int) (L : List (List Int)) : Int :=
  r4solid_1 (range_0 17 19 a L) (ptm_0 30000 (spokes_6 (next_1 a L) L) L) (ptm_1 30000 (spokes_6 (next_1 a L) L) L) (range_0 (-500) 500 (next_1 (next_1 (spokes_6 (next_1 a L) L) L) L) L)
noncomputable def sarc_8 (a : Int) (L : List (List Int)) : Int :=
  r4solid_2 (range_0 17 19 a L) (ptm_0 30000 (spokes_6 (next_1 a L) L) L) (ptm_1 30000 (spokes_6 (next_1 a L) L) L) (range_0 (-500) 500 (next_1 (next_1 (spokes_6 (next_1 a L) L) L) L) L)
noncomputable def sarc_9 (a : Int) (L : List (List Int)) : Int :=
  IntKind.i64.wrap (1 - IntKind.i64.wrap (2 * next_0 2 (next_1 (next_1 (next_1 (next_1 (spokes_6 (next_1 a L) L) L) L) L) L) L))
noncomputable def sarc_10 (a : Int) (L : List (List Int)) : Bool :=
  bif !fit_0 (spokes_0 (next_1 a L) L) (spokes_1 (next_1 a L) L) (spokes_2 (next_1 a L) L) (spokes_3 (next_1 a L) L) (spokes_4 (next_1 a L) L) then false else spokes_4 (next_1 a L) L
noncomputable def sarc_11 (a : Int) (L : List (List Int)) : Bool :=
  next_0 4 (next_1 (next_1 (next_1 (next_1 (next_1 (next_1 (spokes_6 (next_1 a L) L) L) L) L) L) L) L) L == 0
noncomputable def sarc_needs (a : Int) (L : List (List Int)) : List Prop :=
  [0 ≤ a, L.length ≤ 1000000, Int.ofNat 17 ≤ 19 ∧ -1000000 ≤ 17 ∧ Int.ofNat 19 ≤ 1000000, 0 ≤ next_1 a L, L.length ≤ 1000000, 0 ≤ spokes_6 (next_1 a L) L, L.length ≤ 1000000,
   Int.ofNat 0 < 30000 ∧ Int.ofNat 30000 ≤ 1000000, 0 ≤ next_1 (next_1 (spokes_6 (next_1 a L) L) L) L, L.length ≤ 1000000, -500 ≤ 500 ∧ -1000000 ≤ -500 ∧ Int.ofNat 500 ≤ 1000000,
   0 ≤ next_1 (next_1 (next_1 (spokes_6 (next_1 a L) L) L) L) L, L.length ≤ 1000000, -500 ≤ 500 ∧ -1000000 ≤ -500 ∧ Int.ofNat 500 ≤ 1000000,
   0 ≤ next_1 (next_1 (next_1 (next_1 (spokes_6 (next_1 a L) L) L) L) L) L, L.length ≤ 1000000, Int.ofNat 2 ≠ 0, 0 ≤ next_1 (next_1 (next_1 (next_1 (next_1 (spokes_6 (next_1 a L) L) L) L) L) L) L,
   L.length ≤ 1000000, Int.ofNat 1 ≤ 90000 ∧ -1000000 ≤ 1 ∧ Int.ofNat 90000 ≤ 1000000, 0 ≤ next_1 (next_1 (next_1 (next_1 (next_1 (next_1 (spokes_6 (next_1 a L) L) L) L) L) L) L) L, L.length ≤ 1000000,
   Int.ofNat 4 ≠ 0, 0 ≤ next_1 (next_1 (next_1 (next_1 (next_1 (next_1 (next_1 (spokes_6 (next_1 a L) L) L) L) L) L) L) L) L, L.length ≤ 1000000, Int.ofNat 200 ≠ 0,
   0 ≤ next_1 (next_1 (next_1 (next_1 (next_1 (next_1 (next_1 (next_1 (spokes_6 (next_1 a L) L) L) L) L) L) L) L) L) L, L.length ≤ 1000000, Int.ofNat 20 ≠ 0]
theorem sarc_weak {a : Int} {L : List (List Int)} (hW : ∀ q ∈ ([0 ≤ a, L.length ≤ 1000000] : List Prop), q) : ∀ q ∈ (sarc_needs a L), q := by
  simp only [List.mem_cons, List.not_mem_nil, or_false, forall_eq_or_imp, forall_eq] at hW
  unfold sarc_needs
  simp only [List.forall_mem_cons, List.not_mem_nil, false_implies, implies_true, and_true]
  obtain ⟨h1, h2⟩ := hW
  have nn : ∀ x, 0 ≤ x → 0 ≤ next_1 x L := fun x h => next_1_nn x L h h2
  have r3 : ∀ x, 0 ≤ next_0 3 x L ∧ (next_0 3 x L).toNat < 3 := fun x => by have := next_0_range 3 x L (by omega) (by omega); omega
  have sp : ∀ x, 0 ≤ x → 0 ≤ spokes_6 x L := fun x h => spokes_6_nn x L h h2
  repeat' first | exact h2 | exact h1 | exact (r3 _).1 | exact (r3 _).2 | refine nn _ ?_ | refine sp _ ?_ | decide | refine And.intro ?_ ?_ | intro _
set_option maxRecDepth 1000000 in
theorem sarc_runs (a : Int) (L : List (List Int)) (hNeeds : ∀ pN ∈ (sarc_needs a L), pN) : Runs (runF (sums K_rvalid) L_con 83) (sarc_tpl.args [.i a]) (sarc_tpl.memo [.i a] [L]) sarc_tpl.n (SV.agg
    [SC.int IntKind.i64 (SI.c 3), SC.int IntKind.i64 (SI.v (next_0 20 (next_1 (next_1 (next_1 (next_1 (next_1 (next_1 (next_1 (next_1 (spokes_6 (next_1 a L) L) L) L) L) L) L) L) L) L) L)),
     SC.int IntKind.i64 (SI.v (sarc_0 a L)), SC.int IntKind.i64 (SI.v (sarc_1 a L)), SC.int IntKind.i64 (SI.v (sarc_2 a L)), SC.int IntKind.i64 (SI.v (sarc_3 a L)),
     SC.int IntKind.i64 (SI.v (sarc_4 a L)), SC.int IntKind.i64 (SI.v (sarc_5 a L)), SC.int IntKind.i64 (SI.v (range_0 17 19 a L)), SC.int IntKind.i64 (SI.v (sarc_6 a L)),
     SC.int IntKind.i64 (SI.v (sarc_7 a L)), SC.int IntKind.i64 (SI.v (sarc_8 a L)), SC.int IntKind.i64 (SI.v (sarc_9 a L)), SC.bool (SB.v (sarc_10 a L)),
     SC.int IntKind.i64 (SI.v (range_0 1 90000 (next_1 (next_1 (next_1 (next_1 (next_1 (spokes_6 (next_1 a L) L) L) L) L) L) L) L)), SC.bool (SB.v (sarc_11 a L)), SC.int IntKind.i64 (SI.c 0),
     SC.int IntKind.i64 (SI.c 0), SC.int IntKind.i64 (SI.v (next_0 200 (next_1 (next_1 (next_1 (next_1 (next_1 (next_1 (next_1 (spokes_6 (next_1 a L) L) L) L) L) L) L) L) L) L)),
     SC.int IntKind.i64 (SI.c 0), SC.int IntKind.i64 (SI.c 0), SC.bool (SB.c false)])
    ([(0, Obj.blk 76 [(2, SC.wh 1), (2247, SC.int IntKind.i64 (SI.v (next_1 (next_1 (next_1 (next_1 (next_1 (next_1 (next_1 (next_1 (next_1 (spokes_6 (next_1 a L) L) L) L) L) L) L) L) L) L) L)))]),
    (1, Obj.row true 3 1 (RowC.lst 4 [CK.int IntKind.i64] L))]) :=
  Runs.of1 (ps := (sarc_needs a L)) (by kernel_rfl) hNeeds
noncomputable def sarc_out : List Pm → Lss → Option CRes
  | [.i a], [L] => some ⟨SV.agg
    [SC.int IntKind.i64 (SI.c 3), SC.int IntKind.i64 (SI.v (next_0 20 (next_1 (next_1 (next_1 (next_1 (next_1 (next_1 (next_1 (next_1 (spokes_6 (next_1 a L) L) L) L) L) L) L) L) L) L) L)),
     SC.int IntKind.i64 (SI.v (sarc_0 a L)), SC.int IntKind.i64 (SI.v (sarc_1 a L)), SC.int IntKind.i64 (SI.v (sarc_2 a L)), SC.int IntKind.i64 (SI.v (sarc_3 a L)),
     SC.int IntKind.i64 (SI.v (sarc_4 a L)), SC.int IntKind.i64 (SI.v (sarc_5 a L)), SC.int IntKind.i64 (SI.v (range_0 17 19 a L)), SC.int IntKind.i64 (SI.v (sarc_6 a L)),
     SC.int IntKind.i64 (SI.v (sarc_7 a L)), SC.int IntKind.i64 (SI.v (sarc_8 a L)), SC.int IntKind.i64 (SI.v (sarc_9 a L)), SC.bool (SB.v (sarc_10 a L)),
     SC.int IntKind.i64 (SI.v (range_0 1 90000 (next_1 (next_1 (next_1 (next_1 (next_1 (spokes_6 (next_1 a L) L) L) L) L) L) L) L)), SC.bool (SB.v (sarc_11 a L)), SC.int IntKind.i64 (SI.c 0),
     SC.int IntKind.i64 (SI.c 0), SC.int IntKind.i64 (SI.v (next_0 200 (next_1 (next_1 (next_1 (next_1 (next_1 (next_1 (next_1 (spokes_6 (next_1 a L) L) L) L) L) L) L) L) L) L)),
     SC.int IntKind.i64 (SI.c 0), SC.int IntKind.i64 (SI.c 0), SC.bool (SB.c false)],
    [(0, Obj.blk 76 [(2, SC.wh 1), (2247, SC.int IntKind.i64 (SI.v (next_1 (next_1 (next_1 (next_1 (next_1 (next_1 (next_1 (next_1 (next_1 (spokes_6 (next_1 a L) L) L) L) L) L) L) L) L) L) L)))]),
    (1, Obj.row true 3 1 (RowC.lst 4 [CK.int IntKind.i64] L))],
    [0 ≤ a, L.length ≤ 1000000], [], 2273⟩
  | _, _ => none
theorem sarc_ok : FOk Try.prog 83 (tplS sarc_tpl sarc_out) := by
  refine tplS_ok (runF_ok known_rvalid 83) fun ps ls r hr hn _ => ?_
  unfold sarc_out at hr
  split at hr
  · cases hr; exact ⟨_, sarc_runs _ _ (sarc_weak (by exact hn)), fun _ => rfl⟩
  · cases hr
noncomputable def K_sarc : List (Nat × Summ) := (83, tplS sarc_tpl sarc_out) :: K_rvalid
theorem known_sarc : Known Try.prog (sums K_sarc) L_con := known_cons known_rvalid sarc_ok
noncomputable def sitem_tpl : Tpl := ⟨[.one (.ptr 0 0), .agg [.int .i64, .int .i64, .int .i64]], [(0, .blk 76 [(2, .wh 1), (3, .int .i64)]), (1, .row true 3 1 4 [.int .i64])], 5⟩
noncomputable def sitem_s0 (a : Int) (L : List (List Int)) : Bool :=
  next_0 14 (next_1 a L) L == 1
noncomputable def sitem_s1 (a : Int) (L : List (List Int)) : Bool :=
  next_0 14 (next_1 a L) L == 2
noncomputable def sitem_s2 (a : Int) (L : List (List Int)) : Bool :=
  next_0 14 (next_1 a L) L == 3
noncomputable def sitem_s3 (a : Int) (L : List (List Int)) : Bool :=
  next_0 14 (next_1 a L) L == 5
noncomputable def sitem_0 (a : Int) (L : List (List Int)) : Int :=
  bif next_0 14 (next_1 a L) L == 0 then 1
  else
   bif bif sitem_s0 a L then sitem_s0 a L else bif sitem_s1 a L then sitem_s1 a L else bif sitem_s2 a L then sitem_s2 a L else next_0 14 (next_1 a L) L == 4 then 2
   else
   bif bif sitem_s3 a L then sitem_s3 a L else next_0 14 (next_1 a L) L == 6 then 3
   else
   bif next_0 14 (next_1 a L) L == 7 then 4
   else
   bif next_0 14 (next_1 a L) L == 8 then 6
   else
   bif next_0 14 (next_1 a L) L == 9 then 7
   else
   bif next_0 14 (next_1 a L) L == 10 then 8
   else
   bif next_0 14 (next_1 a L) L == 11 then 9
   else
   bif next_0 14 (next_1 a L) L == 12 then 10 else bif (next_0 3 (next_1 (next_1 a L) L) L).toNat.beq 0 then 11 else bif (next_0 3 (next_1 (next_1 a L) L) L).toNat.beq 1 then 12 else 13
noncomputable def sitem_1 (a : Int) (L : List (List Int)) : Int :=
  bif next_0 14 (next_1 a L) L == 0 then next_0 30 a L
  else
   bif bif sitem_s0 a L then sitem_s0 a L else bif sitem_s1 a L then sitem_s1 a L else bif sitem_s2 a L then sitem_s2 a L else next_0 14 (next_1 a L) L == 4 then next_0 30 a L
   else bif bif sitem_s3 a L then sitem_s3 a L else next_0 14 (next_1 a L) L == 6 then next_0 30 a L else next_0 30 a L
noncomputable def sitem_2 (x : Int) (a : Int) (L : List (List Int)) : Int :=
  bif next_0 14 (next_1 a L) L == 0 then x
  else
   bif bif sitem_s0 a L then sitem_s0 a L else bif sitem_s1 a L then sitem_s1 a L else bif sitem_s2 a L then sitem_s2 a L else next_0 14 (next_1 a L) L == 4 then x
   else bif bif sitem_s3 a L then sitem_s3 a L else next_0 14 (next_1 a L) L == 6 then x else bif next_0 14 (next_1 a L) L == 7 then x else bif next_0 14 (next_1 a L) L == 8 then x else 0
noncomputable def sitem_5 (x : Int) (a : Int) (L : List (List Int)) : Int :=
  bif next_0 14 (next_1 a L) L == 0 then addpt_0 x (ptm_0 300 (next_1 (next_1 a L) L) L)
  else
   bif bif sitem_s0 a L then sitem_s0 a L else bif sitem_s1 a L then sitem_s1 a L else bif sitem_s2 a L then sitem_s2 a L else next_0 14 (next_1 a L) L == 4 then
   addpt_0 x (ptm_0 300 (next_1 (next_1 a L) L) L)
   else
   bif bif sitem_s3 a L then sitem_s3 a L else next_0 14 (next_1 a L) L == 6 then addpt_0 (sarc_3 (next_1 (next_1 a L) L) L) (minus_0 x (sarc_0 (next_1 (next_1 a L) L) L))
   else bif next_0 14 (next_1 a L) L == 7 then addpt_0 x (ptm_0 300 (next_1 (next_1 a L) L) L) else bif next_0 14 (next_1 a L) L == 8 then addpt_0 x (ptm_0 300 (next_1 (next_1 a L) L) L) else 0
noncomputable def sitem_6 (y : Int) (a : Int) (L : List (List Int)) : Int :=
  bif next_0 14 (next_1 a L) L == 0 then addpt_0 y (ptm_1 300 (next_1 (next_1 a L) L) L)
  else
   bif bif sitem_s0 a L then sitem_s0 a L else bif sitem_s1 a L then sitem_s1 a L else bif sitem_s2 a L then sitem_s2 a L else next_0 14 (next_1 a L) L == 4 then
   addpt_0 y (ptm_1 300 (next_1 (next_1 a L) L) L)
   else
   bif bif sitem_s3 a L then sitem_s3 a L else next_0 14 (next_1 a L) L == 6 then addpt_0 (sarc_4 (next_1 (next_1 a L) L) L) (minus_0 y (sarc_1 (next_1 (next_1 a L) L) L))
   else bif next_0 14 (next_1 a L) L == 7 then addpt_0 y (ptm_1 300 (next_1 (next_1 a L) L) L) else bif next_0 14 (next_1 a L) L == 8 then addpt_0 y (ptm_1 300 (next_1 (next_1 a L) L) L) else 0
noncomputable def sitem_7 (z : Int) (a : Int) (L : List (List Int)) : Int :=
  bif next_0 14 (next_1 a L) L == 0 then addpt_0 z (svec_2 300 (next_1 (next_1 a L) L) L)
  else
   bif bif sitem_s0 a L then sitem_s0 a L else bif sitem_s1 a L then sitem_s1 a L else bif sitem_s2 a L then sitem_s2 a L else next_0 14 (next_1 a L) L == 4 then
   addpt_0 z (svec_2 300 (next_1 (next_1 a L) L) L)
   else
   bif bif sitem_s3 a L then sitem_s3 a L else next_0 14 (next_1 a L) L == 6 then addpt_0 (sarc_5 (next_1 (next_1 a L) L) L) (minus_0 z (sarc_2 (next_1 (next_1 a L) L) L))
   else bif next_0 14 (next_1 a L) L == 7 then addpt_0 z (svec_2 300 (next_1 (next_1 a L) L) L) else bif next_0 14 (next_1 a L) L == 8 then addpt_0 z (svec_2 300 (next_1 (next_1 a L) L) L) else 0
noncomputable def sitem_8 (a : Int) (L : List (List Int)) : Int :=
  bif next_0 14 (next_1 a L) L == 0 then 0
  else
   bif bif sitem_s0 a L then sitem_s0 a L else bif sitem_s1 a L then sitem_s1 a L else bif sitem_s2 a L then sitem_s2 a L else next_0 14 (next_1 a L) L == 4 then 0
   else bif bif sitem_s3 a L then sitem_s3 a L else next_0 14 (next_1 a L) L == 6 then range_0 17 19 (next_1 (next_1 a L) L) L else 0
noncomputable def sitem_9 (x : Int) (a : Int) (L : List (List Int)) : Int :=
  bif next_0 14 (next_1 a L) L == 0 then 0
  else
   bif bif sitem_s0 a L then sitem_s0 a L else bif sitem_s1 a L then sitem_s1 a L else bif sitem_s2 a L then sitem_s2 a L else next_0 14 (next_1 a L) L == 4 then 0
   else bif bif sitem_s3 a L then sitem_s3 a L else next_0 14 (next_1 a L) L == 6 then addpt_0 (sarc_6 (next_1 (next_1 a L) L) L) (minus_0 x (sarc_0 (next_1 (next_1 a L) L) L)) else 0
noncomputable def sitem_10 (y : Int) (a : Int) (L : List (List Int)) : Int :=
  bif next_0 14 (next_1 a L) L == 0 then 0
  else
   bif bif sitem_s0 a L then sitem_s0 a L else bif sitem_s1 a L then sitem_s1 a L else bif sitem_s2 a L then sitem_s2 a L else next_0 14 (next_1 a L) L == 4 then 0
   else bif bif sitem_s3 a L then sitem_s3 a L else next_0 14 (next_1 a L) L == 6 then addpt_0 (sarc_7 (next_1 (next_1 a L) L) L) (minus_0 y (sarc_1 (next_1 (next_1 a L) L) L)) else 0
noncomputable def sitem_11 (z : Int) (a : Int) (L : List (List Int)) : Int :=
  bif next_0 14 (next_1 a L) L == 0 then 0
  else
   bif bif sitem_s0 a L then sitem_s0 a L else bif sitem_s1 a L then sitem_s1 a L else bif sitem_s2 a L then sitem_s2 a L else next_0 14 (next_1 a L) L == 4 then 0
   else bif bif sitem_s3 a L then sitem_s3 a L else next_0 14 (next_1 a L) L == 6 then addpt_0 (sarc_8 (next_1 (next_1 a L) L) L) (minus_0 z (sarc_2 (next_1 (next_1 a L) L) L)) else 0
noncomputable def sitem_12 (a : Int) (L : List (List Int)) : Int :=
  bif next_0 14 (next_1 a L) L == 0 then 0
  else
   bif bif sitem_s0 a L then sitem_s0 a L else bif sitem_s1 a L then sitem_s1 a L else bif sitem_s2 a L then sitem_s2 a L else next_0 14 (next_1 a L) L == 4 then 0
   else bif bif sitem_s3 a L then sitem_s3 a L else next_0 14 (next_1 a L) L == 6 then sarc_9 (next_1 (next_1 a L) L) L else 0
noncomputable def sitem_13 (a : Int) (L : List (List Int)) : Bool :=
  bif next_0 14 (next_1 a L) L == 0 then false
  else
   bif bif sitem_s0 a L then sitem_s0 a L else bif sitem_s1 a L then sitem_s1 a L else bif sitem_s2 a L then sitem_s2 a L else next_0 14 (next_1 a L) L == 4 then false
   else (bif sitem_s3 a L then sitem_s3 a L else next_0 14 (next_1 a L) L == 6) && sarc_10 (next_1 (next_1 a L) L) L
noncomputable def sitem_14 (a : Int) (L : List (List Int)) : Int :=
  bif next_0 14 (next_1 a L) L == 0 then 0
  else
   bif bif sitem_s0 a L then sitem_s0 a L else bif sitem_s1 a L then sitem_s1 a L else bif sitem_s2 a L then sitem_s2 a L else next_0 14 (next_1 a L) L == 4 then
   range_0 1 90000 (next_1 (next_1 (next_1 (next_1 (next_1 a L) L) L) L) L) L
   else
   bif bif sitem_s3 a L then sitem_s3 a L else next_0 14 (next_1 a L) L == 6 then
   range_0 1 90000 (next_1 (next_1 (next_1 (next_1 (next_1 (spokes_6 (next_1 (next_1 (next_1 a L) L) L) L) L) L) L) L) L) L
   else
   bif next_0 14 (next_1 a L) L == 7 then range_0 1 90000 (next_1 (next_1 (next_1 (next_1 (next_1 a L) L) L) L) L) L
   else bif next_0 14 (next_1 a L) L == 8 then range_0 1 9000 (next_1 (next_1 (next_1 (next_1 (next_1 a L) L) L) L) L) L else 0
noncomputable def sitem_15 (a : Int) (L : List (List Int)) : Bool :=
  bif next_0 14 (next_1 a L) L == 0 then false
  else
   bif bif sitem_s0 a L then sitem_s0 a L else bif sitem_s1 a L then sitem_s1 a L else bif sitem_s2 a L then sitem_s2 a L else next_0 14 (next_1 a L) L == 4 then
   next_0 5 (next_1 (next_1 (next_1 (next_1 (next_1 (next_1 a L) L) L) L) L) L) L == 0
   else
   bif bif sitem_s3 a L then sitem_s3 a L else next_0 14 (next_1 a L) L == 6 then sarc_11 (next_1 (next_1 a L) L) L
   else bif next_0 14 (next_1 a L) L == 7 then false else next_0 14 (next_1 a L) L == 8
noncomputable def sitem_16 (a : Int) (L : List (List Int)) : Int :=
  bif next_0 14 (next_1 a L) L == 0 then 0
  else
   bif bif sitem_s0 a L then sitem_s0 a L else bif sitem_s1 a L then sitem_s1 a L else bif sitem_s2 a L then sitem_s2 a L else next_0 14 (next_1 a L) L == 4 then
   next_0 50 (next_1 (next_1 (next_1 (next_1 (next_1 (next_1 (next_1 a L) L) L) L) L) L) L) L
   else
   bif bif sitem_s3 a L then sitem_s3 a L else next_0 14 (next_1 a L) L == 6 then
   next_0 200 (next_1 (next_1 (next_1 (next_1 (next_1 (next_1 (next_1 (spokes_6 (next_1 (next_1 (next_1 a L) L) L) L) L) L) L) L) L) L) L) L
   else 0
noncomputable def sitem_17 (a : Int) (L : List (List Int)) : Int :=
  bif next_0 14 (next_1 a L) L == 0 then 0
  else
   bif bif sitem_s0 a L then sitem_s0 a L else bif sitem_s1 a L then sitem_s1 a L else bif sitem_s2 a L then sitem_s2 a L else next_0 14 (next_1 a L) L == 4 then 0
   else
   bif bif sitem_s3 a L then sitem_s3 a L else next_0 14 (next_1 a L) L == 6 then 0
   else
   bif next_0 14 (next_1 a L) L == 7 then 0
   else
   bif next_0 14 (next_1 a L) L == 8 then range_0 3 4 (next_1 (next_1 (next_1 (next_1 (next_1 (next_1 a L) L) L) L) L) L) L
   else
   bif next_0 14 (next_1 a L) L == 9 then next_0 100 (next_1 (next_1 a L) L) L
   else
   bif next_0 14 (next_1 a L) L == 10 then range_0 3 5 (next_1 (next_1 a L) L) L
   else bif next_0 14 (next_1 a L) L == 11 then range_0 7 8 (next_1 (next_1 a L) L) L else bif next_0 14 (next_1 a L) L == 12 then next_0 16 (next_1 (next_1 a L) L) L else 0
noncomputable def sitem_18 (a : Int) (L : List (List Int)) : Int :=
  bif next_0 14 (next_1 a L) L == 0 then 0
  else
   bif bif sitem_s0 a L then sitem_s0 a L else bif sitem_s1 a L then sitem_s1 a L else bif sitem_s2 a L then sitem_s2 a L else next_0 14 (next_1 a L) L == 4 then 0
   else
   bif bif sitem_s3 a L then sitem_s3 a L else next_0 14 (next_1 a L) L == 6 then 0
   else
   bif next_0 14 (next_1 a L) L == 7 then 0
   else
   bif next_0 14 (next_1 a L) L == 8 then 0
   else
   bif next_0 14 (next_1 a L) L == 9 then 0
   else bif next_0 14 (next_1 a L) L == 10 then bif decide (range_0 3 5 (next_1 (next_1 a L) L) L < 5) then next_0 9000 (next_1 (next_1 (next_1 a L) L) L) L else 0 else 0
noncomputable def sitem_s4 (a : Int) (L : List (List Int)) : Bool :=
  next_0 2 (next_1 (next_1 (next_1 a L) L) L) L == 0
noncomputable def sitem_19 (a : Int) (L : List (List Int)) : Bool :=
  bif next_0 14 (next_1 a L) L == 0 then false
  else
   bif bif sitem_s0 a L then sitem_s0 a L else bif sitem_s1 a L then sitem_s1 a L else bif sitem_s2 a L then sitem_s2 a L else next_0 14 (next_1 a L) L == 4 then false
   else
   bif bif sitem_s3 a L then sitem_s3 a L else next_0 14 (next_1 a L) L == 6 then false
   else
   bif next_0 14 (next_1 a L) L == 7 then false
   else
   bif next_0 14 (next_1 a L) L == 8 then false
   else
   bif next_0 14 (next_1 a L) L == 9 then false
   else bif next_0 14 (next_1 a L) L == 10 then false else bif next_0 14 (next_1 a L) L == 11 then sitem_s4 a L else next_0 14 (next_1 a L) L == 12 && sitem_s4 a L
noncomputable def sitem_20 (a : Int) (L : List (List Int)) : Int :=
  bif next_0 14 (next_1 a L) L == 0 then next_1 (next_1 (next_1 (next_1 (next_1 a L) L) L) L) L
  else
   bif bif sitem_s0 a L then sitem_s0 a L else bif sitem_s1 a L then sitem_s1 a L else bif sitem_s2 a L then sitem_s2 a L else next_0 14 (next_1 a L) L == 4 then
   next_1 (next_1 (next_1 (next_1 (next_1 (next_1 (next_1 (next_1 a L) L) L) L) L) L) L) L
   else
   bif bif sitem_s3 a L then sitem_s3 a L else next_0 14 (next_1 a L) L == 6 then
   next_1 (next_1 (next_1 (next_1 (next_1 (next_1 (next_1 (next_1 (next_1 (spokes_6 (next_1 (next_1 (next_1 a L) L) L) L) L) L) L) L) L) L) L) L) L
   else
   bif next_0 14 (next_1 a L) L == 7 then next_1 (next_1 (next_1 (next_1 (next_1 (next_1 a L) L) L) L) L) L
   else
   bif next_0 14 (next_1 a L) L == 8 then next_1 (next_1 (next_1 (next_1 (next_1 (next_1 (next_1 a L) L) L) L) L) L) L
   else
   bif next_0 14 (next_1 a L) L == 9 then next_1 (next_1 (next_1 a L) L) L
   else
   bif next_0 14 (next_1 a L) L == 10 then bif decide (range_0 3 5 (next_1 (next_1 a L) L) L < 5) then next_1 (next_1 (next_1 (next_1 a L) L) L) L else next_1 (next_1 (next_1 a L) L) L
   else
   bif next_0 14 (next_1 a L) L == 11 then next_1 (next_1 (next_1 (next_1 a L) L) L) L
   else bif next_0 14 (next_1 a L) L == 12 then next_1 (next_1 (next_1 (next_1 a L) L) L) L else next_1 (next_1 (next_1 a L) L) L
noncomputable def sitem_s5 (a : Int) (L : List (List Int)) : Prop :=
  0 ≤ next_1 (next_1 (next_1 a L) L) L ∧ L.length ≤ 1000000 ∧ Int.ofNat 2 ≠ 0
noncomputable def sitem_needs (a : Int) (L : List (List Int)) : List Prop :=
  [0 ≤ a, L.length ≤ 1000000, Int.ofNat 30 ≠ 0, 0 ≤ next_1 a L, L.length ≤ 1000000, Int.ofNat 14 ≠ 0,
   (next_0 14 (next_1 a L) L == 0) = true → 0 ≤ next_1 (next_1 a L) L ∧ L.length ≤ 1000000 ∧ Int.ofNat 0 ≤ 300 ∧ Int.ofNat 300 ≤ 1000000,
   (next_0 14 (next_1 a L) L == 0) = false →
   ((bif sitem_s0 a L then sitem_s0 a L else bif sitem_s1 a L then sitem_s1 a L else bif sitem_s2 a L then sitem_s2 a L else next_0 14 (next_1 a L) L == 4) = true →
   0 ≤ next_1 (next_1 a L) L ∧
   L.length ≤ 1000000 ∧
   (Int.ofNat 0 ≤ 300 ∧ Int.ofNat 300 ≤ 1000000) ∧
   0 ≤ next_1 (next_1 (next_1 (next_1 (next_1 a L) L) L) L) L ∧
   L.length ≤ 1000000 ∧
   (Int.ofNat 1 ≤ 90000 ∧ -1000000 ≤ 1 ∧ Int.ofNat 90000 ≤ 1000000) ∧
   0 ≤ next_1 (next_1 (next_1 (next_1 (next_1 (next_1 a L) L) L) L) L) L ∧
   L.length ≤ 1000000 ∧ Int.ofNat 5 ≠ 0 ∧ 0 ≤ next_1 (next_1 (next_1 (next_1 (next_1 (next_1 (next_1 a L) L) L) L) L) L) L ∧ L.length ≤ 1000000 ∧ Int.ofNat 50 ≠ 0) ∧
   ((bif sitem_s0 a L then sitem_s0 a L else bif sitem_s1 a L then sitem_s1 a L else bif sitem_s2 a L then sitem_s2 a L else next_0 14 (next_1 a L) L == 4) = false →
   ((bif sitem_s3 a L then sitem_s3 a L else next_0 14 (next_1 a L) L == 6) = true → 0 ≤ next_1 (next_1 a L) L ∧ L.length ≤ 1000000) ∧
   ((bif sitem_s3 a L then sitem_s3 a L else next_0 14 (next_1 a L) L == 6) = false →
   ((next_0 14 (next_1 a L) L == 7) = true →
   0 ≤ next_1 (next_1 a L) L ∧
   L.length ≤ 1000000 ∧
   (Int.ofNat 0 ≤ 300 ∧ Int.ofNat 300 ≤ 1000000) ∧
   0 ≤ next_1 (next_1 (next_1 (next_1 (next_1 a L) L) L) L) L ∧ L.length ≤ 1000000 ∧ Int.ofNat 1 ≤ 90000 ∧ -1000000 ≤ 1 ∧ Int.ofNat 90000 ≤ 1000000) ∧
   ((next_0 14 (next_1 a L) L == 7) = false →
   ((next_0 14 (next_1 a L) L == 8) = true →
   0 ≤ next_1 (next_1 a L) L ∧
   L.length ≤ 1000000 ∧
   (Int.ofNat 0 ≤ 300 ∧ Int.ofNat 300 ≤ 1000000) ∧
   0 ≤ next_1 (next_1 (next_1 (next_1 (next_1 a L) L) L) L) L ∧
   L.length ≤ 1000000 ∧
   (Int.ofNat 1 ≤ 9000 ∧ -1000000 ≤ 1 ∧ Int.ofNat 9000 ≤ 1000000) ∧
   0 ≤ next_1 (next_1 (next_1 (next_1 (next_1 (next_1 a L) L) L) L) L) L ∧ L.length ≤ 1000000 ∧ Int.ofNat 3 ≤ 4 ∧ -1000000 ≤ 3 ∧ Int.ofNat 4 ≤ 1000000) ∧
   ((next_0 14 (next_1 a L) L == 8) = false →
   ((next_0 14 (next_1 a L) L == 9) = true → 0 ≤ next_1 (next_1 a L) L ∧ L.length ≤ 1000000 ∧ Int.ofNat 100 ≠ 0) ∧
   ((next_0 14 (next_1 a L) L == 9) = false →
   ((next_0 14 (next_1 a L) L == 10) = true →
   0 ≤ next_1 (next_1 a L) L ∧
   L.length ≤ 1000000 ∧
   (Int.ofNat 3 ≤ 5 ∧ -1000000 ≤ 3 ∧ Int.ofNat 5 ≤ 1000000) ∧
   (decide (range_0 3 5 (next_1 (next_1 a L) L) L < 5) = true → 0 ≤ next_1 (next_1 (next_1 a L) L) L ∧ L.length ≤ 1000000 ∧ Int.ofNat 9000 ≠ 0)) ∧
   ((next_0 14 (next_1 a L) L == 10) = false →
   ((next_0 14 (next_1 a L) L == 11) = true → 0 ≤ next_1 (next_1 a L) L ∧ L.length ≤ 1000000 ∧ (Int.ofNat 7 ≤ 8 ∧ -1000000 ≤ 7 ∧ Int.ofNat 8 ≤ 1000000) ∧ sitem_s5 a L) ∧
   ((next_0 14 (next_1 a L) L == 11) = false →
   ((next_0 14 (next_1 a L) L == 12) = true → 0 ≤ next_1 (next_1 a L) L ∧ L.length ≤ 1000000 ∧ Int.ofNat 16 ≠ 0 ∧ sitem_s5 a L) ∧
   ((next_0 14 (next_1 a L) L == 12) = false →
   0 ≤ next_1 (next_1 a L) L ∧
   L.length ≤ 1000000 ∧
   Int.ofNat 3 ≠ 0 ∧
   0 ≤ next_0 3 (next_1 (next_1 a L) L) L ∧ (next_0 3 (next_1 (next_1 a L) L) L).toNat < 3 ∧ (next_0 3 (next_1 (next_1 a L) L) L).toNat < 3))))))))]
theorem sitem_weak {a : Int} {L : List (List Int)} (hW : ∀ q ∈ ([0 ≤ a, L.length ≤ 1000000] : List Prop), q) : ∀ q ∈ (sitem_needs a L), q := by
  simp only [List.mem_cons, List.not_mem_nil, or_false, forall_eq_or_imp, forall_eq] at hW
  unfold sitem_needs
  simp only [List.forall_mem_cons, List.not_mem_nil, false_implies, implies_true, and_true]
  obtain ⟨h1, h2⟩ := hW
  have nn : ∀ x, 0 ≤ x → 0 ≤ next_1 x L := fun x h => next_1_nn x L h h2
  have r3 : ∀ x, 0 ≤ next_0 3 x L ∧ (next_0 3 x L).toNat < 3 := fun x => by have := next_0_range 3 x L (by omega) (by omega); omega
  have sp : ∀ x, 0 ≤ x → 0 ≤ spokes_6 x L := fun x h => spokes_6_nn x L h h2
  repeat' first | exact h2 | exact h1 | exact (r3 _).1 | exact (r3 _).2 | refine nn _ ?_ | refine sp _ ?_ | decide | refine And.intro ?_ ?_ | intro _
set_option maxRecDepth 1000000 in
theorem sitem_runs (x y z a : Int) (L : List (List Int)) (hNeeds : ∀ pN ∈ (sitem_needs a L), pN) : Runs (runF (sums K_sarc) L_con 59) (sitem_tpl.args [.i x, .i y, .i z, .i a]) (sitem_tpl.memo [.i x, .i y, .i z, .i a] [L]) sitem_tpl.n (SV.agg
    [SC.int IntKind.i64 (SI.v (sitem_0 a L)), SC.int IntKind.i64 (SI.v (sitem_1 a L)), SC.int IntKind.i64 (SI.v (sitem_2 x a L)), SC.int IntKind.i64 (SI.v (sitem_2 y a L)),
     SC.int IntKind.i64 (SI.v (sitem_2 z a L)), SC.int IntKind.i64 (SI.v (sitem_5 x a L)), SC.int IntKind.i64 (SI.v (sitem_6 y a L)), SC.int IntKind.i64 (SI.v (sitem_7 z a L)),
     SC.int IntKind.i64 (SI.v (sitem_8 a L)), SC.int IntKind.i64 (SI.v (sitem_9 x a L)), SC.int IntKind.i64 (SI.v (sitem_10 y a L)), SC.int IntKind.i64 (SI.v (sitem_11 z a L)),
     SC.int IntKind.i64 (SI.v (sitem_12 a L)), SC.bool (SB.v (sitem_13 a L)), SC.int IntKind.i64 (SI.v (sitem_14 a L)), SC.bool (SB.v (sitem_15 a L)), SC.int IntKind.i64 (SI.c 0),
     SC.int IntKind.i64 (SI.c 0), SC.int IntKind.i64 (SI.v (sitem_16 a L)), SC.int IntKind.i64 (SI.v (sitem_17 a L)), SC.int IntKind.i64 (SI.v (sitem_18 a L)), SC.bool (SB.v (sitem_19 a L))])
    ([(0, Obj.blk 76 [(2, SC.wh 1), (5054, SC.int IntKind.i64 (SI.v (sitem_20 a L)))]), (1, Obj.row true 3 1 (RowC.lst 4 [CK.int IntKind.i64] L))]) :=
  Runs.of1 (ps := (sitem_needs a L)) (by kernel_rfl) hNeeds
noncomputable def sitem_out : List Pm → Lss → Option CRes
  | [.i x, .i y, .i z, .i a], [L] => some ⟨SV.agg
    [SC.int IntKind.i64 (SI.v (sitem_0 a L)), SC.int IntKind.i64 (SI.v (sitem_1 a L)), SC.int IntKind.i64 (SI.v (sitem_2 x a L)), SC.int IntKind.i64 (SI.v (sitem_2 y a L)),
     SC.int IntKind.i64 (SI.v (sitem_2 z a L)), SC.int IntKind.i64 (SI.v (sitem_5 x a L)), SC.int IntKind.i64 (SI.v (sitem_6 y a L)), SC.int IntKind.i64 (SI.v (sitem_7 z a L)),
     SC.int IntKind.i64 (SI.v (sitem_8 a L)), SC.int IntKind.i64 (SI.v (sitem_9 x a L)), SC.int IntKind.i64 (SI.v (sitem_10 y a L)), SC.int IntKind.i64 (SI.v (sitem_11 z a L)),
     SC.int IntKind.i64 (SI.v (sitem_12 a L)), SC.bool (SB.v (sitem_13 a L)), SC.int IntKind.i64 (SI.v (sitem_14 a L)), SC.bool (SB.v (sitem_15 a L)), SC.int IntKind.i64 (SI.c 0),
     SC.int IntKind.i64 (SI.c 0), SC.int IntKind.i64 (SI.v (sitem_16 a L)), SC.int IntKind.i64 (SI.v (sitem_17 a L)), SC.int IntKind.i64 (SI.v (sitem_18 a L)), SC.bool (SB.v (sitem_19 a L))],
    [(0, Obj.blk 76 [(2, SC.wh 1), (5054, SC.int IntKind.i64 (SI.v (sitem_20 a L)))]), (1, Obj.row true 3 1 (RowC.lst 4 [CK.int IntKind.i64] L))],
    [0 ≤ a, L.length ≤ 1000000], [], 5090⟩
  | _, _ => none
theorem sitem_ok : FOk Try.prog 59 (tplS sitem_tpl sitem_out) := by
  refine tplS_ok (runF_ok known_sarc 59) fun ps ls r hr hn _ => ?_
  unfold sitem_out at hr
  split at hr
  · cases hr; exact ⟨_, sitem_runs _ _ _ _ _ (sitem_weak (by exact hn)), fun _ => rfl⟩
  · cases hr
noncomputable def K_sitem : List (Nat × Summ) := (59, tplS sitem_tpl sitem_out) :: K_sarc
theorem known_sitem : Known Try.prog (sums K_sitem) L_con := known_cons known_sarc sitem_ok
end Go.Proofs.Ythgiaoidekdpfaa
