/-
  ITEMS that are made. Conditions: none.
-/
import Derived.Test.YtkggdhnliiagjaaG2
set_option linter.all false
namespace Go.Proofs.Ytkggdhnliiagjaa
open Go.SX Go.RowKit
noncomputable def item_tpl : Tpl := ⟨[.one (.ptr 0 0), .agg [.int .i64, .int .i64, .int .i64]], [(0, .blk 80 [(2, .wh 1), (3, .int .i64)]), (1, .row true 3 1 4 [.int .i64])], 5⟩
noncomputable def item_s0 (a : Int) (L : List (List Int)) : Bool :=
  next_0 14 (next_1 a L) L == 1
noncomputable def item_s1 (a : Int) (L : List (List Int)) : Bool :=
  next_0 14 (next_1 a L) L == 2
noncomputable def item_s2 (a : Int) (L : List (List Int)) : Bool :=
  next_0 14 (next_1 a L) L == 3
noncomputable def item_s3 (a : Int) (L : List (List Int)) : Bool :=
  next_0 14 (next_1 a L) L == 5
noncomputable def item_0 (a : Int) (L : List (List Int)) : Int :=
  bif next_0 14 (next_1 a L) L == 0 then 1
  else
    bif bif item_s0 a L then item_s0 a L else bif item_s1 a L then item_s1 a L else bif item_s2 a L then item_s2 a L else next_0 14 (next_1 a L) L == 4 then 2
    else
      bif bif item_s3 a L then item_s3 a L else next_0 14 (next_1 a L) L == 6 then 3
      else
        bif next_0 14 (next_1 a L) L == 7 then 4
        else
          bif next_0 14 (next_1 a L) L == 8 then 6
          else
            bif next_0 14 (next_1 a L) L == 9 then 7
            else
              bif next_0 14 (next_1 a L) L == 10 then 8
              else
                bif next_0 14 (next_1 a L) L == 11 then 9
                else
                  bif next_0 14 (next_1 a L) L == 12 then 10 else bif (next_0 3 (next_1 (next_1 a L) L) L).toNat.beq 0 then 11 else bif (next_0 3 (next_1 (next_1 a L) L) L).toNat.beq 1 then 12 else 13
noncomputable def item_1 (a : Int) (L : List (List Int)) : Int :=
  bif next_0 14 (next_1 a L) L == 0 then next_0 30 a L
  else
    bif bif item_s0 a L then item_s0 a L else bif item_s1 a L then item_s1 a L else bif item_s2 a L then item_s2 a L else next_0 14 (next_1 a L) L == 4 then next_0 30 a L
    else bif bif item_s3 a L then item_s3 a L else next_0 14 (next_1 a L) L == 6 then next_0 30 a L else next_0 30 a L
noncomputable def item_2 (x : Int) (a : Int) (L : List (List Int)) : Int :=
  bif next_0 14 (next_1 a L) L == 0 then x
  else
    bif bif item_s0 a L then item_s0 a L else bif item_s1 a L then item_s1 a L else bif item_s2 a L then item_s2 a L else next_0 14 (next_1 a L) L == 4 then x
    else bif bif item_s3 a L then item_s3 a L else next_0 14 (next_1 a L) L == 6 then x else bif next_0 14 (next_1 a L) L == 7 then x else bif next_0 14 (next_1 a L) L == 8 then x else 0
noncomputable def item_5 (x : Int) (a : Int) (L : List (List Int)) : Int :=
  bif next_0 14 (next_1 a L) L == 0 then addpt_0 x (ptm_0 300 (next_1 (next_1 a L) L) L)
  else
    bif bif item_s0 a L then item_s0 a L else bif item_s1 a L then item_s1 a L else bif item_s2 a L then item_s2 a L else next_0 14 (next_1 a L) L == 4 then
      addpt_0 x (ptm_0 300 (next_1 (next_1 a L) L) L)
    else
      bif bif item_s3 a L then item_s3 a L else next_0 14 (next_1 a L) L == 6 then addpt_0 (arc_3 (next_1 (next_1 a L) L) L) (minus_0 x (arc_0 (next_1 (next_1 a L) L) L))
      else bif next_0 14 (next_1 a L) L == 7 then addpt_0 x (ptm_0 300 (next_1 (next_1 a L) L) L) else bif next_0 14 (next_1 a L) L == 8 then addpt_0 x (ptm_0 300 (next_1 (next_1 a L) L) L) else 0
noncomputable def item_6 (y : Int) (a : Int) (L : List (List Int)) : Int :=
  bif next_0 14 (next_1 a L) L == 0 then addpt_0 y (ptm_1 300 (next_1 (next_1 a L) L) L)
  else
    bif bif item_s0 a L then item_s0 a L else bif item_s1 a L then item_s1 a L else bif item_s2 a L then item_s2 a L else next_0 14 (next_1 a L) L == 4 then
      addpt_0 y (ptm_1 300 (next_1 (next_1 a L) L) L)
    else
      bif bif item_s3 a L then item_s3 a L else next_0 14 (next_1 a L) L == 6 then addpt_0 (arc_4 (next_1 (next_1 a L) L) L) (minus_0 y (arc_1 (next_1 (next_1 a L) L) L))
      else bif next_0 14 (next_1 a L) L == 7 then addpt_0 y (ptm_1 300 (next_1 (next_1 a L) L) L) else bif next_0 14 (next_1 a L) L == 8 then addpt_0 y (ptm_1 300 (next_1 (next_1 a L) L) L) else 0
noncomputable def item_7 (z : Int) (a : Int) (L : List (List Int)) : Int :=
  bif next_0 14 (next_1 a L) L == 0 then addpt_0 z (vec_2 300 (next_1 (next_1 a L) L) L)
  else
    bif bif item_s0 a L then item_s0 a L else bif item_s1 a L then item_s1 a L else bif item_s2 a L then item_s2 a L else next_0 14 (next_1 a L) L == 4 then
      addpt_0 z (vec_2 300 (next_1 (next_1 a L) L) L)
    else
      bif bif item_s3 a L then item_s3 a L else next_0 14 (next_1 a L) L == 6 then addpt_0 (arc_5 (next_1 (next_1 a L) L) L) (minus_0 z (arc_2 (next_1 (next_1 a L) L) L))
      else bif next_0 14 (next_1 a L) L == 7 then addpt_0 z (vec_2 300 (next_1 (next_1 a L) L) L) else bif next_0 14 (next_1 a L) L == 8 then addpt_0 z (vec_2 300 (next_1 (next_1 a L) L) L) else 0
noncomputable def item_8 (a : Int) (L : List (List Int)) : Int :=
  bif next_0 14 (next_1 a L) L == 0 then 0
  else
    bif bif item_s0 a L then item_s0 a L else bif item_s1 a L then item_s1 a L else bif item_s2 a L then item_s2 a L else next_0 14 (next_1 a L) L == 4 then 0
    else bif bif item_s3 a L then item_s3 a L else next_0 14 (next_1 a L) L == 6 then range_0 17 19 (next_1 (next_1 a L) L) L else 0
noncomputable def item_9 (x : Int) (a : Int) (L : List (List Int)) : Int :=
  bif next_0 14 (next_1 a L) L == 0 then 0
  else
    bif bif item_s0 a L then item_s0 a L else bif item_s1 a L then item_s1 a L else bif item_s2 a L then item_s2 a L else next_0 14 (next_1 a L) L == 4 then 0
    else bif bif item_s3 a L then item_s3 a L else next_0 14 (next_1 a L) L == 6 then addpt_0 (arc_6 (next_1 (next_1 a L) L) L) (minus_0 x (arc_0 (next_1 (next_1 a L) L) L)) else 0
noncomputable def item_10 (y : Int) (a : Int) (L : List (List Int)) : Int :=
  bif next_0 14 (next_1 a L) L == 0 then 0
  else
    bif bif item_s0 a L then item_s0 a L else bif item_s1 a L then item_s1 a L else bif item_s2 a L then item_s2 a L else next_0 14 (next_1 a L) L == 4 then 0
    else bif bif item_s3 a L then item_s3 a L else next_0 14 (next_1 a L) L == 6 then addpt_0 (arc_7 (next_1 (next_1 a L) L) L) (minus_0 y (arc_1 (next_1 (next_1 a L) L) L)) else 0
noncomputable def item_11 (z : Int) (a : Int) (L : List (List Int)) : Int :=
  bif next_0 14 (next_1 a L) L == 0 then 0
  else
    bif bif item_s0 a L then item_s0 a L else bif item_s1 a L then item_s1 a L else bif item_s2 a L then item_s2 a L else next_0 14 (next_1 a L) L == 4 then 0
    else bif bif item_s3 a L then item_s3 a L else next_0 14 (next_1 a L) L == 6 then addpt_0 (arc_8 (next_1 (next_1 a L) L) L) (minus_0 z (arc_2 (next_1 (next_1 a L) L) L)) else 0
noncomputable def item_12 (a : Int) (L : List (List Int)) : Int :=
  bif next_0 14 (next_1 a L) L == 0 then 0
  else
    bif bif item_s0 a L then item_s0 a L else bif item_s1 a L then item_s1 a L else bif item_s2 a L then item_s2 a L else next_0 14 (next_1 a L) L == 4 then 0
    else bif bif item_s3 a L then item_s3 a L else next_0 14 (next_1 a L) L == 6 then arc_9 (next_1 (next_1 a L) L) L else 0
noncomputable def item_13 (a : Int) (L : List (List Int)) : Bool :=
  bif next_0 14 (next_1 a L) L == 0 then false
  else
    bif bif item_s0 a L then item_s0 a L else bif item_s1 a L then item_s1 a L else bif item_s2 a L then item_s2 a L else next_0 14 (next_1 a L) L == 4 then false
    else (bif item_s3 a L then item_s3 a L else next_0 14 (next_1 a L) L == 6) && arc_10 (next_1 (next_1 a L) L) L
noncomputable def item_14 (a : Int) (L : List (List Int)) : Int :=
  bif next_0 14 (next_1 a L) L == 0 then 0
  else
    bif bif item_s0 a L then item_s0 a L else bif item_s1 a L then item_s1 a L else bif item_s2 a L then item_s2 a L else next_0 14 (next_1 a L) L == 4 then
      range_0 1 90000 (next_1 (next_1 (next_1 (next_1 (next_1 a L) L) L) L) L) L
    else
      bif bif item_s3 a L then item_s3 a L else next_0 14 (next_1 a L) L == 6 then
        range_0 1 90000 (next_1 (next_1 (next_1 (next_1 (next_1 (spokes_6 (next_1 (next_1 (next_1 a L) L) L) L) L) L) L) L) L) L
      else
        bif next_0 14 (next_1 a L) L == 7 then range_0 1 90000 (next_1 (next_1 (next_1 (next_1 (next_1 a L) L) L) L) L) L
        else bif next_0 14 (next_1 a L) L == 8 then range_0 1 9000 (next_1 (next_1 (next_1 (next_1 (next_1 a L) L) L) L) L) L else 0
noncomputable def item_15 (a : Int) (L : List (List Int)) : Bool :=
  bif next_0 14 (next_1 a L) L == 0 then false
  else
    bif bif item_s0 a L then item_s0 a L else bif item_s1 a L then item_s1 a L else bif item_s2 a L then item_s2 a L else next_0 14 (next_1 a L) L == 4 then
      next_0 5 (next_1 (next_1 (next_1 (next_1 (next_1 (next_1 a L) L) L) L) L) L) L == 0
    else
      bif bif item_s3 a L then item_s3 a L else next_0 14 (next_1 a L) L == 6 then arc_11 (next_1 (next_1 a L) L) L else bif next_0 14 (next_1 a L) L == 7 then false else next_0 14 (next_1 a L) L == 8
noncomputable def item_16 (a : Int) (L : List (List Int)) : Int :=
  bif next_0 14 (next_1 a L) L == 0 then 0
  else
    bif bif item_s0 a L then item_s0 a L else bif item_s1 a L then item_s1 a L else bif item_s2 a L then item_s2 a L else next_0 14 (next_1 a L) L == 4 then
      next_0 50 (next_1 (next_1 (next_1 (next_1 (next_1 (next_1 (next_1 a L) L) L) L) L) L) L) L
    else
      bif bif item_s3 a L then item_s3 a L else next_0 14 (next_1 a L) L == 6 then
        next_0 200 (next_1 (next_1 (next_1 (next_1 (next_1 (next_1 (next_1 (spokes_6 (next_1 (next_1 (next_1 a L) L) L) L) L) L) L) L) L) L) L) L
      else 0
noncomputable def item_17 (a : Int) (L : List (List Int)) : Int :=
  bif next_0 14 (next_1 a L) L == 0 then 0
  else
    bif bif item_s0 a L then item_s0 a L else bif item_s1 a L then item_s1 a L else bif item_s2 a L then item_s2 a L else next_0 14 (next_1 a L) L == 4 then 0
    else
      bif bif item_s3 a L then item_s3 a L else next_0 14 (next_1 a L) L == 6 then 0
      else
        bif next_0 14 (next_1 a L) L == 7 then 0
        else
          bif next_0 14 (next_1 a L) L == 8 then range_0 3 4 (next_1 (next_1 (next_1 (next_1 (next_1 (next_1 a L) L) L) L) L) L) L
          else
            bif next_0 14 (next_1 a L) L == 9 then next_0 100 (next_1 (next_1 a L) L) L
            else
              bif next_0 14 (next_1 a L) L == 10 then range_0 3 5 (next_1 (next_1 a L) L) L
              else bif next_0 14 (next_1 a L) L == 11 then range_0 7 8 (next_1 (next_1 a L) L) L else bif next_0 14 (next_1 a L) L == 12 then next_0 16 (next_1 (next_1 a L) L) L else 0
noncomputable def item_18 (a : Int) (L : List (List Int)) : Int :=
  bif next_0 14 (next_1 a L) L == 0 then 0
  else
    bif bif item_s0 a L then item_s0 a L else bif item_s1 a L then item_s1 a L else bif item_s2 a L then item_s2 a L else next_0 14 (next_1 a L) L == 4 then 0
    else
      bif bif item_s3 a L then item_s3 a L else next_0 14 (next_1 a L) L == 6 then 0
      else
        bif next_0 14 (next_1 a L) L == 7 then 0
        else
          bif next_0 14 (next_1 a L) L == 8 then 0
          else
            bif next_0 14 (next_1 a L) L == 9 then 0
            else bif next_0 14 (next_1 a L) L == 10 then bif decide (range_0 3 5 (next_1 (next_1 a L) L) L < 5) then next_0 9000 (next_1 (next_1 (next_1 a L) L) L) L else 0 else 0
noncomputable def item_s4 (a : Int) (L : List (List Int)) : Bool :=
  next_0 2 (next_1 (next_1 (next_1 a L) L) L) L == 0
noncomputable def item_19 (a : Int) (L : List (List Int)) : Bool :=
  bif next_0 14 (next_1 a L) L == 0 then false
  else
    bif bif item_s0 a L then item_s0 a L else bif item_s1 a L then item_s1 a L else bif item_s2 a L then item_s2 a L else next_0 14 (next_1 a L) L == 4 then false
    else
      bif bif item_s3 a L then item_s3 a L else next_0 14 (next_1 a L) L == 6 then false
      else
        bif next_0 14 (next_1 a L) L == 7 then false
        else
          bif next_0 14 (next_1 a L) L == 8 then false
          else
            bif next_0 14 (next_1 a L) L == 9 then false
            else bif next_0 14 (next_1 a L) L == 10 then false else bif next_0 14 (next_1 a L) L == 11 then item_s4 a L else next_0 14 (next_1 a L) L == 12 && item_s4 a L
noncomputable def item_20 (a : Int) (L : List (List Int)) : Int :=
  bif next_0 14 (next_1 a L) L == 0 then next_1 (next_1 (next_1 (next_1 (next_1 a L) L) L) L) L
  else
    bif bif item_s0 a L then item_s0 a L else bif item_s1 a L then item_s1 a L else bif item_s2 a L then item_s2 a L else next_0 14 (next_1 a L) L == 4 then
      next_1 (next_1 (next_1 (next_1 (next_1 (next_1 (next_1 (next_1 a L) L) L) L) L) L) L) L
    else
      bif bif item_s3 a L then item_s3 a L else next_0 14 (next_1 a L) L == 6 then
        next_1 (next_1 (next_1 (next_1 (next_1 (next_1 (next_1 (next_1 (next_1 (spokes_6 (next_1 (next_1 (next_1 a L) L) L) L) L) L) L) L) L) L) L) L) L
      else
        bif next_0 14 (next_1 a L) L == 7 then next_1 (next_1 (next_1 (next_1 (next_1 (next_1 a L) L) L) L) L) L
        else
          bif next_0 14 (next_1 a L) L == 8 then next_1 (next_1 (next_1 (next_1 (next_1 (next_1 (next_1 a L) L) L) L) L) L) L
          else
            bif next_0 14 (next_1 a L) L == 9 then next_1 (next_1 (next_1 a L) L) L
            else
              bif next_0 14 (next_1 a L) L == 10 then bif decide (range_0 3 5 (next_1 (next_1 a L) L) L < 5) then next_1 (next_1 (next_1 (next_1 a L) L) L) L else next_1 (next_1 (next_1 a L) L) L
              else
                bif next_0 14 (next_1 a L) L == 11 then next_1 (next_1 (next_1 (next_1 a L) L) L) L
                else bif next_0 14 (next_1 a L) L == 12 then next_1 (next_1 (next_1 (next_1 a L) L) L) L else next_1 (next_1 (next_1 a L) L) L
noncomputable def item_s5 (L : List (List Int)) : Prop :=
  L.length ≤ 1000000 ∧ Int.ofNat 2 ≠ 0
noncomputable def item_s6 (a : Int) (L : List (List Int)) : Prop :=
  0 ≤ next_1 (next_1 (next_1 a L) L) L ∧ item_s5 L
noncomputable def item_needs (a : Int) (L : List (List Int)) : List Prop :=
  [0 ≤ a, L.length ≤ 1000000, Int.ofNat 30 ≠ 0, 0 ≤ next_1 a L, L.length ≤ 1000000, Int.ofNat 14 ≠ 0,
    (next_0 14 (next_1 a L) L == 0) = true → 0 ≤ next_1 (next_1 a L) L ∧ L.length ≤ 1000000 ∧ Int.ofNat 0 < 300 ∧ Int.ofNat 300 ≤ 1000000,
    (next_0 14 (next_1 a L) L == 0) = false →
      ((bif item_s0 a L then item_s0 a L else bif item_s1 a L then item_s1 a L else bif item_s2 a L then item_s2 a L else next_0 14 (next_1 a L) L == 4) = true →
          0 ≤ next_1 (next_1 a L) L ∧
            L.length ≤ 1000000 ∧
              (Int.ofNat 0 < 300 ∧ Int.ofNat 300 ≤ 1000000) ∧
                0 ≤ next_1 (next_1 (next_1 (next_1 (next_1 a L) L) L) L) L ∧
                  L.length ≤ 1000000 ∧
                    Int.ofNat 90000 ≠ 0 ∧
                      0 ≤ next_1 (next_1 (next_1 (next_1 (next_1 (next_1 a L) L) L) L) L) L ∧
                        L.length ≤ 1000000 ∧ Int.ofNat 5 ≠ 0 ∧ 0 ≤ next_1 (next_1 (next_1 (next_1 (next_1 (next_1 (next_1 a L) L) L) L) L) L) L ∧ L.length ≤ 1000000 ∧ Int.ofNat 50 ≠ 0) ∧
        ((bif item_s0 a L then item_s0 a L else bif item_s1 a L then item_s1 a L else bif item_s2 a L then item_s2 a L else next_0 14 (next_1 a L) L == 4) = false →
          ((bif item_s3 a L then item_s3 a L else next_0 14 (next_1 a L) L == 6) = true → 0 ≤ next_1 (next_1 a L) L ∧ L.length ≤ 1000000) ∧
            ((bif item_s3 a L then item_s3 a L else next_0 14 (next_1 a L) L == 6) = false →
              ((next_0 14 (next_1 a L) L == 7) = true →
                  0 ≤ next_1 (next_1 a L) L ∧
                    L.length ≤ 1000000 ∧ (Int.ofNat 0 < 300 ∧ Int.ofNat 300 ≤ 1000000) ∧ 0 ≤ next_1 (next_1 (next_1 (next_1 (next_1 a L) L) L) L) L ∧ L.length ≤ 1000000 ∧ Int.ofNat 90000 ≠ 0) ∧
                ((next_0 14 (next_1 a L) L == 7) = false →
                  ((next_0 14 (next_1 a L) L == 8) = true →
                      0 ≤ next_1 (next_1 a L) L ∧
                        L.length ≤ 1000000 ∧
                          (Int.ofNat 0 < 300 ∧ Int.ofNat 300 ≤ 1000000) ∧
                            0 ≤ next_1 (next_1 (next_1 (next_1 (next_1 a L) L) L) L) L ∧
                              L.length ≤ 1000000 ∧ Int.ofNat 9000 ≠ 0 ∧ 0 ≤ next_1 (next_1 (next_1 (next_1 (next_1 (next_1 a L) L) L) L) L) L ∧ item_s5 L) ∧
                    ((next_0 14 (next_1 a L) L == 8) = false →
                      ((next_0 14 (next_1 a L) L == 9) = true → 0 ≤ next_1 (next_1 a L) L ∧ L.length ≤ 1000000 ∧ Int.ofNat 100 ≠ 0) ∧
                        ((next_0 14 (next_1 a L) L == 9) = false →
                          ((next_0 14 (next_1 a L) L == 10) = true →
                              0 ≤ next_1 (next_1 a L) L ∧
                                L.length ≤ 1000000 ∧
                                  Int.ofNat 3 ≠ 0 ∧ (decide (range_0 3 5 (next_1 (next_1 a L) L) L < 5) = true → 0 ≤ next_1 (next_1 (next_1 a L) L) L ∧ L.length ≤ 1000000 ∧ Int.ofNat 9000 ≠ 0)) ∧
                            ((next_0 14 (next_1 a L) L == 10) = false →
                              ((next_0 14 (next_1 a L) L == 11) = true → 0 ≤ next_1 (next_1 a L) L ∧ L.length ≤ 1000000 ∧ Int.ofNat 2 ≠ 0 ∧ item_s6 a L) ∧
                                ((next_0 14 (next_1 a L) L == 11) = false →
                                  ((next_0 14 (next_1 a L) L == 12) = true → 0 ≤ next_1 (next_1 a L) L ∧ L.length ≤ 1000000 ∧ Int.ofNat 16 ≠ 0 ∧ item_s6 a L) ∧
                                    ((next_0 14 (next_1 a L) L == 12) = false →
                                      0 ≤ next_1 (next_1 a L) L ∧
                                        L.length ≤ 1000000 ∧
                                          Int.ofNat 3 ≠ 0 ∧
                                            0 ≤ next_0 3 (next_1 (next_1 a L) L) L ∧ (next_0 3 (next_1 (next_1 a L) L) L).toNat < 3 ∧ (next_0 3 (next_1 (next_1 a L) L) L).toNat < 3))))))))]
theorem item_weak {a : Int} {L : List (List Int)} (hW : ∀ q ∈ ([0 ≤ a, L.length ≤ 1000000] : List Prop), q) : ∀ q ∈ (item_needs a L), q := by
  simp only [List.mem_cons, List.not_mem_nil, or_false, forall_eq_or_imp, forall_eq] at hW
  unfold item_needs
  simp only [List.forall_mem_cons, List.not_mem_nil, false_implies, implies_true, and_true]
  obtain ⟨h1, h2⟩ := hW
  have nn : ∀ x, 0 ≤ x → 0 ≤ next_1 x L := fun x h => next_1_nn x L h h2
  have r := next_0_range 3 (next_1 (next_1 a L) L) L (by omega) (by omega)
  have r1 := r.1
  have r2 : (next_0 3 (next_1 (next_1 a L) L) L).toNat < 3 := by omega
  have s5 : item_s5 L := ⟨h2, by decide⟩
  have s6 : item_s6 a L := by unfold item_s6; repeat' (first | assumption | decide | apply And.intro | apply nn)
  repeat' (first | assumption | decide | apply And.intro | intro _ | apply nn)
set_option maxRecDepth 1000000 in
theorem item_runs (x y z a : Int) (L : List (List Int)) (hNeeds : ∀ pN ∈ (item_needs a L), pN) : Runs (runF (sums K_vec) L_ov 37) (item_tpl.args [.i x, .i y, .i z, .i a]) (item_tpl.memo [.i x, .i y, .i z, .i a] [L]) item_tpl.n (SV.agg
    [SC.int IntKind.i64 (SI.v (item_0 a L)), SC.int IntKind.i64 (SI.v (item_1 a L)), SC.int IntKind.i64 (SI.v (item_2 x a L)), SC.int IntKind.i64 (SI.v (item_2 y a L)),
      SC.int IntKind.i64 (SI.v (item_2 z a L)), SC.int IntKind.i64 (SI.v (item_5 x a L)), SC.int IntKind.i64 (SI.v (item_6 y a L)), SC.int IntKind.i64 (SI.v (item_7 z a L)),
      SC.int IntKind.i64 (SI.v (item_8 a L)), SC.int IntKind.i64 (SI.v (item_9 x a L)), SC.int IntKind.i64 (SI.v (item_10 y a L)), SC.int IntKind.i64 (SI.v (item_11 z a L)),
      SC.int IntKind.i64 (SI.v (item_12 a L)), SC.bool (SB.v (item_13 a L)), SC.int IntKind.i64 (SI.v (item_14 a L)), SC.bool (SB.v (item_15 a L)), SC.int IntKind.i64 (SI.c 0),
      SC.int IntKind.i64 (SI.c 0), SC.int IntKind.i64 (SI.v (item_16 a L)), SC.int IntKind.i64 (SI.v (item_17 a L)), SC.int IntKind.i64 (SI.v (item_18 a L)), SC.bool (SB.v (item_19 a L))])
    ([(0, Obj.blk 80 [(2, SC.wh 1), (5054, SC.int IntKind.i64 (SI.v (item_20 a L)))]), (1, Obj.row true 3 1 (RowC.lst 4 [CK.int IntKind.i64] L))]) :=
  Runs.of (ps := (item_needs a L)) (by kernel_rfl) (by kernel_rfl) hNeeds
noncomputable def item_out : List Pm → Lss → Option CRes
  | [.i x, .i y, .i z, .i a], [L] => some ⟨SV.agg
    [SC.int IntKind.i64 (SI.v (item_0 a L)), SC.int IntKind.i64 (SI.v (item_1 a L)), SC.int IntKind.i64 (SI.v (item_2 x a L)), SC.int IntKind.i64 (SI.v (item_2 y a L)),
      SC.int IntKind.i64 (SI.v (item_2 z a L)), SC.int IntKind.i64 (SI.v (item_5 x a L)), SC.int IntKind.i64 (SI.v (item_6 y a L)), SC.int IntKind.i64 (SI.v (item_7 z a L)),
      SC.int IntKind.i64 (SI.v (item_8 a L)), SC.int IntKind.i64 (SI.v (item_9 x a L)), SC.int IntKind.i64 (SI.v (item_10 y a L)), SC.int IntKind.i64 (SI.v (item_11 z a L)),
      SC.int IntKind.i64 (SI.v (item_12 a L)), SC.bool (SB.v (item_13 a L)), SC.int IntKind.i64 (SI.v (item_14 a L)), SC.bool (SB.v (item_15 a L)), SC.int IntKind.i64 (SI.c 0),
      SC.int IntKind.i64 (SI.c 0), SC.int IntKind.i64 (SI.v (item_16 a L)), SC.int IntKind.i64 (SI.v (item_17 a L)), SC.int IntKind.i64 (SI.v (item_18 a L)), SC.bool (SB.v (item_19 a L))],
    [(0, Obj.blk 80 [(2, SC.wh 1), (5054, SC.int IntKind.i64 (SI.v (item_20 a L)))]), (1, Obj.row true 3 1 (RowC.lst 4 [CK.int IntKind.i64] L))],
    [0 ≤ a, L.length ≤ 1000000], [], 5090⟩
  | _, _ => none
theorem item_ok : FOk Try.prog 37 (tplS item_tpl item_out) := by
  refine tplS_ok (runF_ok known_vec 37) fun ps ls r hr hn _ => ?_
  unfold item_out at hr
  split at hr
  · cases hr; exact ⟨_, item_runs _ _ _ _ _ (item_weak (by exact hn)), fun _ => rfl⟩
  · cases hr
noncomputable def K_item : List (Nat × Summ) := (37, tplS item_tpl item_out) :: K_vec
theorem known_item : Known Try.prog (sums K_item) L_ov := known_cons known_vec item_ok
end Go.Proofs.Ytkggdhnliiagjaa
