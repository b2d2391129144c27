/-
  ARCOFFSET: the walk. Conditions: none.
-/
import Derived.Test.YtkggdhnliiagjaaV3
import Derived.Test.YtkggdhnliiagjaaD2
set_option linter.all false
namespace Go.Proofs.Ytkggdhnliiagjaa
open Go.SX Go.RowKit
noncomputable def lawO_tpl : Tpl := ⟨[.one (.int .i64), .agg [.int .i64, .int .i64, .int .i64], .one (.int .i64), .one (.int .i64), .one (.int .i64)], [], 0⟩
noncomputable def lawO_s0 (p : Int) : Int :=
  IntKind.i64.wrap (17 + mod_0 p 3)
noncomputable def lawO_s1 (p : Int) (i : Int) (j : Int) (k : Int) : Int :=
  flat_0 (lawO_s0 p) (between_0 i (-90000) 90000) (between_0 j (-90000) 90000) (between_0 k (-90000) 90000)
noncomputable def lawO_s2 (p : Int) (i : Int) (j : Int) (k : Int) : Int :=
  flat_1 (lawO_s0 p) (between_0 i (-90000) 90000) (between_0 j (-90000) 90000) (between_0 k (-90000) 90000)
noncomputable def lawO_0 (p : Int) (a : Int) (b : Int) (c : Int) (i : Int) (j : Int) (k : Int) : Bool :=
  bif
      !(aoffset_0 p a b c i j k == roffset_0 p a b c i j k && (aoffset_1 p a b c i j k == roffset_1 p a b c i j k && aoffset_2 p a b c i j k == roffset_2 p a b c i j k)) ||
        aoffset_3 p a b c i j k != roffset_3 p a b c i j k then
    false
  else
    bif
        !(aoffset_0 (lawO_s0 p) (between_0 a (-1048576) 1048576) (between_0 b (-1048576) 1048576) (between_0 c (-1048576) 1048576) (solid_0 (lawO_s0 p) (lawO_s1 p i j k) (lawO_s2 p i j k) 0)
                  (solid_1 (lawO_s0 p) (lawO_s1 p i j k) (lawO_s2 p i j k) 0) (solid_2 (lawO_s0 p) (lawO_s1 p i j k) (lawO_s2 p i j k) 0) ==
                roffset_0 (lawO_s0 p) (between_0 a (-1048576) 1048576) (between_0 b (-1048576) 1048576) (between_0 c (-1048576) 1048576) (solid_0 (lawO_s0 p) (lawO_s1 p i j k) (lawO_s2 p i j k) 0)
                  (solid_1 (lawO_s0 p) (lawO_s1 p i j k) (lawO_s2 p i j k) 0) (solid_2 (lawO_s0 p) (lawO_s1 p i j k) (lawO_s2 p i j k) 0) &&
              (aoffset_1 (lawO_s0 p) (between_0 a (-1048576) 1048576) (between_0 b (-1048576) 1048576) (between_0 c (-1048576) 1048576) (solid_0 (lawO_s0 p) (lawO_s1 p i j k) (lawO_s2 p i j k) 0)
                    (solid_1 (lawO_s0 p) (lawO_s1 p i j k) (lawO_s2 p i j k) 0) (solid_2 (lawO_s0 p) (lawO_s1 p i j k) (lawO_s2 p i j k) 0) ==
                  roffset_1 (lawO_s0 p) (between_0 a (-1048576) 1048576) (between_0 b (-1048576) 1048576) (between_0 c (-1048576) 1048576) (solid_0 (lawO_s0 p) (lawO_s1 p i j k) (lawO_s2 p i j k) 0)
                    (solid_1 (lawO_s0 p) (lawO_s1 p i j k) (lawO_s2 p i j k) 0) (solid_2 (lawO_s0 p) (lawO_s1 p i j k) (lawO_s2 p i j k) 0) &&
                aoffset_2 (lawO_s0 p) (between_0 a (-1048576) 1048576) (between_0 b (-1048576) 1048576) (between_0 c (-1048576) 1048576) (solid_0 (lawO_s0 p) (lawO_s1 p i j k) (lawO_s2 p i j k) 0)
                    (solid_1 (lawO_s0 p) (lawO_s1 p i j k) (lawO_s2 p i j k) 0) (solid_2 (lawO_s0 p) (lawO_s1 p i j k) (lawO_s2 p i j k) 0) ==
                  roffset_2 (lawO_s0 p) (between_0 a (-1048576) 1048576) (between_0 b (-1048576) 1048576) (between_0 c (-1048576) 1048576) (solid_0 (lawO_s0 p) (lawO_s1 p i j k) (lawO_s2 p i j k) 0)
                    (solid_1 (lawO_s0 p) (lawO_s1 p i j k) (lawO_s2 p i j k) 0) (solid_2 (lawO_s0 p) (lawO_s1 p i j k) (lawO_s2 p i j k) 0))) ||
          aoffset_3 (lawO_s0 p) (between_0 a (-1048576) 1048576) (between_0 b (-1048576) 1048576) (between_0 c (-1048576) 1048576) (solid_0 (lawO_s0 p) (lawO_s1 p i j k) (lawO_s2 p i j k) 0)
              (solid_1 (lawO_s0 p) (lawO_s1 p i j k) (lawO_s2 p i j k) 0) (solid_2 (lawO_s0 p) (lawO_s1 p i j k) (lawO_s2 p i j k) 0) !=
            roffset_3 (lawO_s0 p) (between_0 a (-1048576) 1048576) (between_0 b (-1048576) 1048576) (between_0 c (-1048576) 1048576) (solid_0 (lawO_s0 p) (lawO_s1 p i j k) (lawO_s2 p i j k) 0)
              (solid_1 (lawO_s0 p) (lawO_s1 p i j k) (lawO_s2 p i j k) 0) (solid_2 (lawO_s0 p) (lawO_s1 p i j k) (lawO_s2 p i j k) 0) then
      false
    else
      bif
          !(aoffset_0 (lawO_s0 p) (between_0 (between_0 a (-1048576) 1048576) (-1048576) 1048576) (between_0 (between_0 b (-1048576) 1048576) (-1048576) 1048576)
                    (between_0 (between_0 c (-1048576) 1048576) (-1048576) 1048576) (solid_0 (lawO_s0 p) (lawO_s1 p i j k) (lawO_s2 p i j k) 0)
                    (solid_1 (lawO_s0 p) (lawO_s1 p i j k) (lawO_s2 p i j k) 0) (solid_2 (lawO_s0 p) (lawO_s1 p i j k) (lawO_s2 p i j k) 0) ==
                  roffset_0 (lawO_s0 p) (between_0 (between_0 a (-1048576) 1048576) (-1048576) 1048576) (between_0 (between_0 b (-1048576) 1048576) (-1048576) 1048576)
                    (between_0 (between_0 c (-1048576) 1048576) (-1048576) 1048576) (solid_0 (lawO_s0 p) (lawO_s1 p i j k) (lawO_s2 p i j k) 0)
                    (solid_1 (lawO_s0 p) (lawO_s1 p i j k) (lawO_s2 p i j k) 0) (solid_2 (lawO_s0 p) (lawO_s1 p i j k) (lawO_s2 p i j k) 0) &&
                (aoffset_1 (lawO_s0 p) (between_0 (between_0 a (-1048576) 1048576) (-1048576) 1048576) (between_0 (between_0 b (-1048576) 1048576) (-1048576) 1048576)
                      (between_0 (between_0 c (-1048576) 1048576) (-1048576) 1048576) (solid_0 (lawO_s0 p) (lawO_s1 p i j k) (lawO_s2 p i j k) 0)
                      (solid_1 (lawO_s0 p) (lawO_s1 p i j k) (lawO_s2 p i j k) 0) (solid_2 (lawO_s0 p) (lawO_s1 p i j k) (lawO_s2 p i j k) 0) ==
                    roffset_1 (lawO_s0 p) (between_0 (between_0 a (-1048576) 1048576) (-1048576) 1048576) (between_0 (between_0 b (-1048576) 1048576) (-1048576) 1048576)
                      (between_0 (between_0 c (-1048576) 1048576) (-1048576) 1048576) (solid_0 (lawO_s0 p) (lawO_s1 p i j k) (lawO_s2 p i j k) 0)
                      (solid_1 (lawO_s0 p) (lawO_s1 p i j k) (lawO_s2 p i j k) 0) (solid_2 (lawO_s0 p) (lawO_s1 p i j k) (lawO_s2 p i j k) 0) &&
                  aoffset_2 (lawO_s0 p) (between_0 (between_0 a (-1048576) 1048576) (-1048576) 1048576) (between_0 (between_0 b (-1048576) 1048576) (-1048576) 1048576)
                      (between_0 (between_0 c (-1048576) 1048576) (-1048576) 1048576) (solid_0 (lawO_s0 p) (lawO_s1 p i j k) (lawO_s2 p i j k) 0)
                      (solid_1 (lawO_s0 p) (lawO_s1 p i j k) (lawO_s2 p i j k) 0) (solid_2 (lawO_s0 p) (lawO_s1 p i j k) (lawO_s2 p i j k) 0) ==
                    roffset_2 (lawO_s0 p) (between_0 (between_0 a (-1048576) 1048576) (-1048576) 1048576) (between_0 (between_0 b (-1048576) 1048576) (-1048576) 1048576)
                      (between_0 (between_0 c (-1048576) 1048576) (-1048576) 1048576) (solid_0 (lawO_s0 p) (lawO_s1 p i j k) (lawO_s2 p i j k) 0)
                      (solid_1 (lawO_s0 p) (lawO_s1 p i j k) (lawO_s2 p i j k) 0) (solid_2 (lawO_s0 p) (lawO_s1 p i j k) (lawO_s2 p i j k) 0))) ||
            aoffset_3 (lawO_s0 p) (between_0 (between_0 a (-1048576) 1048576) (-1048576) 1048576) (between_0 (between_0 b (-1048576) 1048576) (-1048576) 1048576)
                (between_0 (between_0 c (-1048576) 1048576) (-1048576) 1048576) (solid_0 (lawO_s0 p) (lawO_s1 p i j k) (lawO_s2 p i j k) 0) (solid_1 (lawO_s0 p) (lawO_s1 p i j k) (lawO_s2 p i j k) 0)
                (solid_2 (lawO_s0 p) (lawO_s1 p i j k) (lawO_s2 p i j k) 0) !=
              roffset_3 (lawO_s0 p) (between_0 (between_0 a (-1048576) 1048576) (-1048576) 1048576) (between_0 (between_0 b (-1048576) 1048576) (-1048576) 1048576)
                (between_0 (between_0 c (-1048576) 1048576) (-1048576) 1048576) (solid_0 (lawO_s0 p) (lawO_s1 p i j k) (lawO_s2 p i j k) 0) (solid_1 (lawO_s0 p) (lawO_s1 p i j k) (lawO_s2 p i j k) 0)
                (solid_2 (lawO_s0 p) (lawO_s1 p i j k) (lawO_s2 p i j k) 0) then
        false
      else true
noncomputable def lawO_s3 (p : Int) (a : Int) (b : Int) (c : Int) (i : Int) (j : Int) (k : Int) : Prop :=
  (!(aoffset_0 p a b c i j k == roffset_0 p a b c i j k && (aoffset_1 p a b c i j k == roffset_1 p a b c i j k && aoffset_2 p a b c i j k == roffset_2 p a b c i j k)) ||
      aoffset_3 p a b c i j k != roffset_3 p a b c i j k) =
    false
noncomputable def lawO_s4 (p : Int) (a : Int) (b : Int) (c : Int) (i : Int) (j : Int) (k : Int) : Prop :=
  (!(aoffset_0 (lawO_s0 p) (between_0 a (-1048576) 1048576) (between_0 b (-1048576) 1048576) (between_0 c (-1048576) 1048576) (solid_0 (lawO_s0 p) (lawO_s1 p i j k) (lawO_s2 p i j k) 0)
              (solid_1 (lawO_s0 p) (lawO_s1 p i j k) (lawO_s2 p i j k) 0) (solid_2 (lawO_s0 p) (lawO_s1 p i j k) (lawO_s2 p i j k) 0) ==
            roffset_0 (lawO_s0 p) (between_0 a (-1048576) 1048576) (between_0 b (-1048576) 1048576) (between_0 c (-1048576) 1048576) (solid_0 (lawO_s0 p) (lawO_s1 p i j k) (lawO_s2 p i j k) 0)
              (solid_1 (lawO_s0 p) (lawO_s1 p i j k) (lawO_s2 p i j k) 0) (solid_2 (lawO_s0 p) (lawO_s1 p i j k) (lawO_s2 p i j k) 0) &&
          (aoffset_1 (lawO_s0 p) (between_0 a (-1048576) 1048576) (between_0 b (-1048576) 1048576) (between_0 c (-1048576) 1048576) (solid_0 (lawO_s0 p) (lawO_s1 p i j k) (lawO_s2 p i j k) 0)
                (solid_1 (lawO_s0 p) (lawO_s1 p i j k) (lawO_s2 p i j k) 0) (solid_2 (lawO_s0 p) (lawO_s1 p i j k) (lawO_s2 p i j k) 0) ==
              roffset_1 (lawO_s0 p) (between_0 a (-1048576) 1048576) (between_0 b (-1048576) 1048576) (between_0 c (-1048576) 1048576) (solid_0 (lawO_s0 p) (lawO_s1 p i j k) (lawO_s2 p i j k) 0)
                (solid_1 (lawO_s0 p) (lawO_s1 p i j k) (lawO_s2 p i j k) 0) (solid_2 (lawO_s0 p) (lawO_s1 p i j k) (lawO_s2 p i j k) 0) &&
            aoffset_2 (lawO_s0 p) (between_0 a (-1048576) 1048576) (between_0 b (-1048576) 1048576) (between_0 c (-1048576) 1048576) (solid_0 (lawO_s0 p) (lawO_s1 p i j k) (lawO_s2 p i j k) 0)
                (solid_1 (lawO_s0 p) (lawO_s1 p i j k) (lawO_s2 p i j k) 0) (solid_2 (lawO_s0 p) (lawO_s1 p i j k) (lawO_s2 p i j k) 0) ==
              roffset_2 (lawO_s0 p) (between_0 a (-1048576) 1048576) (between_0 b (-1048576) 1048576) (between_0 c (-1048576) 1048576) (solid_0 (lawO_s0 p) (lawO_s1 p i j k) (lawO_s2 p i j k) 0)
                (solid_1 (lawO_s0 p) (lawO_s1 p i j k) (lawO_s2 p i j k) 0) (solid_2 (lawO_s0 p) (lawO_s1 p i j k) (lawO_s2 p i j k) 0))) ||
      aoffset_3 (lawO_s0 p) (between_0 a (-1048576) 1048576) (between_0 b (-1048576) 1048576) (between_0 c (-1048576) 1048576) (solid_0 (lawO_s0 p) (lawO_s1 p i j k) (lawO_s2 p i j k) 0)
          (solid_1 (lawO_s0 p) (lawO_s1 p i j k) (lawO_s2 p i j k) 0) (solid_2 (lawO_s0 p) (lawO_s1 p i j k) (lawO_s2 p i j k) 0) !=
        roffset_3 (lawO_s0 p) (between_0 a (-1048576) 1048576) (between_0 b (-1048576) 1048576) (between_0 c (-1048576) 1048576) (solid_0 (lawO_s0 p) (lawO_s1 p i j k) (lawO_s2 p i j k) 0)
          (solid_1 (lawO_s0 p) (lawO_s1 p i j k) (lawO_s2 p i j k) 0) (solid_2 (lawO_s0 p) (lawO_s1 p i j k) (lawO_s2 p i j k) 0)) =
    false
noncomputable def lawO_needs (p : Int) (a : Int) (b : Int) (c : Int) (i : Int) (j : Int) (k : Int) : List Prop :=
  [lawO_s3 p a b c i j k → Int.ofNat 2097153 ≠ 0 ∧ Int.ofNat 2097153 ≠ 0 ∧ Int.ofNat 2097153 ≠ 0 ∧ Int.ofNat 3 ≠ 0 ∧ Int.ofNat 180001 ≠ 0 ∧ Int.ofNat 180001 ≠ 0 ∧ Int.ofNat 180001 ≠ 0,
    lawO_s3 p a b c i j k →
      (lawO_s4 p a b c i j k → Int.ofNat 2097153 ≠ 0 ∧ Int.ofNat 2097153 ≠ 0 ∧ Int.ofNat 2097153 ≠ 0) ∧
        (lawO_s4 p a b c i j k →
          (!(aoffset_0 (lawO_s0 p) (between_0 (between_0 a (-1048576) 1048576) (-1048576) 1048576) (between_0 (between_0 b (-1048576) 1048576) (-1048576) 1048576)
                        (between_0 (between_0 c (-1048576) 1048576) (-1048576) 1048576) (solid_0 (lawO_s0 p) (lawO_s1 p i j k) (lawO_s2 p i j k) 0)
                        (solid_1 (lawO_s0 p) (lawO_s1 p i j k) (lawO_s2 p i j k) 0) (solid_2 (lawO_s0 p) (lawO_s1 p i j k) (lawO_s2 p i j k) 0) ==
                      roffset_0 (lawO_s0 p) (between_0 (between_0 a (-1048576) 1048576) (-1048576) 1048576) (between_0 (between_0 b (-1048576) 1048576) (-1048576) 1048576)
                        (between_0 (between_0 c (-1048576) 1048576) (-1048576) 1048576) (solid_0 (lawO_s0 p) (lawO_s1 p i j k) (lawO_s2 p i j k) 0)
                        (solid_1 (lawO_s0 p) (lawO_s1 p i j k) (lawO_s2 p i j k) 0) (solid_2 (lawO_s0 p) (lawO_s1 p i j k) (lawO_s2 p i j k) 0) &&
                    (aoffset_1 (lawO_s0 p) (between_0 (between_0 a (-1048576) 1048576) (-1048576) 1048576) (between_0 (between_0 b (-1048576) 1048576) (-1048576) 1048576)
                          (between_0 (between_0 c (-1048576) 1048576) (-1048576) 1048576) (solid_0 (lawO_s0 p) (lawO_s1 p i j k) (lawO_s2 p i j k) 0)
                          (solid_1 (lawO_s0 p) (lawO_s1 p i j k) (lawO_s2 p i j k) 0) (solid_2 (lawO_s0 p) (lawO_s1 p i j k) (lawO_s2 p i j k) 0) ==
                        roffset_1 (lawO_s0 p) (between_0 (between_0 a (-1048576) 1048576) (-1048576) 1048576) (between_0 (between_0 b (-1048576) 1048576) (-1048576) 1048576)
                          (between_0 (between_0 c (-1048576) 1048576) (-1048576) 1048576) (solid_0 (lawO_s0 p) (lawO_s1 p i j k) (lawO_s2 p i j k) 0)
                          (solid_1 (lawO_s0 p) (lawO_s1 p i j k) (lawO_s2 p i j k) 0) (solid_2 (lawO_s0 p) (lawO_s1 p i j k) (lawO_s2 p i j k) 0) &&
                      aoffset_2 (lawO_s0 p) (between_0 (between_0 a (-1048576) 1048576) (-1048576) 1048576) (between_0 (between_0 b (-1048576) 1048576) (-1048576) 1048576)
                          (between_0 (between_0 c (-1048576) 1048576) (-1048576) 1048576) (solid_0 (lawO_s0 p) (lawO_s1 p i j k) (lawO_s2 p i j k) 0)
                          (solid_1 (lawO_s0 p) (lawO_s1 p i j k) (lawO_s2 p i j k) 0) (solid_2 (lawO_s0 p) (lawO_s1 p i j k) (lawO_s2 p i j k) 0) ==
                        roffset_2 (lawO_s0 p) (between_0 (between_0 a (-1048576) 1048576) (-1048576) 1048576) (between_0 (between_0 b (-1048576) 1048576) (-1048576) 1048576)
                          (between_0 (between_0 c (-1048576) 1048576) (-1048576) 1048576) (solid_0 (lawO_s0 p) (lawO_s1 p i j k) (lawO_s2 p i j k) 0)
                          (solid_1 (lawO_s0 p) (lawO_s1 p i j k) (lawO_s2 p i j k) 0) (solid_2 (lawO_s0 p) (lawO_s1 p i j k) (lawO_s2 p i j k) 0))) ||
                aoffset_3 (lawO_s0 p) (between_0 (between_0 a (-1048576) 1048576) (-1048576) 1048576) (between_0 (between_0 b (-1048576) 1048576) (-1048576) 1048576)
                    (between_0 (between_0 c (-1048576) 1048576) (-1048576) 1048576) (solid_0 (lawO_s0 p) (lawO_s1 p i j k) (lawO_s2 p i j k) 0)
                    (solid_1 (lawO_s0 p) (lawO_s1 p i j k) (lawO_s2 p i j k) 0) (solid_2 (lawO_s0 p) (lawO_s1 p i j k) (lawO_s2 p i j k) 0) !=
                  roffset_3 (lawO_s0 p) (between_0 (between_0 a (-1048576) 1048576) (-1048576) 1048576) (between_0 (between_0 b (-1048576) 1048576) (-1048576) 1048576)
                    (between_0 (between_0 c (-1048576) 1048576) (-1048576) 1048576) (solid_0 (lawO_s0 p) (lawO_s1 p i j k) (lawO_s2 p i j k) 0)
                    (solid_1 (lawO_s0 p) (lawO_s1 p i j k) (lawO_s2 p i j k) 0) (solid_2 (lawO_s0 p) (lawO_s1 p i j k) (lawO_s2 p i j k) 0)) =
              false →
            Int.ofNat 2097153 ≠ 0 ∧ Int.ofNat 2097153 ≠ 0 ∧ Int.ofNat 2097153 ≠ 0)]
theorem lawO_0_eq (p a b c i j k : Int) : (lawO_0 p a b c i j k) = true := by
  unfold lawO_0 lawO_s1 lawO_s2 lawO_s0
  have E : ∀ p a b c i j k, _ := offset_same
  simp only [E, beq_self_eq_true, bne_self_eq_false, Bool.and_self, Bool.not_true, Bool.or_self, cond_false]
theorem lawO_need {p : Int} {a : Int} {b : Int} {c : Int} {i : Int} {j : Int} {k : Int} : ∀ q ∈ (lawO_needs p a b c i j k), q := by
  unfold lawO_needs
  simp only [List.forall_mem_cons, List.not_mem_nil, false_implies, implies_true, and_true]
  repeat' (first | decide | refine And.intro ?_ ?_ | intro _)
set_option maxRecDepth 1000000 in
theorem lawO_runs (p a b c i j k : Int) (hNeeds : ∀ pN ∈ (lawO_needs p a b c i j k), pN) : Runs (runF (sums K_awake) L_ov 10) (lawO_tpl.args [.i p, .i a, .i b, .i c, .i i, .i j, .i k]) (lawO_tpl.memo [.i p, .i a, .i b, .i c, .i i, .i j, .i k] []) lawO_tpl.n (SV.one (SC.bool (SB.v (lawO_0 p a b c i j k))))
    ([]) :=
  Runs.of (ps := (lawO_needs p a b c i j k)) (by kernel_rfl) (by kernel_rfl) hNeeds
noncomputable def lawO_out : List Pm → Lss → Option CRes
  | [.i p, .i a, .i b, .i c, .i i, .i j, .i k], [] => some ⟨SV.one (SC.bool (SB.v (lawO_0 p a b c i j k))),
    [],
    [], [], 8216⟩
  | _, _ => none
theorem lawO_ok : FOk Try.prog 10 (tplS lawO_tpl lawO_out) := by
  refine tplS_ok (runF_ok known_awake 10) fun ps ls r hr hn _ => ?_
  unfold lawO_out at hr
  split at hr
  · cases hr; exact ⟨_, lawO_runs _ _ _ _ _ _ _ (fun p hp => lawO_need p hp), fun _ => by simp only [SV.den, SC.den, SB.val, lawO_0_eq]⟩
  · cases hr
noncomputable def K_lawO : List (Nat × Summ) := (10, tplS lawO_tpl lawO_out) :: K_awake
theorem known_lawO : Known Try.prog (sums K_lawO) L_ov := known_cons known_awake lawO_ok
end Go.Proofs.Ytkggdhnliiagjaa
