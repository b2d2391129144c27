/-
  OFFSETHALF: the walk. Conditions: none.
-/
import Derived.Test.YtjlkecfkjcanaaaV5
import Derived.Test.YtjlkecfkjcanaaaD1
set_option linter.all false
namespace Go.Proofs.Ytjlkecfkjcanaaa
open Go.SX Go.RowKit
noncomputable def lawH_tpl : Tpl := ⟨[.agg [.int .i64, .int .i64], .agg [.int .i64, .int .i64], .one (.int .i64), .one (.int .i64)], [], 0⟩
noncomputable def lawH_s0 (d : Int) : Int :=
  IntKind.i64.wrap (1 - IntKind.i64.wrap (2 * mod_0 d 2))
noncomputable def lawH_s1 (a0 : Int) (a1 : Int) (b0 : Int) (b1 : Int) (d : Int) : Int :=
  vinner_0 (ohalf_s1 (small_0 a0 2) (small_0 a1 2) (small_0 b0 2) (small_0 b1 2) (lawH_s0 d)) (ohalf_s2 (small_0 a0 2) (small_0 a1 2) (small_0 b0 2) (small_0 b1 2) (lawH_s0 d))
    (ohalf_s1 (small_0 a0 2) (small_0 a1 2) (small_0 b0 2) (small_0 b1 2) (lawH_s0 d)) (ohalf_s2 (small_0 a0 2) (small_0 a1 2) (small_0 b0 2) (small_0 b1 2) (lawH_s0 d))
noncomputable def lawH_s2 (a0 : Int) (a1 : Int) (d : Int) : Int :=
  vinner_0 (ohalf_s1 (small_0 a0 2) (small_0 a1 2) (small_0 a0 2) (small_0 a1 2) (lawH_s0 d)) (ohalf_s2 (small_0 a0 2) (small_0 a1 2) (small_0 a0 2) (small_0 a1 2) (lawH_s0 d))
    (ohalf_s1 (small_0 a0 2) (small_0 a1 2) (small_0 a0 2) (small_0 a1 2) (lawH_s0 d)) (ohalf_s2 (small_0 a0 2) (small_0 a1 2) (small_0 a0 2) (small_0 a1 2) (lawH_s0 d))
noncomputable def lawH_s3 (a0 : Int) : Int :=
  IntKind.i64.wrap (0 - small_0 a0 2)
noncomputable def lawH_s5 (a0 : Int) (a1 : Int) (d : Int) : Int :=
  vinner_0 (ohalf_s1 (small_0 a0 2) (small_0 a1 2) (lawH_s3 a0) (lawH_s3 a1) (lawH_s0 d)) (ohalf_s2 (small_0 a0 2) (small_0 a1 2) (lawH_s3 a0) (lawH_s3 a1) (lawH_s0 d))
    (ohalf_s1 (small_0 a0 2) (small_0 a1 2) (lawH_s3 a0) (lawH_s3 a1) (lawH_s0 d)) (ohalf_s2 (small_0 a0 2) (small_0 a1 2) (lawH_s3 a0) (lawH_s3 a1) (lawH_s0 d))
noncomputable def lawH_s6 (a0 : Int) (a1 : Int) (b0 : Int) (b1 : Int) (d : Int) (s : Int) : Bool :=
  bif small_0 a0 2 == 0 && small_0 a1 2 == 0 || small_0 b0 2 == 0 && small_0 b1 2 == 0 then true
  else
    bif
        !(wOver_0 (ohalf_s1 (small_0 a0 2) (small_0 a1 2) (small_0 b0 2) (small_0 b1 2) (lawH_s0 d)) (between_0 s 1 4194304) (lawH_s1 a0 a1 b0 b1 d) 2 ==
                  rHalf_0 (small_0 a0 2) (small_0 a1 2) (small_0 b0 2) (small_0 b1 2) (lawH_s0 d) (between_0 s 1 4194304) &&
                wOver_0 (ohalf_s2 (small_0 a0 2) (small_0 a1 2) (small_0 b0 2) (small_0 b1 2) (lawH_s0 d)) (between_0 s 1 4194304) (lawH_s1 a0 a1 b0 b1 d) 2 ==
                  rHalf_1 (small_0 a0 2) (small_0 a1 2) (small_0 b0 2) (small_0 b1 2) (lawH_s0 d) (between_0 s 1 4194304)) ||
            !(wOver_0 (ohalf_s1 (small_0 a0 2) (small_0 a1 2) (small_0 a0 2) (small_0 a1 2) (lawH_s0 d)) (between_0 s 1 4194304) (lawH_s2 a0 a1 d) 2 ==
                  rHalf_0 (small_0 a0 2) (small_0 a1 2) (small_0 a0 2) (small_0 a1 2) (lawH_s0 d) (between_0 s 1 4194304) &&
                wOver_0 (ohalf_s2 (small_0 a0 2) (small_0 a1 2) (small_0 a0 2) (small_0 a1 2) (lawH_s0 d)) (between_0 s 1 4194304) (lawH_s2 a0 a1 d) 2 ==
                  rHalf_1 (small_0 a0 2) (small_0 a1 2) (small_0 a0 2) (small_0 a1 2) (lawH_s0 d) (between_0 s 1 4194304)) ||
          !(wOver_0 (ohalf_s1 (small_0 a0 2) (small_0 a1 2) (lawH_s3 a0) (lawH_s3 a1) (lawH_s0 d)) (between_0 s 1 4194304) (lawH_s5 a0 a1 d) 2 ==
                rHalf_0 (small_0 a0 2) (small_0 a1 2) (lawH_s3 a0) (lawH_s3 a1) (lawH_s0 d) (between_0 s 1 4194304) &&
              wOver_0 (ohalf_s2 (small_0 a0 2) (small_0 a1 2) (lawH_s3 a0) (lawH_s3 a1) (lawH_s0 d)) (between_0 s 1 4194304) (lawH_s5 a0 a1 d) 2 ==
                rHalf_1 (small_0 a0 2) (small_0 a1 2) (lawH_s3 a0) (lawH_s3 a1) (lawH_s0 d) (between_0 s 1 4194304)) then
      false
    else true
noncomputable def lawH_s7 (a0 : Int) (a1 : Int) (b0 : Int) (b1 : Int) (d : Int) : Int :=
  vinner_0 (ohalf_s1 (small_0 a0 900) (small_0 a1 900) (small_0 b0 900) (small_0 b1 900) (lawH_s0 d)) (ohalf_s2 (small_0 a0 900) (small_0 a1 900) (small_0 b0 900) (small_0 b1 900) (lawH_s0 d))
    (ohalf_s1 (small_0 a0 900) (small_0 a1 900) (small_0 b0 900) (small_0 b1 900) (lawH_s0 d)) (ohalf_s2 (small_0 a0 900) (small_0 a1 900) (small_0 b0 900) (small_0 b1 900) (lawH_s0 d))
noncomputable def lawH_s8 (a0 : Int) (a1 : Int) (d : Int) : Int :=
  vinner_0 (ohalf_s1 (small_0 a0 900) (small_0 a1 900) (small_0 a0 900) (small_0 a1 900) (lawH_s0 d)) (ohalf_s2 (small_0 a0 900) (small_0 a1 900) (small_0 a0 900) (small_0 a1 900) (lawH_s0 d))
    (ohalf_s1 (small_0 a0 900) (small_0 a1 900) (small_0 a0 900) (small_0 a1 900) (lawH_s0 d)) (ohalf_s2 (small_0 a0 900) (small_0 a1 900) (small_0 a0 900) (small_0 a1 900) (lawH_s0 d))
noncomputable def lawH_s9 (a0 : Int) : Int :=
  IntKind.i64.wrap (0 - small_0 a0 900)
noncomputable def lawH_s11 (a0 : Int) (a1 : Int) (d : Int) : Int :=
  vinner_0 (ohalf_s1 (small_0 a0 900) (small_0 a1 900) (lawH_s9 a0) (lawH_s9 a1) (lawH_s0 d)) (ohalf_s2 (small_0 a0 900) (small_0 a1 900) (lawH_s9 a0) (lawH_s9 a1) (lawH_s0 d))
    (ohalf_s1 (small_0 a0 900) (small_0 a1 900) (lawH_s9 a0) (lawH_s9 a1) (lawH_s0 d)) (ohalf_s2 (small_0 a0 900) (small_0 a1 900) (lawH_s9 a0) (lawH_s9 a1) (lawH_s0 d))
noncomputable def lawH_s12 (a0 : Int) (a1 : Int) (b0 : Int) (b1 : Int) (d : Int) (s : Int) : Bool :=
  bif small_0 a0 900 == 0 && small_0 a1 900 == 0 || small_0 b0 900 == 0 && small_0 b1 900 == 0 then lawH_s6 a0 a1 b0 b1 d s
  else
    bif
        !(wOver_0 (ohalf_s1 (small_0 a0 900) (small_0 a1 900) (small_0 b0 900) (small_0 b1 900) (lawH_s0 d)) (between_0 s 1 4194304) (lawH_s7 a0 a1 b0 b1 d) 2 ==
                  rHalf_0 (small_0 a0 900) (small_0 a1 900) (small_0 b0 900) (small_0 b1 900) (lawH_s0 d) (between_0 s 1 4194304) &&
                wOver_0 (ohalf_s2 (small_0 a0 900) (small_0 a1 900) (small_0 b0 900) (small_0 b1 900) (lawH_s0 d)) (between_0 s 1 4194304) (lawH_s7 a0 a1 b0 b1 d) 2 ==
                  rHalf_1 (small_0 a0 900) (small_0 a1 900) (small_0 b0 900) (small_0 b1 900) (lawH_s0 d) (between_0 s 1 4194304)) ||
            !(wOver_0 (ohalf_s1 (small_0 a0 900) (small_0 a1 900) (small_0 a0 900) (small_0 a1 900) (lawH_s0 d)) (between_0 s 1 4194304) (lawH_s8 a0 a1 d) 2 ==
                  rHalf_0 (small_0 a0 900) (small_0 a1 900) (small_0 a0 900) (small_0 a1 900) (lawH_s0 d) (between_0 s 1 4194304) &&
                wOver_0 (ohalf_s2 (small_0 a0 900) (small_0 a1 900) (small_0 a0 900) (small_0 a1 900) (lawH_s0 d)) (between_0 s 1 4194304) (lawH_s8 a0 a1 d) 2 ==
                  rHalf_1 (small_0 a0 900) (small_0 a1 900) (small_0 a0 900) (small_0 a1 900) (lawH_s0 d) (between_0 s 1 4194304)) ||
          !(wOver_0 (ohalf_s1 (small_0 a0 900) (small_0 a1 900) (lawH_s9 a0) (lawH_s9 a1) (lawH_s0 d)) (between_0 s 1 4194304) (lawH_s11 a0 a1 d) 2 ==
                rHalf_0 (small_0 a0 900) (small_0 a1 900) (lawH_s9 a0) (lawH_s9 a1) (lawH_s0 d) (between_0 s 1 4194304) &&
              wOver_0 (ohalf_s2 (small_0 a0 900) (small_0 a1 900) (lawH_s9 a0) (lawH_s9 a1) (lawH_s0 d)) (between_0 s 1 4194304) (lawH_s11 a0 a1 d) 2 ==
                rHalf_1 (small_0 a0 900) (small_0 a1 900) (lawH_s9 a0) (lawH_s9 a1) (lawH_s0 d) (between_0 s 1 4194304)) then
      false
    else lawH_s6 a0 a1 b0 b1 d s
noncomputable def lawH_s13 (a0 : Int) (a1 : Int) (b0 : Int) (b1 : Int) (d : Int) : Int :=
  vinner_0 (ohalf_s1 (small_0 a0 4194304) (small_0 a1 4194304) (small_0 b0 4194304) (small_0 b1 4194304) (lawH_s0 d))
    (ohalf_s2 (small_0 a0 4194304) (small_0 a1 4194304) (small_0 b0 4194304) (small_0 b1 4194304) (lawH_s0 d))
    (ohalf_s1 (small_0 a0 4194304) (small_0 a1 4194304) (small_0 b0 4194304) (small_0 b1 4194304) (lawH_s0 d))
    (ohalf_s2 (small_0 a0 4194304) (small_0 a1 4194304) (small_0 b0 4194304) (small_0 b1 4194304) (lawH_s0 d))
noncomputable def lawH_s14 (a0 : Int) (a1 : Int) (d : Int) : Int :=
  vinner_0 (ohalf_s1 (small_0 a0 4194304) (small_0 a1 4194304) (small_0 a0 4194304) (small_0 a1 4194304) (lawH_s0 d))
    (ohalf_s2 (small_0 a0 4194304) (small_0 a1 4194304) (small_0 a0 4194304) (small_0 a1 4194304) (lawH_s0 d))
    (ohalf_s1 (small_0 a0 4194304) (small_0 a1 4194304) (small_0 a0 4194304) (small_0 a1 4194304) (lawH_s0 d))
    (ohalf_s2 (small_0 a0 4194304) (small_0 a1 4194304) (small_0 a0 4194304) (small_0 a1 4194304) (lawH_s0 d))
noncomputable def lawH_s15 (a0 : Int) : Int :=
  IntKind.i64.wrap (0 - small_0 a0 4194304)
noncomputable def lawH_s17 (a0 : Int) (a1 : Int) (d : Int) : Int :=
  vinner_0 (ohalf_s1 (small_0 a0 4194304) (small_0 a1 4194304) (lawH_s15 a0) (lawH_s15 a1) (lawH_s0 d)) (ohalf_s2 (small_0 a0 4194304) (small_0 a1 4194304) (lawH_s15 a0) (lawH_s15 a1) (lawH_s0 d))
    (ohalf_s1 (small_0 a0 4194304) (small_0 a1 4194304) (lawH_s15 a0) (lawH_s15 a1) (lawH_s0 d)) (ohalf_s2 (small_0 a0 4194304) (small_0 a1 4194304) (lawH_s15 a0) (lawH_s15 a1) (lawH_s0 d))
noncomputable def lawH_0 (a0 : Int) (a1 : Int) (b0 : Int) (b1 : Int) (d : Int) (s : Int) : Bool :=
  bif small_0 a0 4194304 == 0 && small_0 a1 4194304 == 0 || small_0 b0 4194304 == 0 && small_0 b1 4194304 == 0 then lawH_s12 a0 a1 b0 b1 d s
  else
    bif
        !(wOver_0 (ohalf_s1 (small_0 a0 4194304) (small_0 a1 4194304) (small_0 b0 4194304) (small_0 b1 4194304) (lawH_s0 d)) (between_0 s 1 4194304) (lawH_s13 a0 a1 b0 b1 d) 2 ==
                  rHalf_0 (small_0 a0 4194304) (small_0 a1 4194304) (small_0 b0 4194304) (small_0 b1 4194304) (lawH_s0 d) (between_0 s 1 4194304) &&
                wOver_0 (ohalf_s2 (small_0 a0 4194304) (small_0 a1 4194304) (small_0 b0 4194304) (small_0 b1 4194304) (lawH_s0 d)) (between_0 s 1 4194304) (lawH_s13 a0 a1 b0 b1 d) 2 ==
                  rHalf_1 (small_0 a0 4194304) (small_0 a1 4194304) (small_0 b0 4194304) (small_0 b1 4194304) (lawH_s0 d) (between_0 s 1 4194304)) ||
            !(wOver_0 (ohalf_s1 (small_0 a0 4194304) (small_0 a1 4194304) (small_0 a0 4194304) (small_0 a1 4194304) (lawH_s0 d)) (between_0 s 1 4194304) (lawH_s14 a0 a1 d) 2 ==
                  rHalf_0 (small_0 a0 4194304) (small_0 a1 4194304) (small_0 a0 4194304) (small_0 a1 4194304) (lawH_s0 d) (between_0 s 1 4194304) &&
                wOver_0 (ohalf_s2 (small_0 a0 4194304) (small_0 a1 4194304) (small_0 a0 4194304) (small_0 a1 4194304) (lawH_s0 d)) (between_0 s 1 4194304) (lawH_s14 a0 a1 d) 2 ==
                  rHalf_1 (small_0 a0 4194304) (small_0 a1 4194304) (small_0 a0 4194304) (small_0 a1 4194304) (lawH_s0 d) (between_0 s 1 4194304)) ||
          !(wOver_0 (ohalf_s1 (small_0 a0 4194304) (small_0 a1 4194304) (lawH_s15 a0) (lawH_s15 a1) (lawH_s0 d)) (between_0 s 1 4194304) (lawH_s17 a0 a1 d) 2 ==
                rHalf_0 (small_0 a0 4194304) (small_0 a1 4194304) (lawH_s15 a0) (lawH_s15 a1) (lawH_s0 d) (between_0 s 1 4194304) &&
              wOver_0 (ohalf_s2 (small_0 a0 4194304) (small_0 a1 4194304) (lawH_s15 a0) (lawH_s15 a1) (lawH_s0 d)) (between_0 s 1 4194304) (lawH_s17 a0 a1 d) 2 ==
                rHalf_1 (small_0 a0 4194304) (small_0 a1 4194304) (lawH_s15 a0) (lawH_s15 a1) (lawH_s0 d) (between_0 s 1 4194304)) then
      false
    else lawH_s12 a0 a1 b0 b1 d s
noncomputable def lawH_s18 (a0 : Int) (a1 : Int) (b0 : Int) (b1 : Int) : Prop :=
  (small_0 a0 4194304 == 0 && small_0 a1 4194304 == 0 || small_0 b0 4194304 == 0 && small_0 b1 4194304 == 0) = false
noncomputable def lawH_s19 (s : Int) : Prop :=
  -9223372036854775808 ≤ between_0 s 1 4194304 ∧ between_0 s 1 4194304 < 9223372036854775808
noncomputable def lawH_s20 (a0 : Int) (a1 : Int) (b0 : Int) (b1 : Int) (d : Int) (s : Int) : Bool :=
  !(wOver_0 (ohalf_s1 (small_0 a0 4194304) (small_0 a1 4194304) (small_0 b0 4194304) (small_0 b1 4194304) (lawH_s0 d)) (between_0 s 1 4194304) (lawH_s13 a0 a1 b0 b1 d) 2 ==
        rHalf_0 (small_0 a0 4194304) (small_0 a1 4194304) (small_0 b0 4194304) (small_0 b1 4194304) (lawH_s0 d) (between_0 s 1 4194304) &&
      wOver_0 (ohalf_s2 (small_0 a0 4194304) (small_0 a1 4194304) (small_0 b0 4194304) (small_0 b1 4194304) (lawH_s0 d)) (between_0 s 1 4194304) (lawH_s13 a0 a1 b0 b1 d) 2 ==
        rHalf_1 (small_0 a0 4194304) (small_0 a1 4194304) (small_0 b0 4194304) (small_0 b1 4194304) (lawH_s0 d) (between_0 s 1 4194304))
noncomputable def lawH_s21 (a0 : Int) (a1 : Int) (b0 : Int) (b1 : Int) (d : Int) (s : Int) : Bool :=
  lawH_s20 a0 a1 b0 b1 d s ||
    !(wOver_0 (ohalf_s1 (small_0 a0 4194304) (small_0 a1 4194304) (small_0 a0 4194304) (small_0 a1 4194304) (lawH_s0 d)) (between_0 s 1 4194304) (lawH_s14 a0 a1 d) 2 ==
          rHalf_0 (small_0 a0 4194304) (small_0 a1 4194304) (small_0 a0 4194304) (small_0 a1 4194304) (lawH_s0 d) (between_0 s 1 4194304) &&
        wOver_0 (ohalf_s2 (small_0 a0 4194304) (small_0 a1 4194304) (small_0 a0 4194304) (small_0 a1 4194304) (lawH_s0 d)) (between_0 s 1 4194304) (lawH_s14 a0 a1 d) 2 ==
          rHalf_1 (small_0 a0 4194304) (small_0 a1 4194304) (small_0 a0 4194304) (small_0 a1 4194304) (lawH_s0 d) (between_0 s 1 4194304))
noncomputable def lawH_s22 (a0 : Int) (a1 : Int) (b0 : Int) (b1 : Int) : Prop :=
  (small_0 a0 900 == 0 && small_0 a1 900 == 0 || small_0 b0 900 == 0 && small_0 b1 900 == 0) = false
noncomputable def lawH_s23 (a0 : Int) (a1 : Int) (b0 : Int) (b1 : Int) (d : Int) (s : Int) : Bool :=
  !(wOver_0 (ohalf_s1 (small_0 a0 900) (small_0 a1 900) (small_0 b0 900) (small_0 b1 900) (lawH_s0 d)) (between_0 s 1 4194304) (lawH_s7 a0 a1 b0 b1 d) 2 ==
        rHalf_0 (small_0 a0 900) (small_0 a1 900) (small_0 b0 900) (small_0 b1 900) (lawH_s0 d) (between_0 s 1 4194304) &&
      wOver_0 (ohalf_s2 (small_0 a0 900) (small_0 a1 900) (small_0 b0 900) (small_0 b1 900) (lawH_s0 d)) (between_0 s 1 4194304) (lawH_s7 a0 a1 b0 b1 d) 2 ==
        rHalf_1 (small_0 a0 900) (small_0 a1 900) (small_0 b0 900) (small_0 b1 900) (lawH_s0 d) (between_0 s 1 4194304))
noncomputable def lawH_s24 (a0 : Int) (a1 : Int) (b0 : Int) (b1 : Int) (d : Int) (s : Int) : Bool :=
  lawH_s23 a0 a1 b0 b1 d s ||
    !(wOver_0 (ohalf_s1 (small_0 a0 900) (small_0 a1 900) (small_0 a0 900) (small_0 a1 900) (lawH_s0 d)) (between_0 s 1 4194304) (lawH_s8 a0 a1 d) 2 ==
          rHalf_0 (small_0 a0 900) (small_0 a1 900) (small_0 a0 900) (small_0 a1 900) (lawH_s0 d) (between_0 s 1 4194304) &&
        wOver_0 (ohalf_s2 (small_0 a0 900) (small_0 a1 900) (small_0 a0 900) (small_0 a1 900) (lawH_s0 d)) (between_0 s 1 4194304) (lawH_s8 a0 a1 d) 2 ==
          rHalf_1 (small_0 a0 900) (small_0 a1 900) (small_0 a0 900) (small_0 a1 900) (lawH_s0 d) (between_0 s 1 4194304))
noncomputable def lawH_s25 (a0 : Int) (a1 : Int) (b0 : Int) (b1 : Int) (d : Int) (s : Int) : Bool :=
  !(wOver_0 (ohalf_s1 (small_0 a0 2) (small_0 a1 2) (small_0 b0 2) (small_0 b1 2) (lawH_s0 d)) (between_0 s 1 4194304) (lawH_s1 a0 a1 b0 b1 d) 2 ==
        rHalf_0 (small_0 a0 2) (small_0 a1 2) (small_0 b0 2) (small_0 b1 2) (lawH_s0 d) (between_0 s 1 4194304) &&
      wOver_0 (ohalf_s2 (small_0 a0 2) (small_0 a1 2) (small_0 b0 2) (small_0 b1 2) (lawH_s0 d)) (between_0 s 1 4194304) (lawH_s1 a0 a1 b0 b1 d) 2 ==
        rHalf_1 (small_0 a0 2) (small_0 a1 2) (small_0 b0 2) (small_0 b1 2) (lawH_s0 d) (between_0 s 1 4194304))
noncomputable def lawH_s26 (a0 : Int) (a1 : Int) (b0 : Int) (b1 : Int) (d : Int) (s : Int) : Prop :=
  (lawH_s25 a0 a1 b0 b1 d s ||
        !(wOver_0 (ohalf_s1 (small_0 a0 2) (small_0 a1 2) (small_0 a0 2) (small_0 a1 2) (lawH_s0 d)) (between_0 s 1 4194304) (lawH_s2 a0 a1 d) 2 ==
              rHalf_0 (small_0 a0 2) (small_0 a1 2) (small_0 a0 2) (small_0 a1 2) (lawH_s0 d) (between_0 s 1 4194304) &&
            wOver_0 (ohalf_s2 (small_0 a0 2) (small_0 a1 2) (small_0 a0 2) (small_0 a1 2) (lawH_s0 d)) (between_0 s 1 4194304) (lawH_s2 a0 a1 d) 2 ==
              rHalf_1 (small_0 a0 2) (small_0 a1 2) (small_0 a0 2) (small_0 a1 2) (lawH_s0 d) (between_0 s 1 4194304))) =
      false →
    lawH_s19 s
noncomputable def lawH_s27 (a0 : Int) (a1 : Int) (b0 : Int) (b1 : Int) (d : Int) (s : Int) : Prop :=
  Int.ofNat 5 ≠ 0 ∧
    Int.ofNat 5 ≠ 0 ∧
      Int.ofNat 5 ≠ 0 ∧
        Int.ofNat 5 ≠ 0 ∧
          ((small_0 a0 2 == 0 && small_0 a1 2 == 0 || small_0 b0 2 == 0 && small_0 b1 2 == 0) = false →
            lawH_s19 s ∧ lawH_s19 s ∧ (lawH_s25 a0 a1 b0 b1 d s = false → lawH_s19 s) ∧ (lawH_s25 a0 a1 b0 b1 d s = false → lawH_s19 s) ∧ lawH_s26 a0 a1 b0 b1 d s ∧ lawH_s26 a0 a1 b0 b1 d s)
noncomputable def lawH_s28 (a0 : Int) (a1 : Int) (b0 : Int) (b1 : Int) (d : Int) (s : Int) : Prop :=
  Int.ofNat 1801 ≠ 0 ∧
    Int.ofNat 1801 ≠ 0 ∧
      Int.ofNat 1801 ≠ 0 ∧
        Int.ofNat 1801 ≠ 0 ∧
          (lawH_s22 a0 a1 b0 b1 →
              lawH_s19 s ∧
                lawH_s19 s ∧
                  (lawH_s23 a0 a1 b0 b1 d s = false → lawH_s19 s) ∧
                    (lawH_s23 a0 a1 b0 b1 d s = false → lawH_s19 s) ∧ (lawH_s24 a0 a1 b0 b1 d s = false → lawH_s19 s) ∧ (lawH_s24 a0 a1 b0 b1 d s = false → lawH_s19 s)) ∧
            ((small_0 a0 900 == 0 && small_0 a1 900 == 0 || small_0 b0 900 == 0 && small_0 b1 900 == 0) = true → lawH_s27 a0 a1 b0 b1 d s) ∧
              (lawH_s22 a0 a1 b0 b1 →
                (lawH_s24 a0 a1 b0 b1 d s ||
                      !(wOver_0 (ohalf_s1 (small_0 a0 900) (small_0 a1 900) (lawH_s9 a0) (lawH_s9 a1) (lawH_s0 d)) (between_0 s 1 4194304) (lawH_s11 a0 a1 d) 2 ==
                            rHalf_0 (small_0 a0 900) (small_0 a1 900) (lawH_s9 a0) (lawH_s9 a1) (lawH_s0 d) (between_0 s 1 4194304) &&
                          wOver_0 (ohalf_s2 (small_0 a0 900) (small_0 a1 900) (lawH_s9 a0) (lawH_s9 a1) (lawH_s0 d)) (between_0 s 1 4194304) (lawH_s11 a0 a1 d) 2 ==
                            rHalf_1 (small_0 a0 900) (small_0 a1 900) (lawH_s9 a0) (lawH_s9 a1) (lawH_s0 d) (between_0 s 1 4194304))) =
                    false →
                  lawH_s27 a0 a1 b0 b1 d s)
noncomputable def lawH_needs (a0 : Int) (a1 : Int) (b0 : Int) (b1 : Int) (d : Int) (s : Int) : List Prop :=
  [Int.ofNat 2 ≠ 0, Int.ofNat 4194304 ≠ 0, Int.ofNat 8388609 ≠ 0, Int.ofNat 8388609 ≠ 0, Int.ofNat 8388609 ≠ 0, Int.ofNat 8388609 ≠ 0,
    lawH_s18 a0 a1 b0 b1 →
      lawH_s19 s ∧
        lawH_s19 s ∧
          (lawH_s20 a0 a1 b0 b1 d s = false → lawH_s19 s) ∧
            (lawH_s20 a0 a1 b0 b1 d s = false → lawH_s19 s) ∧ (lawH_s21 a0 a1 b0 b1 d s = false → lawH_s19 s) ∧ (lawH_s21 a0 a1 b0 b1 d s = false → lawH_s19 s),
    (small_0 a0 4194304 == 0 && small_0 a1 4194304 == 0 || small_0 b0 4194304 == 0 && small_0 b1 4194304 == 0) = true → lawH_s28 a0 a1 b0 b1 d s,
    lawH_s18 a0 a1 b0 b1 →
      (lawH_s21 a0 a1 b0 b1 d s ||
            !(wOver_0 (ohalf_s1 (small_0 a0 4194304) (small_0 a1 4194304) (lawH_s15 a0) (lawH_s15 a1) (lawH_s0 d)) (between_0 s 1 4194304) (lawH_s17 a0 a1 d) 2 ==
                  rHalf_0 (small_0 a0 4194304) (small_0 a1 4194304) (lawH_s15 a0) (lawH_s15 a1) (lawH_s0 d) (between_0 s 1 4194304) &&
                wOver_0 (ohalf_s2 (small_0 a0 4194304) (small_0 a1 4194304) (lawH_s15 a0) (lawH_s15 a1) (lawH_s0 d)) (between_0 s 1 4194304) (lawH_s17 a0 a1 d) 2 ==
                  rHalf_1 (small_0 a0 4194304) (small_0 a1 4194304) (lawH_s15 a0) (lawH_s15 a1) (lawH_s0 d) (between_0 s 1 4194304))) =
          false →
        lawH_s28 a0 a1 b0 b1 d s]
theorem lawH_0_eq (a0 a1 b0 b1 d s : Int) : (lawH_0 a0 a1 b0 b1 d s) = true := by
  unfold lawH_0 lawH_s12 lawH_s13 lawH_s14 lawH_s17 lawH_s6 lawH_s7 lawH_s8 lawH_s11 lawH_s15 lawH_s1 lawH_s2 lawH_s5 lawH_s9 lawH_s0 lawH_s3
  have hb : isI (between_0 s 1 4194304) := by
    have := between_rng s 1 4194304 (by omega) (by omega) (by omega)
    exact ⟨by omega, by omega⟩
  generalize between_0 s 1 4194304 = z at *
  have E1 : ∀ a b c d i, wOver_0 (ohalf_s1 a b c d i) z (vinner_0 (ohalf_s1 a b c d i) (ohalf_s2 a b c d i) (ohalf_s1 a b c d i) (ohalf_s2 a b c d i)) 2 = rHalf_0 a b c d i z := fun a b c d i => (half_same a b c d i hb).1
  have E2 : ∀ a b c d i, wOver_0 (ohalf_s2 a b c d i) z (vinner_0 (ohalf_s1 a b c d i) (ohalf_s2 a b c d i) (ohalf_s1 a b c d i) (ohalf_s2 a b c d i)) 2 = rHalf_1 a b c d i z := fun a b c d i => (half_same a b c d i hb).2
  simp only [E1, E2, beq_self_eq_true, Bool.and_self, Bool.not_true, Bool.or_self, cond_false, Bool.cond_self]
theorem lawH_need {a0 : Int} {a1 : Int} {b0 : Int} {b1 : Int} {d : Int} {s : Int} : ∀ q ∈ (lawH_needs a0 a1 b0 b1 d s), q := by
  unfold lawH_needs
  simp only [List.forall_mem_cons, List.not_mem_nil, false_implies, implies_true, and_true]
  have hb : isI (between_0 s 1 4194304) := by
    have := between_rng s 1 4194304 (by omega) (by omega) (by omega)
    exact ⟨by omega, by omega⟩
  repeat' (first | exact hb | decide | refine And.intro ?_ ?_ | intro _)
set_option maxRecDepth 1000000 in
theorem lawH_runs (a0 a1 b0 b1 d s : Int) (hNeeds : ∀ pN ∈ (lawH_needs a0 a1 b0 b1 d s), pN) : Runs (runF (sums K_awake) L_cr 7) (lawH_tpl.args [.i a0, .i a1, .i b0, .i b1, .i d, .i s]) (lawH_tpl.memo [.i a0, .i a1, .i b0, .i b1, .i d, .i s] []) lawH_tpl.n (SV.one (SC.bool (SB.v (lawH_0 a0 a1 b0 b1 d s))))
    ([]) :=
  Runs.of (ps := (lawH_needs a0 a1 b0 b1 d s)) (by kernel_rfl) (by kernel_rfl) hNeeds
noncomputable def lawH_out : List Pm → Lss → Option CRes
  | [.i a0, .i a1, .i b0, .i b1, .i d, .i s], [] => some ⟨SV.one (SC.bool (SB.v (lawH_0 a0 a1 b0 b1 d s))),
    [],
    [], [], 303750⟩
  | _, _ => none
theorem lawH_ok : FOk Try.prog 7 (tplS lawH_tpl lawH_out) := by
  refine tplS_ok (runF_ok known_awake 7) fun ps ls r hr hn _ => ?_
  unfold lawH_out at hr
  split at hr
  · cases hr; exact ⟨_, lawH_runs _ _ _ _ _ _ (fun p hp => lawH_need p hp), fun _ => by simp only [SV.den, SC.den, SB.val, lawH_0_eq]⟩
  · cases hr
noncomputable def K_lawH : List (Nat × Summ) := (7, tplS lawH_tpl lawH_out) :: K_awake
theorem known_lawH : Known Try.prog (sums K_lawH) L_cr := known_cons known_awake lawH_ok
end Go.Proofs.Ytjlkecfkjcanaaa
