/-
  EXPAND, in the program: what it returns. Conditions: none.
-/
import Derived.Test.YtgimheibnpgphaaDrillP
set_option linter.all false
namespace Go.Proofs.Ytgimheibnpgphaa
open Go.SX Go.RowKit
theorem hts1_le (c0 c1 c2 c3 c4 c5 c6 c7 c8 c9 c10 c11 c12 c13 c14 c15 : Int) : hts1 c0 c1 c2 c3 c4 c5 c6 c7 c8 c9 c10 c11 c12 c13 c14 c15 ≤ 1000 := by
  unfold hts1
  cases h : (chk c0 c1 c2 c3 c4 c5 c6 c7 c8 c9 c10 c11 c12 c13 c14 c15 != 0)
  · simp only [cond_false]
    unfold hn
    cases hp : (c0 == 73 || c0 == 83)
    · simp
    · simp only [cond_true]
      unfold chk at h
      rw [hp] at h
      cases h1 : codeOk c0 <;> rw [h1] at h
      · simp at h
      cases h2 : argBad c1 c2 c3 c4 c5 c6 c7 c8 c9 c10 c12 c13 c14 c15 <;> rw [h2] at h
      · by_cases h3 : c11 < 1
        · simp [h3] at h
        · cases h4 : stateBad c0 c14 <;> rw [h4] at h
          · by_cases h5 : pk c8 c9 c11 > 1000
            · simp [h3, h5] at h
            · omega
          · simp [h3] at h
      · simp at h
  · simp
noncomputable def dwl (n : Int) : List Int := [7, 0, 0, 0, 0, 0, 0, 0, 0, 0, 0, 0, 0, 0, 0, 0, 0, 0, 0, n, 0, 0]
noncomputable def spn (n sp : Int) : List Int := [8, 0, 0, 0, 0, 0, 0, 0, 0, 0, 0, 0, 0, 0, 0, 0, 0, 0, 0, n, sp, 0]
/-- What is drilled. -/
noncomputable def bodyL (p u w c0 c8 c9 c11 c12 c14 : Int) (n : Nat) : List (List Int) :=
  bif c0 == 73 || c0 == 83 then pecksL p u w c0 c8 c11 n ++ [itm p u w 2 c9 0]
  else bif c0 == 74 || c0 == 84 then [itm p u w 6 c9 c14, itm p u w 6 c8 (IntKind.i64.wrap (7 - c14))]
  else bif c0 == 81 then [itm p u w 2 c9 0]
  else bif c0 == 82 then [itm p u w 2 c9 0, dwl c12]
  else bif c0 == 85 then [itm p u w 2 c9 0, itm p u w 2 c8 0]
  else bif c0 == 89 then [itm p u w 2 c9 0, dwl c12, itm p u w 2 c8 0]
  else bif c0 == 86 then [itm p u w 2 c9 0, dwl c12, spn 5 0] else []
/-- The steps to the place. -/
noncomputable def preL (c1 c2 c3 c4 u w c8 : Int) : List (List Int) :=
  (bif decide (flat_2 c1 c2 c3 c4 < c8) then [itm c1 (flat_0 c1 c2 c3 c4) (flat_1 c1 c2 c3 c4) 1 c8 0] else []) ++ [itm c1 u w 1 (if c8 > flat_2 c1 c2 c3 c4 then c8 else flat_2 c1 c2 c3 c4) 0, itm c1 u w 1 c8 0]
noncomputable def postL (p u w c0 h c14 c15 : Int) : List (List Int) := itm p u w 1 h 0 :: (bif c0 == 86 then [spn c14 c15] else [])
/-- The steps of a cycle that is right. -/
noncomputable def expL (c0 c1 c2 c3 c4 c5 c6 c7 c8 c9 c10 c11 c12 c13 c14 c15 : Int) : List (List Int) :=
  preL c1 c2 c3 c4 (flat_0 c1 c5 c6 c7) (flat_1 c1 c5 c6 c7) c8 ++ (bodyL c1 (flat_0 c1 c5 c6 c7) (flat_1 c1 c5 c6 c7) c0 c8 c9 c11 c12 c14 (hn c0 c8 c9 c11 - 1).toNat ++ postL c1 (flat_0 c1 c5 c6 c7) (flat_1 c1 c5 c6 c7) c0 (hr c8 c10 c13) c14 c15)
/-- What Expand returns. -/
noncomputable def expR (c0 c1 c2 c3 c4 c5 c6 c7 c8 c9 c10 c11 c12 c13 c14 c15 : Int) : List (List Int) :=
  bif chk c0 c1 c2 c3 c4 c5 c6 c7 c8 c9 c10 c11 c12 c13 c14 c15 != 0 then [] else expL c0 c1 c2 c3 c4 c5 c6 c7 c8 c9 c10 c11 c12 c13 c14 c15
theorem or_chain (a b : Bool) : (bif a then a else b) = (a || b) := by cases a <;> rfl
theorem tail_eq (z : Bool) (p u w h c14 c15 : Int) (Y : List (List Int)) : (bif z then spin_0 c14 c15 (turn_0 1 h 0 p u w Y) else turn_0 1 h 0 p u w Y) = Y ++ (itm p u w 1 h 0 :: (bif z then [spn c14 c15] else [])) := by
  cases z <;> simp [spin_0, turn_0, itm, spn]
noncomputable def expand_tpl : Tpl := ⟨[.agg [.int .i64, .int .i64, .int .i64, .int .i64, .int .i64, .int .i64, .int .i64, .int .i64, .int .i64, .int .i64, .int .i64, .int .i64, .int .i64, .int .i64, .int .i64, .int .i64]], [], 0⟩
noncomputable def expand_0 (c0 : Int) (c1 : Int) (c2 : Int) (c3 : Int) (c4 : Int) (c5 : Int) (c6 : Int) (c7 : Int) (c8 : Int) (c9 : Int) (c10 : Int) (c11 : Int) (c12 : Int) (c13 : Int) (c14 : Int) (c15 : Int) : Int :=
  bif chk c0 c1 c2 c3 c4 c5 c6 c7 c8 c9 c10 c11 c12 c13 c14 c15 != 0 then chk c0 c1 c2 c3 c4 c5 c6 c7 c8 c9 c10 c11 c12 c13 c14 c15 else 0
noncomputable def expand_s0 (c1 : Int) (c2 : Int) (c3 : Int) (c4 : Int) (c8 : Int) : Int :=
  if c8 > flat_2 c1 c2 c3 c4 then c8 else flat_2 c1 c2 c3 c4
noncomputable def expand_s1 (c1 : Int) (c2 : Int) (c3 : Int) (c4 : Int) (c5 : Int) (c6 : Int) (c7 : Int) (c8 : Int) : List (List Int) :=
  turn_0 1 c8 0 c1 (flat_0 c1 c5 c6 c7) (flat_1 c1 c5 c6 c7)
    (turn_0 1 (expand_s0 c1 c2 c3 c4 c8) 0 c1 (flat_0 c1 c5 c6 c7) (flat_1 c1 c5 c6 c7)
      [[1, 0, 0, 0, 0, solid_0 c1 (flat_0 c1 c2 c3 c4) (flat_1 c1 c2 c3 c4) c8, solid_1 c1 (flat_0 c1 c2 c3 c4) (flat_1 c1 c2 c3 c4) c8, solid_2 c1 (flat_0 c1 c2 c3 c4) (flat_1 c1 c2 c3 c4) c8, 0, 0, 0,
          0, 0, 0, 0, 0, 0, 0, 0, 0, 0, 0]])
noncomputable def expand_s2 (c0 : Int) (c1 : Int) (c2 : Int) (c3 : Int) (c4 : Int) (c5 : Int) (c6 : Int) (c7 : Int) (c8 : Int) (c9 : Int) (c10 : Int) (c11 : Int) (c12 : Int) (c13 : Int) (c14 : Int) (c15 : Int) : List (List Int) :=
  turn_0 1 (hts0 c0 c1 c2 c3 c4 c5 c6 c7 c8 c9 c10 c11 c12 c13 c14 c15) 0 c1 (flat_0 c1 c5 c6 c7) (flat_1 c1 c5 c6 c7)
    (peckm_0 c0 c8 c9 c11 (hts1 c0 c1 c2 c3 c4 c5 c6 c7 c8 c9 c10 c11 c12 c13 c14 c15) c1 (flat_0 c1 c5 c6 c7) (flat_1 c1 c5 c6 c7) (expand_s1 c1 c2 c3 c4 c5 c6 c7 c8))
noncomputable def expand_s3 (c0 : Int) (c1 : Int) (c2 : Int) (c3 : Int) (c4 : Int) (c5 : Int) (c6 : Int) (c7 : Int) (c8 : Int) (c9 : Int) (c10 : Int) (c11 : Int) (c12 : Int) (c13 : Int) (c14 : Int) (c15 : Int) : List (List Int) :=
  turn_0 1 (hts0 c0 c1 c2 c3 c4 c5 c6 c7 c8 c9 c10 c11 c12 c13 c14 c15) 0 c1 (flat_0 c1 c5 c6 c7) (flat_1 c1 c5 c6 c7)
    (turn_0 6 c8 (IntKind.i64.wrap (7 - c14)) c1 (flat_0 c1 c5 c6 c7) (flat_1 c1 c5 c6 c7) (turn_0 6 c9 c14 c1 (flat_0 c1 c5 c6 c7) (flat_1 c1 c5 c6 c7) (expand_s1 c1 c2 c3 c4 c5 c6 c7 c8)))
noncomputable def expand_s4 (c0 : Int) (c1 : Int) (c2 : Int) (c3 : Int) (c4 : Int) (c5 : Int) (c6 : Int) (c7 : Int) (c8 : Int) (c9 : Int) (c10 : Int) (c11 : Int) (c12 : Int) (c13 : Int) (c14 : Int) (c15 : Int) : List (List Int) :=
  turn_0 1 (hts0 c0 c1 c2 c3 c4 c5 c6 c7 c8 c9 c10 c11 c12 c13 c14 c15) 0 c1 (flat_0 c1 c5 c6 c7) (flat_1 c1 c5 c6 c7)
    (turn_0 2 c9 0 c1 (flat_0 c1 c5 c6 c7) (flat_1 c1 c5 c6 c7) (expand_s1 c1 c2 c3 c4 c5 c6 c7 c8))
noncomputable def expand_s5 (c0 : Int) (c1 : Int) (c2 : Int) (c3 : Int) (c4 : Int) (c5 : Int) (c6 : Int) (c7 : Int) (c8 : Int) (c9 : Int) (c10 : Int) (c11 : Int) (c12 : Int) (c13 : Int) (c14 : Int) (c15 : Int) : List (List Int) :=
  turn_0 1 (hts0 c0 c1 c2 c3 c4 c5 c6 c7 c8 c9 c10 c11 c12 c13 c14 c15) 0 c1 (flat_0 c1 c5 c6 c7) (flat_1 c1 c5 c6 c7)
    (dwell_0 c12 (turn_0 2 c9 0 c1 (flat_0 c1 c5 c6 c7) (flat_1 c1 c5 c6 c7) (expand_s1 c1 c2 c3 c4 c5 c6 c7 c8)))
noncomputable def expand_s6 (c0 : Int) (c1 : Int) (c2 : Int) (c3 : Int) (c4 : Int) (c5 : Int) (c6 : Int) (c7 : Int) (c8 : Int) (c9 : Int) (c10 : Int) (c11 : Int) (c12 : Int) (c13 : Int) (c14 : Int) (c15 : Int) : List (List Int) :=
  turn_0 1 (hts0 c0 c1 c2 c3 c4 c5 c6 c7 c8 c9 c10 c11 c12 c13 c14 c15) 0 c1 (flat_0 c1 c5 c6 c7) (flat_1 c1 c5 c6 c7)
    (turn_0 2 c8 0 c1 (flat_0 c1 c5 c6 c7) (flat_1 c1 c5 c6 c7) (turn_0 2 c9 0 c1 (flat_0 c1 c5 c6 c7) (flat_1 c1 c5 c6 c7) (expand_s1 c1 c2 c3 c4 c5 c6 c7 c8)))
noncomputable def expand_s7 (c0 : Int) (c1 : Int) (c2 : Int) (c3 : Int) (c4 : Int) (c5 : Int) (c6 : Int) (c7 : Int) (c8 : Int) (c9 : Int) (c10 : Int) (c11 : Int) (c12 : Int) (c13 : Int) (c14 : Int) (c15 : Int) : List (List Int) :=
  turn_0 1 (hts0 c0 c1 c2 c3 c4 c5 c6 c7 c8 c9 c10 c11 c12 c13 c14 c15) 0 c1 (flat_0 c1 c5 c6 c7) (flat_1 c1 c5 c6 c7)
    (turn_0 2 c8 0 c1 (flat_0 c1 c5 c6 c7) (flat_1 c1 c5 c6 c7) (dwell_0 c12 (turn_0 2 c9 0 c1 (flat_0 c1 c5 c6 c7) (flat_1 c1 c5 c6 c7) (expand_s1 c1 c2 c3 c4 c5 c6 c7 c8))))
noncomputable def expand_s8 (c0 : Int) (c1 : Int) (c2 : Int) (c3 : Int) (c4 : Int) (c5 : Int) (c6 : Int) (c7 : Int) (c8 : Int) (c9 : Int) (c10 : Int) (c11 : Int) (c12 : Int) (c13 : Int) (c14 : Int) (c15 : Int) : List (List Int) :=
  turn_0 1 (hts0 c0 c1 c2 c3 c4 c5 c6 c7 c8 c9 c10 c11 c12 c13 c14 c15) 0 c1 (flat_0 c1 c5 c6 c7) (flat_1 c1 c5 c6 c7)
    (spin_0 5 0 (dwell_0 c12 (turn_0 2 c9 0 c1 (flat_0 c1 c5 c6 c7) (flat_1 c1 c5 c6 c7) (expand_s1 c1 c2 c3 c4 c5 c6 c7 c8))))
noncomputable def expand_s9 (c0 : Int) (c1 : Int) (c2 : Int) (c3 : Int) (c4 : Int) (c5 : Int) (c6 : Int) (c7 : Int) (c8 : Int) (c9 : Int) (c10 : Int) (c11 : Int) (c12 : Int) (c13 : Int) (c14 : Int) (c15 : Int) : List (List Int) :=
  turn_0 1 (hts0 c0 c1 c2 c3 c4 c5 c6 c7 c8 c9 c10 c11 c12 c13 c14 c15) 0 c1 (flat_0 c1 c5 c6 c7) (flat_1 c1 c5 c6 c7) (expand_s1 c1 c2 c3 c4 c5 c6 c7 c8)
noncomputable def expand_s10 (c1 : Int) (c2 : Int) (c3 : Int) (c4 : Int) (c5 : Int) (c6 : Int) (c7 : Int) (c8 : Int) : List (List Int) :=
  turn_0 1 c8 0 c1 (flat_0 c1 c5 c6 c7) (flat_1 c1 c5 c6 c7)
    [[1, 0, 0, 0, 0, solid_0 c1 (flat_0 c1 c5 c6 c7) (flat_1 c1 c5 c6 c7) (expand_s0 c1 c2 c3 c4 c8), solid_1 c1 (flat_0 c1 c5 c6 c7) (flat_1 c1 c5 c6 c7) (expand_s0 c1 c2 c3 c4 c8),
        solid_2 c1 (flat_0 c1 c5 c6 c7) (flat_1 c1 c5 c6 c7) (expand_s0 c1 c2 c3 c4 c8), 0, 0, 0, 0, 0, 0, 0, 0, 0, 0, 0, 0, 0, 0]]
noncomputable def expand_s11 (c0 : Int) (c1 : Int) (c2 : Int) (c3 : Int) (c4 : Int) (c5 : Int) (c6 : Int) (c7 : Int) (c8 : Int) (c9 : Int) (c10 : Int) (c11 : Int) (c12 : Int) (c13 : Int) (c14 : Int) (c15 : Int) : List (List Int) :=
  turn_0 1 (hts0 c0 c1 c2 c3 c4 c5 c6 c7 c8 c9 c10 c11 c12 c13 c14 c15) 0 c1 (flat_0 c1 c5 c6 c7) (flat_1 c1 c5 c6 c7)
    (peckm_0 c0 c8 c9 c11 (hts1 c0 c1 c2 c3 c4 c5 c6 c7 c8 c9 c10 c11 c12 c13 c14 c15) c1 (flat_0 c1 c5 c6 c7) (flat_1 c1 c5 c6 c7) (expand_s10 c1 c2 c3 c4 c5 c6 c7 c8))
noncomputable def expand_s12 (c0 : Int) (c1 : Int) (c2 : Int) (c3 : Int) (c4 : Int) (c5 : Int) (c6 : Int) (c7 : Int) (c8 : Int) (c9 : Int) (c10 : Int) (c11 : Int) (c12 : Int) (c13 : Int) (c14 : Int) (c15 : Int) : List (List Int) :=
  turn_0 1 (hts0 c0 c1 c2 c3 c4 c5 c6 c7 c8 c9 c10 c11 c12 c13 c14 c15) 0 c1 (flat_0 c1 c5 c6 c7) (flat_1 c1 c5 c6 c7)
    (turn_0 6 c8 (IntKind.i64.wrap (7 - c14)) c1 (flat_0 c1 c5 c6 c7) (flat_1 c1 c5 c6 c7) (turn_0 6 c9 c14 c1 (flat_0 c1 c5 c6 c7) (flat_1 c1 c5 c6 c7) (expand_s10 c1 c2 c3 c4 c5 c6 c7 c8)))
noncomputable def expand_s13 (c0 : Int) (c1 : Int) (c2 : Int) (c3 : Int) (c4 : Int) (c5 : Int) (c6 : Int) (c7 : Int) (c8 : Int) (c9 : Int) (c10 : Int) (c11 : Int) (c12 : Int) (c13 : Int) (c14 : Int) (c15 : Int) : List (List Int) :=
  turn_0 1 (hts0 c0 c1 c2 c3 c4 c5 c6 c7 c8 c9 c10 c11 c12 c13 c14 c15) 0 c1 (flat_0 c1 c5 c6 c7) (flat_1 c1 c5 c6 c7)
    (turn_0 2 c9 0 c1 (flat_0 c1 c5 c6 c7) (flat_1 c1 c5 c6 c7) (expand_s10 c1 c2 c3 c4 c5 c6 c7 c8))
noncomputable def expand_s14 (c0 : Int) (c1 : Int) (c2 : Int) (c3 : Int) (c4 : Int) (c5 : Int) (c6 : Int) (c7 : Int) (c8 : Int) (c9 : Int) (c10 : Int) (c11 : Int) (c12 : Int) (c13 : Int) (c14 : Int) (c15 : Int) : List (List Int) :=
  turn_0 1 (hts0 c0 c1 c2 c3 c4 c5 c6 c7 c8 c9 c10 c11 c12 c13 c14 c15) 0 c1 (flat_0 c1 c5 c6 c7) (flat_1 c1 c5 c6 c7)
    (dwell_0 c12 (turn_0 2 c9 0 c1 (flat_0 c1 c5 c6 c7) (flat_1 c1 c5 c6 c7) (expand_s10 c1 c2 c3 c4 c5 c6 c7 c8)))
noncomputable def expand_s15 (c0 : Int) (c1 : Int) (c2 : Int) (c3 : Int) (c4 : Int) (c5 : Int) (c6 : Int) (c7 : Int) (c8 : Int) (c9 : Int) (c10 : Int) (c11 : Int) (c12 : Int) (c13 : Int) (c14 : Int) (c15 : Int) : List (List Int) :=
  turn_0 1 (hts0 c0 c1 c2 c3 c4 c5 c6 c7 c8 c9 c10 c11 c12 c13 c14 c15) 0 c1 (flat_0 c1 c5 c6 c7) (flat_1 c1 c5 c6 c7)
    (turn_0 2 c8 0 c1 (flat_0 c1 c5 c6 c7) (flat_1 c1 c5 c6 c7) (turn_0 2 c9 0 c1 (flat_0 c1 c5 c6 c7) (flat_1 c1 c5 c6 c7) (expand_s10 c1 c2 c3 c4 c5 c6 c7 c8)))
noncomputable def expand_s16 (c0 : Int) (c1 : Int) (c2 : Int) (c3 : Int) (c4 : Int) (c5 : Int) (c6 : Int) (c7 : Int) (c8 : Int) (c9 : Int) (c10 : Int) (c11 : Int) (c12 : Int) (c13 : Int) (c14 : Int) (c15 : Int) : List (List Int) :=
  turn_0 1 (hts0 c0 c1 c2 c3 c4 c5 c6 c7 c8 c9 c10 c11 c12 c13 c14 c15) 0 c1 (flat_0 c1 c5 c6 c7) (flat_1 c1 c5 c6 c7)
    (turn_0 2 c8 0 c1 (flat_0 c1 c5 c6 c7) (flat_1 c1 c5 c6 c7) (dwell_0 c12 (turn_0 2 c9 0 c1 (flat_0 c1 c5 c6 c7) (flat_1 c1 c5 c6 c7) (expand_s10 c1 c2 c3 c4 c5 c6 c7 c8))))
noncomputable def expand_s17 (c0 : Int) (c1 : Int) (c2 : Int) (c3 : Int) (c4 : Int) (c5 : Int) (c6 : Int) (c7 : Int) (c8 : Int) (c9 : Int) (c10 : Int) (c11 : Int) (c12 : Int) (c13 : Int) (c14 : Int) (c15 : Int) : List (List Int) :=
  turn_0 1 (hts0 c0 c1 c2 c3 c4 c5 c6 c7 c8 c9 c10 c11 c12 c13 c14 c15) 0 c1 (flat_0 c1 c5 c6 c7) (flat_1 c1 c5 c6 c7)
    (spin_0 5 0 (dwell_0 c12 (turn_0 2 c9 0 c1 (flat_0 c1 c5 c6 c7) (flat_1 c1 c5 c6 c7) (expand_s10 c1 c2 c3 c4 c5 c6 c7 c8))))
noncomputable def expand_s18 (c0 : Int) (c1 : Int) (c2 : Int) (c3 : Int) (c4 : Int) (c5 : Int) (c6 : Int) (c7 : Int) (c8 : Int) (c9 : Int) (c10 : Int) (c11 : Int) (c12 : Int) (c13 : Int) (c14 : Int) (c15 : Int) : List (List Int) :=
  turn_0 1 (hts0 c0 c1 c2 c3 c4 c5 c6 c7 c8 c9 c10 c11 c12 c13 c14 c15) 0 c1 (flat_0 c1 c5 c6 c7) (flat_1 c1 c5 c6 c7) (expand_s10 c1 c2 c3 c4 c5 c6 c7 c8)
noncomputable def expand_1 (c0 : Int) (c1 : Int) (c2 : Int) (c3 : Int) (c4 : Int) (c5 : Int) (c6 : Int) (c7 : Int) (c8 : Int) (c9 : Int) (c10 : Int) (c11 : Int) (c12 : Int) (c13 : Int) (c14 : Int) (c15 : Int) : List (List Int) :=
  bif chk c0 c1 c2 c3 c4 c5 c6 c7 c8 c9 c10 c11 c12 c13 c14 c15 != 0 then []
  else
    bif decide (flat_2 c1 c2 c3 c4 < c8) then
      bif bif c0 == 73 then c0 == 73 else c0 == 83 then
        bif c0 == 86 then spin_0 c14 c15 (expand_s2 c0 c1 c2 c3 c4 c5 c6 c7 c8 c9 c10 c11 c12 c13 c14 c15) else expand_s2 c0 c1 c2 c3 c4 c5 c6 c7 c8 c9 c10 c11 c12 c13 c14 c15
      else
        bif bif c0 == 74 then c0 == 74 else c0 == 84 then
          bif c0 == 86 then spin_0 c14 c15 (expand_s3 c0 c1 c2 c3 c4 c5 c6 c7 c8 c9 c10 c11 c12 c13 c14 c15) else expand_s3 c0 c1 c2 c3 c4 c5 c6 c7 c8 c9 c10 c11 c12 c13 c14 c15
        else
          bif c0 == 81 then bif c0 == 86 then spin_0 c14 c15 (expand_s4 c0 c1 c2 c3 c4 c5 c6 c7 c8 c9 c10 c11 c12 c13 c14 c15) else expand_s4 c0 c1 c2 c3 c4 c5 c6 c7 c8 c9 c10 c11 c12 c13 c14 c15
          else
            bif c0 == 82 then bif c0 == 86 then spin_0 c14 c15 (expand_s5 c0 c1 c2 c3 c4 c5 c6 c7 c8 c9 c10 c11 c12 c13 c14 c15) else expand_s5 c0 c1 c2 c3 c4 c5 c6 c7 c8 c9 c10 c11 c12 c13 c14 c15
            else
              bif c0 == 85 then bif c0 == 86 then spin_0 c14 c15 (expand_s6 c0 c1 c2 c3 c4 c5 c6 c7 c8 c9 c10 c11 c12 c13 c14 c15) else expand_s6 c0 c1 c2 c3 c4 c5 c6 c7 c8 c9 c10 c11 c12 c13 c14 c15
              else
                bif c0 == 89 then bif c0 == 86 then spin_0 c14 c15 (expand_s7 c0 c1 c2 c3 c4 c5 c6 c7 c8 c9 c10 c11 c12 c13 c14 c15) else expand_s7 c0 c1 c2 c3 c4 c5 c6 c7 c8 c9 c10 c11 c12 c13 c14 c15
                else
                  bif c0 == 86 then
                    bif c0 == 86 then spin_0 c14 c15 (expand_s8 c0 c1 c2 c3 c4 c5 c6 c7 c8 c9 c10 c11 c12 c13 c14 c15) else expand_s8 c0 c1 c2 c3 c4 c5 c6 c7 c8 c9 c10 c11 c12 c13 c14 c15
                  else bif c0 == 86 then spin_0 c14 c15 (expand_s9 c0 c1 c2 c3 c4 c5 c6 c7 c8 c9 c10 c11 c12 c13 c14 c15) else expand_s9 c0 c1 c2 c3 c4 c5 c6 c7 c8 c9 c10 c11 c12 c13 c14 c15
    else
      bif bif c0 == 73 then c0 == 73 else c0 == 83 then
        bif c0 == 86 then spin_0 c14 c15 (expand_s11 c0 c1 c2 c3 c4 c5 c6 c7 c8 c9 c10 c11 c12 c13 c14 c15) else expand_s11 c0 c1 c2 c3 c4 c5 c6 c7 c8 c9 c10 c11 c12 c13 c14 c15
      else
        bif bif c0 == 74 then c0 == 74 else c0 == 84 then
          bif c0 == 86 then spin_0 c14 c15 (expand_s12 c0 c1 c2 c3 c4 c5 c6 c7 c8 c9 c10 c11 c12 c13 c14 c15) else expand_s12 c0 c1 c2 c3 c4 c5 c6 c7 c8 c9 c10 c11 c12 c13 c14 c15
        else
          bif c0 == 81 then bif c0 == 86 then spin_0 c14 c15 (expand_s13 c0 c1 c2 c3 c4 c5 c6 c7 c8 c9 c10 c11 c12 c13 c14 c15) else expand_s13 c0 c1 c2 c3 c4 c5 c6 c7 c8 c9 c10 c11 c12 c13 c14 c15
          else
            bif c0 == 82 then bif c0 == 86 then spin_0 c14 c15 (expand_s14 c0 c1 c2 c3 c4 c5 c6 c7 c8 c9 c10 c11 c12 c13 c14 c15) else expand_s14 c0 c1 c2 c3 c4 c5 c6 c7 c8 c9 c10 c11 c12 c13 c14 c15
            else
              bif c0 == 85 then bif c0 == 86 then spin_0 c14 c15 (expand_s15 c0 c1 c2 c3 c4 c5 c6 c7 c8 c9 c10 c11 c12 c13 c14 c15) else expand_s15 c0 c1 c2 c3 c4 c5 c6 c7 c8 c9 c10 c11 c12 c13 c14 c15
              else
                bif c0 == 89 then
                  bif c0 == 86 then spin_0 c14 c15 (expand_s16 c0 c1 c2 c3 c4 c5 c6 c7 c8 c9 c10 c11 c12 c13 c14 c15) else expand_s16 c0 c1 c2 c3 c4 c5 c6 c7 c8 c9 c10 c11 c12 c13 c14 c15
                else
                  bif c0 == 86 then
                    bif c0 == 86 then spin_0 c14 c15 (expand_s17 c0 c1 c2 c3 c4 c5 c6 c7 c8 c9 c10 c11 c12 c13 c14 c15) else expand_s17 c0 c1 c2 c3 c4 c5 c6 c7 c8 c9 c10 c11 c12 c13 c14 c15
                  else bif c0 == 86 then spin_0 c14 c15 (expand_s18 c0 c1 c2 c3 c4 c5 c6 c7 c8 c9 c10 c11 c12 c13 c14 c15) else expand_s18 c0 c1 c2 c3 c4 c5 c6 c7 c8 c9 c10 c11 c12 c13 c14 c15
noncomputable def expand_s19 (c1 : Int) (c2 : Int) (c3 : Int) (c4 : Int) (c8 : Int) : List (List Int) :=
  [[1, 0, 0, 0, 0, solid_0 c1 (flat_0 c1 c2 c3 c4) (flat_1 c1 c2 c3 c4) c8, solid_1 c1 (flat_0 c1 c2 c3 c4) (flat_1 c1 c2 c3 c4) c8, solid_2 c1 (flat_0 c1 c2 c3 c4) (flat_1 c1 c2 c3 c4) c8, 0, 0, 0, 0,
      0, 0, 0, 0, 0, 0, 0, 0, 0, 0]]
noncomputable def expand_s20 (c0 : Int) : Prop :=
  (bif c0 == 73 then c0 == 73 else c0 == 83) = true
noncomputable def expand_s21 (c1 : Int) (c2 : Int) (c3 : Int) (c4 : Int) (c5 : Int) (c6 : Int) (c7 : Int) (c8 : Int) : List (List Int) :=
  turn_0 1 c8 0 c1 (flat_0 c1 c5 c6 c7) (flat_1 c1 c5 c6 c7) (turn_0 1 (expand_s0 c1 c2 c3 c4 c8) 0 c1 (flat_0 c1 c5 c6 c7) (flat_1 c1 c5 c6 c7) (expand_s19 c1 c2 c3 c4 c8))
noncomputable def expand_s22 (c0 : Int) : Prop :=
  (bif c0 == 73 then c0 == 73 else c0 == 83) = false
noncomputable def expand_s23 (c0 : Int) : Prop :=
  (bif c0 == 74 then c0 == 74 else c0 == 84) = true
noncomputable def expand_s24 (c1 : Int) (c2 : Int) (c3 : Int) (c4 : Int) (c5 : Int) (c6 : Int) (c7 : Int) (c8 : Int) : Prop :=
  (expand_s21 c1 c2 c3 c4 c5 c6 c7 c8).length ≤ 100000
noncomputable def expand_s25 (c0 : Int) : Prop :=
  (bif c0 == 74 then c0 == 74 else c0 == 84) = false
noncomputable def expand_s26 (c1 : Int) (c2 : Int) (c3 : Int) (c4 : Int) (c5 : Int) (c6 : Int) (c7 : Int) (c8 : Int) (c9 : Int) : Prop :=
  (turn_0 2 c9 0 c1 (flat_0 c1 c5 c6 c7) (flat_1 c1 c5 c6 c7) (expand_s21 c1 c2 c3 c4 c5 c6 c7 c8)).length ≤ 100000
noncomputable def expand_s27 (c1 : Int) (c2 : Int) (c3 : Int) (c4 : Int) (c5 : Int) (c6 : Int) (c7 : Int) (c8 : Int) (c9 : Int) : Prop :=
  expand_s24 c1 c2 c3 c4 c5 c6 c7 c8 ∧ expand_s26 c1 c2 c3 c4 c5 c6 c7 c8 c9
noncomputable def expand_s28 (c1 : Int) (c2 : Int) (c3 : Int) (c4 : Int) (c5 : Int) (c6 : Int) (c7 : Int) (c8 : Int) (c9 : Int) (c12 : Int) : Prop :=
  (dwell_0 c12 (turn_0 2 c9 0 c1 (flat_0 c1 c5 c6 c7) (flat_1 c1 c5 c6 c7) (expand_s21 c1 c2 c3 c4 c5 c6 c7 c8))).length ≤ 100000
noncomputable def expand_s29 (c1 : Int) (c2 : Int) (c3 : Int) (c4 : Int) (c5 : Int) (c6 : Int) (c7 : Int) (c8 : Int) (c9 : Int) (c12 : Int) : Prop :=
  expand_s24 c1 c2 c3 c4 c5 c6 c7 c8 ∧ expand_s26 c1 c2 c3 c4 c5 c6 c7 c8 c9 ∧ expand_s28 c1 c2 c3 c4 c5 c6 c7 c8 c9 c12
noncomputable def expand_s30 (c0 : Int) (c1 : Int) (c2 : Int) (c3 : Int) (c4 : Int) (c5 : Int) (c6 : Int) (c7 : Int) (c8 : Int) (c9 : Int) (c10 : Int) (c11 : Int) (c12 : Int) (c13 : Int) (c14 : Int) (c15 : Int) : List (List Int) :=
  peckm_0 c0 c8 c9 c11 (hts1 c0 c1 c2 c3 c4 c5 c6 c7 c8 c9 c10 c11 c12 c13 c14 c15) c1 (flat_0 c1 c5 c6 c7) (flat_1 c1 c5 c6 c7) (expand_s21 c1 c2 c3 c4 c5 c6 c7 c8)
noncomputable def expand_s31 (c1 : Int) (c2 : Int) (c3 : Int) (c4 : Int) (c5 : Int) (c6 : Int) (c7 : Int) (c8 : Int) (c9 : Int) (c14 : Int) : List (List Int) :=
  turn_0 6 c8 (IntKind.i64.wrap (7 - c14)) c1 (flat_0 c1 c5 c6 c7) (flat_1 c1 c5 c6 c7) (turn_0 6 c9 c14 c1 (flat_0 c1 c5 c6 c7) (flat_1 c1 c5 c6 c7) (expand_s21 c1 c2 c3 c4 c5 c6 c7 c8))
noncomputable def expand_s32 (c1 : Int) (c2 : Int) (c3 : Int) (c4 : Int) (c5 : Int) (c6 : Int) (c7 : Int) (c8 : Int) (c9 : Int) : List (List Int) :=
  turn_0 2 c8 0 c1 (flat_0 c1 c5 c6 c7) (flat_1 c1 c5 c6 c7) (turn_0 2 c9 0 c1 (flat_0 c1 c5 c6 c7) (flat_1 c1 c5 c6 c7) (expand_s21 c1 c2 c3 c4 c5 c6 c7 c8))
noncomputable def expand_s33 (c1 : Int) (c2 : Int) (c3 : Int) (c4 : Int) (c5 : Int) (c6 : Int) (c7 : Int) (c8 : Int) (c9 : Int) (c12 : Int) : List (List Int) :=
  turn_0 2 c8 0 c1 (flat_0 c1 c5 c6 c7) (flat_1 c1 c5 c6 c7) (dwell_0 c12 (turn_0 2 c9 0 c1 (flat_0 c1 c5 c6 c7) (flat_1 c1 c5 c6 c7) (expand_s21 c1 c2 c3 c4 c5 c6 c7 c8)))
noncomputable def expand_s34 (c1 : Int) (c2 : Int) (c3 : Int) (c4 : Int) (c5 : Int) (c6 : Int) (c7 : Int) (c8 : Int) (c9 : Int) (c12 : Int) : List (List Int) :=
  spin_0 5 0 (dwell_0 c12 (turn_0 2 c9 0 c1 (flat_0 c1 c5 c6 c7) (flat_1 c1 c5 c6 c7) (expand_s21 c1 c2 c3 c4 c5 c6 c7 c8)))
noncomputable def expand_s35 (c1 : Int) (c2 : Int) (c3 : Int) (c4 : Int) (c5 : Int) (c6 : Int) (c7 : Int) (c8 : Int) : List (List Int) :=
  [[1, 0, 0, 0, 0, solid_0 c1 (flat_0 c1 c5 c6 c7) (flat_1 c1 c5 c6 c7) (expand_s0 c1 c2 c3 c4 c8), solid_1 c1 (flat_0 c1 c5 c6 c7) (flat_1 c1 c5 c6 c7) (expand_s0 c1 c2 c3 c4 c8),
      solid_2 c1 (flat_0 c1 c5 c6 c7) (flat_1 c1 c5 c6 c7) (expand_s0 c1 c2 c3 c4 c8), 0, 0, 0, 0, 0, 0, 0, 0, 0, 0, 0, 0, 0, 0]]
noncomputable def expand_s36 (c1 : Int) (c2 : Int) (c3 : Int) (c4 : Int) (c5 : Int) (c6 : Int) (c7 : Int) (c8 : Int) : Prop :=
  (turn_0 1 c8 0 c1 (flat_0 c1 c5 c6 c7) (flat_1 c1 c5 c6 c7) (expand_s35 c1 c2 c3 c4 c5 c6 c7 c8)).length ≤ 100000
noncomputable def expand_s37 (c1 : Int) (c2 : Int) (c3 : Int) (c4 : Int) (c5 : Int) (c6 : Int) (c7 : Int) (c8 : Int) (c9 : Int) (c14 : Int) : List (List Int) :=
  turn_0 6 c9 c14 c1 (flat_0 c1 c5 c6 c7) (flat_1 c1 c5 c6 c7) (turn_0 1 c8 0 c1 (flat_0 c1 c5 c6 c7) (flat_1 c1 c5 c6 c7) (expand_s35 c1 c2 c3 c4 c5 c6 c7 c8))
noncomputable def expand_s38 (c1 : Int) (c2 : Int) (c3 : Int) (c4 : Int) (c5 : Int) (c6 : Int) (c7 : Int) (c8 : Int) (c9 : Int) : List (List Int) :=
  turn_0 2 c9 0 c1 (flat_0 c1 c5 c6 c7) (flat_1 c1 c5 c6 c7) (turn_0 1 c8 0 c1 (flat_0 c1 c5 c6 c7) (flat_1 c1 c5 c6 c7) (expand_s35 c1 c2 c3 c4 c5 c6 c7 c8))
noncomputable def expand_s39 (c1 : Int) (c2 : Int) (c3 : Int) (c4 : Int) (c5 : Int) (c6 : Int) (c7 : Int) (c8 : Int) (c9 : Int) : Prop :=
  (expand_s38 c1 c2 c3 c4 c5 c6 c7 c8 c9).length ≤ 100000
noncomputable def expand_s40 (c1 : Int) (c2 : Int) (c3 : Int) (c4 : Int) (c5 : Int) (c6 : Int) (c7 : Int) (c8 : Int) (c9 : Int) : Prop :=
  expand_s36 c1 c2 c3 c4 c5 c6 c7 c8 ∧ expand_s39 c1 c2 c3 c4 c5 c6 c7 c8 c9
noncomputable def expand_s41 (c1 : Int) (c2 : Int) (c3 : Int) (c4 : Int) (c5 : Int) (c6 : Int) (c7 : Int) (c8 : Int) (c9 : Int) (c12 : Int) : Prop :=
  (dwell_0 c12 (expand_s38 c1 c2 c3 c4 c5 c6 c7 c8 c9)).length ≤ 100000
noncomputable def expand_s42 (c1 : Int) (c2 : Int) (c3 : Int) (c4 : Int) (c5 : Int) (c6 : Int) (c7 : Int) (c8 : Int) (c9 : Int) (c12 : Int) : Prop :=
  expand_s36 c1 c2 c3 c4 c5 c6 c7 c8 ∧ expand_s39 c1 c2 c3 c4 c5 c6 c7 c8 c9 ∧ expand_s41 c1 c2 c3 c4 c5 c6 c7 c8 c9 c12
noncomputable def expand_s43 (c0 : Int) (c1 : Int) (c2 : Int) (c3 : Int) (c4 : Int) (c5 : Int) (c6 : Int) (c7 : Int) (c8 : Int) (c9 : Int) (c10 : Int) (c11 : Int) (c12 : Int) (c13 : Int) (c14 : Int) (c15 : Int) : List (List Int) :=
  peckm_0 c0 c8 c9 c11 (hts1 c0 c1 c2 c3 c4 c5 c6 c7 c8 c9 c10 c11 c12 c13 c14 c15) c1 (flat_0 c1 c5 c6 c7) (flat_1 c1 c5 c6 c7)
    (turn_0 1 c8 0 c1 (flat_0 c1 c5 c6 c7) (flat_1 c1 c5 c6 c7) (expand_s35 c1 c2 c3 c4 c5 c6 c7 c8))
noncomputable def expand_s44 (c1 : Int) (c2 : Int) (c3 : Int) (c4 : Int) (c5 : Int) (c6 : Int) (c7 : Int) (c8 : Int) (c9 : Int) (c14 : Int) : List (List Int) :=
  turn_0 6 c8 (IntKind.i64.wrap (7 - c14)) c1 (flat_0 c1 c5 c6 c7) (flat_1 c1 c5 c6 c7) (expand_s37 c1 c2 c3 c4 c5 c6 c7 c8 c9 c14)
noncomputable def expand_needs (c0 : Int) (c1 : Int) (c2 : Int) (c3 : Int) (c4 : Int) (c5 : Int) (c6 : Int) (c7 : Int) (c8 : Int) (c9 : Int) (c10 : Int) (c11 : Int) (c12 : Int) (c13 : Int) (c14 : Int) (c15 : Int) : List Prop :=
  [(chk c0 c1 c2 c3 c4 c5 c6 c7 c8 c9 c10 c11 c12 c13 c14 c15 != 0) = false →
      (decide (flat_2 c1 c2 c3 c4 < c8) = true →
          (expand_s19 c1 c2 c3 c4 c8).length ≤ 100000 ∧
            (turn_0 1 (expand_s0 c1 c2 c3 c4 c8) 0 c1 (flat_0 c1 c5 c6 c7) (flat_1 c1 c5 c6 c7) (expand_s19 c1 c2 c3 c4 c8)).length ≤ 100000 ∧
              (expand_s20 c0 → hts1 c0 c1 c2 c3 c4 c5 c6 c7 c8 c9 c10 c11 c12 c13 c14 c15 ≤ 1000 ∧ (expand_s21 c1 c2 c3 c4 c5 c6 c7 c8).length ≤ 1000) ∧
                (expand_s22 c0 →
                    (expand_s23 c0 → expand_s24 c1 c2 c3 c4 c5 c6 c7 c8 ∧ (turn_0 6 c9 c14 c1 (flat_0 c1 c5 c6 c7) (flat_1 c1 c5 c6 c7) (expand_s21 c1 c2 c3 c4 c5 c6 c7 c8)).length ≤ 100000) ∧
                      (expand_s25 c0 →
                        ((c0 == 81) = true → expand_s24 c1 c2 c3 c4 c5 c6 c7 c8) ∧
                          ((c0 == 81) = false →
                            ((c0 == 82) = true → expand_s27 c1 c2 c3 c4 c5 c6 c7 c8 c9) ∧
                              ((c0 == 82) = false →
                                ((c0 == 85) = true → expand_s27 c1 c2 c3 c4 c5 c6 c7 c8 c9) ∧
                                  ((c0 == 85) = false →
                                    ((c0 == 89) = true → expand_s29 c1 c2 c3 c4 c5 c6 c7 c8 c9 c12) ∧ ((c0 == 89) = false → (c0 == 86) = true → expand_s29 c1 c2 c3 c4 c5 c6 c7 c8 c9 c12)))))) ∧
                  (expand_s20 c0 →
                      (expand_s30 c0 c1 c2 c3 c4 c5 c6 c7 c8 c9 c10 c11 c12 c13 c14 c15).length ≤ 100000 ∧
                        ((c0 == 86) = true →
                          (turn_0 1 (hts0 c0 c1 c2 c3 c4 c5 c6 c7 c8 c9 c10 c11 c12 c13 c14 c15) 0 c1 (flat_0 c1 c5 c6 c7) (flat_1 c1 c5 c6 c7)
                                (expand_s30 c0 c1 c2 c3 c4 c5 c6 c7 c8 c9 c10 c11 c12 c13 c14 c15)).length ≤
                            100000)) ∧
                    (expand_s22 c0 →
                      (expand_s23 c0 →
                          (expand_s31 c1 c2 c3 c4 c5 c6 c7 c8 c9 c14).length ≤ 100000 ∧
                            ((c0 == 86) = true →
                              (turn_0 1 (hts0 c0 c1 c2 c3 c4 c5 c6 c7 c8 c9 c10 c11 c12 c13 c14 c15) 0 c1 (flat_0 c1 c5 c6 c7) (flat_1 c1 c5 c6 c7) (expand_s31 c1 c2 c3 c4 c5 c6 c7 c8 c9 c14)).length ≤
                                100000)) ∧
                        (expand_s25 c0 →
                          ((c0 == 81) = true →
                              expand_s26 c1 c2 c3 c4 c5 c6 c7 c8 c9 ∧
                                ((c0 == 86) = true →
                                  (turn_0 1 (hts0 c0 c1 c2 c3 c4 c5 c6 c7 c8 c9 c10 c11 c12 c13 c14 c15) 0 c1 (flat_0 c1 c5 c6 c7) (flat_1 c1 c5 c6 c7)
                                        (turn_0 2 c9 0 c1 (flat_0 c1 c5 c6 c7) (flat_1 c1 c5 c6 c7) (expand_s21 c1 c2 c3 c4 c5 c6 c7 c8))).length ≤
                                    100000)) ∧
                            ((c0 == 81) = false →
                              ((c0 == 82) = true →
                                  expand_s28 c1 c2 c3 c4 c5 c6 c7 c8 c9 c12 ∧
                                    ((c0 == 86) = true →
                                      (turn_0 1 (hts0 c0 c1 c2 c3 c4 c5 c6 c7 c8 c9 c10 c11 c12 c13 c14 c15) 0 c1 (flat_0 c1 c5 c6 c7) (flat_1 c1 c5 c6 c7)
                                            (dwell_0 c12 (turn_0 2 c9 0 c1 (flat_0 c1 c5 c6 c7) (flat_1 c1 c5 c6 c7) (expand_s21 c1 c2 c3 c4 c5 c6 c7 c8)))).length ≤
                                        100000)) ∧
                                ((c0 == 82) = false →
                                  ((c0 == 85) = true →
                                      (expand_s32 c1 c2 c3 c4 c5 c6 c7 c8 c9).length ≤ 100000 ∧
                                        ((c0 == 86) = true →
                                          (turn_0 1 (hts0 c0 c1 c2 c3 c4 c5 c6 c7 c8 c9 c10 c11 c12 c13 c14 c15) 0 c1 (flat_0 c1 c5 c6 c7) (flat_1 c1 c5 c6 c7)
                                                (expand_s32 c1 c2 c3 c4 c5 c6 c7 c8 c9)).length ≤
                                            100000)) ∧
                                    ((c0 == 85) = false →
                                      ((c0 == 89) = true →
                                          (expand_s33 c1 c2 c3 c4 c5 c6 c7 c8 c9 c12).length ≤ 100000 ∧
                                            ((c0 == 86) = true →
                                              (turn_0 1 (hts0 c0 c1 c2 c3 c4 c5 c6 c7 c8 c9 c10 c11 c12 c13 c14 c15) 0 c1 (flat_0 c1 c5 c6 c7) (flat_1 c1 c5 c6 c7)
                                                    (expand_s33 c1 c2 c3 c4 c5 c6 c7 c8 c9 c12)).length ≤
                                                100000)) ∧
                                        ((c0 == 89) = false →
                                          ((c0 == 86) = true →
                                              (expand_s34 c1 c2 c3 c4 c5 c6 c7 c8 c9 c12).length ≤ 100000 ∧
                                                ((c0 == 86) = true →
                                                  (turn_0 1 (hts0 c0 c1 c2 c3 c4 c5 c6 c7 c8 c9 c10 c11 c12 c13 c14 c15) 0 c1 (flat_0 c1 c5 c6 c7) (flat_1 c1 c5 c6 c7)
                                                        (expand_s34 c1 c2 c3 c4 c5 c6 c7 c8 c9 c12)).length ≤
                                                    100000)) ∧
                                            ((c0 == 86) = false →
                                              expand_s24 c1 c2 c3 c4 c5 c6 c7 c8 ∧
                                                ((c0 == 86) = true →
                                                  (turn_0 1 (hts0 c0 c1 c2 c3 c4 c5 c6 c7 c8 c9 c10 c11 c12 c13 c14 c15) 0 c1 (flat_0 c1 c5 c6 c7) (flat_1 c1 c5 c6 c7)
                                                        (expand_s21 c1 c2 c3 c4 c5 c6 c7 c8)).length ≤
                                                    100000))))))))) ∧
        (decide (flat_2 c1 c2 c3 c4 < c8) = false →
          (expand_s35 c1 c2 c3 c4 c5 c6 c7 c8).length ≤ 100000 ∧
            (expand_s20 c0 →
                hts1 c0 c1 c2 c3 c4 c5 c6 c7 c8 c9 c10 c11 c12 c13 c14 c15 ≤ 1000 ∧ (turn_0 1 c8 0 c1 (flat_0 c1 c5 c6 c7) (flat_1 c1 c5 c6 c7) (expand_s35 c1 c2 c3 c4 c5 c6 c7 c8)).length ≤ 1000) ∧
              (expand_s22 c0 →
                  (expand_s23 c0 → expand_s36 c1 c2 c3 c4 c5 c6 c7 c8 ∧ (expand_s37 c1 c2 c3 c4 c5 c6 c7 c8 c9 c14).length ≤ 100000) ∧
                    (expand_s25 c0 →
                      ((c0 == 81) = true → expand_s36 c1 c2 c3 c4 c5 c6 c7 c8) ∧
                        ((c0 == 81) = false →
                          ((c0 == 82) = true → expand_s40 c1 c2 c3 c4 c5 c6 c7 c8 c9) ∧
                            ((c0 == 82) = false →
                              ((c0 == 85) = true → expand_s40 c1 c2 c3 c4 c5 c6 c7 c8 c9) ∧
                                ((c0 == 85) = false →
                                  ((c0 == 89) = true → expand_s42 c1 c2 c3 c4 c5 c6 c7 c8 c9 c12) ∧ ((c0 == 89) = false → (c0 == 86) = true → expand_s42 c1 c2 c3 c4 c5 c6 c7 c8 c9 c12)))))) ∧
                (expand_s20 c0 →
                    (expand_s43 c0 c1 c2 c3 c4 c5 c6 c7 c8 c9 c10 c11 c12 c13 c14 c15).length ≤ 100000 ∧
                      ((c0 == 86) = true →
                        (turn_0 1 (hts0 c0 c1 c2 c3 c4 c5 c6 c7 c8 c9 c10 c11 c12 c13 c14 c15) 0 c1 (flat_0 c1 c5 c6 c7) (flat_1 c1 c5 c6 c7)
                              (expand_s43 c0 c1 c2 c3 c4 c5 c6 c7 c8 c9 c10 c11 c12 c13 c14 c15)).length ≤
                          100000)) ∧
                  (expand_s22 c0 →
                    (expand_s23 c0 →
                        (expand_s44 c1 c2 c3 c4 c5 c6 c7 c8 c9 c14).length ≤ 100000 ∧
                          ((c0 == 86) = true →
                            (turn_0 1 (hts0 c0 c1 c2 c3 c4 c5 c6 c7 c8 c9 c10 c11 c12 c13 c14 c15) 0 c1 (flat_0 c1 c5 c6 c7) (flat_1 c1 c5 c6 c7) (expand_s44 c1 c2 c3 c4 c5 c6 c7 c8 c9 c14)).length ≤
                              100000)) ∧
                      (expand_s25 c0 →
                        ((c0 == 81) = true →
                            expand_s39 c1 c2 c3 c4 c5 c6 c7 c8 c9 ∧
                              ((c0 == 86) = true →
                                (turn_0 1 (hts0 c0 c1 c2 c3 c4 c5 c6 c7 c8 c9 c10 c11 c12 c13 c14 c15) 0 c1 (flat_0 c1 c5 c6 c7) (flat_1 c1 c5 c6 c7) (expand_s38 c1 c2 c3 c4 c5 c6 c7 c8 c9)).length ≤
                                  100000)) ∧
                          ((c0 == 81) = false →
                            ((c0 == 82) = true →
                                expand_s41 c1 c2 c3 c4 c5 c6 c7 c8 c9 c12 ∧
                                  ((c0 == 86) = true →
                                    (turn_0 1 (hts0 c0 c1 c2 c3 c4 c5 c6 c7 c8 c9 c10 c11 c12 c13 c14 c15) 0 c1 (flat_0 c1 c5 c6 c7) (flat_1 c1 c5 c6 c7)
                                          (dwell_0 c12 (expand_s38 c1 c2 c3 c4 c5 c6 c7 c8 c9))).length ≤
                                      100000)) ∧
                              ((c0 == 82) = false →
                                ((c0 == 85) = true →
                                    (turn_0 2 c8 0 c1 (flat_0 c1 c5 c6 c7) (flat_1 c1 c5 c6 c7) (expand_s38 c1 c2 c3 c4 c5 c6 c7 c8 c9)).length ≤ 100000 ∧
                                      ((c0 == 86) = true →
                                        (turn_0 1 (hts0 c0 c1 c2 c3 c4 c5 c6 c7 c8 c9 c10 c11 c12 c13 c14 c15) 0 c1 (flat_0 c1 c5 c6 c7) (flat_1 c1 c5 c6 c7)
                                              (turn_0 2 c8 0 c1 (flat_0 c1 c5 c6 c7) (flat_1 c1 c5 c6 c7) (expand_s38 c1 c2 c3 c4 c5 c6 c7 c8 c9))).length ≤
                                          100000)) ∧
                                  ((c0 == 85) = false →
                                    ((c0 == 89) = true →
                                        (turn_0 2 c8 0 c1 (flat_0 c1 c5 c6 c7) (flat_1 c1 c5 c6 c7) (dwell_0 c12 (expand_s38 c1 c2 c3 c4 c5 c6 c7 c8 c9))).length ≤ 100000 ∧
                                          ((c0 == 86) = true →
                                            (turn_0 1 (hts0 c0 c1 c2 c3 c4 c5 c6 c7 c8 c9 c10 c11 c12 c13 c14 c15) 0 c1 (flat_0 c1 c5 c6 c7) (flat_1 c1 c5 c6 c7)
                                                  (turn_0 2 c8 0 c1 (flat_0 c1 c5 c6 c7) (flat_1 c1 c5 c6 c7) (dwell_0 c12 (expand_s38 c1 c2 c3 c4 c5 c6 c7 c8 c9)))).length ≤
                                              100000)) ∧
                                      ((c0 == 89) = false →
                                        ((c0 == 86) = true →
                                            (spin_0 5 0 (dwell_0 c12 (expand_s38 c1 c2 c3 c4 c5 c6 c7 c8 c9))).length ≤ 100000 ∧
                                              ((c0 == 86) = true →
                                                (turn_0 1 (hts0 c0 c1 c2 c3 c4 c5 c6 c7 c8 c9 c10 c11 c12 c13 c14 c15) 0 c1 (flat_0 c1 c5 c6 c7) (flat_1 c1 c5 c6 c7)
                                                      (spin_0 5 0 (dwell_0 c12 (expand_s38 c1 c2 c3 c4 c5 c6 c7 c8 c9)))).length ≤
                                                  100000)) ∧
                                          ((c0 == 86) = false →
                                            expand_s36 c1 c2 c3 c4 c5 c6 c7 c8 ∧
                                              ((c0 == 86) = true →
                                                (turn_0 1 (hts0 c0 c1 c2 c3 c4 c5 c6 c7 c8 c9 c10 c11 c12 c13 c14 c15) 0 c1 (flat_0 c1 c5 c6 c7) (flat_1 c1 c5 c6 c7)
                                                      (turn_0 1 c8 0 c1 (flat_0 c1 c5 c6 c7) (flat_1 c1 c5 c6 c7) (expand_s35 c1 c2 c3 c4 c5 c6 c7 c8))).length ≤
                                                  100000)))))))))]
theorem expand_0_eq (c0 c1 c2 c3 c4 c5 c6 c7 c8 c9 c10 c11 c12 c13 c14 c15 : Int) : (expand_0 c0 c1 c2 c3 c4 c5 c6 c7 c8 c9 c10 c11 c12 c13 c14 c15) = chk c0 c1 c2 c3 c4 c5 c6 c7 c8 c9 c10 c11 c12 c13 c14 c15 := by
  unfold expand_0
  cases h : (chk c0 c1 c2 c3 c4 c5 c6 c7 c8 c9 c10 c11 c12 c13 c14 c15 != 0)
  · have : chk c0 c1 c2 c3 c4 c5 c6 c7 c8 c9 c10 c11 c12 c13 c14 c15 = 0 := by simpa using h
    rw [this]; rfl
  · rfl
theorem expand_1_eq (c0 c1 c2 c3 c4 c5 c6 c7 c8 c9 c10 c11 c12 c13 c14 c15 : Int) : (expand_1 c0 c1 c2 c3 c4 c5 c6 c7 c8 c9 c10 c11 c12 c13 c14 c15) = expR c0 c1 c2 c3 c4 c5 c6 c7 c8 c9 c10 c11 c12 c13 c14 c15 := by
  unfold expand_1 expand_s2 expand_s3 expand_s4 expand_s5 expand_s6 expand_s7 expand_s8 expand_s9 expand_s11 expand_s12 expand_s13 expand_s14 expand_s15 expand_s16 expand_s17 expand_s18 expand_s1 expand_s10 expand_s0 expR expL hts0 hts1
  cases h : (chk c0 c1 c2 c3 c4 c5 c6 c7 c8 c9 c10 c11 c12 c13 c14 c15 != 0)
  · simp only [cond_false, or_chain, tail_eq, preL, bodyL, postL]
    cases decide (flat_2 c1 c2 c3 c4 < c8) <;> cases c0 == 73 || c0 == 83 <;> simp only [cond_true, cond_false] <;> (try (simp [peckm_0, turn_0, itm]; done)) <;>
      cases c0 == 74 || c0 == 84 <;> simp only [cond_true, cond_false] <;> (try (simp [turn_0, itm]; done)) <;>
      cases c0 == 81 <;> simp only [cond_true, cond_false] <;> (try (simp [turn_0, itm]; done)) <;>
      cases c0 == 82 <;> simp only [cond_true, cond_false] <;> (try (simp [turn_0, itm, dwell_0, dwl]; done)) <;>
      cases c0 == 85 <;> simp only [cond_true, cond_false] <;> (try (simp [turn_0, itm]; done)) <;>
      cases c0 == 89 <;> simp only [cond_true, cond_false] <;> (try (simp [turn_0, itm, dwell_0, dwl]; done)) <;>
      cases c0 == 86 <;> simp only [cond_true, cond_false] <;> simp [turn_0, itm, dwell_0, dwl, spin_0, spn]
  · rfl
theorem expand_need {c0 : Int} {c1 : Int} {c2 : Int} {c3 : Int} {c4 : Int} {c5 : Int} {c6 : Int} {c7 : Int} {c8 : Int} {c9 : Int} {c10 : Int} {c11 : Int} {c12 : Int} {c13 : Int} {c14 : Int} {c15 : Int} : ∀ q ∈ (expand_needs c0 c1 c2 c3 c4 c5 c6 c7 c8 c9 c10 c11 c12 c13 c14 c15), q := by
  intro q hq
  unfold expand_needs at hq
  simp only [List.mem_cons, List.not_mem_nil, or_false] at hq
  have h3 := hts1_le c0 c1 c2 c3 c4 c5 c6 c7 c8 c9 c10 c11 c12 c13 c14 c15
  have h4 : ∀ (u w : Int) (xs : List (List Int)), xs.length ≤ 1000 → (peckm_0 c0 c8 c9 c11 (hts1 c0 c1 c2 c3 c4 c5 c6 c7 c8 c9 c10 c11 c12 c13 c14 c15) c1 u w xs).length ≤ 10000 := fun u w xs hx => by
    have := peckm_len c0 c8 c9 c11 (hts1 c0 c1 c2 c3 c4 c5 c6 c7 c8 c9 c10 c11 c12 c13 c14 c15) c1 u w xs h3
    omega
  have h5 : ∀ (u w : Int) (xs : List (List Int)), xs.length ≤ 1000 → (peckm_0 c0 c8 c9 c11 (hts1 c0 c1 c2 c3 c4 c5 c6 c7 c8 c9 c10 c11 c12 c13 c14 c15) c1 u w xs).length ≤ 100000 := fun u w xs hx => by
    have := h4 u w xs hx
    omega
  have h6 : ∀ (u w : Int) (xs : List (List Int)), xs.length ≤ 1000 → (peckm_0 c0 c8 c9 c11 (hts1 c0 c1 c2 c3 c4 c5 c6 c7 c8 c9 c10 c11 c12 c13 c14 c15) c1 u w xs).length + 1 ≤ 100000 := fun u w xs hx => by
    have := h4 u w xs hx
    omega
  subst hq
  simp only [expand_0, expand_s0, expand_s1, expand_s2, expand_s3, expand_s4, expand_s5, expand_s6, expand_s7, expand_s8, expand_s9, expand_s10, expand_s11, expand_s12, expand_s13, expand_s14, expand_s15, expand_s16, expand_s17, expand_s18, expand_1, expand_s19, expand_s20, expand_s21, expand_s22, expand_s23, expand_s24, expand_s25, expand_s26, expand_s27, expand_s28, expand_s29, expand_s30, expand_s31, expand_s32, expand_s33, expand_s34, expand_s35, expand_s36, expand_s37, expand_s38, expand_s39, expand_s40, expand_s41, expand_s42, expand_s43, expand_s44, expand_needs]
  have k1 : ∀ (a : Int) (l : List Int), (turn_0 1 c8 0 c1 (flat_0 c1 c5 c6 c7) (flat_1 c1 c5 c6 c7) (turn_0 1 a 0 c1 (flat_0 c1 c5 c6 c7) (flat_1 c1 c5 c6 c7) [l])).length ≤ 1000 := fun a l => by simp [turn_len]
  have k2 : ∀ (l : List Int), (turn_0 1 c8 0 c1 (flat_0 c1 c5 c6 c7) (flat_1 c1 c5 c6 c7) [l]).length ≤ 1000 := fun l => by simp [turn_len]
  simp +decide only [turn_len, dwell_len, spin_len, List.length_cons, List.length_nil, h3, h5 _ _ _ (k1 _ _), h6 _ _ _ (k1 _ _), h5 _ _ _ (k2 _), h6 _ _ _ (k2 _), true_and, and_true, implies_true]
set_option maxRecDepth 1000000 in
theorem expand_runs (c0 c1 c2 c3 c4 c5 c6 c7 c8 c9 c10 c11 c12 c13 c14 c15 : Int) (hNeeds : ∀ pN ∈ (expand_needs c0 c1 c2 c3 c4 c5 c6 c7 c8 c9 c10 c11 c12 c13 c14 c15), pN) : Runs (runF (sums K_peckm) L_peck 16) (expand_tpl.args [.i c0, .i c1, .i c2, .i c3, .i c4, .i c5, .i c6, .i c7, .i c8, .i c9, .i c10, .i c11, .i c12, .i c13, .i c14, .i c15]) (expand_tpl.memo [.i c0, .i c1, .i c2, .i c3, .i c4, .i c5, .i c6, .i c7, .i c8, .i c9, .i c10, .i c11, .i c12, .i c13, .i c14, .i c15] []) expand_tpl.n (SV.tup [(false, [SC.wh 8135]), (false, [SC.int IntKind.i64 (SI.v (expand_0 c0 c1 c2 c3 c4 c5 c6 c7 c8 c9 c10 c11 c12 c13 c14 c15))])])
    ([(8135,
      Obj.row false 44 22
        (RowC.lst 8134
          [CK.int IntKind.i64, CK.int IntKind.i64, CK.int IntKind.i64, CK.int IntKind.i64, CK.int IntKind.i64, CK.int IntKind.i64, CK.int IntKind.i64, CK.int IntKind.i64, CK.int IntKind.i64,
            CK.int IntKind.i64, CK.int IntKind.i64, CK.int IntKind.i64, CK.int IntKind.i64, CK.bool, CK.int IntKind.i64, CK.bool, CK.int IntKind.i64, CK.int IntKind.i64, CK.int IntKind.i64,
            CK.int IntKind.i64, CK.int IntKind.i64, CK.bool]
          (expand_1 c0 c1 c2 c3 c4 c5 c6 c7 c8 c9 c10 c11 c12 c13 c14 c15)))]) :=
  Runs.of (ps := (expand_needs c0 c1 c2 c3 c4 c5 c6 c7 c8 c9 c10 c11 c12 c13 c14 c15)) (by kernel_rfl) (by kernel_rfl) hNeeds
noncomputable def expand_out : List Pm → Lss → Option CRes
  | [.i c0, .i c1, .i c2, .i c3, .i c4, .i c5, .i c6, .i c7, .i c8, .i c9, .i c10, .i c11, .i c12, .i c13, .i c14, .i c15], [] => some ⟨SV.tup [(false, [SC.wh 8135]), (false, [SC.int IntKind.i64 (SI.v (chk c0 c1 c2 c3 c4 c5 c6 c7 c8 c9 c10 c11 c12 c13 c14 c15))])],
    [(8135,
      Obj.row false 44 22
        (RowC.lst 8134
          [CK.int IntKind.i64, CK.int IntKind.i64, CK.int IntKind.i64, CK.int IntKind.i64, CK.int IntKind.i64, CK.int IntKind.i64, CK.int IntKind.i64, CK.int IntKind.i64, CK.int IntKind.i64,
            CK.int IntKind.i64, CK.int IntKind.i64, CK.int IntKind.i64, CK.int IntKind.i64, CK.bool, CK.int IntKind.i64, CK.bool, CK.int IntKind.i64, CK.int IntKind.i64, CK.int IntKind.i64,
            CK.int IntKind.i64, CK.int IntKind.i64, CK.bool]
          (expR c0 c1 c2 c3 c4 c5 c6 c7 c8 c9 c10 c11 c12 c13 c14 c15)))],
    [], [], 8136⟩
  | _, _ => none
theorem expand_turned (c0 c1 c2 c3 c4 c5 c6 c7 c8 c9 c10 c11 c12 c13 c14 c15 : Int) : Runs (runF (sums K_peckm) L_peck 16) (expand_tpl.args [.i c0, .i c1, .i c2, .i c3, .i c4, .i c5, .i c6, .i c7, .i c8, .i c9, .i c10, .i c11, .i c12, .i c13, .i c14, .i c15]) (expand_tpl.memo [.i c0, .i c1, .i c2, .i c3, .i c4, .i c5, .i c6, .i c7, .i c8, .i c9, .i c10, .i c11, .i c12, .i c13, .i c14, .i c15] []) expand_tpl.n (SV.tup [(false, [SC.wh 8135]), (false, [SC.int IntKind.i64 (SI.v (chk c0 c1 c2 c3 c4 c5 c6 c7 c8 c9 c10 c11 c12 c13 c14 c15))])])
    ([(8135,
      Obj.row false 44 22
        (RowC.lst 8134
          [CK.int IntKind.i64, CK.int IntKind.i64, CK.int IntKind.i64, CK.int IntKind.i64, CK.int IntKind.i64, CK.int IntKind.i64, CK.int IntKind.i64, CK.int IntKind.i64, CK.int IntKind.i64,
            CK.int IntKind.i64, CK.int IntKind.i64, CK.int IntKind.i64, CK.int IntKind.i64, CK.bool, CK.int IntKind.i64, CK.bool, CK.int IntKind.i64, CK.int IntKind.i64, CK.int IntKind.i64,
            CK.int IntKind.i64, CK.int IntKind.i64, CK.bool]
          (expR c0 c1 c2 c3 c4 c5 c6 c7 c8 c9 c10 c11 c12 c13 c14 c15)))]) :=
  (expand_runs c0 c1 c2 c3 c4 c5 c6 c7 c8 c9 c10 c11 c12 c13 c14 c15 (fun p hp => expand_need p hp)).to (by first | rfl | (simp only [expand_0_eq, expand_1_eq])) (by first | rfl | (simp only [expand_0_eq, expand_1_eq]))
theorem expand_ok : FOk Try.prog 16 (tplS expand_tpl expand_out) := by
  refine tplS_ok (runF_ok known_peckm 16) fun ps ls r hr hn _ => ?_
  unfold expand_out at hr
  split at hr
  · cases hr; exact ⟨_, expand_turned _ _ _ _ _ _ _ _ _ _ _ _ _ _ _ _, fun _ => rfl⟩
  · cases hr
noncomputable def K_expand : List (Nat × Summ) := (16, tplS expand_tpl expand_out) :: K_peckm
theorem known_expand : Known Try.prog (sums K_expand) L_peck := known_cons known_peckm expand_ok
end Go.Proofs.Ytgimheibnpgphaa
