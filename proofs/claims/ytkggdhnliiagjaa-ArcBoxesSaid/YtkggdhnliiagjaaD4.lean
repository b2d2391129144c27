/-
  ARCS, plain laws: Check. Conditions: none.
-/
import Derived.Test.YtkggdhnliiagjaaD3
set_option linter.all false
namespace Go.Proofs.Ytkggdhnliiagjaa
open Go.SX Go.RowKit
theorem fit_same (a b c d : Int) (e : Bool) : (decide (vinner_0 a b a b < 64) || decide (vinner_0 c d c d < 64) || !similar_0 (vinner_0 a b a b) (vinner_0 c d c d) || e && !(a == c && b == d) || !e && aligned_0 a b c d) = !fit_0 a b c d e := by
  have hx : isI (vinner_0 a b a b) := wrap_isI _
  have hy : isI (vinner_0 c d c d) := wrap_isI _
  unfold fit_0
  have e0 : fit_s0 a b c d = if vinner_0 c d c d < vinner_0 a b a b then vinner_0 c d c d else vinner_0 a b a b := by
    unfold fit_s0
    by_cases g : vinner_0 a b a b > vinner_0 c d c d
    · rw [decide_eq_true g, cond_true, if_pos g]
    · rw [decide_eq_false g, cond_false, if_neg g]
  have e1 : fit_s1 a b c d = similar_s0 (vinner_0 a b a b) (vinner_0 c d c d) := by
    unfold fit_s1 similar_s0
    rw [e0]
    by_cases g : vinner_0 a b a b > vinner_0 c d c d
    · rw [decide_eq_true g, cond_true, if_neg (show ¬ vinner_0 c d c d > vinner_0 a b a b by omega)]
    · rw [decide_eq_false g, cond_false]
      by_cases g2 : vinner_0 c d c d > vinner_0 a b a b
      · rw [if_pos g2]
      · rw [if_neg g2, show vinner_0 c d c d = vinner_0 a b a b by omega]
  have hm : isI (if vinner_0 c d c d < vinner_0 a b a b then vinner_0 c d c d else vinner_0 a b a b) := by split <;> assumption
  have hs : isI (similar_s0 (vinner_0 a b a b) (vinner_0 c d c d)) := wrap_isI _
  have e2 : (decide (fit_s1 a b c d > 0) && decide (rcmp_0 (fit_s1 a b c d) (fit_s1 a b c d) 64 (fit_s0 a b c d) > 0)) = !similar_0 (vinner_0 a b a b) (vinner_0 c d c d) := by
    unfold similar_0 similar_s1
    rw [e1, e0, rcmp_eq _ _ _ _ hs hs (by decide) hm, wcmp_eq _ _ _ _ hs hs (by decide) hm]
    generalize cmpI _ _ = k
    generalize similar_s0 _ _ = s
    rw [Bool.eq_iff_iff]
    simp
  have e3 : decide (fit_s0 a b c d < 64) = (decide (vinner_0 a b a b < 64) || decide (vinner_0 c d c d < 64)) := by
    rw [e0, Bool.eq_iff_iff]
    simp only [Bool.or_eq_true, decide_eq_true_eq]
    split <;> omega
  have e4 : aligned_0 a b c d = (vcross_0 a b c d == 0 && decide (vinner_0 a b c d > 0)) := rfl
  rw [e2, e3, e4]
  generalize (decide (vinner_0 a b a b < 64) || decide (vinner_0 c d c d < 64)) = u
  generalize similar_0 _ _ = v
  generalize (vcross_0 a b c d == 0 && decide (vinner_0 a b c d > 0)) = w
  generalize (a == c && b == d) = z
  revert u v w z e
  decide
theorem check_same (k f0 f1 f2 t0 t1 t2 p c0 c1 c2 d : Int) (fu : Bool) : acheck_0 k f0 f1 f2 t0 t1 t2 p c0 c1 c2 d fu = rcheck_0 k f0 f1 f2 t0 t1 t2 p c0 c1 c2 d fu := by
  unfold acheck_0 rcheck_0
  rw [fit_same, plane_eq]
  rfl
end Go.Proofs.Ytkggdhnliiagjaa
