/-
  DISTANCES, plain law: an element and its reverse are at the same distances. Conditions: bounds.
-/
import Derived.Test.YthgiaoidekdpfaaD4
set_option linter.all false
namespace Go.Proofs.Ythgiaoidekdpfaa
open Go.SX Go.RowKit
theorem isB_rev {a0 a1 a2 a3 a4 a5 a6 : Int} {a7 : Bool} {y z : Int} (h6 : a6 = 0 ∨ a6 = 1 ∨ a6 = -1) : isB a2 a3 a0 a1 a4 a5 (IntKind.i64.wrap (0 - a6)) a7 y z = isB a0 a1 a2 a3 a4 a5 a6 a7 y z := by
  rcases h6 with rfl | rfl | rfl
  · rfl
  · rfl
  · rfl
theorem dv1_2 (a b a4 a5 y z d : Int) : dv1 a b a4 a5 y z d = dv2 a b a4 a5 y z d := rfl
theorem sub_bd {m x y : Int} (hx : bd m x) (hy : bd m y) : bd (2 * m) (x - y) := ⟨by omega, by omega⟩
theorem isS_rev {a0 a1 a2 a3 a6 y z : Int} (c0 : bd 10000000 a0) (c1 : bd 10000000 a1) (c2 : bd 10000000 a2) (c3 : bd 10000000 a3) (hy : bd 10000000 y) (hz : bd 10000000 z) (h6 : a6 = 0 ∨ a6 = 1 ∨ a6 = -1) :
    isS a2 a3 a0 a1 (IntKind.i64.wrap (0 - a6)) y z = isS a0 a1 a2 a3 a6 y z := by
  have e6 : (IntKind.i64.wrap (0 - a6) == 0) = (a6 == 0) := by rcases h6 with rfl | rfl | rfl <;> rfl
  unfold isS
  rw [e6]
  simp only [minus_eq' c0 c2, minus_eq' c1 c3, minus_eq' c2 c0, minus_eq' c3 c1, minus_eq' hy c0, minus_eq' hz c1, minus_eq' hy c2, minus_eq' hz c3]
  have b1 := sub_b9 c0 c2
  have b2 := sub_b9 c1 c3
  have b3 := sub_b9 c2 c0
  have b4 := sub_b9 c3 c1
  have b5 := sub_b9 hy c0
  have b6 := sub_b9 hz c1
  have b7 := sub_b9 hy c2
  have b8 := sub_b9 hz c3
  rw [vinner_eq b7 b8 b1 b2, vinner_eq b1 b2 b1 b2, vinner_eq b5 b6 b3 b4, vinner_eq b3 b4 b3 b4]
  have e1 : (y - a2) * (a0 - a2) + (z - a3) * (a1 - a3) = ((a2 - a0) * (a2 - a0) + (a3 - a1) * (a3 - a1)) - ((y - a0) * (a2 - a0) + (z - a1) * (a3 - a1)) := by grind
  have e2 : (a0 - a2) * (a0 - a2) + (a1 - a3) * (a1 - a3) = (a2 - a0) * (a2 - a0) + (a3 - a1) * (a3 - a1) := by grind
  rw [e1, e2]
  generalize (a2 - a0) * (a2 - a0) + (a3 - a1) * (a3 - a1) = T
  generalize (y - a0) * (a2 - a0) + (z - a1) * (a3 - a1) = I
  rw [show decide (T - I > 0) = decide (I < T) from decide_eq_decide.2 (by omega), show decide (T - I < T) = decide (I > 0) from decide_eq_decide.2 (by omega), Bool.and_assoc, Bool.and_assoc, Bool.and_comm (decide (I < T))]
theorem dv3_rev {a0 a1 a2 a3 y z d : Int} (c0 : bd 10000000 a0) (c1 : bd 10000000 a1) (c2 : bd 10000000 a2) (c3 : bd 10000000 a3) (hy : bd 10000000 y) (hz : bd 10000000 z) : dv3 a2 a3 a0 a1 y z d = dv3 a0 a1 a2 a3 y z d := by
  unfold dv3
  rw [wcmp_eq _ _ _ _ (vcI _ _ _ _) (vcI _ _ _ _) (wrap_isI _) (viI _ _ _ _), wcmp_eq _ _ _ _ (vcI _ _ _ _) (vcI _ _ _ _) (wrap_isI _) (viI _ _ _ _)]
  simp only [minus_eq' c0 c2, minus_eq' c1 c3, minus_eq' c2 c0, minus_eq' c3 c1, minus_eq' hy c0, minus_eq' hz c1, minus_eq' hy c2, minus_eq' hz c3]
  have b1 := sub_b9 c0 c2
  have b2 := sub_b9 c1 c3
  have b3 := sub_b9 c2 c0
  have b4 := sub_b9 c3 c1
  have b5 := sub_b9 hy c0
  have b6 := sub_b9 hz c1
  have b7 := sub_b9 hy c2
  have b8 := sub_b9 hz c3
  rw [vinner_eq b1 b2 b1 b2, vinner_eq b3 b4 b3 b4, vcross_eq b1 b2 b7 b8, vcross_eq b3 b4 b5 b6]
  have e2 : (a0 - a2) * (a0 - a2) + (a1 - a3) * (a1 - a3) = (a2 - a0) * (a2 - a0) + (a3 - a1) * (a3 - a1) := by grind
  have e3 : (a0 - a2) * (z - a3) - (a1 - a3) * (y - a2) = -((a2 - a0) * (z - a1) - (a3 - a1) * (y - a0)) := by grind
  rw [e2, e3, Int.neg_mul_neg]
theorem dv4_rev (a0 a1 a2 a3 y z d : Int) : dv4 a2 a3 a0 a1 y z d = dv4 a0 a1 a2 a3 y z d := by
  unfold dv4
  generalize vinner_0 (minus_0 y a0) (minus_0 z a1) (minus_0 y a0) (minus_0 z a1) = p
  generalize vinner_0 (minus_0 y a2) (minus_0 z a3) (minus_0 y a2) (minus_0 z a3) = q
  have : (if p < q then p else q) = if q < p then q else p := by split <;> split <;> omega
  rw [this]
/-- The reverse has the same distances. -/
theorem dst_rev (C : Int → Bool) {a0 a1 a2 a3 a4 a5 a6 : Int} {a7 : Bool} {y z d : Int} (c0 : bd 10000000 a0) (c1 : bd 10000000 a1) (c2 : bd 10000000 a2) (c3 : bd 10000000 a3) (hy : bd 10000000 y) (hz : bd 10000000 z) (h6 : a6 = 0 ∨ a6 = 1 ∨ a6 = -1) :
    dstC C a2 a3 a0 a1 a4 a5 (IntKind.i64.wrap (0 - a6)) a7 y z d = dstC C a0 a1 a2 a3 a4 a5 a6 a7 y z d := by
  have e1 : dv1 a2 a3 a4 a5 y z d = dv2 a2 a3 a4 a5 y z d := rfl
  have e2 : dv2 a0 a1 a4 a5 y z d = dv1 a0 a1 a4 a5 y z d := rfl
  unfold dstC
  rw [isB_rev h6, isS_rev c0 c1 c2 c3 hy hz h6, dv3_rev c0 c1 c2 c3 hy hz, dv4_rev, e1, e2]
  generalize C (dv1 a0 a1 a4 a5 y z d) = p
  generalize C (dv2 a2 a3 a4 a5 y z d) = q
  cases p <;> cases q <;> rfl
end Go.Proofs.Ythgiaoidekdpfaa
