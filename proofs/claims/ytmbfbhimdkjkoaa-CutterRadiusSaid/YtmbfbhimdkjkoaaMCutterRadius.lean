/-
  CutterRadius: for every input the law returns true; each argument reads afterwards as it read before. Conditions: none.
-/
import Derived.Test.YtmbfbhimdkjkoaaM87ea2def
import Derived.Test.YtmbfbhimdkjkoaaM4b706dde
import Derived.ProofKit
import Derived.Carry
import Derived.ChangeOld
import Derived.ChangeArms
import Derived.DataElems
set_option linter.all false
namespace Go.Proofs.Ytmbfbhimdkjkoaa
open Go.SX Go.RowKit
theorem nrm_nrm (x : List GC) : nrm (nrm x) = nrm x := by kernel_rfl
theorem nx0 (x : List GC) : xi (nrm x) 0 = xi x 0 := by kernel_rfl
theorem nx1 (x : List GC) : xi (nrm x) 1 = xi x 1 := by kernel_rfl
theorem nx2 (x : List GC) : xi (nrm x) 2 = xi x 2 := by kernel_rfl
theorem nx3 (x : List GC) : xi (nrm x) 3 = xi x 3 := by kernel_rfl
theorem nx4 (x : List GC) : xi (nrm x) 4 = xi x 4 := by kernel_rfl
theorem nx5 (x : List GC) : xi (nrm x) 5 = xi x 5 := by kernel_rfl
theorem nx6 (x : List GC) : xi (nrm x) 6 = xi x 6 := by kernel_rfl
theorem nx7 (x : List GC) : xi (nrm x) 7 = xi x 7 := by kernel_rfl
theorem nx8 (x : List GC) : xi (nrm x) 8 = xi x 8 := by kernel_rfl
theorem nx9 (x : List GC) : xi (nrm x) 9 = xi x 9 := by kernel_rfl
theorem nx10 (x : List GC) : xi (nrm x) 10 = xi x 10 := by kernel_rfl
theorem nx11 (x : List GC) : xi (nrm x) 11 = xi x 11 := by kernel_rfl
theorem nx12 (x : List GC) : xi (nrm x) 12 = xi x 12 := by kernel_rfl
theorem nx13 (x : List GC) : xb (nrm x) 13 = xb x 13 := by kernel_rfl
theorem nx14 (x : List GC) : xi (nrm x) 14 = xi x 14 := by kernel_rfl
theorem nx15 (x : List GC) : xb (nrm x) 15 = xb x 15 := by kernel_rfl
theorem nx16 (x : List GC) : xi (nrm x) 16 = xi x 16 := by kernel_rfl
theorem nx17 (x : List GC) : xi (nrm x) 17 = xi x 17 := by kernel_rfl
theorem nx18 (x : List GC) : xi (nrm x) 18 = xi x 18 := by kernel_rfl
theorem nx19 (x : List GC) : xi (nrm x) 19 = xi x 19 := by kernel_rfl
theorem nx20 (x : List GC) : xi (nrm x) 20 = xi x 20 := by kernel_rfl
theorem nx21 (x : List GC) : xb (nrm x) 21 = xb x 21 := by kernel_rfl
/-- Is an item refused at once? -/
noncomputable def inv (x : List GC) (s : St) : Bool := !cvalid_0 (nrm x) || s.en || cmotion_0 (xi x 0) && s.mo && !(xi x 2 == s.la0 && (xi x 3 == s.la1 && xi x 4 == s.la2))
/-- What a valid item leaves behind in any case. -/
noncomputable def mvd (x : List GC) (s : St) : St := { s with en := xi x 0 == 14, mo := cmotion_0 (xi x 0) || s.mo, la0 := bif cmotion_0 (xi x 0) then xi x 5 else s.la0, la1 := bif cmotion_0 (xi x 0) then xi x 6 else s.la1, la2 := bif cmotion_0 (xi x 0) then xi x 7 else s.la2 }

/-- The ends of an item's offset: the error, the near end, the far one. -/
noncomputable def nE (l x : List GC) : Int := oends_4 (flat_0 (xi l 8) (xi x 2) (xi x 3) (xi x 4)) (flat_1 (xi l 8) (xi x 2) (xi x 3) (xi x 4)) (flat_0 (xi l 8) (xi x 5) (xi x 6) (xi x 7)) (flat_1 (xi l 8) (xi x 5) (xi x 6) (xi x 7)) (bif xi x 0 == 3 then flat_0 (xi l 8) (xi x 9) (xi x 10) (xi x 11) else 0) (bif xi x 0 == 3 then flat_1 (xi l 8) (xi x 9) (xi x 10) (xi x 11) else 0) (bif xi x 0 == 3 then xi x 12 else 0) (IntKind.i64.wrap (xi l 16 * xi l 17))
noncomputable def n0 (l x : List GC) : Int := oends_0 (flat_0 (xi l 8) (xi x 2) (xi x 3) (xi x 4)) (flat_1 (xi l 8) (xi x 2) (xi x 3) (xi x 4)) (flat_0 (xi l 8) (xi x 5) (xi x 6) (xi x 7)) (flat_1 (xi l 8) (xi x 5) (xi x 6) (xi x 7)) (bif xi x 0 == 3 then flat_0 (xi l 8) (xi x 9) (xi x 10) (xi x 11) else 0) (bif xi x 0 == 3 then flat_1 (xi l 8) (xi x 9) (xi x 10) (xi x 11) else 0) (bif xi x 0 == 3 then xi x 12 else 0) (IntKind.i64.wrap (xi l 16 * xi l 17))
noncomputable def n1 (l x : List GC) : Int := oends_1 (flat_0 (xi l 8) (xi x 2) (xi x 3) (xi x 4)) (flat_1 (xi l 8) (xi x 2) (xi x 3) (xi x 4)) (flat_0 (xi l 8) (xi x 5) (xi x 6) (xi x 7)) (flat_1 (xi l 8) (xi x 5) (xi x 6) (xi x 7)) (bif xi x 0 == 3 then flat_0 (xi l 8) (xi x 9) (xi x 10) (xi x 11) else 0) (bif xi x 0 == 3 then flat_1 (xi l 8) (xi x 9) (xi x 10) (xi x 11) else 0) (bif xi x 0 == 3 then xi x 12 else 0) (IntKind.i64.wrap (xi l 16 * xi l 17))
noncomputable def f0 (l x : List GC) : Int := oends_2 (flat_0 (xi l 8) (xi x 2) (xi x 3) (xi x 4)) (flat_1 (xi l 8) (xi x 2) (xi x 3) (xi x 4)) (flat_0 (xi l 8) (xi x 5) (xi x 6) (xi x 7)) (flat_1 (xi l 8) (xi x 5) (xi x 6) (xi x 7)) (bif xi x 0 == 3 then flat_0 (xi l 8) (xi x 9) (xi x 10) (xi x 11) else 0) (bif xi x 0 == 3 then flat_1 (xi l 8) (xi x 9) (xi x 10) (xi x 11) else 0) (bif xi x 0 == 3 then xi x 12 else 0) (IntKind.i64.wrap (xi l 16 * xi l 17))
noncomputable def f1 (l x : List GC) : Int := oends_3 (flat_0 (xi l 8) (xi x 2) (xi x 3) (xi x 4)) (flat_1 (xi l 8) (xi x 2) (xi x 3) (xi x 4)) (flat_0 (xi l 8) (xi x 5) (xi x 6) (xi x 7)) (flat_1 (xi l 8) (xi x 5) (xi x 6) (xi x 7)) (bif xi x 0 == 3 then flat_0 (xi l 8) (xi x 9) (xi x 10) (xi x 11) else 0) (bif xi x 0 == 3 then flat_1 (xi l 8) (xi x 9) (xi x 10) (xi x 11) else 0) (bif xi x 0 == 3 then xi x 12 else 0) (IntKind.i64.wrap (xi l 16 * xi l 17))
/-- Where an item's offset leaves that of the one before. -/
noncomputable def trE (l y x : List GC) : Int := trim_2 (flat_0 (xi l 8) (xi y 2) (xi y 3) (xi y 4)) (flat_1 (xi l 8) (xi y 2) (xi y 3) (xi y 4)) (flat_0 (xi l 8) (xi y 5) (xi y 6) (xi y 7)) (flat_1 (xi l 8) (xi y 5) (xi y 6) (xi y 7)) (bif xi y 0 == 3 then flat_0 (xi l 8) (xi y 9) (xi y 10) (xi y 11) else 0) (bif xi y 0 == 3 then flat_1 (xi l 8) (xi y 9) (xi y 10) (xi y 11) else 0) (bif xi y 0 == 3 then xi y 12 else 0) (xi y 0 == 3 && xb y 13) (flat_0 (xi l 8) (xi x 2) (xi x 3) (xi x 4)) (flat_1 (xi l 8) (xi x 2) (xi x 3) (xi x 4)) (flat_0 (xi l 8) (xi x 5) (xi x 6) (xi x 7)) (flat_1 (xi l 8) (xi x 5) (xi x 6) (xi x 7)) (bif xi x 0 == 3 then flat_0 (xi l 8) (xi x 9) (xi x 10) (xi x 11) else 0) (bif xi x 0 == 3 then flat_1 (xi l 8) (xi x 9) (xi x 10) (xi x 11) else 0) (bif xi x 0 == 3 then xi x 12 else 0) (xi x 0 == 3 && xb x 13) (IntKind.i64.wrap (xi l 16 * xi l 17))
noncomputable def tr0 (l y x : List GC) : Int := trim_0 (flat_0 (xi l 8) (xi y 2) (xi y 3) (xi y 4)) (flat_1 (xi l 8) (xi y 2) (xi y 3) (xi y 4)) (flat_0 (xi l 8) (xi y 5) (xi y 6) (xi y 7)) (flat_1 (xi l 8) (xi y 5) (xi y 6) (xi y 7)) (bif xi y 0 == 3 then flat_0 (xi l 8) (xi y 9) (xi y 10) (xi y 11) else 0) (bif xi y 0 == 3 then flat_1 (xi l 8) (xi y 9) (xi y 10) (xi y 11) else 0) (bif xi y 0 == 3 then xi y 12 else 0) (xi y 0 == 3 && xb y 13) (flat_0 (xi l 8) (xi x 2) (xi x 3) (xi x 4)) (flat_1 (xi l 8) (xi x 2) (xi x 3) (xi x 4)) (flat_0 (xi l 8) (xi x 5) (xi x 6) (xi x 7)) (flat_1 (xi l 8) (xi x 5) (xi x 6) (xi x 7)) (bif xi x 0 == 3 then flat_0 (xi l 8) (xi x 9) (xi x 10) (xi x 11) else 0) (bif xi x 0 == 3 then flat_1 (xi l 8) (xi x 9) (xi x 10) (xi x 11) else 0) (bif xi x 0 == 3 then xi x 12 else 0) (xi x 0 == 3 && xb x 13) (IntKind.i64.wrap (xi l 16 * xi l 17))
noncomputable def tr1 (l y x : List GC) : Int := trim_1 (flat_0 (xi l 8) (xi y 2) (xi y 3) (xi y 4)) (flat_1 (xi l 8) (xi y 2) (xi y 3) (xi y 4)) (flat_0 (xi l 8) (xi y 5) (xi y 6) (xi y 7)) (flat_1 (xi l 8) (xi y 5) (xi y 6) (xi y 7)) (bif xi y 0 == 3 then flat_0 (xi l 8) (xi y 9) (xi y 10) (xi y 11) else 0) (bif xi y 0 == 3 then flat_1 (xi l 8) (xi y 9) (xi y 10) (xi y 11) else 0) (bif xi y 0 == 3 then xi y 12 else 0) (xi y 0 == 3 && xb y 13) (flat_0 (xi l 8) (xi x 2) (xi x 3) (xi x 4)) (flat_1 (xi l 8) (xi x 2) (xi x 3) (xi x 4)) (flat_0 (xi l 8) (xi x 5) (xi x 6) (xi x 7)) (flat_1 (xi l 8) (xi x 5) (xi x 6) (xi x 7)) (bif xi x 0 == 3 then flat_0 (xi l 8) (xi x 9) (xi x 10) (xi x 11) else 0) (bif xi x 0 == 3 then flat_1 (xi l 8) (xi x 9) (xi x 10) (xi x 11) else 0) (bif xi x 0 == 3 then xi x 12 else 0) (xi x 0 == 3 && xb x 13) (IntKind.i64.wrap (xi l 16 * xi l 17))
/-- The corner's kind. -/
noncomputable def kd (l y x : List GC) : Int := bif IntKind.i64.wrap (xi l 16 * xi l 17) == 0 then 0 else ocorner_0 (atang_0 (xi y 0) (xi y 2) (xi y 3) (xi y 4) (xi y 5) (xi y 6) (xi y 7) (xi y 8) (xi y 9) (xi y 10) (xi y 11) (xi y 12) true) (atang_1 (xi y 0) (xi y 2) (xi y 3) (xi y 4) (xi y 5) (xi y 6) (xi y 7) (xi y 8) (xi y 9) (xi y 10) (xi y 11) (xi y 12) true) (atang_0 (xi x 0) (xi x 2) (xi x 3) (xi x 4) (xi x 5) (xi x 6) (xi x 7) (xi x 8) (xi x 9) (xi x 10) (xi x 11) (xi x 12) false) (atang_1 (xi x 0) (xi x 2) (xi x 3) (xi x 4) (xi x 5) (xi x 6) (xi x 7) (xi x 8) (xi x 9) (xi x 10) (xi x 11) (xi x 12) false) (xi l 16)
/-- The last element's offset, up to a point. -/
noncomputable def shE (u w : Int) (tm : Bool) (s : St) : Int := shift_0 u w tm (nrm s.l) (nrm s.y) s.a0 s.a1 s.tr
noncomputable def shO (u w : Int) (tm : Bool) (s : St) : List (List Int) := shift_47 u w tm (nrm s.l) (nrm s.y) s.a0 s.a1 s.tr []
/-- Does a motion stay in its place in the plane, or is it none? -/
noncomputable def still (x l : List GC) : Bool := !cmotion_0 (xi x 0) || !(xb x 13 || !(flat_0 (xi l 8) (xi x 2) (xi x 3) (xi x 4) == flat_0 (xi l 8) (xi x 5) (xi x 6) (xi x 7) && flat_1 (xi l 8) (xi x 2) (xi x 3) (xi x 4) == flat_1 (xi l 8) (xi x 5) (xi x 6) (xi x 7)))
noncomputable def odd (x l : List GC) : Bool := cmotion_0 (xi x 0) && (xi x 8 != xi l 8 || xi x 16 != xi l 16 || xi x 17 != xi l 17)
noncomputable def three (x : List GC) : Bool := xi x 0 == 1 || xi x 0 == 11 || xi x 0 == 14
theorem cond_16 {c : Bool} (h : (bif c then (16 : Int) else 0) = 0) : c = false := by
  cases c
  · rfl
  · cases h
theorem shift_at (u w : Int) (tm : Bool) (l y : List GC) (a0 a1 : Int) (tr : Bool) (h : shift_0 u w tm l y a0 a1 tr = 0) : shift_45 u w tm l y a0 a1 tr = u ∧ shift_46 u w tm l y a0 a1 tr = w := by
  unfold shift_0 at h
  unfold shift_45 shift_46
  generalize (xi y 0 == 2) = b1 at h ⊢
  generalize ((tm || tr) && decide (shift_s0 u w l y a0 a1 ≤ 0)) = b2 at h ⊢
  generalize ((tm || tr) && !xb y 13 && !within_0 u w tm (nrm l) (nrm y) a0 a1 tr) = b3 at h ⊢
  cases b1 <;> cases b2 <;> cases b3 <;> first
    | exact ⟨rfl, rfl⟩
    | exact absurd h (by show ¬ (16 : Int) = 0; decide)
    | (simp only [cond_true, cond_false] at h ⊢; rw [cond_16 h]; exact ⟨rfl, rfl⟩)
theorem push_plain (x : List GC) (s : St) (he : s.er = 0) (hl : nrm s.l = s.l) (hy : nrm s.y = s.y) (hc : s.cl = false) (hi : inv x s = false) (ho : s.op = false) (hm : (cmotion_0 (xi x 0) && xi x 16 != 0) = false) :
    pushS x s = mvd x s ∧ pushO x s = [toRow x] := by
  unfold inv at hi
  have e2 : (s.er == 0) = true := by rw [he]; rfl
  refine ⟨?_, ?_⟩
  · unfold pushS mvd
    simp only [begin_0, begin_1, begin_2, begin_3, begin_4, begin_5, begin_6, begin_7, begin_8, begin_9, begin_10, begin_11, begin_12, begin_13, begin_14, begin_15, begin_16, begin_17, begin_18, begin_19, begin_20, begin_21, begin_22, begin_23, begin_24, begin_25, begin_26, begin_27, begin_28, begin_29, begin_30, begin_31, begin_32, begin_33, begin_34, begin_35, begin_36, begin_37, begin_38, begin_39, begin_40, begin_41, begin_42, begin_43, begin_44, begin_45, begin_47, begin_48, begin_49, enter_s0, enter_0, enter_23, enter_24, enter_25, enter_26, enter_27, enter_28, enter_29, enter_30, enter_31, enter_32, enter_33, enter_34, enter_35, enter_36, enter_37, enter_38, enter_39, enter_40, enter_41, enter_42, enter_43, enter_44, enter_s1, enter_s2, enter_s3, enter_45, enter_46, enter_s4, enter_s5, enter_47, enter_48, turn_s0, turn_s1, turn_s2, turn_s3, turn_s4, turn_s5, turn_s8, turn_s9, turn_s10, turn_s11, turn_s12, turn_0, turn_23, turn_24, turn_25, turn_26, turn_27, turn_28, turn_29, turn_30, turn_31, turn_32, turn_33, turn_34, turn_35, turn_36, turn_37, turn_38, turn_39, turn_40, turn_41, turn_42, turn_43, turn_44, turn_s13, turn_s14, turn_s15, turn_s16, turn_s17, turn_45, turn_s18, turn_46, turn_47, turn_s19, turn_48, turn_49, finish_s0, finish_s1, finish_s2, finish_s3, finish_s4, finish_0, finish_1, finish_2, finish_3, finish_4, finish_5, finish_6, finish_7, finish_8, finish_9, finish_10, finish_11, finish_12, finish_13, finish_14, finish_15, finish_16, finish_17, finish_18, finish_19, finish_20, finish_21, finish_22, finish_23, finish_24, finish_25, finish_26, finish_27, finish_28, finish_29, finish_30, finish_31, finish_32, finish_33, finish_34, finish_35, finish_36, finish_37, finish_38, finish_39, finish_40, finish_41, finish_42, finish_43, finish_44, finish_s5, finish_s6, finish_45, finish_46, finish_47, finish_48, finish_49, finish_50, inner_0, inner_23, inner_24, inner_25, inner_26, inner_27, inner_28, inner_29, inner_30, inner_31, inner_32, inner_33, inner_34, inner_35, inner_36, inner_37, inner_38, inner_39, inner_40, inner_41, inner_42, inner_43, inner_44, inner_45, inner_46, inner_47, inner_48, inner_49, inner_s0, inner_s1, inner_s2, inner_s3, take_0, take_1, take_2, take_3, take_4, take_5, take_6, take_7, take_8, take_9, take_10, take_11, take_12, take_13, take_14, take_15, take_16, take_17, take_18, take_19, take_20, take_21, take_22, take_23, take_24, take_25, take_26, take_27, take_28, take_29, take_30, take_31, take_32, take_33, take_34, take_35, take_36, take_37, take_38, take_39, take_40, take_41, take_42, take_43, take_44, take_45, take_46, take_47, take_48, take_49, take_50, take_51, take_52, take_53, take_54, take_55, take_s0, take_s1, push_0, push_1, push_2, push_3, push_4, push_5, push_6, push_7, push_8, push_9, push_10, push_11, push_12, push_13, push_14, push_15, push_16, push_17, push_18, push_19, push_20, push_21, push_22, push_23, push_24, push_25, push_26, push_27, push_28, push_29, push_30, push_31, push_32, push_33, push_34, push_35, push_36, push_37, push_38, push_39, push_40, push_41, push_42, push_43, push_44, push_45, push_46, push_47, push_48, push_49, push_50, push_51, push_52, push_53, push_54, push_55, push_56, v9_c3, v9_c4, v9_c5, v9_c6, v9_c0, v9_c1, v9_c2, v10_c1, nrm_nrm, nx0, nx1, nx2, nx3, nx4, nx5, nx6, nx7, nx8, nx9, nx10, nx11, nx12, nx13, nx14, nx15, nx16, nx17, nx18, nx19, nx20, nx21, e2, hc, hi, cond_true, cond_false, Bool.not_false, Bool.not_true, Bool.true_and, Bool.false_and, Bool.and_false, Bool.and_true, Bool.or_false, Bool.false_or, beq_self_eq_true, bne_self_eq_false, ho, hm]
    simp only [he]
    try rw [← hl]
    try rw [← hy]
    all_goals rfl
  · unfold pushO
    simp only [begin_0, begin_1, begin_2, begin_3, begin_4, begin_5, begin_6, begin_7, begin_8, begin_9, begin_10, begin_11, begin_12, begin_13, begin_14, begin_15, begin_16, begin_17, begin_18, begin_19, begin_20, begin_21, begin_22, begin_23, begin_24, begin_25, begin_26, begin_27, begin_28, begin_29, begin_30, begin_31, begin_32, begin_33, begin_34, begin_35, begin_36, begin_37, begin_38, begin_39, begin_40, begin_41, begin_42, begin_43, begin_44, begin_45, begin_47, begin_48, begin_49, enter_s0, enter_0, enter_23, enter_24, enter_25, enter_26, enter_27, enter_28, enter_29, enter_30, enter_31, enter_32, enter_33, enter_34, enter_35, enter_36, enter_37, enter_38, enter_39, enter_40, enter_41, enter_42, enter_43, enter_44, enter_s1, enter_s2, enter_s3, enter_45, enter_46, enter_s4, enter_s5, enter_47, enter_48, turn_s0, turn_s1, turn_s2, turn_s3, turn_s4, turn_s5, turn_s8, turn_s9, turn_s10, turn_s11, turn_s12, turn_0, turn_23, turn_24, turn_25, turn_26, turn_27, turn_28, turn_29, turn_30, turn_31, turn_32, turn_33, turn_34, turn_35, turn_36, turn_37, turn_38, turn_39, turn_40, turn_41, turn_42, turn_43, turn_44, turn_s13, turn_s14, turn_s15, turn_s16, turn_s17, turn_45, turn_s18, turn_46, turn_47, turn_s19, turn_48, turn_49, finish_s0, finish_s1, finish_s2, finish_s3, finish_s4, finish_0, finish_1, finish_2, finish_3, finish_4, finish_5, finish_6, finish_7, finish_8, finish_9, finish_10, finish_11, finish_12, finish_13, finish_14, finish_15, finish_16, finish_17, finish_18, finish_19, finish_20, finish_21, finish_22, finish_23, finish_24, finish_25, finish_26, finish_27, finish_28, finish_29, finish_30, finish_31, finish_32, finish_33, finish_34, finish_35, finish_36, finish_37, finish_38, finish_39, finish_40, finish_41, finish_42, finish_43, finish_44, finish_s5, finish_s6, finish_45, finish_46, finish_47, finish_48, finish_49, finish_50, inner_0, inner_23, inner_24, inner_25, inner_26, inner_27, inner_28, inner_29, inner_30, inner_31, inner_32, inner_33, inner_34, inner_35, inner_36, inner_37, inner_38, inner_39, inner_40, inner_41, inner_42, inner_43, inner_44, inner_45, inner_46, inner_47, inner_48, inner_49, inner_s0, inner_s1, inner_s2, inner_s3, take_0, take_1, take_2, take_3, take_4, take_5, take_6, take_7, take_8, take_9, take_10, take_11, take_12, take_13, take_14, take_15, take_16, take_17, take_18, take_19, take_20, take_21, take_22, take_23, take_24, take_25, take_26, take_27, take_28, take_29, take_30, take_31, take_32, take_33, take_34, take_35, take_36, take_37, take_38, take_39, take_40, take_41, take_42, take_43, take_44, take_45, take_46, take_47, take_48, take_49, take_50, take_51, take_52, take_53, take_54, take_55, take_s0, take_s1, push_0, push_1, push_2, push_3, push_4, push_5, push_6, push_7, push_8, push_9, push_10, push_11, push_12, push_13, push_14, push_15, push_16, push_17, push_18, push_19, push_20, push_21, push_22, push_23, push_24, push_25, push_26, push_27, push_28, push_29, push_30, push_31, push_32, push_33, push_34, push_35, push_36, push_37, push_38, push_39, push_40, push_41, push_42, push_43, push_44, push_45, push_46, push_47, push_48, push_49, push_50, push_51, push_52, push_53, push_54, push_55, push_56, v9_c3, v9_c4, v9_c5, v9_c6, v9_c0, v9_c1, v9_c2, v10_c1, settled_45, nrm_nrm, nx0, nx1, nx2, nx3, nx4, nx5, nx6, nx7, nx8, nx9, nx10, nx11, nx12, nx13, nx14, nx15, nx16, nx17, nx18, nx19, nx20, nx21, e2, hc, hi, cond_true, cond_false, Bool.not_false, Bool.not_true, Bool.true_and, Bool.false_and, Bool.and_false, Bool.and_true, Bool.or_false, Bool.false_or, beq_self_eq_true, bne_self_eq_false, ho, hm]
    all_goals rfl
theorem push_begin (x : List GC) (s : St) (he : s.er = 0) (hl : nrm s.l = s.l) (hy : nrm s.y = s.y) (hc : s.cl = false) (hi : inv x s = false) (ho : s.op = false) (hm : (cmotion_0 (xi x 0) && xi x 16 != 0) = true) (hd : leads_0 (nrm x) (xi x 8) (xi x 17) = true) :
    pushS x s = { mvd x s with l := nrm x, y := zeroG, a0 := 0, a1 := 0, tr := false, op := true, C := [] } ∧ pushO x s = [] := by
  unfold inv at hi
  have e2 : (s.er == 0) = true := by rw [he]; rfl
  refine ⟨?_, ?_⟩
  · unfold pushS mvd
    simp only [begin_0, begin_1, begin_2, begin_3, begin_4, begin_5, begin_6, begin_7, begin_8, begin_9, begin_10, begin_11, begin_12, begin_13, begin_14, begin_15, begin_16, begin_17, begin_18, begin_19, begin_20, begin_21, begin_22, begin_23, begin_24, begin_25, begin_26, begin_27, begin_28, begin_29, begin_30, begin_31, begin_32, begin_33, begin_34, begin_35, begin_36, begin_37, begin_38, begin_39, begin_40, begin_41, begin_42, begin_43, begin_44, begin_45, begin_47, begin_48, begin_49, enter_s0, enter_0, enter_23, enter_24, enter_25, enter_26, enter_27, enter_28, enter_29, enter_30, enter_31, enter_32, enter_33, enter_34, enter_35, enter_36, enter_37, enter_38, enter_39, enter_40, enter_41, enter_42, enter_43, enter_44, enter_s1, enter_s2, enter_s3, enter_45, enter_46, enter_s4, enter_s5, enter_47, enter_48, turn_s0, turn_s1, turn_s2, turn_s3, turn_s4, turn_s5, turn_s8, turn_s9, turn_s10, turn_s11, turn_s12, turn_0, turn_23, turn_24, turn_25, turn_26, turn_27, turn_28, turn_29, turn_30, turn_31, turn_32, turn_33, turn_34, turn_35, turn_36, turn_37, turn_38, turn_39, turn_40, turn_41, turn_42, turn_43, turn_44, turn_s13, turn_s14, turn_s15, turn_s16, turn_s17, turn_45, turn_s18, turn_46, turn_47, turn_s19, turn_48, turn_49, finish_s0, finish_s1, finish_s2, finish_s3, finish_s4, finish_0, finish_1, finish_2, finish_3, finish_4, finish_5, finish_6, finish_7, finish_8, finish_9, finish_10, finish_11, finish_12, finish_13, finish_14, finish_15, finish_16, finish_17, finish_18, finish_19, finish_20, finish_21, finish_22, finish_23, finish_24, finish_25, finish_26, finish_27, finish_28, finish_29, finish_30, finish_31, finish_32, finish_33, finish_34, finish_35, finish_36, finish_37, finish_38, finish_39, finish_40, finish_41, finish_42, finish_43, finish_44, finish_s5, finish_s6, finish_45, finish_46, finish_47, finish_48, finish_49, finish_50, inner_0, inner_23, inner_24, inner_25, inner_26, inner_27, inner_28, inner_29, inner_30, inner_31, inner_32, inner_33, inner_34, inner_35, inner_36, inner_37, inner_38, inner_39, inner_40, inner_41, inner_42, inner_43, inner_44, inner_45, inner_46, inner_47, inner_48, inner_49, inner_s0, inner_s1, inner_s2, inner_s3, take_0, take_1, take_2, take_3, take_4, take_5, take_6, take_7, take_8, take_9, take_10, take_11, take_12, take_13, take_14, take_15, take_16, take_17, take_18, take_19, take_20, take_21, take_22, take_23, take_24, take_25, take_26, take_27, take_28, take_29, take_30, take_31, take_32, take_33, take_34, take_35, take_36, take_37, take_38, take_39, take_40, take_41, take_42, take_43, take_44, take_45, take_46, take_47, take_48, take_49, take_50, take_51, take_52, take_53, take_54, take_55, take_s0, take_s1, push_0, push_1, push_2, push_3, push_4, push_5, push_6, push_7, push_8, push_9, push_10, push_11, push_12, push_13, push_14, push_15, push_16, push_17, push_18, push_19, push_20, push_21, push_22, push_23, push_24, push_25, push_26, push_27, push_28, push_29, push_30, push_31, push_32, push_33, push_34, push_35, push_36, push_37, push_38, push_39, push_40, push_41, push_42, push_43, push_44, push_45, push_46, push_47, push_48, push_49, push_50, push_51, push_52, push_53, push_54, push_55, push_56, v9_c3, v9_c4, v9_c5, v9_c6, v9_c0, v9_c1, v9_c2, v10_c1, nrm_nrm, nx0, nx1, nx2, nx3, nx4, nx5, nx6, nx7, nx8, nx9, nx10, nx11, nx12, nx13, nx14, nx15, nx16, nx17, nx18, nx19, nx20, nx21, e2, hc, hi, cond_true, cond_false, Bool.not_false, Bool.not_true, Bool.true_and, Bool.false_and, Bool.and_false, Bool.and_true, Bool.or_false, Bool.false_or, beq_self_eq_true, bne_self_eq_false, ho, hm, hd]
    simp only [he]
    try rw [← hl]
    try rw [← hy]
    all_goals rfl
  · unfold pushO
    simp only [begin_0, begin_1, begin_2, begin_3, begin_4, begin_5, begin_6, begin_7, begin_8, begin_9, begin_10, begin_11, begin_12, begin_13, begin_14, begin_15, begin_16, begin_17, begin_18, begin_19, begin_20, begin_21, begin_22, begin_23, begin_24, begin_25, begin_26, begin_27, begin_28, begin_29, begin_30, begin_31, begin_32, begin_33, begin_34, begin_35, begin_36, begin_37, begin_38, begin_39, begin_40, begin_41, begin_42, begin_43, begin_44, begin_45, begin_47, begin_48, begin_49, enter_s0, enter_0, enter_23, enter_24, enter_25, enter_26, enter_27, enter_28, enter_29, enter_30, enter_31, enter_32, enter_33, enter_34, enter_35, enter_36, enter_37, enter_38, enter_39, enter_40, enter_41, enter_42, enter_43, enter_44, enter_s1, enter_s2, enter_s3, enter_45, enter_46, enter_s4, enter_s5, enter_47, enter_48, turn_s0, turn_s1, turn_s2, turn_s3, turn_s4, turn_s5, turn_s8, turn_s9, turn_s10, turn_s11, turn_s12, turn_0, turn_23, turn_24, turn_25, turn_26, turn_27, turn_28, turn_29, turn_30, turn_31, turn_32, turn_33, turn_34, turn_35, turn_36, turn_37, turn_38, turn_39, turn_40, turn_41, turn_42, turn_43, turn_44, turn_s13, turn_s14, turn_s15, turn_s16, turn_s17, turn_45, turn_s18, turn_46, turn_47, turn_s19, turn_48, turn_49, finish_s0, finish_s1, finish_s2, finish_s3, finish_s4, finish_0, finish_1, finish_2, finish_3, finish_4, finish_5, finish_6, finish_7, finish_8, finish_9, finish_10, finish_11, finish_12, finish_13, finish_14, finish_15, finish_16, finish_17, finish_18, finish_19, finish_20, finish_21, finish_22, finish_23, finish_24, finish_25, finish_26, finish_27, finish_28, finish_29, finish_30, finish_31, finish_32, finish_33, finish_34, finish_35, finish_36, finish_37, finish_38, finish_39, finish_40, finish_41, finish_42, finish_43, finish_44, finish_s5, finish_s6, finish_45, finish_46, finish_47, finish_48, finish_49, finish_50, inner_0, inner_23, inner_24, inner_25, inner_26, inner_27, inner_28, inner_29, inner_30, inner_31, inner_32, inner_33, inner_34, inner_35, inner_36, inner_37, inner_38, inner_39, inner_40, inner_41, inner_42, inner_43, inner_44, inner_45, inner_46, inner_47, inner_48, inner_49, inner_s0, inner_s1, inner_s2, inner_s3, take_0, take_1, take_2, take_3, take_4, take_5, take_6, take_7, take_8, take_9, take_10, take_11, take_12, take_13, take_14, take_15, take_16, take_17, take_18, take_19, take_20, take_21, take_22, take_23, take_24, take_25, take_26, take_27, take_28, take_29, take_30, take_31, take_32, take_33, take_34, take_35, take_36, take_37, take_38, take_39, take_40, take_41, take_42, take_43, take_44, take_45, take_46, take_47, take_48, take_49, take_50, take_51, take_52, take_53, take_54, take_55, take_s0, take_s1, push_0, push_1, push_2, push_3, push_4, push_5, push_6, push_7, push_8, push_9, push_10, push_11, push_12, push_13, push_14, push_15, push_16, push_17, push_18, push_19, push_20, push_21, push_22, push_23, push_24, push_25, push_26, push_27, push_28, push_29, push_30, push_31, push_32, push_33, push_34, push_35, push_36, push_37, push_38, push_39, push_40, push_41, push_42, push_43, push_44, push_45, push_46, push_47, push_48, push_49, push_50, push_51, push_52, push_53, push_54, push_55, push_56, v9_c3, v9_c4, v9_c5, v9_c6, v9_c0, v9_c1, v9_c2, v10_c1, settled_45, nrm_nrm, nx0, nx1, nx2, nx3, nx4, nx5, nx6, nx7, nx8, nx9, nx10, nx11, nx12, nx13, nx14, nx15, nx16, nx17, nx18, nx19, nx20, nx21, e2, hc, hi, cond_true, cond_false, Bool.not_false, Bool.not_true, Bool.true_and, Bool.false_and, Bool.and_false, Bool.and_true, Bool.or_false, Bool.false_or, beq_self_eq_true, bne_self_eq_false, ho, hm, hd]
    all_goals rfl
theorem push_carry (x : List GC) (s : St) (he : s.er = 0) (hl : nrm s.l = s.l) (hy : nrm s.y = s.y) (hc : s.cl = false) (hi : inv x s = false) (ho : s.op = true) (hm : (cmotion_0 (xi x 0) && xi x 16 == 0) = false) (h3 : three x = false) (hd : odd x s.l = false) (hs : still x s.l = true) (hn : (Int.ofNat s.C.length == 8) = false) :
    pushS x s = { mvd x s with C := s.C ++ [toRow x] } ∧ pushO x s = [] := by
  unfold inv at hi
  have e2 : (s.er == 0) = true := by rw [he]; rfl
  unfold three at h3
  unfold odd at hd
  unfold still at hs
  refine ⟨?_, ?_⟩
  · unfold pushS mvd
    simp only [begin_0, begin_1, begin_2, begin_3, begin_4, begin_5, begin_6, begin_7, begin_8, begin_9, begin_10, begin_11, begin_12, begin_13, begin_14, begin_15, begin_16, begin_17, begin_18, begin_19, begin_20, begin_21, begin_22, begin_23, begin_24, begin_25, begin_26, begin_27, begin_28, begin_29, begin_30, begin_31, begin_32, begin_33, begin_34, begin_35, begin_36, begin_37, begin_38, begin_39, begin_40, begin_41, begin_42, begin_43, begin_44, begin_45, begin_47, begin_48, begin_49, enter_s0, enter_0, enter_23, enter_24, enter_25, enter_26, enter_27, enter_28, enter_29, enter_30, enter_31, enter_32, enter_33, enter_34, enter_35, enter_36, enter_37, enter_38, enter_39, enter_40, enter_41, enter_42, enter_43, enter_44, enter_s1, enter_s2, enter_s3, enter_45, enter_46, enter_s4, enter_s5, enter_47, enter_48, turn_s0, turn_s1, turn_s2, turn_s3, turn_s4, turn_s5, turn_s8, turn_s9, turn_s10, turn_s11, turn_s12, turn_0, turn_23, turn_24, turn_25, turn_26, turn_27, turn_28, turn_29, turn_30, turn_31, turn_32, turn_33, turn_34, turn_35, turn_36, turn_37, turn_38, turn_39, turn_40, turn_41, turn_42, turn_43, turn_44, turn_s13, turn_s14, turn_s15, turn_s16, turn_s17, turn_45, turn_s18, turn_46, turn_47, turn_s19, turn_48, turn_49, finish_s0, finish_s1, finish_s2, finish_s3, finish_s4, finish_0, finish_1, finish_2, finish_3, finish_4, finish_5, finish_6, finish_7, finish_8, finish_9, finish_10, finish_11, finish_12, finish_13, finish_14, finish_15, finish_16, finish_17, finish_18, finish_19, finish_20, finish_21, finish_22, finish_23, finish_24, finish_25, finish_26, finish_27, finish_28, finish_29, finish_30, finish_31, finish_32, finish_33, finish_34, finish_35, finish_36, finish_37, finish_38, finish_39, finish_40, finish_41, finish_42, finish_43, finish_44, finish_s5, finish_s6, finish_45, finish_46, finish_47, finish_48, finish_49, finish_50, inner_0, inner_23, inner_24, inner_25, inner_26, inner_27, inner_28, inner_29, inner_30, inner_31, inner_32, inner_33, inner_34, inner_35, inner_36, inner_37, inner_38, inner_39, inner_40, inner_41, inner_42, inner_43, inner_44, inner_45, inner_46, inner_47, inner_48, inner_49, inner_s0, inner_s1, inner_s2, inner_s3, take_0, take_1, take_2, take_3, take_4, take_5, take_6, take_7, take_8, take_9, take_10, take_11, take_12, take_13, take_14, take_15, take_16, take_17, take_18, take_19, take_20, take_21, take_22, take_23, take_24, take_25, take_26, take_27, take_28, take_29, take_30, take_31, take_32, take_33, take_34, take_35, take_36, take_37, take_38, take_39, take_40, take_41, take_42, take_43, take_44, take_45, take_46, take_47, take_48, take_49, take_50, take_51, take_52, take_53, take_54, take_55, take_s0, take_s1, push_0, push_1, push_2, push_3, push_4, push_5, push_6, push_7, push_8, push_9, push_10, push_11, push_12, push_13, push_14, push_15, push_16, push_17, push_18, push_19, push_20, push_21, push_22, push_23, push_24, push_25, push_26, push_27, push_28, push_29, push_30, push_31, push_32, push_33, push_34, push_35, push_36, push_37, push_38, push_39, push_40, push_41, push_42, push_43, push_44, push_45, push_46, push_47, push_48, push_49, push_50, push_51, push_52, push_53, push_54, push_55, push_56, v9_c3, v9_c4, v9_c5, v9_c6, v9_c0, v9_c1, v9_c2, v10_c1, nrm_nrm, nx0, nx1, nx2, nx3, nx4, nx5, nx6, nx7, nx8, nx9, nx10, nx11, nx12, nx13, nx14, nx15, nx16, nx17, nx18, nx19, nx20, nx21, e2, hc, hi, cond_true, cond_false, Bool.not_false, Bool.not_true, Bool.true_and, Bool.false_and, Bool.and_false, Bool.and_true, Bool.or_false, Bool.false_or, beq_self_eq_true, bne_self_eq_false, ho, hm, h3, hd, hs, hn]
    simp only [he]
    try rw [← hl]
    try rw [← hy]
    all_goals rfl
  · unfold pushO
    simp only [begin_0, begin_1, begin_2, begin_3, begin_4, begin_5, begin_6, begin_7, begin_8, begin_9, begin_10, begin_11, begin_12, begin_13, begin_14, begin_15, begin_16, begin_17, begin_18, begin_19, begin_20, begin_21, begin_22, begin_23, begin_24, begin_25, begin_26, begin_27, begin_28, begin_29, begin_30, begin_31, begin_32, begin_33, begin_34, begin_35, begin_36, begin_37, begin_38, begin_39, begin_40, begin_41, begin_42, begin_43, begin_44, begin_45, begin_47, begin_48, begin_49, enter_s0, enter_0, enter_23, enter_24, enter_25, enter_26, enter_27, enter_28, enter_29, enter_30, enter_31, enter_32, enter_33, enter_34, enter_35, enter_36, enter_37, enter_38, enter_39, enter_40, enter_41, enter_42, enter_43, enter_44, enter_s1, enter_s2, enter_s3, enter_45, enter_46, enter_s4, enter_s5, enter_47, enter_48, turn_s0, turn_s1, turn_s2, turn_s3, turn_s4, turn_s5, turn_s8, turn_s9, turn_s10, turn_s11, turn_s12, turn_0, turn_23, turn_24, turn_25, turn_26, turn_27, turn_28, turn_29, turn_30, turn_31, turn_32, turn_33, turn_34, turn_35, turn_36, turn_37, turn_38, turn_39, turn_40, turn_41, turn_42, turn_43, turn_44, turn_s13, turn_s14, turn_s15, turn_s16, turn_s17, turn_45, turn_s18, turn_46, turn_47, turn_s19, turn_48, turn_49, finish_s0, finish_s1, finish_s2, finish_s3, finish_s4, finish_0, finish_1, finish_2, finish_3, finish_4, finish_5, finish_6, finish_7, finish_8, finish_9, finish_10, finish_11, finish_12, finish_13, finish_14, finish_15, finish_16, finish_17, finish_18, finish_19, finish_20, finish_21, finish_22, finish_23, finish_24, finish_25, finish_26, finish_27, finish_28, finish_29, finish_30, finish_31, finish_32, finish_33, finish_34, finish_35, finish_36, finish_37, finish_38, finish_39, finish_40, finish_41, finish_42, finish_43, finish_44, finish_s5, finish_s6, finish_45, finish_46, finish_47, finish_48, finish_49, finish_50, inner_0, inner_23, inner_24, inner_25, inner_26, inner_27, inner_28, inner_29, inner_30, inner_31, inner_32, inner_33, inner_34, inner_35, inner_36, inner_37, inner_38, inner_39, inner_40, inner_41, inner_42, inner_43, inner_44, inner_45, inner_46, inner_47, inner_48, inner_49, inner_s0, inner_s1, inner_s2, inner_s3, take_0, take_1, take_2, take_3, take_4, take_5, take_6, take_7, take_8, take_9, take_10, take_11, take_12, take_13, take_14, take_15, take_16, take_17, take_18, take_19, take_20, take_21, take_22, take_23, take_24, take_25, take_26, take_27, take_28, take_29, take_30, take_31, take_32, take_33, take_34, take_35, take_36, take_37, take_38, take_39, take_40, take_41, take_42, take_43, take_44, take_45, take_46, take_47, take_48, take_49, take_50, take_51, take_52, take_53, take_54, take_55, take_s0, take_s1, push_0, push_1, push_2, push_3, push_4, push_5, push_6, push_7, push_8, push_9, push_10, push_11, push_12, push_13, push_14, push_15, push_16, push_17, push_18, push_19, push_20, push_21, push_22, push_23, push_24, push_25, push_26, push_27, push_28, push_29, push_30, push_31, push_32, push_33, push_34, push_35, push_36, push_37, push_38, push_39, push_40, push_41, push_42, push_43, push_44, push_45, push_46, push_47, push_48, push_49, push_50, push_51, push_52, push_53, push_54, push_55, push_56, v9_c3, v9_c4, v9_c5, v9_c6, v9_c0, v9_c1, v9_c2, v10_c1, settled_45, nrm_nrm, nx0, nx1, nx2, nx3, nx4, nx5, nx6, nx7, nx8, nx9, nx10, nx11, nx12, nx13, nx14, nx15, nx16, nx17, nx18, nx19, nx20, nx21, e2, hc, hi, cond_true, cond_false, Bool.not_false, Bool.not_true, Bool.true_and, Bool.false_and, Bool.and_false, Bool.and_true, Bool.or_false, Bool.false_or, beq_self_eq_true, bne_self_eq_false, ho, hm, h3, hd, hs, hn]
    all_goals rfl
theorem push_enter (x : List GC) (s : St) (he : s.er = 0) (hl : nrm s.l = s.l) (hy : nrm s.y = s.y) (hc : s.cl = false) (hi : inv x s = false) (ho : s.op = true) (hm : (cmotion_0 (xi x 0) && xi x 16 == 0) = false) (h3 : three x = false) (hd : odd x s.l = false) (hs : still x s.l = false) (h0 : (xi s.y 0 == 0) = true) (hE : nE s.l x = 0) :
    pushS x s = { mvd x s with y := nrm x, a0 := n0 s.l x, a1 := n1 s.l x, C := [] } ∧ pushO x s = release_44 (nrm s.l) (n0 s.l x) (n1 s.l x) s.C (line_46 (nrm s.l) (n0 s.l x) (n1 s.l x) (flat_2 (xi s.l 8) (xi s.l 2) (xi s.l 3) (xi s.l 4)) (flat_2 (xi s.l 8) (xi s.l 2) (xi s.l 3) (xi s.l 4)) true (nrm s.l) (flat_0 (xi s.l 8) (xi s.l 2) (xi s.l 3) (xi s.l 4)) (flat_1 (xi s.l 8) (xi s.l 2) (xi s.l 3) (xi s.l 4)) []) := by
  unfold inv at hi
  have e2 : (s.er == 0) = true := by rw [he]; rfl
  unfold three at h3
  unfold odd at hd
  unfold still at hs
  unfold nE at hE
  refine ⟨?_, ?_⟩
  · unfold pushS mvd
    simp only [begin_0, begin_1, begin_2, begin_3, begin_4, begin_5, begin_6, begin_7, begin_8, begin_9, begin_10, begin_11, begin_12, begin_13, begin_14, begin_15, begin_16, begin_17, begin_18, begin_19, begin_20, begin_21, begin_22, begin_23, begin_24, begin_25, begin_26, begin_27, begin_28, begin_29, begin_30, begin_31, begin_32, begin_33, begin_34, begin_35, begin_36, begin_37, begin_38, begin_39, begin_40, begin_41, begin_42, begin_43, begin_44, begin_45, begin_47, begin_48, begin_49, enter_s0, enter_0, enter_23, enter_24, enter_25, enter_26, enter_27, enter_28, enter_29, enter_30, enter_31, enter_32, enter_33, enter_34, enter_35, enter_36, enter_37, enter_38, enter_39, enter_40, enter_41, enter_42, enter_43, enter_44, enter_s1, enter_s2, enter_s3, enter_45, enter_46, enter_s4, enter_s5, enter_47, enter_48, turn_s0, turn_s1, turn_s2, turn_s3, turn_s4, turn_s5, turn_s8, turn_s9, turn_s10, turn_s11, turn_s12, turn_0, turn_23, turn_24, turn_25, turn_26, turn_27, turn_28, turn_29, turn_30, turn_31, turn_32, turn_33, turn_34, turn_35, turn_36, turn_37, turn_38, turn_39, turn_40, turn_41, turn_42, turn_43, turn_44, turn_s13, turn_s14, turn_s15, turn_s16, turn_s17, turn_45, turn_s18, turn_46, turn_47, turn_s19, turn_48, turn_49, finish_s0, finish_s1, finish_s2, finish_s3, finish_s4, finish_0, finish_1, finish_2, finish_3, finish_4, finish_5, finish_6, finish_7, finish_8, finish_9, finish_10, finish_11, finish_12, finish_13, finish_14, finish_15, finish_16, finish_17, finish_18, finish_19, finish_20, finish_21, finish_22, finish_23, finish_24, finish_25, finish_26, finish_27, finish_28, finish_29, finish_30, finish_31, finish_32, finish_33, finish_34, finish_35, finish_36, finish_37, finish_38, finish_39, finish_40, finish_41, finish_42, finish_43, finish_44, finish_s5, finish_s6, finish_45, finish_46, finish_47, finish_48, finish_49, finish_50, inner_0, inner_23, inner_24, inner_25, inner_26, inner_27, inner_28, inner_29, inner_30, inner_31, inner_32, inner_33, inner_34, inner_35, inner_36, inner_37, inner_38, inner_39, inner_40, inner_41, inner_42, inner_43, inner_44, inner_45, inner_46, inner_47, inner_48, inner_49, inner_s0, inner_s1, inner_s2, inner_s3, take_0, take_1, take_2, take_3, take_4, take_5, take_6, take_7, take_8, take_9, take_10, take_11, take_12, take_13, take_14, take_15, take_16, take_17, take_18, take_19, take_20, take_21, take_22, take_23, take_24, take_25, take_26, take_27, take_28, take_29, take_30, take_31, take_32, take_33, take_34, take_35, take_36, take_37, take_38, take_39, take_40, take_41, take_42, take_43, take_44, take_45, take_46, take_47, take_48, take_49, take_50, take_51, take_52, take_53, take_54, take_55, take_s0, take_s1, push_0, push_1, push_2, push_3, push_4, push_5, push_6, push_7, push_8, push_9, push_10, push_11, push_12, push_13, push_14, push_15, push_16, push_17, push_18, push_19, push_20, push_21, push_22, push_23, push_24, push_25, push_26, push_27, push_28, push_29, push_30, push_31, push_32, push_33, push_34, push_35, push_36, push_37, push_38, push_39, push_40, push_41, push_42, push_43, push_44, push_45, push_46, push_47, push_48, push_49, push_50, push_51, push_52, push_53, push_54, push_55, push_56, v9_c3, v9_c4, v9_c5, v9_c6, v9_c0, v9_c1, v9_c2, v10_c1, nrm_nrm, nx0, nx1, nx2, nx3, nx4, nx5, nx6, nx7, nx8, nx9, nx10, nx11, nx12, nx13, nx14, nx15, nx16, nx17, nx18, nx19, nx20, nx21, e2, hc, hi, cond_true, cond_false, Bool.not_false, Bool.not_true, Bool.true_and, Bool.false_and, Bool.and_false, Bool.and_true, Bool.or_false, Bool.false_or, beq_self_eq_true, bne_self_eq_false, ho, hm, h3, hd, hs, h0, hE]
    simp only [he]
    try rw [← hl]
    try rw [← hy]
    all_goals kernel_rfl
  · unfold pushO
    simp only [begin_0, begin_1, begin_2, begin_3, begin_4, begin_5, begin_6, begin_7, begin_8, begin_9, begin_10, begin_11, begin_12, begin_13, begin_14, begin_15, begin_16, begin_17, begin_18, begin_19, begin_20, begin_21, begin_22, begin_23, begin_24, begin_25, begin_26, begin_27, begin_28, begin_29, begin_30, begin_31, begin_32, begin_33, begin_34, begin_35, begin_36, begin_37, begin_38, begin_39, begin_40, begin_41, begin_42, begin_43, begin_44, begin_45, begin_47, begin_48, begin_49, enter_s0, enter_0, enter_23, enter_24, enter_25, enter_26, enter_27, enter_28, enter_29, enter_30, enter_31, enter_32, enter_33, enter_34, enter_35, enter_36, enter_37, enter_38, enter_39, enter_40, enter_41, enter_42, enter_43, enter_44, enter_s1, enter_s2, enter_s3, enter_45, enter_46, enter_s4, enter_s5, enter_47, enter_48, turn_s0, turn_s1, turn_s2, turn_s3, turn_s4, turn_s5, turn_s8, turn_s9, turn_s10, turn_s11, turn_s12, turn_0, turn_23, turn_24, turn_25, turn_26, turn_27, turn_28, turn_29, turn_30, turn_31, turn_32, turn_33, turn_34, turn_35, turn_36, turn_37, turn_38, turn_39, turn_40, turn_41, turn_42, turn_43, turn_44, turn_s13, turn_s14, turn_s15, turn_s16, turn_s17, turn_45, turn_s18, turn_46, turn_47, turn_s19, turn_48, turn_49, finish_s0, finish_s1, finish_s2, finish_s3, finish_s4, finish_0, finish_1, finish_2, finish_3, finish_4, finish_5, finish_6, finish_7, finish_8, finish_9, finish_10, finish_11, finish_12, finish_13, finish_14, finish_15, finish_16, finish_17, finish_18, finish_19, finish_20, finish_21, finish_22, finish_23, finish_24, finish_25, finish_26, finish_27, finish_28, finish_29, finish_30, finish_31, finish_32, finish_33, finish_34, finish_35, finish_36, finish_37, finish_38, finish_39, finish_40, finish_41, finish_42, finish_43, finish_44, finish_s5, finish_s6, finish_45, finish_46, finish_47, finish_48, finish_49, finish_50, inner_0, inner_23, inner_24, inner_25, inner_26, inner_27, inner_28, inner_29, inner_30, inner_31, inner_32, inner_33, inner_34, inner_35, inner_36, inner_37, inner_38, inner_39, inner_40, inner_41, inner_42, inner_43, inner_44, inner_45, inner_46, inner_47, inner_48, inner_49, inner_s0, inner_s1, inner_s2, inner_s3, take_0, take_1, take_2, take_3, take_4, take_5, take_6, take_7, take_8, take_9, take_10, take_11, take_12, take_13, take_14, take_15, take_16, take_17, take_18, take_19, take_20, take_21, take_22, take_23, take_24, take_25, take_26, take_27, take_28, take_29, take_30, take_31, take_32, take_33, take_34, take_35, take_36, take_37, take_38, take_39, take_40, take_41, take_42, take_43, take_44, take_45, take_46, take_47, take_48, take_49, take_50, take_51, take_52, take_53, take_54, take_55, take_s0, take_s1, push_0, push_1, push_2, push_3, push_4, push_5, push_6, push_7, push_8, push_9, push_10, push_11, push_12, push_13, push_14, push_15, push_16, push_17, push_18, push_19, push_20, push_21, push_22, push_23, push_24, push_25, push_26, push_27, push_28, push_29, push_30, push_31, push_32, push_33, push_34, push_35, push_36, push_37, push_38, push_39, push_40, push_41, push_42, push_43, push_44, push_45, push_46, push_47, push_48, push_49, push_50, push_51, push_52, push_53, push_54, push_55, push_56, v9_c3, v9_c4, v9_c5, v9_c6, v9_c0, v9_c1, v9_c2, v10_c1, settled_45, nrm_nrm, nx0, nx1, nx2, nx3, nx4, nx5, nx6, nx7, nx8, nx9, nx10, nx11, nx12, nx13, nx14, nx15, nx16, nx17, nx18, nx19, nx20, nx21, e2, hc, hi, cond_true, cond_false, Bool.not_false, Bool.not_true, Bool.true_and, Bool.false_and, Bool.and_false, Bool.and_true, Bool.or_false, Bool.false_or, beq_self_eq_true, bne_self_eq_false, ho, hm, h3, hd, hs, h0, hE]
    all_goals kernel_rfl
theorem push_inside (x : List GC) (s : St) (he : s.er = 0) (hl : nrm s.l = s.l) (hy : nrm s.y = s.y) (hc : s.cl = false) (hi : inv x s = false) (ho : s.op = true) (hm : (cmotion_0 (xi x 0) && xi x 16 == 0) = false) (h3 : three x = false) (hd : odd x s.l = false) (hs : still x s.l = false) (h0 : (xi s.y 0 == 0) = false) (hk : (kd s.l s.y x == 2) = true) (hE : trE s.l s.y x = 0) (hS : shE (tr0 s.l s.y x) (tr1 s.l s.y x) true s = 0) :
    pushS x s = { mvd x s with y := nrm x, a0 := tr0 s.l s.y x, a1 := tr1 s.l s.y x, tr := true, C := [] } ∧ pushO x s = release_44 (nrm s.l) (tr0 s.l s.y x) (tr1 s.l s.y x) s.C (shO (tr0 s.l s.y x) (tr1 s.l s.y x) true s) := by
  unfold inv at hi
  have e2 : (s.er == 0) = true := by rw [he]; rfl
  unfold three at h3
  unfold odd at hd
  unfold still at hs
  unfold kd at hk
  unfold trE at hE
  unfold shE at hS
  obtain ⟨hs1, hs2⟩ := shift_at _ _ _ _ _ _ _ _ hS
  unfold tr0 tr1 at hS hs1 hs2
  refine ⟨?_, ?_⟩
  · unfold pushS mvd
    simp only [begin_0, begin_1, begin_2, begin_3, begin_4, begin_5, begin_6, begin_7, begin_8, begin_9, begin_10, begin_11, begin_12, begin_13, begin_14, begin_15, begin_16, begin_17, begin_18, begin_19, begin_20, begin_21, begin_22, begin_23, begin_24, begin_25, begin_26, begin_27, begin_28, begin_29, begin_30, begin_31, begin_32, begin_33, begin_34, begin_35, begin_36, begin_37, begin_38, begin_39, begin_40, begin_41, begin_42, begin_43, begin_44, begin_45, begin_47, begin_48, begin_49, enter_s0, enter_0, enter_23, enter_24, enter_25, enter_26, enter_27, enter_28, enter_29, enter_30, enter_31, enter_32, enter_33, enter_34, enter_35, enter_36, enter_37, enter_38, enter_39, enter_40, enter_41, enter_42, enter_43, enter_44, enter_s1, enter_s2, enter_s3, enter_45, enter_46, enter_s4, enter_s5, enter_47, enter_48, turn_s0, turn_s1, turn_s2, turn_s3, turn_s4, turn_s5, turn_s8, turn_s9, turn_s10, turn_s11, turn_s12, turn_0, turn_23, turn_24, turn_25, turn_26, turn_27, turn_28, turn_29, turn_30, turn_31, turn_32, turn_33, turn_34, turn_35, turn_36, turn_37, turn_38, turn_39, turn_40, turn_41, turn_42, turn_43, turn_44, turn_s13, turn_s14, turn_s15, turn_s16, turn_s17, turn_45, turn_s18, turn_46, turn_47, turn_s19, turn_48, turn_49, finish_s0, finish_s1, finish_s2, finish_s3, finish_s4, finish_0, finish_1, finish_2, finish_3, finish_4, finish_5, finish_6, finish_7, finish_8, finish_9, finish_10, finish_11, finish_12, finish_13, finish_14, finish_15, finish_16, finish_17, finish_18, finish_19, finish_20, finish_21, finish_22, finish_23, finish_24, finish_25, finish_26, finish_27, finish_28, finish_29, finish_30, finish_31, finish_32, finish_33, finish_34, finish_35, finish_36, finish_37, finish_38, finish_39, finish_40, finish_41, finish_42, finish_43, finish_44, finish_s5, finish_s6, finish_45, finish_46, finish_47, finish_48, finish_49, finish_50, inner_0, inner_23, inner_24, inner_25, inner_26, inner_27, inner_28, inner_29, inner_30, inner_31, inner_32, inner_33, inner_34, inner_35, inner_36, inner_37, inner_38, inner_39, inner_40, inner_41, inner_42, inner_43, inner_44, inner_45, inner_46, inner_47, inner_48, inner_49, inner_s0, inner_s1, inner_s2, inner_s3, take_0, take_1, take_2, take_3, take_4, take_5, take_6, take_7, take_8, take_9, take_10, take_11, take_12, take_13, take_14, take_15, take_16, take_17, take_18, take_19, take_20, take_21, take_22, take_23, take_24, take_25, take_26, take_27, take_28, take_29, take_30, take_31, take_32, take_33, take_34, take_35, take_36, take_37, take_38, take_39, take_40, take_41, take_42, take_43, take_44, take_45, take_46, take_47, take_48, take_49, take_50, take_51, take_52, take_53, take_54, take_55, take_s0, take_s1, push_0, push_1, push_2, push_3, push_4, push_5, push_6, push_7, push_8, push_9, push_10, push_11, push_12, push_13, push_14, push_15, push_16, push_17, push_18, push_19, push_20, push_21, push_22, push_23, push_24, push_25, push_26, push_27, push_28, push_29, push_30, push_31, push_32, push_33, push_34, push_35, push_36, push_37, push_38, push_39, push_40, push_41, push_42, push_43, push_44, push_45, push_46, push_47, push_48, push_49, push_50, push_51, push_52, push_53, push_54, push_55, push_56, v9_c3, v9_c4, v9_c5, v9_c6, v9_c0, v9_c1, v9_c2, v10_c1, nrm_nrm, nx0, nx1, nx2, nx3, nx4, nx5, nx6, nx7, nx8, nx9, nx10, nx11, nx12, nx13, nx14, nx15, nx16, nx17, nx18, nx19, nx20, nx21, e2, hc, hi, cond_true, cond_false, Bool.not_false, Bool.not_true, Bool.true_and, Bool.false_and, Bool.and_false, Bool.and_true, Bool.or_false, Bool.false_or, beq_self_eq_true, bne_self_eq_false, ho, hm, h3, hd, hs, h0, hk, hE, hS, hs1, hs2]
    simp only [he]
    try rw [← hl]
    try rw [← hy]
    all_goals kernel_rfl
  · unfold pushO
    simp only [begin_0, begin_1, begin_2, begin_3, begin_4, begin_5, begin_6, begin_7, begin_8, begin_9, begin_10, begin_11, begin_12, begin_13, begin_14, begin_15, begin_16, begin_17, begin_18, begin_19, begin_20, begin_21, begin_22, begin_23, begin_24, begin_25, begin_26, begin_27, begin_28, begin_29, begin_30, begin_31, begin_32, begin_33, begin_34, begin_35, begin_36, begin_37, begin_38, begin_39, begin_40, begin_41, begin_42, begin_43, begin_44, begin_45, begin_47, begin_48, begin_49, enter_s0, enter_0, enter_23, enter_24, enter_25, enter_26, enter_27, enter_28, enter_29, enter_30, enter_31, enter_32, enter_33, enter_34, enter_35, enter_36, enter_37, enter_38, enter_39, enter_40, enter_41, enter_42, enter_43, enter_44, enter_s1, enter_s2, enter_s3, enter_45, enter_46, enter_s4, enter_s5, enter_47, enter_48, turn_s0, turn_s1, turn_s2, turn_s3, turn_s4, turn_s5, turn_s8, turn_s9, turn_s10, turn_s11, turn_s12, turn_0, turn_23, turn_24, turn_25, turn_26, turn_27, turn_28, turn_29, turn_30, turn_31, turn_32, turn_33, turn_34, turn_35, turn_36, turn_37, turn_38, turn_39, turn_40, turn_41, turn_42, turn_43, turn_44, turn_s13, turn_s14, turn_s15, turn_s16, turn_s17, turn_45, turn_s18, turn_46, turn_47, turn_s19, turn_48, turn_49, finish_s0, finish_s1, finish_s2, finish_s3, finish_s4, finish_0, finish_1, finish_2, finish_3, finish_4, finish_5, finish_6, finish_7, finish_8, finish_9, finish_10, finish_11, finish_12, finish_13, finish_14, finish_15, finish_16, finish_17, finish_18, finish_19, finish_20, finish_21, finish_22, finish_23, finish_24, finish_25, finish_26, finish_27, finish_28, finish_29, finish_30, finish_31, finish_32, finish_33, finish_34, finish_35, finish_36, finish_37, finish_38, finish_39, finish_40, finish_41, finish_42, finish_43, finish_44, finish_s5, finish_s6, finish_45, finish_46, finish_47, finish_48, finish_49, finish_50, inner_0, inner_23, inner_24, inner_25, inner_26, inner_27, inner_28, inner_29, inner_30, inner_31, inner_32, inner_33, inner_34, inner_35, inner_36, inner_37, inner_38, inner_39, inner_40, inner_41, inner_42, inner_43, inner_44, inner_45, inner_46, inner_47, inner_48, inner_49, inner_s0, inner_s1, inner_s2, inner_s3, take_0, take_1, take_2, take_3, take_4, take_5, take_6, take_7, take_8, take_9, take_10, take_11, take_12, take_13, take_14, take_15, take_16, take_17, take_18, take_19, take_20, take_21, take_22, take_23, take_24, take_25, take_26, take_27, take_28, take_29, take_30, take_31, take_32, take_33, take_34, take_35, take_36, take_37, take_38, take_39, take_40, take_41, take_42, take_43, take_44, take_45, take_46, take_47, take_48, take_49, take_50, take_51, take_52, take_53, take_54, take_55, take_s0, take_s1, push_0, push_1, push_2, push_3, push_4, push_5, push_6, push_7, push_8, push_9, push_10, push_11, push_12, push_13, push_14, push_15, push_16, push_17, push_18, push_19, push_20, push_21, push_22, push_23, push_24, push_25, push_26, push_27, push_28, push_29, push_30, push_31, push_32, push_33, push_34, push_35, push_36, push_37, push_38, push_39, push_40, push_41, push_42, push_43, push_44, push_45, push_46, push_47, push_48, push_49, push_50, push_51, push_52, push_53, push_54, push_55, push_56, v9_c3, v9_c4, v9_c5, v9_c6, v9_c0, v9_c1, v9_c2, v10_c1, settled_45, nrm_nrm, nx0, nx1, nx2, nx3, nx4, nx5, nx6, nx7, nx8, nx9, nx10, nx11, nx12, nx13, nx14, nx15, nx16, nx17, nx18, nx19, nx20, nx21, e2, hc, hi, cond_true, cond_false, Bool.not_false, Bool.not_true, Bool.true_and, Bool.false_and, Bool.and_false, Bool.and_true, Bool.or_false, Bool.false_or, beq_self_eq_true, bne_self_eq_false, ho, hm, h3, hd, hs, h0, hk, hE, hS, hs1, hs2]
    all_goals kernel_rfl
theorem push_outside (x : List GC) (s : St) (he : s.er = 0) (hl : nrm s.l = s.l) (hy : nrm s.y = s.y) (hc : s.cl = false) (hi : inv x s = false) (ho : s.op = true) (hm : (cmotion_0 (xi x 0) && xi x 16 == 0) = false) (h3 : three x = false) (hd : odd x s.l = false) (hs : still x s.l = false) (h0 : (xi s.y 0 == 0) = false) (hk : (kd s.l s.y x == 2) = false) (hE : nE s.l s.y = 0) (hF : nE s.l x = 0) (hS : shE (f0 s.l s.y) (f1 s.l s.y) false s = 0) :
    pushS x s = { mvd x s with y := nrm x, a0 := n0 s.l x, a1 := n1 s.l x, tr := false, C := [] } ∧ pushO x s = join_46 (nrm x) (n0 s.l x) (n1 s.l x) (kd s.l s.y x == 1) (nrm s.l) (f0 s.l s.y) (f1 s.l s.y) (release_44 (nrm s.l) (f0 s.l s.y) (f1 s.l s.y) s.C (shO (f0 s.l s.y) (f1 s.l s.y) false s)) := by
  unfold inv at hi
  have e2 : (s.er == 0) = true := by rw [he]; rfl
  unfold three at h3
  unfold odd at hd
  unfold still at hs
  unfold kd at hk
  unfold nE at hE
  unfold nE at hF
  unfold shE at hS
  obtain ⟨hs1, hs2⟩ := shift_at _ _ _ _ _ _ _ _ hS
  unfold f0 f1 at hS hs1 hs2
  refine ⟨?_, ?_⟩
  · unfold pushS mvd
    simp only [begin_0, begin_1, begin_2, begin_3, begin_4, begin_5, begin_6, begin_7, begin_8, begin_9, begin_10, begin_11, begin_12, begin_13, begin_14, begin_15, begin_16, begin_17, begin_18, begin_19, begin_20, begin_21, begin_22, begin_23, begin_24, begin_25, begin_26, begin_27, begin_28, begin_29, begin_30, begin_31, begin_32, begin_33, begin_34, begin_35, begin_36, begin_37, begin_38, begin_39, begin_40, begin_41, begin_42, begin_43, begin_44, begin_45, begin_47, begin_48, begin_49, enter_s0, enter_0, enter_23, enter_24, enter_25, enter_26, enter_27, enter_28, enter_29, enter_30, enter_31, enter_32, enter_33, enter_34, enter_35, enter_36, enter_37, enter_38, enter_39, enter_40, enter_41, enter_42, enter_43, enter_44, enter_s1, enter_s2, enter_s3, enter_45, enter_46, enter_s4, enter_s5, enter_47, enter_48, turn_s0, turn_s1, turn_s2, turn_s3, turn_s4, turn_s5, turn_s8, turn_s9, turn_s10, turn_s11, turn_s12, turn_0, turn_23, turn_24, turn_25, turn_26, turn_27, turn_28, turn_29, turn_30, turn_31, turn_32, turn_33, turn_34, turn_35, turn_36, turn_37, turn_38, turn_39, turn_40, turn_41, turn_42, turn_43, turn_44, turn_s13, turn_s14, turn_s15, turn_s16, turn_s17, turn_45, turn_s18, turn_46, turn_47, turn_s19, turn_48, turn_49, finish_s0, finish_s1, finish_s2, finish_s3, finish_s4, finish_0, finish_1, finish_2, finish_3, finish_4, finish_5, finish_6, finish_7, finish_8, finish_9, finish_10, finish_11, finish_12, finish_13, finish_14, finish_15, finish_16, finish_17, finish_18, finish_19, finish_20, finish_21, finish_22, finish_23, finish_24, finish_25, finish_26, finish_27, finish_28, finish_29, finish_30, finish_31, finish_32, finish_33, finish_34, finish_35, finish_36, finish_37, finish_38, finish_39, finish_40, finish_41, finish_42, finish_43, finish_44, finish_s5, finish_s6, finish_45, finish_46, finish_47, finish_48, finish_49, finish_50, inner_0, inner_23, inner_24, inner_25, inner_26, inner_27, inner_28, inner_29, inner_30, inner_31, inner_32, inner_33, inner_34, inner_35, inner_36, inner_37, inner_38, inner_39, inner_40, inner_41, inner_42, inner_43, inner_44, inner_45, inner_46, inner_47, inner_48, inner_49, inner_s0, inner_s1, inner_s2, inner_s3, take_0, take_1, take_2, take_3, take_4, take_5, take_6, take_7, take_8, take_9, take_10, take_11, take_12, take_13, take_14, take_15, take_16, take_17, take_18, take_19, take_20, take_21, take_22, take_23, take_24, take_25, take_26, take_27, take_28, take_29, take_30, take_31, take_32, take_33, take_34, take_35, take_36, take_37, take_38, take_39, take_40, take_41, take_42, take_43, take_44, take_45, take_46, take_47, take_48, take_49, take_50, take_51, take_52, take_53, take_54, take_55, take_s0, take_s1, push_0, push_1, push_2, push_3, push_4, push_5, push_6, push_7, push_8, push_9, push_10, push_11, push_12, push_13, push_14, push_15, push_16, push_17, push_18, push_19, push_20, push_21, push_22, push_23, push_24, push_25, push_26, push_27, push_28, push_29, push_30, push_31, push_32, push_33, push_34, push_35, push_36, push_37, push_38, push_39, push_40, push_41, push_42, push_43, push_44, push_45, push_46, push_47, push_48, push_49, push_50, push_51, push_52, push_53, push_54, push_55, push_56, v9_c3, v9_c4, v9_c5, v9_c6, v9_c0, v9_c1, v9_c2, v10_c1, nrm_nrm, nx0, nx1, nx2, nx3, nx4, nx5, nx6, nx7, nx8, nx9, nx10, nx11, nx12, nx13, nx14, nx15, nx16, nx17, nx18, nx19, nx20, nx21, e2, hc, hi, cond_true, cond_false, Bool.not_false, Bool.not_true, Bool.true_and, Bool.false_and, Bool.and_false, Bool.and_true, Bool.or_false, Bool.false_or, beq_self_eq_true, bne_self_eq_false, ho, hm, h3, hd, hs, h0, hk, hE, hF, hS, hs1, hs2]
    simp only [he]
    try rw [← hl]
    try rw [← hy]
    all_goals kernel_rfl
  · unfold pushO
    simp only [begin_0, begin_1, begin_2, begin_3, begin_4, begin_5, begin_6, begin_7, begin_8, begin_9, begin_10, begin_11, begin_12, begin_13, begin_14, begin_15, begin_16, begin_17, begin_18, begin_19, begin_20, begin_21, begin_22, begin_23, begin_24, begin_25, begin_26, begin_27, begin_28, begin_29, begin_30, begin_31, begin_32, begin_33, begin_34, begin_35, begin_36, begin_37, begin_38, begin_39, begin_40, begin_41, begin_42, begin_43, begin_44, begin_45, begin_47, begin_48, begin_49, enter_s0, enter_0, enter_23, enter_24, enter_25, enter_26, enter_27, enter_28, enter_29, enter_30, enter_31, enter_32, enter_33, enter_34, enter_35, enter_36, enter_37, enter_38, enter_39, enter_40, enter_41, enter_42, enter_43, enter_44, enter_s1, enter_s2, enter_s3, enter_45, enter_46, enter_s4, enter_s5, enter_47, enter_48, turn_s0, turn_s1, turn_s2, turn_s3, turn_s4, turn_s5, turn_s8, turn_s9, turn_s10, turn_s11, turn_s12, turn_0, turn_23, turn_24, turn_25, turn_26, turn_27, turn_28, turn_29, turn_30, turn_31, turn_32, turn_33, turn_34, turn_35, turn_36, turn_37, turn_38, turn_39, turn_40, turn_41, turn_42, turn_43, turn_44, turn_s13, turn_s14, turn_s15, turn_s16, turn_s17, turn_45, turn_s18, turn_46, turn_47, turn_s19, turn_48, turn_49, finish_s0, finish_s1, finish_s2, finish_s3, finish_s4, finish_0, finish_1, finish_2, finish_3, finish_4, finish_5, finish_6, finish_7, finish_8, finish_9, finish_10, finish_11, finish_12, finish_13, finish_14, finish_15, finish_16, finish_17, finish_18, finish_19, finish_20, finish_21, finish_22, finish_23, finish_24, finish_25, finish_26, finish_27, finish_28, finish_29, finish_30, finish_31, finish_32, finish_33, finish_34, finish_35, finish_36, finish_37, finish_38, finish_39, finish_40, finish_41, finish_42, finish_43, finish_44, finish_s5, finish_s6, finish_45, finish_46, finish_47, finish_48, finish_49, finish_50, inner_0, inner_23, inner_24, inner_25, inner_26, inner_27, inner_28, inner_29, inner_30, inner_31, inner_32, inner_33, inner_34, inner_35, inner_36, inner_37, inner_38, inner_39, inner_40, inner_41, inner_42, inner_43, inner_44, inner_45, inner_46, inner_47, inner_48, inner_49, inner_s0, inner_s1, inner_s2, inner_s3, take_0, take_1, take_2, take_3, take_4, take_5, take_6, take_7, take_8, take_9, take_10, take_11, take_12, take_13, take_14, take_15, take_16, take_17, take_18, take_19, take_20, take_21, take_22, take_23, take_24, take_25, take_26, take_27, take_28, take_29, take_30, take_31, take_32, take_33, take_34, take_35, take_36, take_37, take_38, take_39, take_40, take_41, take_42, take_43, take_44, take_45, take_46, take_47, take_48, take_49, take_50, take_51, take_52, take_53, take_54, take_55, take_s0, take_s1, push_0, push_1, push_2, push_3, push_4, push_5, push_6, push_7, push_8, push_9, push_10, push_11, push_12, push_13, push_14, push_15, push_16, push_17, push_18, push_19, push_20, push_21, push_22, push_23, push_24, push_25, push_26, push_27, push_28, push_29, push_30, push_31, push_32, push_33, push_34, push_35, push_36, push_37, push_38, push_39, push_40, push_41, push_42, push_43, push_44, push_45, push_46, push_47, push_48, push_49, push_50, push_51, push_52, push_53, push_54, push_55, push_56, v9_c3, v9_c4, v9_c5, v9_c6, v9_c0, v9_c1, v9_c2, v10_c1, settled_45, nrm_nrm, nx0, nx1, nx2, nx3, nx4, nx5, nx6, nx7, nx8, nx9, nx10, nx11, nx12, nx13, nx14, nx15, nx16, nx17, nx18, nx19, nx20, nx21, e2, hc, hi, cond_true, cond_false, Bool.not_false, Bool.not_true, Bool.true_and, Bool.false_and, Bool.and_false, Bool.and_true, Bool.or_false, Bool.false_or, beq_self_eq_true, bne_self_eq_false, ho, hm, h3, hd, hs, h0, hk, hE, hF, hS, hs1, hs2]
    all_goals kernel_rfl
theorem push_finish (x : List GC) (s : St) (he : s.er = 0) (hl : nrm s.l = s.l) (hy : nrm s.y = s.y) (hc : s.cl = false) (hi : inv x s = false) (ho : s.op = true) (hm : (cmotion_0 (xi x 0) && xi x 16 == 0) = true) (hd : (!leads_0 (nrm x) (xi s.l 8) (xi s.l 17) || xi s.y 0 == 0) = false) (hE : nE s.l s.y = 0) (hS : shE (f0 s.l s.y) (f1 s.l s.y) false s = 0) :
    pushS x s = { mvd x s with l := zeroG, y := zeroG, a0 := 0, a1 := 0, tr := false, op := false, C := [] } ∧ pushO x s = line_46 (nrm x) (flat_0 (xi s.l 8) (xi x 5) (xi x 6) (xi x 7)) (flat_1 (xi s.l 8) (xi x 5) (xi x 6) (xi x 7)) (flat_2 (xi s.l 8) (xi x 5) (xi x 6) (xi x 7)) (flat_2 (xi s.l 8) (xi x 5) (xi x 6) (xi x 7)) true (nrm s.l) (f0 s.l s.y) (f1 s.l s.y) (release_44 (nrm s.l) (f0 s.l s.y) (f1 s.l s.y) s.C (shO (f0 s.l s.y) (f1 s.l s.y) false s)) := by
  unfold inv at hi
  have e2 : (s.er == 0) = true := by rw [he]; rfl
  unfold nE at hE
  unfold shE at hS
  obtain ⟨hs1, hs2⟩ := shift_at _ _ _ _ _ _ _ _ hS
  unfold f0 f1 at hS hs1 hs2
  refine ⟨?_, ?_⟩
  · unfold pushS mvd
    simp only [begin_0, begin_1, begin_2, begin_3, begin_4, begin_5, begin_6, begin_7, begin_8, begin_9, begin_10, begin_11, begin_12, begin_13, begin_14, begin_15, begin_16, begin_17, begin_18, begin_19, begin_20, begin_21, begin_22, begin_23, begin_24, begin_25, begin_26, begin_27, begin_28, begin_29, begin_30, begin_31, begin_32, begin_33, begin_34, begin_35, begin_36, begin_37, begin_38, begin_39, begin_40, begin_41, begin_42, begin_43, begin_44, begin_45, begin_47, begin_48, begin_49, enter_s0, enter_0, enter_23, enter_24, enter_25, enter_26, enter_27, enter_28, enter_29, enter_30, enter_31, enter_32, enter_33, enter_34, enter_35, enter_36, enter_37, enter_38, enter_39, enter_40, enter_41, enter_42, enter_43, enter_44, enter_s1, enter_s2, enter_s3, enter_45, enter_46, enter_s4, enter_s5, enter_47, enter_48, turn_s0, turn_s1, turn_s2, turn_s3, turn_s4, turn_s5, turn_s8, turn_s9, turn_s10, turn_s11, turn_s12, turn_0, turn_23, turn_24, turn_25, turn_26, turn_27, turn_28, turn_29, turn_30, turn_31, turn_32, turn_33, turn_34, turn_35, turn_36, turn_37, turn_38, turn_39, turn_40, turn_41, turn_42, turn_43, turn_44, turn_s13, turn_s14, turn_s15, turn_s16, turn_s17, turn_45, turn_s18, turn_46, turn_47, turn_s19, turn_48, turn_49, finish_s0, finish_s1, finish_s2, finish_s3, finish_s4, finish_0, finish_1, finish_2, finish_3, finish_4, finish_5, finish_6, finish_7, finish_8, finish_9, finish_10, finish_11, finish_12, finish_13, finish_14, finish_15, finish_16, finish_17, finish_18, finish_19, finish_20, finish_21, finish_22, finish_23, finish_24, finish_25, finish_26, finish_27, finish_28, finish_29, finish_30, finish_31, finish_32, finish_33, finish_34, finish_35, finish_36, finish_37, finish_38, finish_39, finish_40, finish_41, finish_42, finish_43, finish_44, finish_s5, finish_s6, finish_45, finish_46, finish_47, finish_48, finish_49, finish_50, inner_0, inner_23, inner_24, inner_25, inner_26, inner_27, inner_28, inner_29, inner_30, inner_31, inner_32, inner_33, inner_34, inner_35, inner_36, inner_37, inner_38, inner_39, inner_40, inner_41, inner_42, inner_43, inner_44, inner_45, inner_46, inner_47, inner_48, inner_49, inner_s0, inner_s1, inner_s2, inner_s3, take_0, take_1, take_2, take_3, take_4, take_5, take_6, take_7, take_8, take_9, take_10, take_11, take_12, take_13, take_14, take_15, take_16, take_17, take_18, take_19, take_20, take_21, take_22, take_23, take_24, take_25, take_26, take_27, take_28, take_29, take_30, take_31, take_32, take_33, take_34, take_35, take_36, take_37, take_38, take_39, take_40, take_41, take_42, take_43, take_44, take_45, take_46, take_47, take_48, take_49, take_50, take_51, take_52, take_53, take_54, take_55, take_s0, take_s1, push_0, push_1, push_2, push_3, push_4, push_5, push_6, push_7, push_8, push_9, push_10, push_11, push_12, push_13, push_14, push_15, push_16, push_17, push_18, push_19, push_20, push_21, push_22, push_23, push_24, push_25, push_26, push_27, push_28, push_29, push_30, push_31, push_32, push_33, push_34, push_35, push_36, push_37, push_38, push_39, push_40, push_41, push_42, push_43, push_44, push_45, push_46, push_47, push_48, push_49, push_50, push_51, push_52, push_53, push_54, push_55, push_56, v9_c3, v9_c4, v9_c5, v9_c6, v9_c0, v9_c1, v9_c2, v10_c1, nrm_nrm, nx0, nx1, nx2, nx3, nx4, nx5, nx6, nx7, nx8, nx9, nx10, nx11, nx12, nx13, nx14, nx15, nx16, nx17, nx18, nx19, nx20, nx21, e2, hc, hi, cond_true, cond_false, Bool.not_false, Bool.not_true, Bool.true_and, Bool.false_and, Bool.and_false, Bool.and_true, Bool.or_false, Bool.false_or, beq_self_eq_true, bne_self_eq_false, ho, hm, hd, hE, hS, hs1, hs2]
    simp only [he]
    try rw [← hl]
    try rw [← hy]
    all_goals kernel_rfl
  · unfold pushO
    simp only [begin_0, begin_1, begin_2, begin_3, begin_4, begin_5, begin_6, begin_7, begin_8, begin_9, begin_10, begin_11, begin_12, begin_13, begin_14, begin_15, begin_16, begin_17, begin_18, begin_19, begin_20, begin_21, begin_22, begin_23, begin_24, begin_25, begin_26, begin_27, begin_28, begin_29, begin_30, begin_31, begin_32, begin_33, begin_34, begin_35, begin_36, begin_37, begin_38, begin_39, begin_40, begin_41, begin_42, begin_43, begin_44, begin_45, begin_47, begin_48, begin_49, enter_s0, enter_0, enter_23, enter_24, enter_25, enter_26, enter_27, enter_28, enter_29, enter_30, enter_31, enter_32, enter_33, enter_34, enter_35, enter_36, enter_37, enter_38, enter_39, enter_40, enter_41, enter_42, enter_43, enter_44, enter_s1, enter_s2, enter_s3, enter_45, enter_46, enter_s4, enter_s5, enter_47, enter_48, turn_s0, turn_s1, turn_s2, turn_s3, turn_s4, turn_s5, turn_s8, turn_s9, turn_s10, turn_s11, turn_s12, turn_0, turn_23, turn_24, turn_25, turn_26, turn_27, turn_28, turn_29, turn_30, turn_31, turn_32, turn_33, turn_34, turn_35, turn_36, turn_37, turn_38, turn_39, turn_40, turn_41, turn_42, turn_43, turn_44, turn_s13, turn_s14, turn_s15, turn_s16, turn_s17, turn_45, turn_s18, turn_46, turn_47, turn_s19, turn_48, turn_49, finish_s0, finish_s1, finish_s2, finish_s3, finish_s4, finish_0, finish_1, finish_2, finish_3, finish_4, finish_5, finish_6, finish_7, finish_8, finish_9, finish_10, finish_11, finish_12, finish_13, finish_14, finish_15, finish_16, finish_17, finish_18, finish_19, finish_20, finish_21, finish_22, finish_23, finish_24, finish_25, finish_26, finish_27, finish_28, finish_29, finish_30, finish_31, finish_32, finish_33, finish_34, finish_35, finish_36, finish_37, finish_38, finish_39, finish_40, finish_41, finish_42, finish_43, finish_44, finish_s5, finish_s6, finish_45, finish_46, finish_47, finish_48, finish_49, finish_50, inner_0, inner_23, inner_24, inner_25, inner_26, inner_27, inner_28, inner_29, inner_30, inner_31, inner_32, inner_33, inner_34, inner_35, inner_36, inner_37, inner_38, inner_39, inner_40, inner_41, inner_42, inner_43, inner_44, inner_45, inner_46, inner_47, inner_48, inner_49, inner_s0, inner_s1, inner_s2, inner_s3, take_0, take_1, take_2, take_3, take_4, take_5, take_6, take_7, take_8, take_9, take_10, take_11, take_12, take_13, take_14, take_15, take_16, take_17, take_18, take_19, take_20, take_21, take_22, take_23, take_24, take_25, take_26, take_27, take_28, take_29, take_30, take_31, take_32, take_33, take_34, take_35, take_36, take_37, take_38, take_39, take_40, take_41, take_42, take_43, take_44, take_45, take_46, take_47, take_48, take_49, take_50, take_51, take_52, take_53, take_54, take_55, take_s0, take_s1, push_0, push_1, push_2, push_3, push_4, push_5, push_6, push_7, push_8, push_9, push_10, push_11, push_12, push_13, push_14, push_15, push_16, push_17, push_18, push_19, push_20, push_21, push_22, push_23, push_24, push_25, push_26, push_27, push_28, push_29, push_30, push_31, push_32, push_33, push_34, push_35, push_36, push_37, push_38, push_39, push_40, push_41, push_42, push_43, push_44, push_45, push_46, push_47, push_48, push_49, push_50, push_51, push_52, push_53, push_54, push_55, push_56, v9_c3, v9_c4, v9_c5, v9_c6, v9_c0, v9_c1, v9_c2, v10_c1, settled_45, nrm_nrm, nx0, nx1, nx2, nx3, nx4, nx5, nx6, nx7, nx8, nx9, nx10, nx11, nx12, nx13, nx14, nx15, nx16, nx17, nx18, nx19, nx20, nx21, e2, hc, hi, cond_true, cond_false, Bool.not_false, Bool.not_true, Bool.true_and, Bool.false_and, Bool.and_false, Bool.and_true, Bool.or_false, Bool.false_or, beq_self_eq_true, bne_self_eq_false, ho, hm, hd, hE, hS, hs1, hs2]
    all_goals kernel_rfl
end Go.Proofs.Ytmbfbhimdkjkoaa
namespace Go.Proofs.Ytmbfbhimdkjkoaa
open Go.SX Go.RowKit
/-- The error of a filter that has none, for an item. -/
noncomputable def errS (x : List GC) (s : St) : Int :=
  bif s.cl then 13 else bif inv x s then 1 else
  bif !s.op && cmotion_0 (xi x 0) && xi x 16 != 0 then (bif !leads_0 (nrm x) (xi x 8) (xi x 17) then 14 else 0)
  else bif !s.op then 0
  else bif cmotion_0 (xi x 0) && xi x 16 == 0 then
    (bif !leads_0 (nrm x) (xi s.l 8) (xi s.l 17) || xi s.y 0 == 0 then 14 else
      bif nE s.l s.y == 0 then (bif shE (f0 s.l s.y) (f1 s.l s.y) false s != 0 then shE (f0 s.l s.y) (f1 s.l s.y) false s else 0) else (bif nE s.l s.y != 0 then nE s.l s.y else 0))
  else bif three x then 13 else bif odd x s.l then 13
  else bif still x s.l then (bif Int.ofNat s.C.length == 8 then 10 else 0)
  else bif xi s.y 0 == 0 then (bif nE s.l x != 0 then nE s.l x else 0)
  else bif kd s.l s.y x == 2 then
    (bif trE s.l s.y x == 0 then (bif shE (tr0 s.l s.y x) (tr1 s.l s.y x) true s != 0 then shE (tr0 s.l s.y x) (tr1 s.l s.y x) true s else 0) else (bif trE s.l s.y x != 0 then trE s.l s.y x else 0))
  else (bif nE s.l s.y != 0 then nE s.l s.y else
    bif nE s.l x == 0 then (bif shE (f0 s.l s.y) (f1 s.l s.y) false s != 0 then shE (f0 s.l s.y) (f1 s.l s.y) false s else 0) else (bif nE s.l x != 0 then nE s.l x else 0))
theorem pushE_spec (x : List GC) (s : St) (he : s.er = 0) : pushE x s = errS x s := by
  unfold pushE
  rw [push_0_eq]
  unfold push_55
  rw [he, beq_self_eq_true, cond_true]
  kernel_rfl
theorem cond_ne {c : Bool} {a b : Int} (ha : a ≠ 0) (h : (bif c then a else b) = 0) : c = false ∧ b = 0 := by
  cases c
  · exact ⟨rfl, h⟩
  · exact absurd h ha
theorem id_ne {a : Int} (h : (bif a != 0 then a else 0) = 0) : a = 0 := by
  cases ha : (a != 0)
  · simpa using ha
  · rw [ha] at h; exact h
theorem two_ne {a b : Int} (h : (bif a == 0 then (bif b != 0 then b else 0) else (bif a != 0 then a else 0)) = 0) : a = 0 ∧ b = 0 := by
  cases ha : (a == 0)
  · rw [ha] at h
    have := id_ne h
    rw [this] at ha; cases ha
  · rw [ha] at h
    exact ⟨by simpa using ha, id_ne h⟩
/-- The item that is not refused. -/
theorem push_cases (x : List GC) (s : St) (he : s.er = 0) (h : pushE x s = 0) : s.cl = false ∧ inv x s = false ∧
    ((s.op = false ∧ (cmotion_0 (xi x 0) && xi x 16 != 0) = false) ∨
     (s.op = false ∧ (cmotion_0 (xi x 0) && xi x 16 != 0) = true ∧ leads_0 (nrm x) (xi x 8) (xi x 17) = true) ∨
     (s.op = true ∧ (cmotion_0 (xi x 0) && xi x 16 == 0) = true ∧ (!leads_0 (nrm x) (xi s.l 8) (xi s.l 17) || xi s.y 0 == 0) = false ∧ nE s.l s.y = 0 ∧ shE (f0 s.l s.y) (f1 s.l s.y) false s = 0) ∨
     (s.op = true ∧ (cmotion_0 (xi x 0) && xi x 16 == 0) = false ∧ three x = false ∧ odd x s.l = false ∧
       ((still x s.l = true ∧ (Int.ofNat s.C.length == 8) = false) ∨
        (still x s.l = false ∧ (xi s.y 0 == 0) = true ∧ nE s.l x = 0) ∨
        (still x s.l = false ∧ (xi s.y 0 == 0) = false ∧ (kd s.l s.y x == 2) = true ∧ trE s.l s.y x = 0 ∧ shE (tr0 s.l s.y x) (tr1 s.l s.y x) true s = 0) ∨
        (still x s.l = false ∧ (xi s.y 0 == 0) = false ∧ (kd s.l s.y x == 2) = false ∧ nE s.l s.y = 0 ∧ nE s.l x = 0 ∧ shE (f0 s.l s.y) (f1 s.l s.y) false s = 0)))) := by
  rw [pushE_spec x s he] at h
  unfold errS at h
  obtain ⟨h1, h⟩ := cond_ne (by decide) h
  obtain ⟨h2, h⟩ := cond_ne (by decide) h
  refine ⟨h1, h2, ?_⟩
  cases ho : s.op
  · rw [ho] at h
    simp only [Bool.not_false, Bool.true_and, cond_true] at h
    cases hm : (cmotion_0 (xi x 0) && xi x 16 != 0)
    · exact .inl ⟨rfl, rfl⟩
    · rw [hm, cond_true] at h
      obtain ⟨h3, _⟩ := cond_ne (by decide) h
      exact .inr (.inl ⟨rfl, rfl, by simpa using h3⟩)
  · rw [ho] at h
    simp only [Bool.not_true, Bool.false_and, cond_false] at h
    cases hm : (cmotion_0 (xi x 0) && xi x 16 == 0)
    · rw [hm, cond_false] at h
      obtain ⟨h3, h⟩ := cond_ne (by decide) h
      obtain ⟨h4, h⟩ := cond_ne (by decide) h
      refine .inr (.inr (.inr ⟨rfl, rfl, h3, h4, ?_⟩))
      cases hs : still x s.l
      · rw [hs, cond_false] at h
        cases h0 : (xi s.y 0 == 0)
        · rw [h0, cond_false] at h
          cases hk : (kd s.l s.y x == 2)
          · rw [hk, cond_false] at h
            have hn : nE s.l s.y = 0 := by
              cases hn : (nE s.l s.y != 0)
              · simpa using hn
              · rw [hn, cond_true] at h; exact h
            rw [hn, bne_self_eq_false, cond_false] at h
            obtain ⟨h5, h6⟩ := two_ne h
            exact .inr (.inr (.inr ⟨rfl, rfl, rfl, hn, h5, h6⟩))
          · rw [hk, cond_true] at h
            obtain ⟨h5, h6⟩ := two_ne h
            exact .inr (.inr (.inl ⟨rfl, rfl, rfl, h5, h6⟩))
        · rw [h0, cond_true] at h
          exact .inr (.inl ⟨rfl, rfl, id_ne h⟩)
      · rw [hs, cond_true] at h
        obtain ⟨h5, _⟩ := cond_ne (by decide) h
        exact .inl ⟨rfl, h5⟩
    · rw [hm, cond_true] at h
      obtain ⟨h3, h⟩ := cond_ne (by decide) h
      obtain ⟨h5, h6⟩ := two_ne h
      exact .inr (.inr (.inl ⟨rfl, rfl, h3, h5, h6⟩))
end Go.Proofs.Ytmbfbhimdkjkoaa
namespace Go.Proofs.Ytmbfbhimdkjkoaa
open Go.SX Go.RowKit
/-- The filter behind a list, and what it has settled. -/
noncomputable def runS : List (List Int) → St → St
  | [], s => s
  | r :: l, s => runS l (pushS (ofRow r) s)
noncomputable def runO : List (List Int) → St → List (List Int)
  | [], _ => []
  | r :: l, s => pushO (ofRow r) s ++ runO l (pushS (ofRow r) s)
/-- No item is refused. -/
noncomputable def runOk : List (List Int) → St → Prop
  | [], _ => True
  | r :: l, s => pushE (ofRow r) s = 0 ∧ runOk l (pushS (ofRow r) s)
theorem drop_cons {L : List (List Int)} {i : Nat} (h : i < L.length) : L.drop i = L.getD i [] :: L.drop (i + 1) := by
  rw [List.drop_eq_getElem_cons h]
  simp [List.getD, List.getElem?_eq_getElem h]
theorem apN_run (L : List (List Int)) : ∀ (k : Nat) (a : AS), a.i + k = L.length → (apN L k a).bad = false →
    runOk (L.drop a.i) a.s ∧ (apN L k a).s = runS (L.drop a.i) a.s ∧ (apN L k a).R = a.R ++ runO (L.drop a.i) a.s
  | 0, a, h, _ => by
    have e : L.drop a.i = [] := List.drop_eq_nil_of_le (by omega)
    rw [e]
    exact ⟨trivial, rfl, (List.append_nil _).symm⟩
  | k + 1, a, h, hb => by
    unfold apN at hb ⊢
    cases he : (pushE (ofRow (L.getD a.i [])) a.s != 0)
    · rw [he, cond_false] at hb
      rw [cond_false, drop_cons (by omega)]
      obtain ⟨h1, h2, h3⟩ := apN_run L k _ (by show a.i + 1 + k = _; omega) hb
      exact ⟨⟨by simpa using he, h1⟩, h2, by rw [h3]; show (a.R ++ _) ++ _ = _; rw [List.append_assoc]; rfl⟩
    · rw [he, cond_true] at hb; cases hb
/-- What Apply returns of a list that is accepted. -/
theorem ap_ok {L : List (List Int)} (h : apE L = 0) : runOk L St0 ∧ (runS L St0).op = false ∧ (runS L St0).er = 0 ∧ apO L = runO L St0 ∧ apI L = Int.ofNat L.length := by
  unfold apE at h
  cases hb : (apT L).bad
  · rw [hb, cond_false] at h
    have hc : apC L = 0 := id_ne h
    obtain ⟨h1, h2, h3⟩ := apN_run L (L.length - 0) ⟨0, St0, []⟩ (by show 0 + (L.length - 0) = _; omega) hb
    have h2' : (apT L).s = runS L St0 := h2
    have h3' : (apT L).R = runO L St0 := h3
    have hc' := hc
    unfold apC close_0 at hc'
    rw [oitem_3_id] at hc'
    obtain ⟨h4, h5⟩ := cond_ne (by decide) hc'
    rw [h5] at h4
    simp only [beq_self_eq_true, Bool.true_and, Bool.or_eq_false_iff] at h4
    refine ⟨h1, by rw [← h2']; exact h4.2, by rw [← h2']; exact h5, ?_, ?_⟩
    · unfold apO
      rw [hb, hc, bne_self_eq_false, cond_false, cond_false, h3']
      have : close_46 (apT L).s.op (apT L).s.cl (apT L).s.er [] = [] := by unfold close_46 settled_45; cases (bif (apT L).s.er == 0 && ((apT L).s.cl || (apT L).s.op) then (13 : Int) else (apT L).s.er) != 0 <;> rfl
      rw [this, List.append_nil]
    · unfold apI
      rw [hb, hc]; rfl
  · exfalso
    rw [hb, cond_true] at h
    have : ∀ (k : Nat) (a : AS), (apN L k a).bad = true → (apN L k a).e ≠ 0 := by
      intro k
      induction k with
      | zero => intro a h; cases h
      | succ k ih =>
        intro a h
        unfold apN at h ⊢
        cases he : (pushE (ofRow (L.getD a.i [])) a.s != 0)
        · rw [he] at h; exact ih _ h
        · rw [cond_true]; simpa using he
    exact this _ _ hb h
end Go.Proofs.Ytmbfbhimdkjkoaa
namespace Go.Proofs.Ytmbfbhimdkjkoaa
open Go.SX Go.RowKit
/-- A row of items whose radius is 0. -/
noncomputable def zrw (r : List Int) : List Int := overF 22 0 17 [0] r
structure ZS where
  i : Nat
  X : List (List Int)
noncomputable def zrS (a : ZS) : ZS := ⟨a.i + 1, a.X.set a.i (zrw (a.X.getD a.i []))⟩
noncomputable def zrN : Nat → ZS → ZS
  | 0, a => a
  | n + 1, a => zrN n (zrS a)
noncomputable def rzF (len : Nat) : Fam ZS ZS where
  k := 40
  E a := [(4, ent 1000000000 (.one (I (Int.ofNat a.i)))), (3, ent 2209 (.one (.wh 2203)))]
  M a := [rowI 2203 1000000001 a.X]
  out t := .leaf (.exit 0) [(3, ent 2209 (.one (.wh 2203)))] [rowI 2203 2212 t.X]
  fin a := zrN (a.X.length - a.i) a
  next a _ := zrS a
  J a := a.i ≤ a.X.length ∧ a.X.length = len ∧ len ≤ 1000
  μ a := a.X.length - a.i
noncomputable def rz_s0 (a : ZS) : Prop :=
  decide (Int.ofNat a.i < Int.ofNat a.X.length) = true
noncomputable def rz_needs (len : Nat) (a : ZS) : List Prop :=
  [rz_s0 a → 0 ≤ Int.ofNat a.i ∧ (Int.ofNat a.i).toNat < a.X.length ∧ (Int.ofNat a.i).toNat < a.X.length ∧ (Int.ofNat a.i).toNat < a.X.length,
    rz_s0 a →
     (((rzF len).next a 0).i ≤ ((rzF len).next a 0).X.length ∧ ((rzF len).next a 0).X.length = len ∧ len ≤ 1000) ∧
     (rzF len).μ ((rzF len).next a 0) < (rzF len).μ a ∧
     (rzF len).fin ((rzF len).next a 0) = (rzF len).fin a ∧
     Int.ofNat ((rzF len).next a 0).i = IntKind.i64.wrap (Int.ofNat a.i + 1) ∧ ((rzF len).next a 0).X = a.X.set (Int.ofNat a.i).toNat (overF 22 0 17 [0] (a.X.getD (Int.ofNat a.i).toNat [])),
    decide (Int.ofNat a.i < Int.ofNat a.X.length) = false → ((rzF len).fin a).X = a.X]
theorem rz_round (len : Nat) (a : ZS) (hNeeds : ∀ pN ∈ (rz_needs len a), pN) : RoundOk (roundC (rzF len) (bodyOf Try.prog (sums K_awake) L_ap 3 0) 2211 a) :=
  RoundOk.of (ps := (rz_needs len a)) (by kernel_rfl) (by kernel_rfl) hNeeds
theorem rz_rounds (len : Nat) : RoundsOk (rzF len) (bodyOf Try.prog (sums K_awake) L_ap 3 0) 2211 := by
  intro a hJ
  obtain ⟨h1, h2, h3⟩ : a.i ≤ a.X.length ∧ a.X.length = len ∧ len ≤ 1000 := hJ
  have e6 : IntKind.i64.wrap (Int.ofNat a.i + 1) = Int.ofNat (a.i + 1) := wrI (by simp; omega) (by simp; omega)
  refine rz_round len a ?_
  unfold rz_needs
  simp only [List.forall_mem_cons, List.not_mem_nil, false_implies, implies_true, and_true]
  have lt : decide (Int.ofNat a.i < Int.ofNat a.X.length) = true → a.i < a.X.length := fun h => by simp at h; omega
  have el : ((rzF len).next a 0).X.length = a.X.length := by show (a.X.set _ _).length = _; rw [List.length_set]
  refine ⟨fun h => ⟨by simp, lt h, lt h, lt h⟩, fun h => ⟨⟨?_, ?_, h3⟩, ?_, ?_, e6.symm, ?_⟩, fun h => ?_⟩
  · rw [el]; have := lt h; show a.i + 1 ≤ _; omega
  · rw [el]; exact h2
  · have := lt h
    show ((rzF len).next a 0).X.length - (a.i + 1) < a.X.length - a.i
    rw [el]; omega
  · show zrN (((rzF len).next a 0).X.length - (a.i + 1)) _ = zrN (a.X.length - a.i) a
    have e : a.X.length - a.i = (a.X.length - (a.i + 1)) + 1 := by have := lt h; omega
    rw [el, e]; rfl
  · kernel_rfl
  · have hi : a.i = a.X.length := by simp at h; omega
    have e : (rzF len).fin a = a := by
      show zrN (a.X.length - a.i) a = _
      rw [hi, Nat.sub_self]; rfl
    rw [e]
noncomputable def rzLp : LoopS := fun env mem m => match SX.look mem 2203 with
  | some (.row _ _ _ (.lst _ _ X)) => famS (rzF X.length) 2211 (fun _ _ => some ⟨0, X⟩) env mem m
  | _ => none
noncomputable def L_rz : FuncId → Nat → Option LoopS := addL L_ap 3 5 rzLp
theorem known_rzL : Known Try.prog (sums K_awake) L_rz := by
  refine known_addL 0 known_awake (by kernel_rfl) (codeOk_of fun env mem m x h => ?_)
  unfold rzLp at h
  have hlen : (loopList Try.prog 3).length = 3 := by kernel_rfl
  split at h
  · exact ⟨_, fam_ok (bodyOf_ok plainN known_awake (by omega)) (rz_rounds _), h⟩
  · cases h
/-- Is a line that does not move passed over? -/
noncomputable def zl (r : List Int) : Bool := r.getD 2 0 == r.getD 5 0 && (r.getD 3 0 == r.getD 6 0 && r.getD 4 0 == r.getD 7 0)
noncomputable def skC (X : List (List Int)) (k : Nat) : Bool := (decide (Int.ofNat k < IntKind.i64.wrap (Int.ofNat X.length - 1)) && decide (Int.ofNat k > 0) && (X.getD k []).getD 0 0 == 2) && zl (X.getD k [])
noncomputable def skN (X : List (List Int)) : Nat → Nat → Nat
  | 0, k => k
  | n + 1, k => bif skC X k then skN X n (k + 1) else k
noncomputable def skF (A X : List (List Int)) (i : Int) : Fam Nat Nat where
  k := 200
  E k := [(9, ent 1000000000 (.one (I i))), (8, ent 1000000002 (.one (I (Int.ofNat k)))), (5, ent 2757 (.one (.wh 2751))), (3, ent 2209 (.one (.wh 2203)))]
  M _ := [rowI 2751 2750 A, rowI 2203 2212 X]
  out t := .leaf (.exit 4) [(9, ent 4200 (.one (I i))), (8, ent 4201 (.one (I (Int.ofNat t)))), (5, ent 2757 (.one (.wh 2751))), (3, ent 2209 (.one (.wh 2203)))] [rowI 2751 2750 A, rowI 2203 2212 X]
  fin k := skN X (X.length - k) k
  next k _ := k + 1
  J k := k ≤ X.length ∧ X.length ≤ 1000 ∧ 1 ≤ X.length
  μ k := X.length - k
noncomputable def skA (X : List (List Int)) (k : Nat) : Nat := skN X (X.length - k) k
noncomputable def sk_s0 (X : List (List Int)) : Int :=
  IntKind.i64.wrap (Int.ofNat X.length - 1)
noncomputable def sk_s1 (X : List (List Int)) (k : Nat) : Bool :=
  decide (Int.ofNat k < sk_s0 X) && decide (Int.ofNat k > 0)
noncomputable def sk_s2 (X : List (List Int)) (k : Nat) : Bool :=
  sk_s1 X k && (X.getD (Int.ofNat k).toNat []).getD 0 0 == 2
noncomputable def sk_needs (A : List (List Int)) (X : List (List Int)) (i : Int) (k : Nat) : List Prop :=
  [sk_s1 X k = true → 0 ≤ Int.ofNat k, sk_s1 X k = true → (Int.ofNat k).toNat < X.length, sk_s1 X k = true → (Int.ofNat k).toNat < X.length, sk_s1 X k = true → (Int.ofNat k).toNat < X.length,
    sk_s2 X k = true → 0 ≤ Int.ofNat k, sk_s2 X k = true → (Int.ofNat k).toNat < X.length, sk_s2 X k = true → (Int.ofNat k).toNat < X.length, sk_s2 X k = true → (Int.ofNat k).toNat < X.length,
    sk_s2 X k = true → 0 ≤ Int.ofNat k, sk_s2 X k = true → (Int.ofNat k).toNat < X.length, sk_s2 X k = true → (Int.ofNat k).toNat < X.length, sk_s2 X k = true → (Int.ofNat k).toNat < X.length,
    (sk_s2 X k &&
     ((X.getD (Int.ofNat k).toNat []).getD 2 0 == (X.getD (Int.ofNat k).toNat []).getD 5 0 &&
     ((X.getD (Int.ofNat k).toNat []).getD 3 0 == (X.getD (Int.ofNat k).toNat []).getD 6 0 && (X.getD (Int.ofNat k).toNat []).getD 4 0 == (X.getD (Int.ofNat k).toNat []).getD 7 0))) =
     true →
     ((skF A X i).next k 0 ≤ X.length ∧ X.length ≤ 1000 ∧ 1 ≤ X.length) ∧
     (skF A X i).μ ((skF A X i).next k 0) < (skF A X i).μ k ∧
     (skF A X i).fin ((skF A X i).next k 0) = (skF A X i).fin k ∧ i = i ∧ Int.ofNat ((skF A X i).next k 0) = IntKind.i64.wrap (Int.ofNat k + 1),
    (sk_s2 X k &&
     ((X.getD (Int.ofNat k).toNat []).getD 2 0 == (X.getD (Int.ofNat k).toNat []).getD 5 0 &&
     ((X.getD (Int.ofNat k).toNat []).getD 3 0 == (X.getD (Int.ofNat k).toNat []).getD 6 0 && (X.getD (Int.ofNat k).toNat []).getD 4 0 == (X.getD (Int.ofNat k).toNat []).getD 7 0))) =
     false →
     i = i ∧ Int.ofNat ((skF A X i).fin k) = Int.ofNat k]
theorem sk_round (A X : List (List Int)) (i : Int) (k : Nat) (hNeeds : ∀ pN ∈ (sk_needs A X i k), pN) : RoundOk (roundC (skF A X i) (bodyOf Try.prog (sums K_awake) L_rz 3 2) 4088 k) :=
  RoundOk.of (ps := (sk_needs A X i k)) (by kernel_rfl) (by kernel_rfl) hNeeds
theorem skC_lt {X : List (List Int)} {k : Nat} (hx1 : X.length ≤ 1000) (h : skC X k = true) : k < X.length := by
  unfold skC at h
  simp only [Bool.and_eq_true, decide_eq_true_eq] at h
  have h1 := h.1.1.1
  by_cases hx : X.length = 0
  · rw [hx] at h1
    have : (Int.ofNat k) < -1 := h1
    simp at this; omega
  · rcases Nat.lt_or_ge k X.length with h | h
    · exact h
    · exfalso
      rw [wrI (by simp; omega) (by simp; omega)] at h1
      simp at h1; omega
theorem sk_rounds (A X : List (List Int)) (i : Int) : RoundsOk (skF A X i) (bodyOf Try.prog (sums K_awake) L_rz 3 2) 4088 := by
  intro k hJ
  obtain ⟨h1, h2, h3⟩ : k ≤ X.length ∧ X.length ≤ 1000 ∧ 1 ≤ X.length := hJ
  have e6 : IntKind.i64.wrap (Int.ofNat k + 1) = Int.ofNat (k + 1) := wrI (by simp; omega) (by simp; omega)
  refine sk_round A X i k ?_
  unfold sk_needs
  simp only [List.forall_mem_cons, List.not_mem_nil, false_implies, implies_true, and_true]
  have lt1 : sk_s1 X k = true → k < X.length := fun h => by
    unfold sk_s1 sk_s0 at h
    simp only [Bool.and_eq_true, decide_eq_true_eq] at h
    have := h.1
    rw [wrI (by simp; omega) (by simp; omega)] at this
    simp at this; omega
  have lt2 : sk_s2 X k = true → k < X.length := fun h => by
    unfold sk_s2 at h
    simp only [Bool.and_eq_true] at h
    exact lt1 h.1
  refine ⟨fun _ => Int.natCast_nonneg _, lt1, lt1, lt1, fun _ => Int.natCast_nonneg _, lt2, lt2, lt2, fun _ => Int.natCast_nonneg _, lt2, lt2, lt2, fun h => ?_, fun h => ?_⟩
  · have hk : k < X.length := by
      simp only [Bool.and_eq_true] at h
      exact lt2 h.1
    refine ⟨⟨hk, h2, h3⟩, by show X.length - (k + 1) < X.length - k; omega, ?_, trivial, e6.symm⟩
    show skN X (X.length - (k + 1)) (k + 1) = skN X (X.length - k) k
    have e : X.length - k = (X.length - (k + 1)) + 1 := by omega
    have hc : skC X k = true := h
    rw [e]
    conv => rhs; unfold skN
    rw [hc]; rfl
  · have hc : skC X k = false := h
    have e : (skF A X i).fin k = k := by
      show skN X (X.length - k) k = k
      cases X.length - k
      · rfl
      · unfold skN; rw [hc]; rfl
    rw [e]
    exact ⟨trivial, rfl⟩
noncomputable def skLp : LoopS := fun env mem m => match SX.look env 9, SX.look env 8, SX.look mem 2751, SX.look mem 2203 with
  | some ⟨_, _, _, .one (.int _ i)⟩, some ⟨_, _, _, .one (.int _ k)⟩, some (.row _ _ _ (.lst _ _ A)), some (.row _ _ _ (.lst _ _ X)) => famS (skF A X i.val) 4088 (fun _ _ => some k.val.toNat) env mem m
  | _, _, _, _ => none
noncomputable def L_sk : FuncId → Nat → Option LoopS := addL L_rz 3 15 skLp
theorem known_skL : Known Try.prog (sums K_awake) L_sk := by
  refine known_addL 2 known_rzL (by kernel_rfl) (codeOk_of fun env mem m x h => ?_)
  unfold skLp at h
  have hlen : (loopList Try.prog 3).length = 3 := by kernel_rfl
  split at h
  · exact ⟨_, fam_ok (bodyOf_ok plainN known_rzL (by omega)) (sk_rounds _ _ _), h⟩
  · cases h
structure RdS where
  i : Nat
  k : Nat
structure RdT where
  bad : Bool
  k : Nat
/-- Does an item differ from one without compensation? -/
noncomputable def diffR (p q : List Int) : Bool := !(p.getD 0 0 == q.getD 0 0 && (p.getD 1 0 == q.getD 1 0 && (p.getD 2 0 == q.getD 2 0 && (p.getD 3 0 == q.getD 3 0 && (p.getD 4 0 == q.getD 4 0 && (p.getD 5 0 == q.getD 5 0 && (p.getD 6 0 == q.getD 6 0 && (p.getD 7 0 == q.getD 7 0 && ((p.getD 8 0 == bif q.getD 0 0 == 2 then 0 else q.getD 8 0) && (p.getD 9 0 == q.getD 9 0 && (p.getD 10 0 == q.getD 10 0 && (p.getD 11 0 == q.getD 11 0 && (p.getD 12 0 == q.getD 12 0 && (((p.getD 13 0 != 0) == (q.getD 13 0 != 0)) && (p.getD 14 0 == q.getD 14 0 && (((p.getD 15 0 != 0) == (q.getD 15 0 != 0)) && (p.getD 16 0 == 0 && (p.getD 17 0 == q.getD 17 0 && (p.getD 18 0 == q.getD 18 0 && (p.getD 19 0 == q.getD 19 0 && (p.getD 20 0 == q.getD 20 0 && ((p.getD 21 0 != 0) == (q.getD 21 0 != 0)))))))))))))))))))))))
noncomputable def roB (A X : List (List Int)) (i k : Nat) : Bool := decide (Int.ofNat (skA X k) ≥ Int.ofNat X.length) || diffR (A.getD i []) (X.getD (skA X k) [])
noncomputable def roN (A X : List (List Int)) : Nat → RdS → RdT
  | 0, a => ⟨false, a.k⟩
  | n + 1, a => bif roB A X a.i a.k then ⟨true, a.k⟩ else roN A X n ⟨a.i + 1, skA X a.k + 1⟩
noncomputable def roF (A X : List (List Int)) : Fam RdS RdT where
  k := 300
  E a := [(9, ent 1000000000 (.one (I (Int.ofNat a.i)))), (8, ent 1000000001 (.one (I (Int.ofNat a.k)))), (5, ent 2757 (.one (.wh 2751))), (3, ent 2209 (.one (.wh 2203)))]
  M _ := [rowI 2751 2750 A, rowI 2203 2212 X]
  out t := .ite t.bad (.leaf .ret [(2, ent 3800 (.one (.bool (.c false))))] [])
    (.leaf (.exit 2) [(8, ent 3801 (.one (I (Int.ofNat t.k)))), (5, ent 2757 (.one (.wh 2751))), (3, ent 2209 (.one (.wh 2203)))] [rowI 2751 2750 A, rowI 2203 2212 X])
  fin a := roN A X (A.length - a.i) a
  next a _ := ⟨a.i + 1, skA X a.k + 1⟩
  J a := a.i ≤ A.length ∧ A.length ≤ 100000 ∧ a.k ≤ X.length ∧ X.length ≤ 1000 ∧ 1 ≤ X.length
  μ a := A.length - a.i
noncomputable def ro_s0 (A : List (List Int)) (a : RdS) : Prop :=
  decide (Int.ofNat a.i < Int.ofNat A.length) = true
noncomputable def ro_s1 (X : List (List Int)) : Prop :=
  X.length ≤ 1000 ∧ 1 ≤ X.length
noncomputable def ro_s2 (A : List (List Int)) (X : List (List Int)) (a : RdS) : Prop :=
  decide (Int.ofNat ((skF A X (Int.ofNat a.i)).fin (Int.ofNat a.k).toNat) ≥ Int.ofNat X.length) = false
noncomputable def ro_s3 (A : List (List Int)) (X : List (List Int)) (a : RdS) : Int :=
  (X.getD (Int.ofNat ((skF A X (Int.ofNat a.i)).fin (Int.ofNat a.k).toNat)).toNat []).getD 0 0
noncomputable def ro_needs (A : List (List Int)) (X : List (List Int)) (a : RdS) : List Prop :=
  [ro_s0 A a →
     ((Int.ofNat a.k).toNat ≤ X.length ∧ ro_s1 X) ∧
     Int.ofNat a.i = Int.ofNat a.i ∧
     Int.ofNat (Int.ofNat a.k).toNat = Int.ofNat a.k ∧
     (ro_s2 A X a →
     0 ≤ Int.ofNat ((skF A X (Int.ofNat a.i)).fin (Int.ofNat a.k).toNat) ∧
     (Int.ofNat ((skF A X (Int.ofNat a.i)).fin (Int.ofNat a.k).toNat)).toNat < X.length ∧
     (Int.ofNat ((skF A X (Int.ofNat a.i)).fin (Int.ofNat a.k).toNat)).toNat < X.length ∧ 0 ≤ Int.ofNat a.i ∧ (Int.ofNat a.i).toNat < A.length ∧ (Int.ofNat a.i).toNat < A.length),
    ro_s0 A a →
     (decide (Int.ofNat ((skF A X (Int.ofNat a.i)).fin (Int.ofNat a.k).toNat) ≥ Int.ofNat X.length) = true → ((roF A X).fin a).bad = false → False) ∧
     (ro_s2 A X a →
     ((!((A.getD (Int.ofNat a.i).toNat []).getD 0 0 == ro_s3 A X a &&
     ((A.getD (Int.ofNat a.i).toNat []).getD 1 0 == (X.getD (Int.ofNat ((skF A X (Int.ofNat a.i)).fin (Int.ofNat a.k).toNat)).toNat []).getD 1 0 &&
     ((A.getD (Int.ofNat a.i).toNat []).getD 2 0 == (X.getD (Int.ofNat ((skF A X (Int.ofNat a.i)).fin (Int.ofNat a.k).toNat)).toNat []).getD 2 0 &&
     ((A.getD (Int.ofNat a.i).toNat []).getD 3 0 == (X.getD (Int.ofNat ((skF A X (Int.ofNat a.i)).fin (Int.ofNat a.k).toNat)).toNat []).getD 3 0 &&
     ((A.getD (Int.ofNat a.i).toNat []).getD 4 0 == (X.getD (Int.ofNat ((skF A X (Int.ofNat a.i)).fin (Int.ofNat a.k).toNat)).toNat []).getD 4 0 &&
     ((A.getD (Int.ofNat a.i).toNat []).getD 5 0 == (X.getD (Int.ofNat ((skF A X (Int.ofNat a.i)).fin (Int.ofNat a.k).toNat)).toNat []).getD 5 0 &&
     ((A.getD (Int.ofNat a.i).toNat []).getD 6 0 == (X.getD (Int.ofNat ((skF A X (Int.ofNat a.i)).fin (Int.ofNat a.k).toNat)).toNat []).getD 6 0 &&
     ((A.getD (Int.ofNat a.i).toNat []).getD 7 0 == (X.getD (Int.ofNat ((skF A X (Int.ofNat a.i)).fin (Int.ofNat a.k).toNat)).toNat []).getD 7 0 &&
     (((A.getD (Int.ofNat a.i).toNat []).getD 8 0 ==
     bif ro_s3 A X a == 2 then 0 else (X.getD (Int.ofNat ((skF A X (Int.ofNat a.i)).fin (Int.ofNat a.k).toNat)).toNat []).getD 8 0) &&
     ((A.getD (Int.ofNat a.i).toNat []).getD 9 0 == (X.getD (Int.ofNat ((skF A X (Int.ofNat a.i)).fin (Int.ofNat a.k).toNat)).toNat []).getD 9 0 &&
     ((A.getD (Int.ofNat a.i).toNat []).getD 10 0 == (X.getD (Int.ofNat ((skF A X (Int.ofNat a.i)).fin (Int.ofNat a.k).toNat)).toNat []).getD 10 0 &&
     ((A.getD (Int.ofNat a.i).toNat []).getD 11 0 == (X.getD (Int.ofNat ((skF A X (Int.ofNat a.i)).fin (Int.ofNat a.k).toNat)).toNat []).getD 11 0 &&
     ((A.getD (Int.ofNat a.i).toNat []).getD 12 0 == (X.getD (Int.ofNat ((skF A X (Int.ofNat a.i)).fin (Int.ofNat a.k).toNat)).toNat []).getD 12 0 &&
     (((A.getD (Int.ofNat a.i).toNat []).getD 13 0 != 0) == ((X.getD (Int.ofNat ((skF A X (Int.ofNat a.i)).fin (Int.ofNat a.k).toNat)).toNat []).getD 13 0 != 0) &&
     ((A.getD (Int.ofNat a.i).toNat []).getD 14 0 == (X.getD (Int.ofNat ((skF A X (Int.ofNat a.i)).fin (Int.ofNat a.k).toNat)).toNat []).getD 14 0 &&
     (((A.getD (Int.ofNat a.i).toNat []).getD 15 0 != 0) ==
     ((X.getD (Int.ofNat ((skF A X (Int.ofNat a.i)).fin (Int.ofNat a.k).toNat)).toNat []).getD 15 0 != 0) &&
     ((A.getD (Int.ofNat a.i).toNat []).getD 16 0 == 0 &&
     ((A.getD (Int.ofNat a.i).toNat []).getD 17 0 == (X.getD (Int.ofNat ((skF A X (Int.ofNat a.i)).fin (Int.ofNat a.k).toNat)).toNat []).getD 17 0 &&
     ((A.getD (Int.ofNat a.i).toNat []).getD 18 0 == (X.getD (Int.ofNat ((skF A X (Int.ofNat a.i)).fin (Int.ofNat a.k).toNat)).toNat []).getD 18 0 &&
     ((A.getD (Int.ofNat a.i).toNat []).getD 19 0 == (X.getD (Int.ofNat ((skF A X (Int.ofNat a.i)).fin (Int.ofNat a.k).toNat)).toNat []).getD 19 0 &&
     ((A.getD (Int.ofNat a.i).toNat []).getD 20 0 == (X.getD (Int.ofNat ((skF A X (Int.ofNat a.i)).fin (Int.ofNat a.k).toNat)).toNat []).getD 20 0 &&
     ((A.getD (Int.ofNat a.i).toNat []).getD 21 0 != 0) ==
     ((X.getD (Int.ofNat ((skF A X (Int.ofNat a.i)).fin (Int.ofNat a.k).toNat)).toNat []).getD 21 0 != 0))))))))))))))))))))))) =
     true →
     ((roF A X).fin a).bad = false → False) ∧
     ((!((A.getD (Int.ofNat a.i).toNat []).getD 0 0 == ro_s3 A X a &&
     ((A.getD (Int.ofNat a.i).toNat []).getD 1 0 == (X.getD (Int.ofNat ((skF A X (Int.ofNat a.i)).fin (Int.ofNat a.k).toNat)).toNat []).getD 1 0 &&
     ((A.getD (Int.ofNat a.i).toNat []).getD 2 0 == (X.getD (Int.ofNat ((skF A X (Int.ofNat a.i)).fin (Int.ofNat a.k).toNat)).toNat []).getD 2 0 &&
     ((A.getD (Int.ofNat a.i).toNat []).getD 3 0 == (X.getD (Int.ofNat ((skF A X (Int.ofNat a.i)).fin (Int.ofNat a.k).toNat)).toNat []).getD 3 0 &&
     ((A.getD (Int.ofNat a.i).toNat []).getD 4 0 == (X.getD (Int.ofNat ((skF A X (Int.ofNat a.i)).fin (Int.ofNat a.k).toNat)).toNat []).getD 4 0 &&
     ((A.getD (Int.ofNat a.i).toNat []).getD 5 0 == (X.getD (Int.ofNat ((skF A X (Int.ofNat a.i)).fin (Int.ofNat a.k).toNat)).toNat []).getD 5 0 &&
     ((A.getD (Int.ofNat a.i).toNat []).getD 6 0 == (X.getD (Int.ofNat ((skF A X (Int.ofNat a.i)).fin (Int.ofNat a.k).toNat)).toNat []).getD 6 0 &&
     ((A.getD (Int.ofNat a.i).toNat []).getD 7 0 == (X.getD (Int.ofNat ((skF A X (Int.ofNat a.i)).fin (Int.ofNat a.k).toNat)).toNat []).getD 7 0 &&
     (((A.getD (Int.ofNat a.i).toNat []).getD 8 0 ==
     bif ro_s3 A X a == 2 then 0 else (X.getD (Int.ofNat ((skF A X (Int.ofNat a.i)).fin (Int.ofNat a.k).toNat)).toNat []).getD 8 0) &&
     ((A.getD (Int.ofNat a.i).toNat []).getD 9 0 == (X.getD (Int.ofNat ((skF A X (Int.ofNat a.i)).fin (Int.ofNat a.k).toNat)).toNat []).getD 9 0 &&
     ((A.getD (Int.ofNat a.i).toNat []).getD 10 0 == (X.getD (Int.ofNat ((skF A X (Int.ofNat a.i)).fin (Int.ofNat a.k).toNat)).toNat []).getD 10 0 &&
     ((A.getD (Int.ofNat a.i).toNat []).getD 11 0 == (X.getD (Int.ofNat ((skF A X (Int.ofNat a.i)).fin (Int.ofNat a.k).toNat)).toNat []).getD 11 0 &&
     ((A.getD (Int.ofNat a.i).toNat []).getD 12 0 == (X.getD (Int.ofNat ((skF A X (Int.ofNat a.i)).fin (Int.ofNat a.k).toNat)).toNat []).getD 12 0 &&
     (((A.getD (Int.ofNat a.i).toNat []).getD 13 0 != 0) == ((X.getD (Int.ofNat ((skF A X (Int.ofNat a.i)).fin (Int.ofNat a.k).toNat)).toNat []).getD 13 0 != 0) &&
     ((A.getD (Int.ofNat a.i).toNat []).getD 14 0 == (X.getD (Int.ofNat ((skF A X (Int.ofNat a.i)).fin (Int.ofNat a.k).toNat)).toNat []).getD 14 0 &&
     (((A.getD (Int.ofNat a.i).toNat []).getD 15 0 != 0) ==
     ((X.getD (Int.ofNat ((skF A X (Int.ofNat a.i)).fin (Int.ofNat a.k).toNat)).toNat []).getD 15 0 != 0) &&
     ((A.getD (Int.ofNat a.i).toNat []).getD 16 0 == 0 &&
     ((A.getD (Int.ofNat a.i).toNat []).getD 17 0 == (X.getD (Int.ofNat ((skF A X (Int.ofNat a.i)).fin (Int.ofNat a.k).toNat)).toNat []).getD 17 0 &&
     ((A.getD (Int.ofNat a.i).toNat []).getD 18 0 == (X.getD (Int.ofNat ((skF A X (Int.ofNat a.i)).fin (Int.ofNat a.k).toNat)).toNat []).getD 18 0 &&
     ((A.getD (Int.ofNat a.i).toNat []).getD 19 0 == (X.getD (Int.ofNat ((skF A X (Int.ofNat a.i)).fin (Int.ofNat a.k).toNat)).toNat []).getD 19 0 &&
     ((A.getD (Int.ofNat a.i).toNat []).getD 20 0 == (X.getD (Int.ofNat ((skF A X (Int.ofNat a.i)).fin (Int.ofNat a.k).toNat)).toNat []).getD 20 0 &&
     ((A.getD (Int.ofNat a.i).toNat []).getD 21 0 != 0) ==
     ((X.getD (Int.ofNat ((skF A X (Int.ofNat a.i)).fin (Int.ofNat a.k).toNat)).toNat []).getD 21 0 != 0))))))))))))))))))))))) =
     false →
     (((roF A X).next a 2).i ≤ A.length ∧ A.length ≤ 100000 ∧ ((roF A X).next a 2).k ≤ X.length ∧ ro_s1 X) ∧
     (roF A X).μ ((roF A X).next a 2) < (roF A X).μ a ∧
     (roF A X).fin ((roF A X).next a 2) = (roF A X).fin a ∧
     Int.ofNat ((roF A X).next a 2).i = IntKind.i64.wrap (Int.ofNat a.i + 1) ∧
     Int.ofNat ((roF A X).next a 2).k = IntKind.i64.wrap (Int.ofNat ((skF A X (Int.ofNat a.i)).fin (Int.ofNat a.k).toNat) + 1))),
    decide (Int.ofNat a.i < Int.ofNat A.length) = false → (((roF A X).fin a).bad = true → False) ∧ (((roF A X).fin a).bad = false → Int.ofNat ((roF A X).fin a).k = Int.ofNat a.k)]
theorem ro_round (A X : List (List Int)) (a : RdS) (hNeeds : ∀ pN ∈ (ro_needs A X a), pN) : RoundOk (roundC (roF A X) (bodyOf Try.prog (sums K_awake) L_sk 3 1) 3784 a) :=
  RoundOk.of (ps := (ro_needs A X a)) (by kernel_rfl) (by kernel_rfl) hNeeds
theorem skA_le {X : List (List Int)} (h : X.length ≤ 1000) {k : Nat} (hk : k ≤ X.length) : skA X k ≤ X.length := by
  unfold skA
  have : ∀ (n k : Nat), k ≤ X.length → skN X n k ≤ X.length := by
    intro n
    induction n with
    | zero => intro k h; exact h
    | succ n ih =>
      intro k hk
      unfold skN
      cases hc : skC X k
      · exact hk
      · exact ih _ (skC_lt h hc)
  exact this _ _ hk
theorem ro_rounds (A X : List (List Int)) : RoundsOk (roF A X) (bodyOf Try.prog (sums K_awake) L_sk 3 1) 3784 := by
  intro a hJ
  obtain ⟨h1, h2, h3, h4, h5⟩ : a.i ≤ A.length ∧ A.length ≤ 100000 ∧ a.k ≤ X.length ∧ X.length ≤ 1000 ∧ 1 ≤ X.length := hJ
  have hs := skA_le h4 h3
  have e6 : IntKind.i64.wrap (Int.ofNat a.i + 1) = Int.ofNat (a.i + 1) := wrI (by simp; omega) (by simp; omega)
  have e7 : IntKind.i64.wrap (Int.ofNat (skA X a.k) + 1) = Int.ofNat (skA X a.k + 1) := wrI (by simp; omega) (by simp; omega)
  refine ro_round A X a ?_
  unfold ro_needs
  simp only [List.forall_mem_cons, List.not_mem_nil, false_implies, implies_true, and_true]
  have lt : ro_s0 A a → a.i < A.length := fun h => by unfold ro_s0 at h; simp at h; omega
  have lt2 : ro_s2 A X a → skA X a.k < X.length := fun h => by
    have h' : decide (Int.ofNat (skA X a.k) ≥ Int.ofNat X.length) = false := h
    simp at h'; omega
  have step (h : a.i < A.length) : (roF A X).fin a = bif roB A X a.i a.k then ⟨true, a.k⟩ else roN A X (A.length - (a.i + 1)) ⟨a.i + 1, skA X a.k + 1⟩ := by
    show roN A X (A.length - a.i) a = _
    have e : A.length - a.i = (A.length - (a.i + 1)) + 1 := by omega
    rw [e]; rfl
  have bad (h : a.i < A.length) (hb : roB A X a.i a.k = true) (hf : ((roF A X).fin a).bad = false) : False := by
    rw [step h, hb] at hf; cases hf
  refine ⟨fun h => ⟨⟨h3, h4, h5⟩, trivial, rfl, fun h' => ⟨Int.natCast_nonneg _, lt2 h', lt2 h', Int.natCast_nonneg _, lt h, lt h⟩⟩, fun h => ⟨fun hb hf => ?_, fun h2' => ⟨fun hb hf => ?_, fun hb => ⟨⟨?_, h2, ?_, h4, h5⟩, ?_, ?_, e6.symm, e7.symm⟩⟩⟩, fun h => ?_⟩
  · exact bad (lt h) (by unfold roB; rw [show decide (Int.ofNat (skA X a.k) ≥ Int.ofNat X.length) = true from hb]; rfl) hf
  · exact bad (lt h) (by unfold roB; rw [show diffR (A.getD a.i []) (X.getD (skA X a.k) []) = true from hb]; exact Bool.or_true _) hf
  · have := lt h
    show a.i + 1 ≤ _; omega
  · have := lt2 h2'
    show skA X a.k + 1 ≤ _; omega
  · have := lt h
    show A.length - (a.i + 1) < A.length - a.i; omega
  · show roN A X (A.length - (a.i + 1)) _ = _
    rw [step (lt h)]
    have : roB A X a.i a.k = false := by unfold roB; rw [show decide (Int.ofNat (skA X a.k) ≥ Int.ofNat X.length) = false from h2', show diffR (A.getD a.i []) (X.getD (skA X a.k) []) = false from hb]; rfl
    rw [this]; rfl
  · have hi : a.i = A.length := by simp at h; omega
    have e : (roF A X).fin a = ⟨false, a.k⟩ := by
      show roN A X (A.length - a.i) a = _
      rw [hi, Nat.sub_self]; rfl
    rw [e]
    exact ⟨fun h => (by cases h), fun _ => rfl⟩
noncomputable def roLp : LoopS := fun env mem m => match SX.look mem 2751, SX.look mem 2203 with
  | some (.row _ _ _ (.lst _ _ A)), some (.row _ _ _ (.lst _ _ X)) => famS (roF A X) 3784 (fun _ _ => some ⟨0, 0⟩) env mem m
  | _, _ => none
noncomputable def L_ro : FuncId → Nat → Option LoopS := addL L_sk 3 13 roLp
theorem known_roL : Known Try.prog (sums K_awake) L_ro := by
  refine known_addL 1 known_skL (by kernel_rfl) (codeOk_of fun env mem m x h => ?_)
  unfold roLp at h
  have hlen : (loopList Try.prog 3).length = 3 := by kernel_rfl
  split at h
  · exact ⟨_, fam_ok (bodyOf_ok plainN known_skL (by omega)) (ro_rounds _ _), h⟩
  · cases h
end Go.Proofs.Ytmbfbhimdkjkoaa
namespace Go.Proofs.Ytmbfbhimdkjkoaa
open Go.SX Go.RowKit
noncomputable def sqr (n : Int) : Int := fr 63 n 63
theorem sqr_law {n : Int} (h0 : 0 ≤ n) (h1 : n < 9223372036854775808) : 0 ≤ sqr n ∧ sqr n * sqr n ≤ n ∧ n < (sqr n + 1) * (sqr n + 1) ∧ sqr n ≤ 3037000499 := by
  obtain ⟨a, b, c, d⟩ := fr_all (T := 63) h0 (show n < 2 ^ 63 * 2 ^ 63 from by have : (2 : Int) ^ 63 * 2 ^ 63 = 85070591730234615865843651857942052864 := rfl; omega)
  have : fr 63 n 63 ≤ 3037000499 := by
    rcases Int.lt_or_le 3037000499 (fr 63 n 63) with h | h
    · have := Int.mul_le_mul (show (3037000500 : Int) ≤ fr 63 n 63 by omega) (show (3037000500 : Int) ≤ fr 63 n 63 by omega) (by omega) a
      omega
    · exact h
  exact ⟨a, b, c, this⟩
theorem floorRoot_sqr {n : Int} (h0 : 0 ≤ n) (h1 : n < 9223372036854775808) : floorRoot_0 0 n = sqr n := by
  obtain ⟨a, b, c, d⟩ := sqr_law h0 h1
  obtain ⟨x, y, z, w⟩ := fl_law (a := 0) (b := n) ⟨by omega, by omega⟩ ⟨h0, by omega⟩
  rw [Int.zero_mul, Int.zero_add] at y z
  exact root_one x a y z b c
theorem sub0 {x y : Int} (hx : u64 x) (hy : u64 y) (h : y ≤ x) : sub64v x y 0 = x - y ∧ sub64b x y 0 = 0 := by
  obtain ⟨i, rfl⟩ := Int.eq_ofNat_of_zero_le hx.1
  obtain ⟨j, rfl⟩ := Int.eq_ofNat_of_zero_le hy.1
  unfold sub64v sub64b
  have e : (((i : Int).toNat + 18446744073709551616 - (j : Int).toNat - (0 : Int).toNat) % 18446744073709551616 : Nat) = i - j := by
    simp only [Int.toNat_natCast]
    have : (0 : Int).toNat = 0 := rfl
    omega
  have e2 : ¬ ((i : Int).toNat < (j : Int).toNat + (0 : Int).toNat) := by
    simp only [Int.toNat_natCast]
    have : (0 : Int).toNat = 0 := rfl
    omega
  rw [e, if_neg e2]
  constructor
  · omega
  · rfl
/-- The double of the absolute value, rounded down. -/
noncomputable def tw (p n : Int) : Int := fr 64 (4 * (p * p) / n) 64
/-- The absolute value, rounded to the nearest one; a half up. -/
noncomputable def ovq (p n : Int) (neg : Bool) : Int :=
  if tw p n % 2 = 1 ∧ (neg = false ∨ tw p n * tw p n * n ≠ 4 * (p * p)) then tw p n / 2 + 1 else tw p n / 2
theorem tw_law {p n : Int} (hp : 0 ≤ p ∧ p ≤ 4611686018427387904) (hn : 1 ≤ n ∧ n ≤ 4611686018427387904) : 0 ≤ tw p n ∧ tw p n * tw p n * n ≤ 4 * (p * p) ∧ 4 * (p * p) < (tw p n + 1) * (tw p n + 1) * n ∧ tw p n ≤ 9223372036854775808 := by
  have hq := prod_lt 4611686018427387904 4611686018427387904 (x := p) (y := p) hp hp (by omega)
  have hd : 0 ≤ 4 * (p * p) / n := Int.ediv_nonneg (by omega) (by omega)
  have hd2 := Int.ediv_le_self n (show 0 ≤ 4 * (p * p) by omega)
  have e : (2 : Int) ^ 64 * 2 ^ 64 = 340282366920938463463374607431768211456 := rfl
  obtain ⟨x, y, z, w⟩ := fr_all (T := 64) (x := 4 * (p * p) / n) hd (by omega)
  have h1 := (Int.le_ediv_iff_mul_le (show 0 < n by omega)).1 y
  have h2 : 4 * (p * p) < (tw p n + 1) * (tw p n + 1) * n := by
    rcases Int.lt_or_le (4 * (p * p)) ((tw p n + 1) * (tw p n + 1) * n) with g | g
    · exact g
    · have := (Int.le_ediv_iff_mul_le (show 0 < n by omega)).2 g
      have z' : 4 * (p * p) / n < (tw p n + 1) * (tw p n + 1) := z
      omega
  refine ⟨x, h1, h2, ?_⟩
  rcases Int.lt_or_le (tw p n) 9223372036854775809 with g | g
  · omega
  · exfalso
    have g2 := Int.mul_le_mul g g (by omega) x
    have y' : tw p n * tw p n ≤ 4 * (p * p) / n := y
    omega
theorem wOver_law {a b n : Int} (ha : isI a) (hb : isI b) (la : wsize_0 a ≤ 2147483648) (lb : wsize_0 b ≤ 2147483648) (hn : 1 ≤ n ∧ n ≤ 4611686018427387904) :
    wOver_0 a b n 2 = (if wsign_0 a b < 0 then -ovq (wsize_0 a * wsize_0 b) n true else ovq (wsize_0 a * wsize_0 b) n false) ∧ wOver_1 a b n 2 = true := by
  have sa := wsize_rng ha
  have sb := wsize_rng hb
  obtain ⟨p0, p1⟩ := prod_lt 2147483648 2147483648 (x := wsize_0 a) (y := wsize_0 b) ⟨sa.1, la⟩ ⟨sb.1, lb⟩ (by omega)
  have hc : (decide (wsize_0 a > 2147483648) || decide (wsize_0 b > 2147483648) || decide (n < 1) || decide (n > 4611686018427387904) || !((2 : Int) == 0 || (2 : Int) == 1 || (2 : Int) == 2)) = false := by
    rw [decide_eq_false (by omega), decide_eq_false (by omega), decide_eq_false (by omega), decide_eq_false (by omega)]; rfl
  have ew : IntKind.u64.wrap n = n := wrU (by omega) (by omega)
  have e0 : wOver_s0 a b = 2 * (wsize_0 a * wsize_0 b) := by
    unfold wOver_s0
    rw [wrU (x := wsize_0 a * wsize_0 b) (by omega) (by omega), wrU (by omega) (by omega)]
  generalize hP : wsize_0 a * wsize_0 b = P at *
  have us : u64 (wOver_s0 a b) := by rw [e0]; exact ⟨by omega, by omega⟩
  have hh := m0_u64 us us
  have hl := m1_u64 (wOver_s0 a b) (wOver_s0 a b)
  have ehl : mul64_0 (wOver_s0 a b) (wOver_s0 a b) * 18446744073709551616 + mul64_1 (wOver_s0 a b) (wOver_s0 a b) = 4 * (P * P) := by
    rw [mul64_hi _ _ us us, mul64_lo, e0]
    have : 2 * P * (2 * P) = 4 * (P * P) := by grind
    rw [this]; omega
  obtain ⟨q1, q2, q3, q4⟩ := quot_law hh hl (c := n) (by omega) (by omega)
  rw [ehl] at q3 q4
  have eT : wOver_s2 a b n = tw P n := by
    unfold wOver_s2 wOver_s1
    rw [ew]
    show fr 64 _ 64 = _
    rw [q3]; rfl
  obtain ⟨t0, t1, t2, t3⟩ := tw_law (p := P) (n := n) ⟨p0, by omega⟩ hn
  have uT : u64 (tw P n) := ⟨t0, by omega⟩
  have dm := Int.mul_ediv_add_emod (4 * (P * P)) n
  have m3 := Int.emod_nonneg (4 * (P * P)) (show n ≠ 0 by omega)
  -- is there a rest?
  have e4 : wOver_s4 a b n = decide (tw P n * tw P n * n ≠ 4 * (P * P)) := by
    unfold wOver_s4 wOver_s1
    rw [ew, eT, q4, mul64_hi _ _ uT uT, mul64_lo]
    have hT : (tw P n * tw P n / 18446744073709551616 == div64_0 0 (mul64_0 (wOver_s0 a b) (wOver_s0 a b)) n && tw P n * tw P n % 18446744073709551616 == div64_0 (div64_1 0 (mul64_0 (wOver_s0 a b) (wOver_s0 a b)) n) (mul64_1 (wOver_s0 a b) (wOver_s0 a b)) n) = decide (tw P n * tw P n = 4 * (P * P) / n) := by
      rw [← q3]
      generalize tw P n * tw P n = z at *
      generalize div64_0 0 (mul64_0 (wOver_s0 a b) (wOver_s0 a b)) n = u at *
      generalize div64_0 (div64_1 0 (mul64_0 (wOver_s0 a b) (wOver_s0 a b)) n) (mul64_1 (wOver_s0 a b) (wOver_s0 a b)) n = v at *
      rw [Bool.eq_iff_iff]
      simp only [Bool.and_eq_true, beq_iff_eq, decide_eq_true_eq]
      omega
    rw [hT]
    have hle : tw P n * tw P n ≤ 4 * (P * P) / n := (Int.le_ediv_iff_mul_le (show 0 < n by omega)).2 t1
    have hcm : n * (4 * (P * P) / n) = 4 * (P * P) / n * n := Int.mul_comm _ _
    rw [hcm] at dm
    rw [Bool.eq_iff_iff]
    simp only [Bool.or_eq_true, Bool.not_eq_true', decide_eq_true_eq, decide_eq_false_iff_not]
    constructor
    · rintro (g | g)
      · have := Int.mul_le_mul_of_nonneg_right hle (show 0 ≤ n by omega)
        omega
      · have := Int.mul_le_mul_of_nonneg_right (show tw P n * tw P n + 1 ≤ 4 * (P * P) / n by omega) (show 0 ≤ n by omega)
        rw [Int.add_mul] at this
        omega
    · intro g
      by_cases g2 : tw P n * tw P n = 4 * (P * P) / n
      · left
        rw [g2] at g
        omega
      · exact .inr g2
  have e3 : wOver_s3 a b n = decide (tw P n % 2 = 1) := by
    unfold wOver_s3
    rw [eT, Int.tmod_eq_emod_of_nonneg t0]
    rfl
  have ehalf : IntKind.u64.wrap ((tw P n).tdiv 2) = tw P n / 2 := by
    rw [Int.tdiv_eq_ediv_of_nonneg t0, wrU (by omega) (by omega)]
  unfold wOver_0 wOver_1
  rw [hc, cond_false, cond_false, eT, ehalf, e3, e4, wrU (x := tw P n / 2 + 1) (by omega) (by omega)]
  have e5 : wOver_s5 a b = decide (wsign_0 a b < 0) := rfl
  rw [e5]
  have key : ∀ ng : Bool, (bif grows_0 2 (bif decide (tw P n % 2 = 1) then bif decide (tw P n * tw P n * n ≠ 4 * (P * P)) then 1 else 0 else -1) (decide (tw P n * tw P n * n ≠ 4 * (P * P)) || decide (tw P n % 2 = 1)) ng then tw P n / 2 + 1 else tw P n / 2) = ovq P n ng := by
    intro ng
    unfold ovq grows_0
    by_cases g1 : tw P n % 2 = 1
    · by_cases g2 : tw P n * tw P n * n = 4 * (P * P)
      · cases ng <;> simp [g1, g2]
      · cases ng <;> simp [g1, g2]
    · simp [g1]
  have hq : ∀ ng, 0 ≤ ovq P n ng ∧ ovq P n ng ≤ 4611686018427387905 := fun ng => by
    unfold ovq
    split <;> omega
  rw [key]
  by_cases hs : wsign_0 a b < 0
  · rw [decide_eq_true hs, if_pos hs]
    unfold signed_0 signed_1
    have := hq true
    rw [decide_eq_true (show ovq P n true ≤ 9223372036854775808 by omega)]
    simp only [Bool.and_self, cond_true, Bool.true_or, and_true]
    by_cases hz : ovq P n true = 0
    · rw [hz]; rfl
    · rw [wrU_mod]
      have : (0 - ovq P n true) % 18446744073709551616 = 18446744073709551616 - ovq P n true := by omega
      rw [this]
      unfold IntKind.wrap
      simp only [IntKind.bits, IntKind.signed]
      simp
      omega
  · rw [decide_eq_false hs, if_neg hs]
    unfold signed_0 signed_1
    have := hq false
    rw [decide_eq_true (show ovq P n false < 9223372036854775808 by omega)]
    simp only [Bool.false_and, cond_false, Bool.not_false, Bool.and_self, cond_true, Bool.false_or, and_true]
    rw [wrI (by omega) (by omega)]
theorem wsize_le {a : Int} (h : bd 2147483648 a) : wsize_0 a ≤ 2147483648 := by
  rw [wsize_eq a ⟨by omega, by omega⟩]
  split <;> omega
theorem over_bad (a b n : Int) (hn : n < 1) : wOver_0 a b n 2 = 0 := by
  have hc : (decide (wsize_0 a > 2147483648) || decide (wsize_0 b > 2147483648) || decide (n < 1) || decide (n > 4611686018427387904) || !((2 : Int) == 0 || (2 : Int) == 1 || (2 : Int) == 2)) = true := by
    rw [decide_eq_true hn]; simp
  unfold wOver_0
  rw [hc, cond_true]
theorem over_zero (a b : Int) : wOver_0 a b 0 2 = 0 := over_bad a b 0 (by omega)
theorem sqm {x y n : Int} (h0 : 0 ≤ x) (h : x ≤ y) (hn : 0 ≤ n) : x * x * n ≤ y * y * n :=
  Int.mul_le_mul_of_nonneg_right (Int.mul_le_mul h h h0 (by omega)) hn
theorem ovq_law {p n : Int} (ng : Bool) (hp : 0 ≤ p ∧ p ≤ 4611686018427387904) (hn : 1 ≤ n ∧ n ≤ 4611686018427387904) :
    0 ≤ ovq p n ng ∧ (1 ≤ ovq p n ng → (2 * ovq p n ng - 1) * (2 * ovq p n ng - 1) * n ≤ 4 * (p * p)) ∧ 4 * (p * p) ≤ (2 * ovq p n ng + 1) * (2 * ovq p n ng + 1) * n := by
  obtain ⟨t0, t1, t2, t3⟩ := tw_law hp hn
  unfold ovq
  generalize tw p n = t at *
  by_cases h1 : t % 2 = 1
  · by_cases h2 : ng = false ∨ t * t * n ≠ 4 * (p * p)
    · rw [if_pos ⟨h1, h2⟩]
      have e1 : 2 * (t / 2 + 1) - 1 = t := by omega
      have e2 : 2 * (t / 2 + 1) + 1 = t + 2 := by omega
      rw [e1, e2]
      exact ⟨by omega, fun _ => t1, by have := sqm (x := t + 1) (y := t + 2) (n := n) (by omega) (by omega) (by omega); omega⟩
    · rw [if_neg (fun h => h2 h.2)]
      have e1 : 2 * (t / 2) - 1 = t - 2 := by omega
      have e2 : 2 * (t / 2) + 1 = t := by omega
      rw [e1, e2]
      have h3 : t * t * n = 4 * (p * p) := by
        by_cases h : t * t * n = 4 * (p * p)
        · exact h
        · exact absurd (.inr h) h2
      exact ⟨by omega, fun _ => by have := sqm (x := t - 2) (y := t) (n := n) (by omega) (by omega) (by omega); omega, by omega⟩
  · rw [if_neg (fun h => h1 h.1)]
    have e1 : 2 * (t / 2) - 1 = t - 1 := by omega
    have e2 : 2 * (t / 2) + 1 = t + 1 := by omega
    rw [e1, e2]
    exact ⟨by omega, fun _ => by have := sqm (x := t - 1) (y := t) (n := n) (by omega) (by omega) (by omega); omega, by omega⟩
/-- Down or up at a half: by at most one. -/
theorem ovq_diff (p n : Int) : ovq p n true ≤ ovq p n false ∧ ovq p n false ≤ ovq p n true + 1 := by
  unfold ovq
  by_cases h1 : tw p n % 2 = 1
  · rw [if_pos (c := tw p n % 2 = 1 ∧ (false = false ∨ _)) ⟨h1, .inl rfl⟩]
    split <;> omega
  · rw [if_neg (fun h => h1 h.1), if_neg (fun h => h1 h.1)]
    omega
theorem abs_ex (x : Int) : ∃ p : Int, 0 ≤ p ∧ (x = p ∨ x = -p) ∧ (0 ≤ x → p = x) ∧ p * p = x * x := by
  by_cases h : x < 0
  · exact ⟨-x, by omega, by omega, by omega, Int.neg_mul_neg _ _⟩
  · exact ⟨x, by omega, by omega, by omega, rfl⟩
/-- Over, by its absolute value. -/
theorem over_val {a g N : Int} (ha : bd 4194304 a) (hg : bd 4194304 g) (hN : 1 ≤ N ∧ N ≤ 4611686018427387904) :
    ∃ P : Int, (0 ≤ P ∧ P ≤ 17592186044416) ∧ P * P = (a * g) * (a * g) ∧ (0 ≤ a * g → wOver_0 a g N 2 = ovq P N false) ∧ (a * g < 0 → wOver_0 a g N 2 = -ovq P N true) ∧ wOver_0 a (-g) N 2 = (if a * g > 0 then -ovq P N true else ovq P N false) := by
  have hl := (wOver_law (a := a) (b := g) (n := N) ⟨by omega, by omega⟩ ⟨by omega, by omega⟩ (wsize_le (by omega)) (wsize_le (by omega)) hN).1
  have hl' := (wOver_law (a := a) (b := -g) (n := N) ⟨by omega, by omega⟩ ⟨by omega, by omega⟩ (wsize_le (by omega)) (wsize_le (by omega)) hN).1
  obtain ⟨p, p0, p1, p2, p3⟩ := abs_ex a
  obtain ⟨q, q0, q1, q2, q3⟩ := abs_ex g
  have sa : wsize_0 a = p := by
    rw [wsize_eq a ⟨by omega, by omega⟩]; split <;> omega
  have sg : wsize_0 g = q := by
    rw [wsize_eq g ⟨by omega, by omega⟩]; split <;> omega
  have sg' : wsize_0 (-g) = q := by
    rw [wsize_eq (-g) ⟨by omega, by omega⟩]; split <;> omega
  rw [sa, sg] at hl
  rw [sa, sg'] at hl'
  have hpq := prod_lt 4194304 4194304 (x := p) (y := q) ⟨p0, by omega⟩ ⟨q0, by omega⟩ (by omega)
  have hs := wsign_or a g
  have hs' := wsign_or a (-g)
  rw [Int.mul_neg] at hs'
  refine ⟨p * q, ⟨hpq.1, by omega⟩, ?_, ?_, ?_, ?_⟩
  · have e : p * q * (p * q) = p * p * (q * q) := by grind
    rw [e, p3, q3]; grind
  · intro h
    rw [hl, if_neg (by rcases hs with ⟨h1, h2⟩ | ⟨h1, h2, h3⟩ | ⟨h1, h2, h3⟩ <;> omega)]
  · intro h
    rw [hl, if_pos (by rcases hs with ⟨h1, h2⟩ | ⟨h1, h2, h3⟩ | ⟨h1, h2, h3⟩ <;> omega)]
  · rw [hl']
    by_cases h : a * g > 0
    · rw [if_pos h, if_pos (by rcases hs' with ⟨h1, h2⟩ | ⟨h1, h2, h3⟩ | ⟨h1, h2, h3⟩ <;> omega)]
    · rw [if_neg h, if_neg (by rcases hs' with ⟨h1, h2⟩ | ⟨h1, h2, h3⟩ | ⟨h1, h2, h3⟩ <;> omega)]
theorem over_abs {a g N : Int} (ha : bd 4194304 a) (hg : bd 4194304 g) (hN : 1 ≤ N ∧ N ≤ 4611686018427387904) :
    ∃ U : Int, 0 ≤ U ∧ (0 ≤ a * g → wOver_0 a g N 2 = U) ∧ (a * g < 0 → wOver_0 a g N 2 = -U) ∧ (1 ≤ U → (2 * U - 1) * (2 * U - 1) * N ≤ 4 * ((a * g) * (a * g))) ∧ 4 * ((a * g) * (a * g)) ≤ (2 * U + 1) * (2 * U + 1) * N := by
  obtain ⟨P, h0, h1, h2, h3, _⟩ := over_val ha hg hN
  rw [← h1]
  by_cases h : 0 ≤ a * g
  · obtain ⟨o1, o2, o3⟩ := ovq_law false (p := P) (n := N) ⟨h0.1, by omega⟩ hN
    exact ⟨_, o1, fun _ => h2 h, fun h' => by omega, o2, o3⟩
  · obtain ⟨o1, o2, o3⟩ := ovq_law true (p := P) (n := N) ⟨h0.1, by omega⟩ hN
    exact ⟨_, o1, fun h' => by omega, fun _ => h3 (by omega), o2, o3⟩
/-- One way and the other way: by at most one. -/
theorem over_opp {a g N : Int} (ha : bd 4194304 a) (hg : bd 4194304 g) (hN : 1 ≤ N ∧ N ≤ 4611686018427387904) : 0 ≤ wOver_0 a g N 2 + wOver_0 a (-g) N 2 ∧ wOver_0 a g N 2 + wOver_0 a (-g) N 2 ≤ 1 := by
  obtain ⟨P, h0, h1, h2, h3, h4⟩ := over_val ha hg hN
  obtain ⟨d1, d2⟩ := ovq_diff P N
  rw [h4]
  by_cases h : 0 < a * g
  · rw [h2 (by omega), if_pos h]; omega
  · rw [if_neg h]
    by_cases h' : a * g = 0
    · rw [h'] at h1
      have hP : P = 0 := by
        rcases Int.lt_or_le 0 P with g | g
        · have := Int.mul_pos g g; omega
        · omega
      have hz : tw 0 N = 0 := by
        obtain ⟨t0, t1, _, _⟩ := tw_law (p := 0) (n := N) ⟨by omega, by omega⟩ hN
        rcases Int.lt_or_le 0 (tw 0 N) with g | g
        · have := Int.mul_pos (Int.mul_pos g g) (show 0 < N by omega); omega
        · omega
      rw [h2 (by omega), hP]
      unfold ovq
      rw [hz, if_neg (fun h => by have := h.1; omega)]
      omega
    · rw [h3 (by omega)]; omega
theorem over_ineq {p q U W g N : Int} (hp : 0 ≤ p) (hq : 0 ≤ q) (hU : 0 ≤ U) (hW : 0 ≤ W) (hN : 0 < N) (h1 : 1 ≤ U → (2 * U - 1) * (2 * U - 1) * N ≤ 4 * ((p * g) * (p * g))) (h2 : 4 * ((q * g) * (q * g)) ≤ (2 * W + 1) * (2 * W + 1) * N) :
    q * (2 * U - 1) ≤ p * (2 * W + 1) := by
  have hY : 0 ≤ p * (2 * W + 1) := Int.mul_nonneg hp (by omega)
  by_cases hU0 : U = 0
  · subst hU0
    have : q * (2 * 0 - 1) = -q := by omega
    omega
  · rcases Int.lt_or_le (p * (2 * W + 1)) (q * (2 * U - 1)) with h | h
    · exfalso
      have s1 := Int.mul_self_lt_mul_self hY h
      have s2 := Int.mul_lt_mul_of_pos_right s1 hN
      have e1 : q * (2 * U - 1) * (q * (2 * U - 1)) * N = q * q * ((2 * U - 1) * (2 * U - 1) * N) := by grind
      have e2 : p * (2 * W + 1) * (p * (2 * W + 1)) * N = p * p * ((2 * W + 1) * (2 * W + 1) * N) := by grind
      have q0 : 0 ≤ q * q := Int.mul_nonneg hq hq
      have p0 : 0 ≤ p * p := Int.mul_nonneg hp hp
      have m1 := Int.mul_le_mul_of_nonneg_left (h1 (by omega)) q0
      have m2 := Int.mul_le_mul_of_nonneg_left h2 p0
      have e3 : q * q * (4 * ((p * g) * (p * g))) = p * p * (4 * ((q * g) * (q * g))) := by grind
      omega
    · exact h
theorem sq_nn1 (x : Int) : 0 ≤ x * x := by
  have := sq_nn x 0
  rw [Int.mul_zero, Int.add_zero] at this
  exact this
theorem sq_mul {p x g : Int} (h : p * p = x * x) : (p * g) * (p * g) = (x * g) * (x * g) := by
  have e1 : (p * g) * (p * g) = p * p * (g * g) := by grind
  have e2 : (x * g) * (x * g) = x * x * (g * g) := by grind
  rw [e1, e2, h]
theorem over_bd {a g N m : Int} (hm : 0 ≤ m) (hm2 : m ≤ 4194304) (ha : bd 4194304 a) (hg : bd m g) (hN : 1 ≤ N ∧ N ≤ 4611686018427387904) (haN : a * a ≤ N) : bd m (wOver_0 a g N 2) := by
  obtain ⟨U, U0, u1, u2, U1, U2⟩ := over_abs ha (show bd 4194304 g by omega) hN
  have hU : U ≤ m := by
    rcases Int.lt_or_le m U with h | h
    · exfalso
      have h1 := U1 (by omega)
      have k1 := sqm (x := 2 * m + 1) (y := 2 * U - 1) (n := N) (by omega) (by omega) (by omega)
      have k2 : (a * g) * (a * g) = a * a * (g * g) := by grind
      have k3 := mul_bd hg hg hm hm
      have k4 := Int.mul_le_mul_of_nonneg_right haN (sq_nn1 g)
      have k5 := Int.mul_le_mul_of_nonneg_left k3.2 (show 0 ≤ N by omega)
      have k6 : (2 * m + 1) * (2 * m + 1) * N = 4 * (N * (m * m)) + 4 * (m * N) + N := by grind
      have k7 := Int.mul_nonneg hm (show 0 ≤ N by omega)
      omega
    · exact h
  by_cases h : 0 ≤ a * g
  · rw [u1 h]; omega
  · rw [u2 (by omega)]; omega
theorem nrm_ok {p0 p1 t0 t1 r : Int} (h0 : t0 ≠ 0 ∨ t1 ≠ 0) (h1 : bd 4194304 t0) (h2 : bd 4194304 t1) (h3 : bd 1048576 p0) (h4 : bd 1048576 p1) (h5 : bd 32768 r) : (t0 == 0 && t1 == 0 || !oin_0 t0 4194304 || !oin_0 t1 4194304 || !oin_0 p0 1048576 || !oin_0 p1 1048576 || !oin_0 r 32768) = false := by
  rw [(oin_iff (by omega) (by omega)).2 h1, (oin_iff (by omega) (by omega)).2 h2, (oin_iff (by omega) (by omega)).2 h3, (oin_iff (by omega) (by omega)).2 h4, (oin_iff (by omega) (by omega)).2 h5]
  have : (t0 == 0 && t1 == 0) = false := by
    rw [Bool.and_eq_false_iff, beq_eq_false_iff_ne, beq_eq_false_iff_ne]; exact h0
  rw [this]; rfl
/-- A normal's point. -/
theorem normal_val {p0 p1 t0 t1 r : Int} (h0 : t0 ≠ 0 ∨ t1 ≠ 0) (h1 : bd 4194304 t0) (h2 : bd 4194304 t1) (h3 : bd 1048576 p0) (h4 : bd 1048576 p1) (h5 : bd 32768 r) :
    onormal_0 p0 p1 t0 t1 r = p0 + wOver_0 (-t1) r (t0 * t0 + t1 * t1) 2 ∧ onormal_1 p0 p1 t0 t1 r = p1 + wOver_0 t0 r (t0 * t0 + t1 * t1) 2 ∧ onormal_2 p0 p1 t0 t1 r = true ∧ bd 32768 (wOver_0 (-t1) r (t0 * t0 + t1 * t1) 2) ∧ bd 32768 (wOver_0 t0 r (t0 * t0 + t1 * t1) 2) ∧ 1 ≤ t0 * t0 + t1 * t1 ∧ t0 * t0 + t1 * t1 ≤ 35184372088832 := by
  have hn := sq_pos h0
  have m1 := mul_bd h1 h1 (by omega) (by omega)
  have m2 := mul_bd h2 h2 (by omega) (by omega)
  have n1 := sq_nn1 t0
  have n2 := sq_nn1 t1
  have b1 : bd 32768 (wOver_0 (-t1) r (t0 * t0 + t1 * t1) 2) := over_bd (by omega) (by omega) (by omega) h5 (by omega) (by rw [Int.neg_mul_neg]; omega)
  have b2 : bd 32768 (wOver_0 t0 r (t0 * t0 + t1 * t1) 2) := over_bd (by omega) (by omega) (by omega) h5 (by omega) (by omega)
  have ev : vinner_0 t0 t1 t0 t1 = t0 * t0 + t1 * t1 := vinner_eq (by omega) (by omega) (by omega) (by omega)
  have ew : IntKind.i64.wrap (0 - t1) = -t1 := by rw [wrI (by omega) (by omega)]; omega
  unfold onormal_0 onormal_1 onormal_2
  rw [nrm_ok h0 h1 h2 h3 h4 h5, ev, ew, cond_false, cond_false, addpt_eq (by omega) (by omega), addpt_eq (by omega) (by omega)]
  exact ⟨rfl, rfl, rfl, b1, b2, by omega, by omega⟩
end Go.Proofs.Ytmbfbhimdkjkoaa
namespace Go.Proofs.Ytmbfbhimdkjkoaa
open Go.SX Go.RowKit
theorem four_ok {a b c d : Bool} (h : (bif !a then (3 : Int) else bif !b then 3 else bif !c then 3 else bif !d then 3 else 0) = 0) : a = true ∧ b = true ∧ c = true ∧ d = true := by
  cases a <;> cases b <;> cases c <;> cases d <;> first | exact ⟨rfl, rfl, rfl, rfl⟩ | exact absurd h (by decide)
theorem ends_ok (e0 e1 e2 e3 e4 e5 e6 r : Int) (h : oends_4 e0 e1 e2 e3 e4 e5 e6 r = 0) :
    oends_0 e0 e1 e2 e3 e4 e5 e6 r = oends_s1 e0 e1 e2 e3 e4 e5 e6 r ∧ oends_1 e0 e1 e2 e3 e4 e5 e6 r = oends_s3 e0 e1 e2 e3 e4 e5 e6 r ∧
    oends_2 e0 e1 e2 e3 e4 e5 e6 r = oends_s5 e0 e1 e2 e3 e4 e5 e6 r ∧ oends_3 e0 e1 e2 e3 e4 e5 e6 r = oends_s7 e0 e1 e2 e3 e4 e5 e6 r ∧
    oin_0 (oends_s1 e0 e1 e2 e3 e4 e5 e6 r) 1048576 = true ∧ oin_0 (oends_s3 e0 e1 e2 e3 e4 e5 e6 r) 1048576 = true ∧ oin_0 (oends_s5 e0 e1 e2 e3 e4 e5 e6 r) 1048576 = true ∧ oin_0 (oends_s7 e0 e1 e2 e3 e4 e5 e6 r) 1048576 = true := by
  have key : oends_s9 e0 e1 e2 e3 e4 e5 e6 r = 0 → oends_s2 e0 e1 e2 e3 e4 e5 e6 r = oends_s1 e0 e1 e2 e3 e4 e5 e6 r ∧ oends_s4 e0 e1 e2 e3 e4 e5 e6 r = oends_s3 e0 e1 e2 e3 e4 e5 e6 r ∧
      oends_s6 e0 e1 e2 e3 e4 e5 e6 r = oends_s5 e0 e1 e2 e3 e4 e5 e6 r ∧ oends_s8 e0 e1 e2 e3 e4 e5 e6 r = oends_s7 e0 e1 e2 e3 e4 e5 e6 r ∧
      oin_0 (oends_s1 e0 e1 e2 e3 e4 e5 e6 r) 1048576 = true ∧ oin_0 (oends_s3 e0 e1 e2 e3 e4 e5 e6 r) 1048576 = true ∧ oin_0 (oends_s5 e0 e1 e2 e3 e4 e5 e6 r) 1048576 = true ∧ oin_0 (oends_s7 e0 e1 e2 e3 e4 e5 e6 r) 1048576 = true := by
    intro h
    obtain ⟨h1, h2, h3, h4⟩ := four_ok (show (bif !oin_0 (oends_s1 e0 e1 e2 e3 e4 e5 e6 r) 1048576 then (3 : Int) else bif !oin_0 (oends_s3 e0 e1 e2 e3 e4 e5 e6 r) 1048576 then 3 else bif !oin_0 (oends_s5 e0 e1 e2 e3 e4 e5 e6 r) 1048576 then 3 else bif !oin_0 (oends_s7 e0 e1 e2 e3 e4 e5 e6 r) 1048576 then 3 else 0) = 0 from h)
    have e (a : Int) : (bif !oin_0 (oends_s1 e0 e1 e2 e3 e4 e5 e6 r) 1048576 then (0 : Int) else bif !oin_0 (oends_s3 e0 e1 e2 e3 e4 e5 e6 r) 1048576 then 0 else bif !oin_0 (oends_s5 e0 e1 e2 e3 e4 e5 e6 r) 1048576 then 0 else bif !oin_0 (oends_s7 e0 e1 e2 e3 e4 e5 e6 r) 1048576 then 0 else a) = a := by rw [h1, h2, h3, h4]; rfl
    exact ⟨e _, e _, e _, e _, h1, h2, h3, h4⟩
  unfold oends_4 at h
  unfold oends_0 oends_1 oends_2 oends_3
  generalize (e6 != 0 && oinward_0 e6 r) = b1 at h ⊢
  generalize decide (vinner_0 (minus_0 e0 e4) (minus_0 e1 e5) (minus_0 e0 e4) (minus_0 e1 e5) < IntKind.i64.wrap (oends_s0 r * oends_s0 r)) = b2 at h ⊢
  generalize decide (vinner_0 (minus_0 e2 e4) (minus_0 e3 e5) (minus_0 e2 e4) (minus_0 e3 e5) < IntKind.i64.wrap (oends_s0 r * oends_s0 r)) = b3 at h ⊢
  cases b1
  · exact key h
  · cases b2
    · cases b3
      · exact key h
      · exact absurd h (by show ¬ (16 : Int) = 0; decide)
    · exact absurd h (by show ¬ (16 : Int) = 0; decide)
theorem oin_bd {n m : Int} (hm : 0 ≤ m) (hm2 : m ≤ 1000000000) : oin_0 n m = true ↔ bd m n := by
  unfold oin_0
  rw [wrI (by omega) (by omega)]
  simp only [Bool.and_eq_true, decide_eq_true_eq]
  omega
/-- A straight piece's directions. -/
theorem line_ends {x y u v r : Int} (hx : bd 1048576 x) (hy : bd 1048576 y) (hu : bd 1048576 u) (hv : bd 1048576 v) :
    oends_s1 x y u v 0 0 0 r = onormal_0 x y (u - x) (v - y) r ∧ oends_s3 x y u v 0 0 0 r = onormal_1 x y (u - x) (v - y) r ∧
    oends_s5 x y u v 0 0 0 r = onormal_0 u v (u - x) (v - y) r ∧ oends_s7 x y u v 0 0 0 r = onormal_1 u v (u - x) (v - y) r := by
  have e0 : IntKind.i64.wrap (u - x) = u - x := wrI (by omega) (by omega)
  have e1 : IntKind.i64.wrap (v - y) = v - y := wrI (by omega) (by omega)
  have a0 : ∀ b, atang_0 (oitem_0 0) x y 0 u v 0 17 (oitem_1 0 0) (oitem_1 0 0) 0 (oitem_3 0) b = u - x := fun b => by show IntKind.i64.wrap (u - x) = _; exact e0
  have a1 : ∀ b, atang_1 (oitem_0 0) x y 0 u v 0 17 (oitem_1 0 0) (oitem_1 0 0) 0 (oitem_3 0) b = v - y := fun b => by show IntKind.i64.wrap (v - y) = _; exact e1
  unfold oends_s1 oends_s3 oends_s5 oends_s7
  rw [a0, a1, a0, a1]
  exact ⟨rfl, rfl, rfl, rfl⟩
/-- An arc's directions: t is the spoke turned. -/
theorem arc_ends {x y u v c d e r : Int} (he : e = 1 ∨ e = -1) (hx : bd 1048576 x) (hy : bd 1048576 y) (hu : bd 1048576 u) (hv : bd 1048576 v) (hc : bd 1048576 c) (hd : bd 1048576 d) :
    oends_s1 x y u v c d e r = onormal_0 x y (-(y - d) * e) ((x - c) * e) r ∧ oends_s3 x y u v c d e r = onormal_1 x y (-(y - d) * e) ((x - c) * e) r ∧
    oends_s5 x y u v c d e r = onormal_0 u v (-(v - d) * e) ((u - c) * e) r ∧ oends_s7 x y u v c d e r = onormal_1 u v (-(v - d) * e) ((u - c) * e) r := by
  have w : ∀ {a : Int}, bd 4000000 a → IntKind.i64.wrap a = a := fun h => wrI (by omega) (by omega)
  have i0 : oitem_0 e = 3 := by rcases he with rfl | rfl <;> rfl
  have i1 : oitem_1 c e = c := by rcases he with rfl | rfl <;> rfl
  have i2 : oitem_1 d e = d := by rcases he with rfl | rfl <;> rfl
  have i3 : oitem_3 e = e := oitem_3_id e
  have s0 : ∀ {p q : Int}, bd 1048576 p → bd 1048576 q → aspokes_0 p q 0 17 c d 0 = p - c := fun hp hq => by
    rename_i p q
    show IntKind.i64.wrap (p - c) = _
    exact w (by omega)
  have s1 : ∀ {p q : Int}, bd 1048576 p → bd 1048576 q → aspokes_1 p q 0 17 c d 0 = q - d := fun hp hq => by
    rename_i p q
    show IntKind.i64.wrap (q - d) = _
    exact w (by omega)
  have n : ∀ {a : Int}, bd 3000000 a → IntKind.i64.wrap (0 - a) = -a := fun h => by rw [w (by omega)]; omega
  have t0 : ∀ b, atang_0 3 x y 0 u v 0 17 c d 0 e b = bif b then -(v - d) * e else -(y - d) * e := fun b => by
    unfold atang_0 atang_s0
    rw [s1 hu hv, s1 hx hy]
    rcases he with rfl | rfl <;> cases b <;> simp only [cond_true, cond_false, bne_self_eq_false] <;> first | (rw [show decide ((1 : Int) < 0) = false from rfl, cond_false, n (by omega)]; omega) | (rw [show decide ((-1 : Int) < 0) = true from rfl, cond_true]; omega)
  have t1 : ∀ b, atang_1 3 x y 0 u v 0 17 c d 0 e b = bif b then (u - c) * e else (x - c) * e := fun b => by
    unfold atang_1 atang_s1
    rw [s0 hu hv, s0 hx hy]
    rcases he with rfl | rfl <;> cases b <;> simp only [cond_true, cond_false, bne_self_eq_false] <;> first | (rw [show decide ((1 : Int) < 0) = false from rfl, cond_false]; omega) | (rw [show decide ((-1 : Int) < 0) = true from rfl, cond_true, n (by omega)]; omega)
  unfold oends_s1 oends_s3 oends_s5 oends_s7
  rw [i0, i1, i2, i3, t0, t1, t0, t1]
  exact ⟨rfl, rfl, rfl, rfl⟩
theorem norm0 {p0 p1 t0 t1 : Int} (h0 : t0 ≠ 0 ∨ t1 ≠ 0) (h1 : bd 4194304 t0) (h2 : bd 4194304 t1) (h3 : bd 1048576 p0) (h4 : bd 1048576 p1) : onormal_0 p0 p1 t0 t1 0 = p0 ∧ onormal_1 p0 p1 t0 t1 0 = p1 := by
  obtain ⟨a, b, _, _, _, h5, h6⟩ := normal_val (r := 0) h0 h1 h2 h3 h4 (by omega)
  have q0 := mul_bd (m := 4194304) (n := 4194304) h1 h1 (by omega) (by omega)
  have z0 : bd 0 (wOver_0 (-t1) 0 (t0 * t0 + t1 * t1) 2) := over_bd (by omega) (by omega) (by omega) (by omega) ⟨h5, by omega⟩ (by
    have := sq_nn1 t0
    have e : -t1 * -t1 = t1 * t1 := by grind
    rw [e]; omega)
  have z1 : bd 0 (wOver_0 t0 0 (t0 * t0 + t1 * t1) 2) := over_bd (by omega) (by omega) (by omega) (by omega) ⟨h5, by omega⟩ (by have := sq_nn1 t1; omega)
  rw [a, b]
  omega
end Go.Proofs.Ytmbfbhimdkjkoaa
namespace Go.Proofs.Ytmbfbhimdkjkoaa
open Go.SX Go.RowKit
/-- What stands between the lead-in and the lead-out. -/
inductive Mid (sd ra : Int) : List Int → Prop where
  | out (n : Int) : Mid sd ra (itO n)
  | line (x y z u v w fe : Int) (h : fe = 30000 ∨ fe = 60000) : Mid sd ra (itL x y z u v w fe sd ra)
  | arc (x y z u v w c d e dir : Int) : Mid sd ra (itA x y z u v w c d e dir 60000 sd ra)
theorem conStep_mid (L : List (List Int)) (sd ra sz : Int) (s : CS) : ∃ r, Mid sd ra r ∧ (conStep L sd ra sz s).R = s.R ++ [r] := by
  unfold conStep
  cases next_0 10 s.a L == 0
  · cases next_0 10 s.a L == 1
    · cases (bif next_0 10 s.a L == 2 then next_0 10 s.a L == 2 else next_0 10 s.a L == 3)
      · exact ⟨_, .line _ _ _ _ _ _ _ (.inr rfl), rfl⟩
      · exact ⟨_, .arc _ _ _ _ _ _ _ _ _ _, rfl⟩
    · exact ⟨_, .line _ _ _ _ _ _ _ (.inl rfl), rfl⟩
  · exact ⟨_, .out _, rfl⟩
theorem conN_mid (L : List (List Int)) (sd ra sz : Int) : ∀ (k : Nat) (s : CS), ∃ l, (∀ r ∈ l, Mid sd ra r) ∧ (conN L sd ra sz k s).R = s.R ++ l
  | 0, s => ⟨[], fun _ h => (by cases h), (List.append_nil _).symm⟩
  | k + 1, s => by
    obtain ⟨r, h1, h2⟩ := conStep_mid L sd ra sz s
    obtain ⟨l, h3, h4⟩ := conN_mid L sd ra sz k (conStep L sd ra sz s)
    refine ⟨r :: l, fun q hq => ?_, ?_⟩
    · rcases List.mem_cons.1 hq with rfl | hq
      · exact h1
      · exact h3 q hq
    · show (conN L sd ra sz k (conStep L sd ra sz s)).R = _
      rw [h4, h2, List.append_assoc]; rfl
theorem cSd_pm (a : Int) (L : List (List Int)) : cSd a L = 1 ∨ cSd a L = -1 := by
  have h := next_0_range 2 a L (by omega) (by omega)
  unfold cSd
  rcases (show next_0 2 a L = 0 ∨ next_0 2 a L = 1 by omega) with e | e <;> rw [e]
  · exact .inl (by decide)
  · exact .inr (by decide)
theorem contL_shape (a : Int) (L : List (List Int)) : ∃ x y z u v w mids p q r p' q' r', (∀ m ∈ mids, Mid (cSd a L) (cRa a L) m) ∧
    contL a L = itL x y z u v w 60000 (cSd a L) (cRa a L) :: (mids ++ [itM p q r p' q' r']) := by
  obtain ⟨l, h1, h2⟩ := conN_mid L (cSd a L) (cRa a L) (cSz a L) (cS a L).k (cS a L)
  obtain ⟨x, y, z, u, v, w, e1⟩ : ∃ x y z u v w, (cS a L).R = [itL x y z u v w 60000 (cSd a L) (cRa a L)] := ⟨_, _, _, _, _, _, rfl⟩
  obtain ⟨p, q, r, p', q', r', e2⟩ : ∃ p q r p' q' r', contL a L = (cT a L).R ++ [itM p q r p' q' r'] := ⟨_, _, _, _, _, _, rfl⟩
  refine ⟨x, y, z, u, v, w, l, p, q, r, p', q', r', h1, ?_⟩
  have e3 : (cT a L).R = (cS a L).R ++ l := h2
  rw [e2, e3, e1]
  rfl
/-! ### Valid items -/
theorem bcond {c b : Bool} (h : (bif c then false else b) = true) : c = false ∧ b = true := by
  cases c
  · exact ⟨rfl, h⟩
  · cases h
theorem cvalid_motion {x : List GC} (hv : cvalid_0 x = true) (hm : cmotion_0 (xi x 0) = true) :
    vwithin_0 (xi x 2) (xi x 3) (xi x 4) = true ∧ vwithin_0 (xi x 5) (xi x 6) (xi x 7) = true ∧ (decide (xi x 1 < 0) || decide (xi x 1 ≥ 2000)) = false ∧
    (bif xi x 0 == 3 then bif acheck_0 (xi x 0) (xi x 2) (xi x 3) (xi x 4) (xi x 5) (xi x 6) (xi x 7) (xi x 8) (xi x 9) (xi x 10) (xi x 11) (xi x 12) (xb x 13) != 0 then false else cvalid_s1 x
      else bif !(xi x 9 == 0 && (xi x 10 == 0 && xi x 11 == 0)) || xi x 12 != 0 || xb x 13 then false else cvalid_s1 x) = true := by
  unfold cvalid_0 at hv
  obtain ⟨h0, hv⟩ := bcond hv
  rw [hm, cond_true] at hv
  obtain ⟨h1, h2⟩ := bcond hv
  simp only [Bool.or_eq_false_iff, Bool.not_eq_false'] at h1
  exact ⟨h1.1.1.1.1, h1.1.1.1.2, h0, h2⟩
theorem vwithin_bd {a b c : Int} (h : vwithin_0 a b c = true) : bd 1048576 a ∧ bd 1048576 b ∧ bd 1048576 c := by
  unfold vwithin_0 at h
  simp only [Bool.and_eq_true, decide_eq_true_eq] at h
  omega
theorem acheck_zero {x y z u v w c d e dir : Int} (h : acheck_0 3 x y z u v w 17 c d e dir false = 0) :
    bd 1048576 x ∧ bd 1048576 y ∧ bd 1048576 u ∧ bd 1048576 v ∧ bd 1048576 c ∧ bd 1048576 d ∧ (dir = 1 ∨ dir = -1) ∧ z = e ∧
    64 ≤ (x - c) * (x - c) + (y - d) * (y - d) ∧ 64 ≤ (u - c) * (u - c) + (v - d) * (v - d) ∧ ¬ (x = u ∧ y = v) := by
  unfold acheck_0 at h
  obtain ⟨h1, h⟩ := cond_ne (by decide) h
  obtain ⟨h2, _⟩ := cond_ne (by decide) h
  simp only [Bool.or_eq_false_iff, Bool.not_eq_false', bne_eq_false_iff_eq, Bool.and_eq_false_iff, bne_self_eq_false] at h1
  obtain ⟨⟨⟨⟨⟨⟨_, _⟩, h3⟩, h4⟩, h5⟩, h6⟩, h7⟩ := h1
  have f := vwithin_bd h3
  have t := vwithin_bd h4
  have g := vwithin_bd h5
  have w0 : ∀ {a : Int}, bd 4000000 a → IntKind.i64.wrap a = a := fun h => wrI (by omega) (by omega)
  have a0 : aspokes_0 x y z 17 c d e = x - c := by show IntKind.i64.wrap (x - c) = _; exact w0 (by omega)
  have a1 : aspokes_1 x y z 17 c d e = y - d := by show IntKind.i64.wrap (y - d) = _; exact w0 (by omega)
  have b0 : aspokes_0 u v w 17 c d e = u - c := by show IntKind.i64.wrap (u - c) = _; exact w0 (by omega)
  have b1 : aspokes_1 u v w 17 c d e = v - d := by show IntKind.i64.wrap (v - d) = _; exact w0 (by omega)
  rw [a0, a1, b0, b1] at h2
  rw [vinner_eq (by omega) (by omega) (by omega) (by omega), vinner_eq (by omega) (by omega) (by omega) (by omega)] at h2
  simp only [Bool.or_eq_false_iff, decide_eq_false_iff_not, Bool.false_and, Bool.not_false, Bool.true_and] at h2
  obtain ⟨⟨⟨⟨h8, h9⟩, _⟩, _⟩, h10⟩ := h2
  refine ⟨f.1, f.2.1, t.1, t.2.1, g.1, g.2.1, by omega, h7, by omega, by omega, fun ⟨e1, e2⟩ => ?_⟩
  subst e1; subst e2
  unfold aligned_0 at h10
  rw [vcross_eq (by omega) (by omega) (by omega) (by omega), vinner_eq (by omega) (by omega) (by omega) (by omega)] at h10
  have e : (x - c) * (y - d) - (y - d) * (x - c) = 0 := by grind
  rw [e] at h10
  simp at h10
  omega
end Go.Proofs.Ytmbfbhimdkjkoaa
namespace Go.Proofs.Ytmbfbhimdkjkoaa
open Go.SX Go.RowKit
theorem ofL (x y z u v w fe sd ra : Int) : ofRow (itL x y z u v w fe sd ra) = [.i 2, .i 0, .i x, .i y, .i z, .i u, .i v, .i w, .i 17, .i 0, .i 0, .i 0, .i 0, .b false, .i fe, .b false, .i sd, .i ra, .i 0, .i 0, .i 0, .b false] := by kernel_rfl
theorem ofA (x y z u v w c d e dir fe sd ra : Int) : ofRow (itA x y z u v w c d e dir fe sd ra) = [.i 3, .i 0, .i x, .i y, .i z, .i u, .i v, .i w, .i 17, .i c, .i d, .i e, .i dir, .b false, .i fe, .b false, .i sd, .i ra, .i 0, .i 0, .i 0, .b false] := by kernel_rfl
theorem nrm_of (r : List Int) : nrm (ofRow r) = ofRow r := by kernel_rfl
theorem toO (n : Int) : toRow (ofRow (itO n)) = itO n := by kernel_rfl
theorem toL (x y z u v w fe sd ra : Int) : toRow (ofRow (itL x y z u v w fe sd ra)) = itL x y z u v w fe sd ra := by kernel_rfl
theorem toA (x y z u v w c d e dir fe sd ra : Int) : toRow (ofRow (itA x y z u v w c d e dir fe sd ra)) = itA x y z u v w c d e dir fe sd ra := by kernel_rfl
/-- The corners' kind and the ends where the radius is 0. -/
theorem kd0 {l y x : List GC} (h : xi l 17 = 0) : (kd l y x == 2) = false ∧ (kd l y x == 1) = false := by
  unfold kd
  rw [h, Int.mul_zero]
  exact ⟨rfl, rfl⟩
/-- A line that moves in the plane. -/
structure LineOk (x y u v : Int) : Prop where
  a : bd 1048576 x
  b : bd 1048576 y
  c : bd 1048576 u
  d : bd 1048576 v
  ne : ¬ (x = u ∧ y = v)
theorem nE_line (l : List GC) (h8 : xi l 8 = 17) (x y z u v w fe sd ra : Int) : nE l (ofRow (itL x y z u v w fe sd ra)) = oends_4 x y u v 0 0 0 (IntKind.i64.wrap (xi l 16 * xi l 17)) ∧
    n0 l (ofRow (itL x y z u v w fe sd ra)) = oends_0 x y u v 0 0 0 (IntKind.i64.wrap (xi l 16 * xi l 17)) ∧ n1 l (ofRow (itL x y z u v w fe sd ra)) = oends_1 x y u v 0 0 0 (IntKind.i64.wrap (xi l 16 * xi l 17)) ∧
    f0 l (ofRow (itL x y z u v w fe sd ra)) = oends_2 x y u v 0 0 0 (IntKind.i64.wrap (xi l 16 * xi l 17)) ∧ f1 l (ofRow (itL x y z u v w fe sd ra)) = oends_3 x y u v 0 0 0 (IntKind.i64.wrap (xi l 16 * xi l 17)) := by
  unfold nE n0 n1 f0 f1
  rw [h8]
  exact ⟨by kernel_rfl, by kernel_rfl, by kernel_rfl, by kernel_rfl, by kernel_rfl⟩
theorem nE_arc (l : List GC) (h8 : xi l 8 = 17) (x y z u v w c d e dir fe sd ra : Int) : nE l (ofRow (itA x y z u v w c d e dir fe sd ra)) = oends_4 x y u v c d dir (IntKind.i64.wrap (xi l 16 * xi l 17)) ∧
    n0 l (ofRow (itA x y z u v w c d e dir fe sd ra)) = oends_0 x y u v c d dir (IntKind.i64.wrap (xi l 16 * xi l 17)) ∧ n1 l (ofRow (itA x y z u v w c d e dir fe sd ra)) = oends_1 x y u v c d dir (IntKind.i64.wrap (xi l 16 * xi l 17)) ∧
    f0 l (ofRow (itA x y z u v w c d e dir fe sd ra)) = oends_2 x y u v c d dir (IntKind.i64.wrap (xi l 16 * xi l 17)) ∧ f1 l (ofRow (itA x y z u v w c d e dir fe sd ra)) = oends_3 x y u v c d dir (IntKind.i64.wrap (xi l 16 * xi l 17)) := by
  unfold nE n0 n1 f0 f1
  rw [h8]
  exact ⟨by kernel_rfl, by kernel_rfl, by kernel_rfl, by kernel_rfl, by kernel_rfl⟩
theorem line0 {l : List GC} (h8 : xi l 8 = 17) (h17 : xi l 17 = 0) {x y z u v w fe sd ra : Int} (hk : LineOk x y u v) (hE : nE l (ofRow (itL x y z u v w fe sd ra)) = 0) :
    n0 l (ofRow (itL x y z u v w fe sd ra)) = x ∧ n1 l (ofRow (itL x y z u v w fe sd ra)) = y ∧ f0 l (ofRow (itL x y z u v w fe sd ra)) = u ∧ f1 l (ofRow (itL x y z u v w fe sd ra)) = v := by
  obtain ⟨e4, e0, e1, e2, e3⟩ := nE_line l h8 x y z u v w fe sd ra
  obtain ⟨ha, hb, hc, hd, ne⟩ := hk
  have hr : IntKind.i64.wrap (xi l 16 * xi l 17) = 0 := by rw [h17, Int.mul_zero]; rfl
  rw [hr] at e0 e1 e2 e3 e4
  rw [e4] at hE
  obtain ⟨o0, o1, o2, o3, _⟩ := ends_ok _ _ _ _ _ _ _ _ hE
  obtain ⟨s0, s1, s2, s3⟩ := line_ends (r := 0) ha hb hc hd
  have q := norm0 (p0 := x) (p1 := y) (t0 := u - x) (t1 := v - y) (by omega) (by omega) (by omega) ha hb
  have q' := norm0 (p0 := u) (p1 := v) (t0 := u - x) (t1 := v - y) (by omega) (by omega) (by omega) hc hd
  rw [e0, e1, e2, e3, o0, o1, o2, o3, s0, s1, s2, s3]
  exact ⟨q.1, q.2, q'.1, q'.2⟩
structure ArcOk (x y u v c d dir : Int) : Prop where
  bx : bd 1048576 x
  yb : bd 1048576 y
  ub : bd 1048576 u
  vb : bd 1048576 v
  cb : bd 1048576 c
  db : bd 1048576 d
  dir : dir = 1 ∨ dir = -1
  s : 64 ≤ (x - c) * (x - c) + (y - d) * (y - d)
  t : 64 ≤ (u - c) * (u - c) + (v - d) * (v - d)
  ne : ¬ (x = u ∧ y = v)
theorem nz_of {a b : Int} (h : 64 ≤ a * a + b * b) : a ≠ 0 ∨ b ≠ 0 := by
  by_cases ha : a = 0
  · by_cases hb : b = 0
    · rw [ha, hb] at h; omega
    · exact .inr hb
  · exact .inl ha
theorem arc0 {l : List GC} (h8 : xi l 8 = 17) (h17 : xi l 17 = 0) {x y z u v w c d e dir fe sd ra : Int} (hk : ArcOk x y u v c d dir) (hE : nE l (ofRow (itA x y z u v w c d e dir fe sd ra)) = 0) :
    n0 l (ofRow (itA x y z u v w c d e dir fe sd ra)) = x ∧ n1 l (ofRow (itA x y z u v w c d e dir fe sd ra)) = y ∧ f0 l (ofRow (itA x y z u v w c d e dir fe sd ra)) = u ∧ f1 l (ofRow (itA x y z u v w c d e dir fe sd ra)) = v := by
  obtain ⟨e4, e0, e1, e2, e3⟩ := nE_arc l h8 x y z u v w c d e dir fe sd ra
  obtain ⟨hx, hy, hu, hv, hc, hd, hdir, hs, ht, ne⟩ := hk
  have hr : IntKind.i64.wrap (xi l 16 * xi l 17) = 0 := by rw [h17, Int.mul_zero]; rfl
  rw [hr] at e0 e1 e2 e3 e4
  rw [e4] at hE
  obtain ⟨o0, o1, o2, o3, _⟩ := ends_ok _ _ _ _ _ _ _ _ hE
  obtain ⟨s0, s1, s2, s3⟩ := arc_ends (r := 0) hdir hx hy hu hv hc hd
  have n1 := nz_of hs
  have n2 := nz_of ht
  have q := norm0 (p0 := x) (p1 := y) (t0 := -(y - d) * dir) (t1 := (x - c) * dir) (by rcases hdir with rfl | rfl <;> omega) (by rcases hdir with rfl | rfl <;> omega) (by rcases hdir with rfl | rfl <;> omega) hx hy
  have q' := norm0 (p0 := u) (p1 := v) (t0 := -(v - d) * dir) (t1 := (u - c) * dir) (by rcases hdir with rfl | rfl <;> omega) (by rcases hdir with rfl | rfl <;> omega) (by rcases hdir with rfl | rfl <;> omega) hu hv
  rw [e0, e1, e2, e3, o0, o1, o2, o3, s0, s1, s2, s3]
  exact ⟨q.1, q.2, q'.1, q'.2⟩
end Go.Proofs.Ytmbfbhimdkjkoaa
namespace Go.Proofs.Ytmbfbhimdkjkoaa
open Go.SX Go.RowKit
inductive All2 (M : List Int → List Int → Prop) : List (List Int) → List (List Int) → Prop where
  | nil : All2 M [] []
  | cons {p q a b} : M p q → All2 M a b → All2 M (p :: a) (q :: b)
theorem All2.append {M : List Int → List Int → Prop} : ∀ {a b c d : List (List Int)}, All2 M a b → All2 M c d → All2 M (a ++ c) (b ++ d)
  | _, _, _, _, .nil, h => h
  | _, _, _, _, .cons h1 h2, h => .cons h1 (All2.append h2 h)
noncomputable def Mt (p q : List Int) : Prop := diffR p q = false
noncomputable def keepR (r : List Int) : Bool := !(r.getD 0 0 == 2 && zl r)
noncomputable def outL (x y z u v w fe : Int) : List Int := [2, 0, x, y, z, u, v, w, 0, 0, 0, 0, 0, 0, fe, 0, 0, 0, 0, 0, 0, 0]
noncomputable def outA (x y z u v w c d e dir fe : Int) : List Int := [3, 0, x, y, z, u, v, w, 17, c, d, e, dir, 0, fe, 0, 0, 0, 0, 0, 0, 0]
theorem mt_line (x y z u v w fe sd : Int) : Mt (outL x y z u v w fe) (itL x y z u v w fe sd 0) := by
  unfold Mt diffR outL itL
  simp
theorem mt_lineM (x y z u v w : Int) : Mt (outL x y z u v w 60000) (itM x y z u v w) := by
  unfold Mt diffR outL itM
  simp
theorem mt_arc (x y z u v w c d e dir fe sd : Int) : Mt (outA x y z u v w c d e dir fe) (itA x y z u v w c d e dir fe sd 0) := by
  unfold Mt diffR outA itA
  simp
theorem mt_out (n : Int) : Mt (itO n) (itO n) := by
  unfold Mt diffR itO
  simp
/-- What is carried. -/
inductive Car (sd q0 q1 : Int) : List Int → Prop where
  | out (n : Int) : Car sd q0 q1 (itO n)
  | line (z w fe : Int) : Car sd q0 q1 (itL q0 q1 z q0 q1 w fe sd 0)
theorem line46_L (l : List GC) (h8 : xi l 8 = 17) (x y z u v w fe sd ra a0 a1 b0 b1 lo hi : Int) (al : Bool) (O : List (List Int)) :
    line_46 (ofRow (itL x y z u v w fe sd ra)) b0 b1 lo hi al l a0 a1 O = bif al || !(a0 == b0 && (a1 == b1 && lo == hi)) then O ++ [outL a0 a1 lo b0 b1 hi fe] else O := by
  unfold line_46
  rw [h8]
  kernel_rfl
theorem rel_all (l : List GC) (h8 : xi l 8 = 17) (sd q0 q1 : Int) : ∀ (C O : List (List Int)), (∀ r ∈ C, Car sd q0 q1 r) → ∃ P, relL l q0 q1 O C = O ++ P ∧ All2 Mt P (C.filter keepR)
  | [], O, _ => ⟨[], (List.append_nil _).symm, .nil⟩
  | r :: C, O, h => by
    have hr := h r (List.mem_cons_self ..)
    have hC := fun q hq => h q (List.mem_cons_of_mem _ hq)
    show ∃ P, relL l q0 q1 (relS l q0 q1 O r) C = O ++ P ∧ _
    cases hr with
    | out n =>
      obtain ⟨P, h1, h2⟩ := rel_all l h8 sd q0 q1 C (relS l q0 q1 O (itO n)) hC
      have e : relS l q0 q1 O (itO n) = O ++ [itO n] := by kernel_rfl
      refine ⟨itO n :: P, by rw [h1, e, List.append_assoc]; rfl, ?_⟩
      have k : keepR (itO n) = true := by kernel_rfl
      rw [List.filter_cons, k, if_pos rfl]
      exact .cons (mt_out n) h2
    | line z w fe =>
      obtain ⟨P, h1, h2⟩ := rel_all l h8 sd q0 q1 C (relS l q0 q1 O (itL q0 q1 z q0 q1 w fe sd 0)) hC
      have e : relS l q0 q1 O (itL q0 q1 z q0 q1 w fe sd 0) = line_46 (ofRow (itL q0 q1 z q0 q1 w fe sd 0)) q0 q1 (flat_2 (xi l 8) q0 q1 z) (flat_2 (xi l 8) q0 q1 w) false (nrm l) q0 q1 O := by kernel_rfl
      have z0 : ∀ c, flat_2 17 q0 q1 c = c := fun c => by kernel_rfl
      rw [line46_L (nrm l) (by rw [nx8]; exact h8), h8, z0, z0, Bool.false_or] at e
      rw [e] at h1 ⊢
      have hz : zl (itL q0 q1 z q0 q1 w fe sd 0) = (q0 == q0 && (q1 == q1 && z == w)) := by kernel_rfl
      have hk : keepR (itL q0 q1 z q0 q1 w fe sd 0) = !(q0 == q0 && (q1 == q1 && z == w)) := by
        have : keepR (itL q0 q1 z q0 q1 w fe sd 0) = !(true && zl (itL q0 q1 z q0 q1 w fe sd 0)) := by kernel_rfl
        rw [this, Bool.true_and, hz]
      rw [List.filter_cons, hk]
      cases hc : (q0 == q0 && (q1 == q1 && z == w))
      · rw [hc] at h1
        refine ⟨outL q0 q1 z q0 q1 w fe :: P, ?_, .cons (mt_line ..) h2⟩
        rw [Bool.not_false, cond_true] at h1 ⊢
        rw [h1, List.append_assoc]; rfl
      · rw [hc] at h1
        exact ⟨P, h1, h2⟩
theorem release_all (l : List GC) (h8 : xi l 8 = 17) (sd q0 q1 : Int) (C O : List (List Int)) (h : ∀ r ∈ C, Car sd q0 q1 r) : ∃ P, release_44 (nrm l) q0 q1 C O = O ++ P ∧ All2 Mt P (C.filter keepR) := by
  unfold release_44
  exact rel_all _ (by rw [nx8, nx8]; exact h8) sd q0 q1 C O h
/-- The element that is not settled. -/
inductive Ele (sd q0 q1 : Int) : List Int → Int → Int → Prop where
  | line (x y z w fe : Int) : LineOk x y q0 q1 → Ele sd q0 q1 (itL x y z q0 q1 w fe sd 0) x y
  | arc (x y z w c d e dir fe : Int) : ArcOk x y q0 q1 c d dir → Ele sd q0 q1 (itA x y z q0 q1 w c d e dir fe sd 0) x y
theorem shift_line (s : St) (u w : Int) (h2 : (xi s.y 0 == 2) = true) : shO u w false s = bif (false || s.tr) && decide (shift_s0 u w (nrm s.l) (nrm s.y) s.a0 s.a1 ≤ 0) then [] else line_46 (nrm s.y) u w (flat_2 (xi s.l 8) (xi s.y 2) (xi s.y 3) (xi s.y 4)) (flat_2 (xi s.l 8) (xi s.y 5) (xi s.y 6) (xi s.y 7)) false (nrm s.l) s.a0 s.a1 [] := by
  unfold shO shift_47
  simp only [nrm_nrm, nx0, nx2, nx3, nx4, nx5, nx6, nx7, nx8]
  rw [h2, cond_true]
/-- The last element's offset, at the radius 0. -/
theorem shift0 {sd q0 q1 f g : Int} {r : List Int} (s : St) (h8 : xi s.l 8 = 17) (htr : s.tr = false) (hy : s.y = ofRow r) (ha : s.a0 = f) (hb : s.a1 = g) (he : Ele sd q0 q1 r f g) (hS : shE q0 q1 false s = 0) :
    ∃ o, shO q0 q1 false s = [o] ∧ Mt o r := by
  cases he with
  | line x y z w fe hk =>
    have e2 : (xi s.y 0 == 2) = true := by rw [hy]; kernel_rfl
    rw [shift_line s q0 q1 e2, htr, hy, h8, ha, hb]
    rw [nrm_of, line46_L (nrm s.l) (by rw [nx8]; exact h8)]
    have hne : (f == q0 && (g == q1 && z == w)) = false := by
      cases h : (f == q0 && (g == q1 && z == w))
      · rfl
      · simp only [Bool.and_eq_true, beq_iff_eq] at h
        exact absurd ⟨h.1, h.2.1⟩ hk.ne
    have z0 : flat_2 17 (xi (ofRow (itL f g z q0 q1 w fe sd 0)) 2) (xi (ofRow (itL f g z q0 q1 w fe sd 0)) 3) (xi (ofRow (itL f g z q0 q1 w fe sd 0)) 4) = z := by kernel_rfl
    have z1 : flat_2 17 (xi (ofRow (itL f g z q0 q1 w fe sd 0)) 5) (xi (ofRow (itL f g z q0 q1 w fe sd 0)) 6) (xi (ofRow (itL f g z q0 q1 w fe sd 0)) 7) = w := by kernel_rfl
    rw [z0, z1, hne]
    exact ⟨_, rfl, mt_line ..⟩
  | arc x y z w c d e dir fe hk =>
    unfold shE shift_0 at hS
    unfold shO shift_47
    have e2 : (xi (nrm s.y) 0 == 2) = false := by rw [hy]; kernel_rfl
    rw [e2, cond_false, htr] at hS ⊢
    rw [Bool.false_or, Bool.false_and, Bool.false_and, cond_false] at hS ⊢
    have hc := cond_16 hS
    unfold shift_s1
    rw [hc, cond_false]
    refine ⟨_, rfl, ?_⟩
    have e8 : xi (nrm s.l) 8 = 17 := by rw [nx8]; exact h8
    rw [e8, hy, ha, hb]
    exact (show Mt (outA f g z q0 q1 w c d e dir fe) _ from mt_arc ..)
end Go.Proofs.Ytmbfbhimdkjkoaa
namespace Go.Proofs.Ytmbfbhimdkjkoaa
open Go.SX Go.RowKit
theorem join_same (x l : List GC) (h8 : xi l 8 = 17) (u w : Int) (O : List (List Int)) : join_46 x u w false l u w O = O := by
  unfold join_46
  rw [Bool.false_and, Bool.false_and, Bool.false_and, cond_false]
  have := line46_L (nrm l) (by rw [nx8]; exact h8) 0 0 0 0 0 0 0 0 0 u w u w (flat_2 (xi l 8) (xi x 2) (xi x 3) (xi x 4)) (flat_2 (xi l 8) (xi x 2) (xi x 3) (xi x 4)) false O
  have e : ∀ y : List GC, line_46 y u w (flat_2 (xi l 8) (xi x 2) (xi x 3) (xi x 4)) (flat_2 (xi l 8) (xi x 2) (xi x 3) (xi x 4)) false (nrm l) u w O = O := fun y => by
    unfold line_46
    simp
  exact e _
structure I0 (lead : List Int) (sd : Int) (s : St) (R D : List (List Int)) : Prop where
  er : s.er = 0
  cl : s.cl = false
  op : s.op = true
  mo : s.mo = true
  tr : s.tr = false
  l : s.l = ofRow lead
  ld : ∃ x y z u v, lead = itL x y z u v z 60000 sd 0
  y : nrm s.y = s.y
  c : ∀ r ∈ s.C, Car sd s.la0 s.la1 r
  p : (s.y = zeroG ∧ R = [] ∧ D = s.C ∧ ∃ x y z, lead = itL x y z s.la0 s.la1 z 60000 sd 0) ∨
      ∃ r D', Ele sd s.la0 s.la1 r s.a0 s.a1 ∧ s.y = ofRow r ∧ All2 Mt R (lead :: D'.filter keepR) ∧ D = D' ++ r :: s.C
theorem ele_kind {sd q0 q1 f g : Int} {r : List Int} (h : Ele sd q0 q1 r f g) : (xi (ofRow r) 0 == 0) = false := by cases h <;> kernel_rfl
theorem ele_keep {sd q0 q1 f g : Int} {r : List Int} (h : Ele sd q0 q1 r f g) : keepR r = true := by
  cases h with
  | line x y z w fe hk =>
    have e : keepR (itL f g z q0 q1 w fe sd 0) = !(true && (f == q0 && (g == q1 && z == w))) := by kernel_rfl
    rw [e]
    cases h : (f == q0 && (g == q1 && z == w))
    · rfl
    · simp only [Bool.and_eq_true, beq_iff_eq] at h
      exact absurd ⟨h.1, h.2.1⟩ hk.ne
  | arc x y z w c d e dir fe hk => kernel_rfl
theorem ele_ends {sd q0 q1 f g : Int} {r : List Int} {l : List GC} (h8 : xi l 8 = 17) (h17 : xi l 17 = 0) (h : Ele sd q0 q1 r f g) (hE : nE l (ofRow r) = 0) : n0 l (ofRow r) = f ∧ n1 l (ofRow r) = g ∧ f0 l (ofRow r) = q0 ∧ f1 l (ofRow r) = q1 := by
  cases h with
  | line x y z w fe hk => exact line0 h8 h17 hk hE
  | arc x y z w c d e dir fe hk => exact arc0 h8 h17 hk hE
/-- A motion that moves in the plane is taken. -/
theorem step_ele {lead : List Int} {sd : Int} {s : St} {R D : List (List Int)} (h : I0 lead sd s R D) {r : List Int} {q0 q1 : Int} (hs0 : sd ≠ 0)
    (hi : inv (ofRow r) s = false) (hm : (cmotion_0 (xi (ofRow r) 0) && xi (ofRow r) 16 == 0) = false) (h3 : three (ofRow r) = false) (hd : odd (ofRow r) s.l = false) (hst : still (ofRow r) s.l = false)
    (hE : Ele sd q0 q1 r s.la0 s.la1) (hcm : cmotion_0 (xi (ofRow r) 0) = true) (hq0 : xi (ofRow r) 5 = q0) (hq1 : xi (ofRow r) 6 = q1)
    (hc : ((xi s.y 0 == 0) = true ∧ nE s.l (ofRow r) = 0) ∨ ((xi s.y 0 == 0) = false ∧ (kd s.l s.y (ofRow r) == 2) = true ∧ trE s.l s.y (ofRow r) = 0 ∧ shE (tr0 s.l s.y (ofRow r)) (tr1 s.l s.y (ofRow r)) true s = 0) ∨
      ((xi s.y 0 == 0) = false ∧ (kd s.l s.y (ofRow r) == 2) = false ∧ nE s.l s.y = 0 ∧ nE s.l (ofRow r) = 0 ∧ shE (f0 s.l s.y) (f1 s.l s.y) false s = 0)) :
    I0 lead sd (pushS (ofRow r) s) (R ++ pushO (ofRow r) s) (D ++ [r]) := by
  obtain ⟨er, cl, op, mo, tr, hl, ⟨lx, ly, lz, lu, lv, rfl⟩, hy, hC, hp⟩ := h
  have h8 : xi s.l 8 = 17 := by rw [hl]; kernel_rfl
  have h17 : xi s.l 17 = 0 := by rw [hl]; kernel_rfl
  have hln : nrm s.l = s.l := by rw [hl, nrm_of]
  have hk := kd0 (l := s.l) (y := s.y) (x := ofRow r) h17
  have hxn : nrm (ofRow r) = ofRow r := nrm_of r
  have m0 : (mvd (ofRow r) s).la0 = q0 := by show (bif _ then _ else _) = _; rw [hcm, cond_true, hq0]
  have m1 : (mvd (ofRow r) s).la1 = q1 := by show (bif _ then _ else _) = _; rw [hcm, cond_true, hq1]
  have m2 : (mvd (ofRow r) s).mo = true := by show (_ || _) = _; rw [hcm]; rfl
  rcases hc with ⟨h0, hN⟩ | ⟨_, h5, _⟩ | ⟨h0, h5, hN, hN', hS⟩
  · rcases hp with ⟨y0, rfl, rfl, x, y, z, hld⟩ | ⟨r', D', e1, e2, _⟩
    · obtain ⟨e1, e2⟩ := push_enter (ofRow r) s er hln hy cl hi op hm h3 hd hst h0 hN
      obtain ⟨a0, a1, _, _⟩ := ele_ends h8 h17 hE hN
      rw [a0, a1] at e1 e2
      have hl46 : line_46 (nrm s.l) s.la0 s.la1 (flat_2 (xi s.l 8) (xi s.l 2) (xi s.l 3) (xi s.l 4)) (flat_2 (xi s.l 8) (xi s.l 2) (xi s.l 3) (xi s.l 4)) true (nrm s.l) (flat_0 (xi s.l 8) (xi s.l 2) (xi s.l 3) (xi s.l 4)) (flat_1 (xi s.l 8) (xi s.l 2) (xi s.l 3) (xi s.l 4)) [] = [outL x y z s.la0 s.la1 z 60000] := by
        rw [hl, hld]
        exact (line46_L (nrm (ofRow (itL x y z s.la0 s.la1 z 60000 sd 0))) (by kernel_rfl) x y z s.la0 s.la1 z 60000 sd 0 x y s.la0 s.la1 z z true [] :)
      obtain ⟨P, r1, r2⟩ := release_all s.l h8 sd s.la0 s.la1 s.C [outL x y z s.la0 s.la1 z 60000] hC
      rw [hl46, r1] at e2
      rw [e1, e2, hxn]
      refine ⟨er, cl, op, m2, tr, hl, ⟨_, _, _, _, _, rfl⟩, hxn, fun _ h => (by cases h), .inr ⟨r, s.C, ?_, rfl, ?_, rfl⟩⟩
      · show Ele sd (mvd (ofRow r) s).la0 (mvd (ofRow r) s).la1 r s.la0 s.la1
        rw [m0, m1]; exact hE
      · rw [hld]
        exact .cons (mt_line ..) r2
    · rw [e2, ele_kind e1] at h0; cases h0
  · rw [hk.1] at h5; cases h5
  · rcases hp with ⟨y0, _⟩ | ⟨r', D', e1, e2, e3, rfl⟩
    · rw [y0] at h0; cases h0
    · obtain ⟨o1, o2⟩ := push_outside (ofRow r) s er hln hy cl hi op hm h3 hd hst h0 h5 hN hN' hS
      obtain ⟨a0, a1, _, _⟩ := ele_ends h8 h17 hE hN'
      obtain ⟨_, _, b0, b1⟩ := ele_ends h8 h17 e1 (by rw [← e2]; exact hN)
      rw [← e2] at b0 b1
      rw [b0, b1] at hS o2
      rw [a0, a1] at o1 o2
      obtain ⟨o, s1, s2⟩ := shift0 s h8 tr e2 rfl rfl e1 hS
      obtain ⟨P, r1, r2⟩ := release_all s.l h8 sd s.la0 s.la1 s.C [o] hC
      rw [hk.2, join_same _ _ (by rw [nx8]; exact h8), s1, r1] at o2
      rw [o1, o2, hxn]
      refine ⟨er, cl, op, m2, rfl, hl, ⟨_, _, _, _, _, rfl⟩, hxn, fun _ h => (by cases h), .inr ⟨r, D' ++ r' :: s.C, ?_, rfl, ?_, rfl⟩⟩
      · show Ele sd (mvd (ofRow r) s).la0 (mvd (ofRow r) s).la1 r s.la0 s.la1
        rw [m0, m1]; exact hE
      · rw [List.filter_append, List.filter_cons, ele_keep e1, if_pos rfl]
        exact e3.append (.cons s2 r2)
/-- What is carried on. -/
theorem step_car {lead : List Int} {sd : Int} {s : St} {R D : List (List Int)} (h : I0 lead sd s R D) {r : List Int}
    (hi : inv (ofRow r) s = false) (hm : (cmotion_0 (xi (ofRow r) 0) && xi (ofRow r) 16 == 0) = false) (h3 : three (ofRow r) = false) (hd : odd (ofRow r) s.l = false) (hst : still (ofRow r) s.l = true) (hn : (Int.ofNat s.C.length == 8) = false)
    (hR : toRow (ofRow r) = r) (hE : Car sd s.la0 s.la1 r) (hq0 : (mvd (ofRow r) s).la0 = s.la0) (hq1 : (mvd (ofRow r) s).la1 = s.la1) : I0 lead sd (pushS (ofRow r) s) (R ++ pushO (ofRow r) s) (D ++ [r]) := by
  obtain ⟨er, cl, op, mo, tr, hl, ⟨lx, ly, lz, lu, lv, rfl⟩, hy, hC, hp⟩ := h
  have hln : nrm s.l = s.l := by rw [hl, nrm_of]
  obtain ⟨e1, e2⟩ := push_carry (ofRow r) s er hln hy cl hi op hm h3 hd hst hn
  rw [e1, e2, hR, List.append_nil]
  refine ⟨er, cl, op, ?_, tr, hl, ⟨_, _, _, _, _, rfl⟩, hy, fun q hq => ?_, ?_⟩
  · show (_ || s.mo) = true
    rw [mo, Bool.or_true]
  · show Car sd (mvd (ofRow r) s).la0 (mvd (ofRow r) s).la1 q
    rw [hq0, hq1]
    rcases List.mem_append.1 hq with hq | hq
    · exact hC q hq
    · rw [List.mem_singleton.1 hq]; exact hE
  · rcases hp with ⟨y0, rfl, rfl, x, y, z, hld⟩ | ⟨r', D', g1, g2, g3, rfl⟩
    · exact .inl ⟨y0, rfl, rfl, x, y, z, by show itL _ _ _ _ _ _ _ _ _ = itL x y z (mvd (ofRow r) s).la0 (mvd (ofRow r) s).la1 z 60000 sd 0; rw [hq0, hq1]; exact hld⟩
    · exact .inr ⟨r', D', by show Ele sd (mvd (ofRow r) s).la0 (mvd (ofRow r) s).la1 r' s.a0 s.a1; rw [hq0, hq1]; exact g1, g2, g3, by rw [List.append_assoc]; rfl⟩
end Go.Proofs.Ytmbfbhimdkjkoaa
namespace Go.Proofs.Ytmbfbhimdkjkoaa
open Go.SX Go.RowKit
theorem inv_ok {x : List GC} {s : St} (h : inv x s = false) (hmo : s.mo = true) (hm : cmotion_0 (xi x 0) = true) : cvalid_0 (nrm x) = true ∧ xi x 2 = s.la0 ∧ xi x 3 = s.la1 ∧ xi x 4 = s.la2 := by
  unfold inv at h
  rw [hmo, hm] at h
  simp only [Bool.or_eq_false_iff, Bool.not_eq_false', Bool.and_true, Bool.true_and, Bool.and_eq_true, beq_iff_eq] at h
  exact ⟨h.1.1, h.2⟩
theorem step_mid {lead : List Int} {sd : Int} {s : St} {R D : List (List Int)} (h : I0 lead sd s R D) {r : List Int} (hs0 : sd ≠ 0) (hr : Mid sd 0 r) (hE : pushE (ofRow r) s = 0) :
    I0 lead sd (pushS (ofRow r) s) (R ++ pushO (ofRow r) s) (D ++ [r]) := by
  have hh := h
  obtain ⟨er, cl, op, mo, tr, hl, ⟨lx, ly, lz, lu, lv, hld⟩, hy, hC, hp⟩ := h
  have h8 : xi s.l 8 = 17 := by rw [hl, hld]; kernel_rfl
  obtain ⟨_, hi, hc⟩ := push_cases (ofRow r) s er hE
  rcases hc with ⟨ho, _⟩ | ⟨ho, _⟩ | ⟨_, hm, _⟩ | ⟨_, hm, h3, hd, hc⟩
  · rw [op] at ho; cases ho
  · rw [op] at ho; cases ho
  · exfalso
    simp only [Bool.and_eq_true, beq_iff_eq] at hm
    cases hr with
    | out n => exact absurd hm.1 (by rw [show cmotion_0 (xi (ofRow (itO n)) 0) = false by kernel_rfl]; simp)
    | line x y z u v w fe _ => exact hs0 hm.2
    | arc x y z u v w c d e dir => exact hs0 hm.2
  · cases hr with
    | out n =>
      have hst : still (ofRow (itO n)) s.l = true := by
        have : still (ofRow (itO n)) s.l = (!false || !(xb (ofRow (itO n)) 13 || !(flat_0 (xi s.l 8) 0 0 0 == flat_0 (xi s.l 8) 0 0 0 && flat_1 (xi s.l 8) 0 0 0 == flat_1 (xi s.l 8) 0 0 0))) := by kernel_rfl
        rw [this]; rfl
      rcases hc with ⟨_, hn⟩ | ⟨hs, _⟩ | ⟨hs, _⟩ | ⟨hs, _⟩
      · exact step_car hh hi hm h3 hd hst hn (toO n) (.out n) (by kernel_rfl) (by kernel_rfl)
      · rw [hst] at hs; cases hs
      · rw [hst] at hs; cases hs
      · rw [hst] at hs; cases hs
    | line x y z u v w fe _ =>
      have hcm : cmotion_0 (xi (ofRow (itL x y z u v w fe sd 0)) 0) = true := by kernel_rfl
      obtain ⟨hv, i0, i1, i2⟩ := inv_ok hi mo hcm
      have hv' := cvalid_motion hv (by rw [nx0]; exact hcm)
      have bx := vwithin_bd hv'.1
      have bu := vwithin_bd hv'.2.1
      rw [nx2, nx3, nx4] at bx
      rw [nx5, nx6, nx7] at bu
      have hst : still (ofRow (itL x y z u v w fe sd 0)) s.l = (x == u && y == v) := by
        have : still (ofRow (itL x y z u v w fe sd 0)) s.l = (!true || !(false || !(flat_0 (xi s.l 8) x y z == flat_0 (xi s.l 8) u v w && flat_1 (xi s.l 8) x y z == flat_1 (xi s.l 8) u v w))) := by kernel_rfl
        rw [this, h8]
        show (false || !(false || !(x == u && y == v))) = _
        simp
      have j0 : x = s.la0 := i0
      have j1 : y = s.la1 := i1
      rcases hc with ⟨hs, hn⟩ | hc
      · rw [hst] at hs
        simp only [Bool.and_eq_true, beq_iff_eq] at hs
        obtain ⟨rfl, rfl⟩ := hs
        refine step_car hh hi hm h3 hd (by rw [hst]; simp) hn (toL ..) ?_ j0 j1
        rw [j0, j1]
        exact .line z w fe
      · have hs : (x == u && y == v) = false := by rw [← hst]; rcases hc with ⟨hs, _⟩ | ⟨hs, _⟩ | ⟨hs, _⟩ <;> exact hs
        have hne : ¬ (x = u ∧ y = v) := fun h => by rw [h.1, h.2] at hs; simp at hs
        have hle : LineOk x y u v := ⟨bx.1, bx.2.1, bu.1, bu.2.1, hne⟩
        refine step_ele (q0 := u) (q1 := v) hh hs0 hi hm h3 hd (by rw [hst]; exact hs) ?_ hcm rfl rfl ?_
        · rw [← j0, ← j1]
          exact .line x y z w fe hle
        · rcases hc with ⟨_, h⟩ | ⟨_, h⟩ | ⟨_, h⟩
          · exact .inl h
          · exact .inr (.inl h)
          · exact .inr (.inr h)
    | arc x y z u v w c d e dir =>
      have hcm : cmotion_0 (xi (ofRow (itA x y z u v w c d e dir 60000 sd 0)) 0) = true := by kernel_rfl
      obtain ⟨hv, i0, i1, i2⟩ := inv_ok hi mo hcm
      have hv' := (cvalid_motion hv (by rw [nx0]; exact hcm)).2.2.2
      rw [show (xi (nrm (ofRow (itA x y z u v w c d e dir 60000 sd 0))) 0 == 3) = true by kernel_rfl, cond_true] at hv'
      have ha : acheck_0 3 x y z u v w 17 c d e dir false = 0 := by
        exact bne_eq_false_iff_eq.1 (bcond hv').1
      obtain ⟨a1, a2, a3, a4, a5, a6, a7, _, a8, a9, a10⟩ := acheck_zero ha
      have hst : still (ofRow (itA x y z u v w c d e dir 60000 sd 0)) s.l = false := by
        have : still (ofRow (itA x y z u v w c d e dir 60000 sd 0)) s.l = (!true || !(false || !(flat_0 (xi s.l 8) x y z == flat_0 (xi s.l 8) u v w && flat_1 (xi s.l 8) x y z == flat_1 (xi s.l 8) u v w))) := by kernel_rfl
        rw [this, h8]
        show (false || !(false || !(x == u && y == v))) = _
        cases h : (x == u && y == v)
        · rfl
        · simp only [Bool.and_eq_true, beq_iff_eq] at h
          exact absurd h a10
      have j0 : x = s.la0 := i0
      have j1 : y = s.la1 := i1
      rcases hc with ⟨hs, hn⟩ | hc
      · rw [hst] at hs; cases hs
      · refine step_ele (q0 := u) (q1 := v) hh hs0 hi hm h3 hd hst ?_ hcm rfl rfl ?_
        · rw [← j0, ← j1]
          exact .arc x y z w c d e dir 60000 ⟨a1, a2, a3, a4, a5, a6, a7, a8, a9, a10⟩
        · rcases hc with ⟨_, h⟩ | ⟨_, h⟩ | ⟨_, h⟩
          · exact .inl h
          · exact .inr (.inl h)
          · exact .inr (.inr h)
/-- The lead-in. -/
theorem begin_I0 {sd x y z u v w : Int} (hs0 : sd ≠ 0) (hE : pushE (ofRow (itL x y z u v w 60000 sd 0)) St0 = 0) :
    I0 (itL x y z u v w 60000 sd 0) sd (pushS (ofRow (itL x y z u v w 60000 sd 0)) St0) ([] ++ pushO (ofRow (itL x y z u v w 60000 sd 0)) St0) [] := by
  obtain ⟨_, hi, hc⟩ := push_cases _ St0 rfl hE
  have hm : (cmotion_0 (xi (ofRow (itL x y z u v w 60000 sd 0)) 0) && xi (ofRow (itL x y z u v w 60000 sd 0)) 16 != 0) = true := by
    have : (cmotion_0 (xi (ofRow (itL x y z u v w 60000 sd 0)) 0) && xi (ofRow (itL x y z u v w 60000 sd 0)) 16 != 0) = (true && sd != 0) := by kernel_rfl
    rw [this]; simpa using hs0
  rcases hc with ⟨_, h⟩ | ⟨_, _, hd⟩ | ⟨ho, _⟩ | ⟨ho, _⟩
  · rw [hm] at h; cases h
  · have hln : nrm St0.l = St0.l := by kernel_rfl
    obtain ⟨e1, e2⟩ := push_begin _ St0 rfl hln hln rfl hi rfl hm hd
    have hz : z = w := by
      have e : leads_0 (nrm (ofRow (itL x y z u v w 60000 sd 0))) (xi (ofRow (itL x y z u v w 60000 sd 0)) 8) (xi (ofRow (itL x y z u v w 60000 sd 0)) 17) = (true && z == w && decide (vinner_0 (leads_s0 (nrm (ofRow (itL x y z u v w 60000 sd 0))) 17) (leads_s1 (nrm (ofRow (itL x y z u v w 60000 sd 0))) 17) (leads_s0 (nrm (ofRow (itL x y z u v w 60000 sd 0))) 17) (leads_s1 (nrm (ofRow (itL x y z u v w 60000 sd 0))) 17) > 0) && decide (vinner_0 (leads_s0 (nrm (ofRow (itL x y z u v w 60000 sd 0))) 17) (leads_s1 (nrm (ofRow (itL x y z u v w 60000 sd 0))) 17) (leads_s0 (nrm (ofRow (itL x y z u v w 60000 sd 0))) 17) (leads_s1 (nrm (ofRow (itL x y z u v w 60000 sd 0))) 17) ≥ IntKind.i64.wrap (0 * 0))) := by kernel_rfl
      rw [e] at hd
      simp only [Bool.and_eq_true, beq_iff_eq] at hd
      exact hd.1.1.2
    subst hz
    rw [e1, e2, nrm_of]
    have m0 : (mvd (ofRow (itL x y z u v z 60000 sd 0)) St0).la0 = u := by kernel_rfl
    have m1 : (mvd (ofRow (itL x y z u v z 60000 sd 0)) St0).la1 = v := by kernel_rfl
    have m2 : (mvd (ofRow (itL x y z u v z 60000 sd 0)) St0).mo = true := by kernel_rfl
    refine ⟨rfl, rfl, rfl, m2, rfl, rfl, ⟨_, _, _, _, _, rfl⟩, by kernel_rfl, fun _ h => (by cases h), .inl ⟨rfl, rfl, rfl, x, y, z, ?_⟩⟩
    show itL x y z u v z 60000 sd 0 = itL x y z (mvd (ofRow (itL x y z u v z 60000 sd 0)) St0).la0 (mvd (ofRow (itL x y z u v z 60000 sd 0)) St0).la1 z 60000 sd 0
    rw [m0, m1]
  · cases ho
  · cases ho
theorem run_mid {lead : List Int} {sd : Int} (hs0 : sd ≠ 0) : ∀ (l : List (List Int)) (s : St) (R D : List (List Int)), (∀ r ∈ l, Mid sd 0 r) → I0 lead sd s R D → runOk l s → I0 lead sd (runS l s) (R ++ runO l s) (D ++ l)
  | [], s, R, D, _, h, _ => by
    show I0 lead sd s (R ++ []) (D ++ [])
    rw [List.append_nil, List.append_nil]; exact h
  | r :: l, s, R, D, hl, h, ho => by
    have h1 := step_mid h hs0 (hl r (List.mem_cons_self ..)) ho.1
    have h2 := run_mid hs0 l _ _ _ (fun q hq => hl q (List.mem_cons_of_mem _ hq)) h1 ho.2
    rw [List.append_assoc, List.append_assoc] at h2
    exact h2
/-- The lead-out. -/
theorem finish_I0 {lead : List Int} {sd : Int} {s : St} {R D : List (List Int)} (h : I0 lead sd s R D) {x y z u v w : Int} (hE : pushE (ofRow (itM x y z u v w)) s = 0) :
    All2 Mt (R ++ pushO (ofRow (itM x y z u v w)) s) (lead :: (D.filter keepR ++ [itM x y z u v w])) := by
  obtain ⟨er, cl, op, mo, tr, hl, ⟨lx, ly, lz, lu, lv, hld⟩, hy, hC, hp⟩ := h
  have h8 : xi s.l 8 = 17 := by rw [hl, hld]; kernel_rfl
  have h17 : xi s.l 17 = 0 := by rw [hl, hld]; kernel_rfl
  have hln : nrm s.l = s.l := by rw [hl, nrm_of]
  obtain ⟨_, hi, hc⟩ := push_cases _ s er hE
  have hm : (cmotion_0 (xi (ofRow (itM x y z u v w)) 0) && xi (ofRow (itM x y z u v w)) 16 == 0) = true := by kernel_rfl
  have hcm : cmotion_0 (xi (ofRow (itM x y z u v w)) 0) = true := by kernel_rfl
  obtain ⟨hv, i0, i1, i2⟩ := inv_ok hi mo hcm
  have j0 : x = s.la0 := i0
  have j1 : y = s.la1 := i1
  rcases hc with ⟨ho, _⟩ | ⟨ho, _⟩ | ⟨_, _, hd, hN, hS⟩ | ⟨_, h, _⟩
  · rw [op] at ho; cases ho
  · rw [op] at ho; cases ho
  · have hd' := hd
    simp only [Bool.or_eq_false_iff, Bool.not_eq_false'] at hd'
    obtain ⟨hd1, hd2⟩ := hd'
    have hz : z = w := by
      rw [h8] at hd1
      unfold leads_0 at hd1
      simp only [Bool.and_eq_true, beq_iff_eq] at hd1
      exact hd1.1.1.2
    subst hz
    rcases hp with ⟨y0, _⟩ | ⟨r', D', e1, e2, e3, rfl⟩
    · rw [y0] at hd2; cases hd2
    · obtain ⟨o1, o2⟩ := push_finish _ s er hln hy cl hi op hm hd hN hS
      obtain ⟨_, _, b0, b1⟩ := ele_ends h8 h17 e1 (by rw [← e2]; exact hN)
      rw [← e2] at b0 b1
      rw [b0, b1] at hS o2
      obtain ⟨o, s1, s2⟩ := shift0 s h8 tr e2 rfl rfl e1 hS
      obtain ⟨P, r1, r2⟩ := release_all s.l h8 sd s.la0 s.la1 s.C [o] hC
      rw [s1, r1, nrm_of, h8] at o2
      have hl46 : line_46 (ofRow (itM x y z u v z)) (flat_0 17 (xi (ofRow (itM x y z u v z)) 5) (xi (ofRow (itM x y z u v z)) 6) (xi (ofRow (itM x y z u v z)) 7)) (flat_1 17 (xi (ofRow (itM x y z u v z)) 5) (xi (ofRow (itM x y z u v z)) 6) (xi (ofRow (itM x y z u v z)) 7)) (flat_2 17 (xi (ofRow (itM x y z u v z)) 5) (xi (ofRow (itM x y z u v z)) 6) (xi (ofRow (itM x y z u v z)) 7)) (flat_2 17 (xi (ofRow (itM x y z u v z)) 5) (xi (ofRow (itM x y z u v z)) 6) (xi (ofRow (itM x y z u v z)) 7)) true (nrm s.l) s.la0 s.la1 ([o] ++ P) = ([o] ++ P) ++ [outL x y z u v z 60000] := by
        unfold line_46
        rw [nx8, h8, j0, j1]
        kernel_rfl
      rw [hl46] at o2
      rw [o2, List.filter_append, List.filter_cons, ele_keep e1, if_pos rfl]
      have q := e3.append ((All2.cons s2 r2).append (.cons (mt_lineM x y z u v z) .nil))
      have e : lead :: (D'.filter keepR ++ r' :: s.C.filter keepR ++ [itM x y z u v z]) = (lead :: D'.filter keepR) ++ (r' :: s.C.filter keepR ++ [itM x y z u v z]) := by simp
      rw [e]
      exact q
  · rw [hm] at h; cases h
theorem runOk_app : ∀ {a b : List (List Int)} {s : St}, runOk (a ++ b) s → runOk a s ∧ runOk b (runS a s)
  | [], _, _, h => ⟨trivial, h⟩
  | r :: a, b, s, h => by
    obtain ⟨h1, h2⟩ := runOk_app h.2
    exact ⟨⟨h.1, h1⟩, h2⟩
theorem runO_app : ∀ (a b : List (List Int)) (s : St), runO (a ++ b) s = runO a s ++ runO b (runS a s)
  | [], _, _ => rfl
  | r :: a, b, s => by
    show _ ++ runO (a ++ b) _ = (_ ++ runO a _) ++ _
    rw [runO_app a b, List.append_assoc]; rfl
theorem runS_app : ∀ (a b : List (List Int)) (s : St), runS (a ++ b) s = runS b (runS a s)
  | [], _, _ => rfl
  | r :: a, b, s => runS_app a b _
/-- What a contour without a radius becomes. -/
theorem run_all {sd x y z u v w p q r p' q' r' : Int} (hs0 : sd ≠ 0) {mids : List (List Int)} (hm : ∀ m ∈ mids, Mid sd 0 m) (ho : runOk (itL x y z u v w 60000 sd 0 :: (mids ++ [itM p q r p' q' r'])) St0) :
    All2 Mt (runO (itL x y z u v w 60000 sd 0 :: (mids ++ [itM p q r p' q' r'])) St0) (itL x y z u v w 60000 sd 0 :: (mids.filter keepR ++ [itM p q r p' q' r'])) := by
  obtain ⟨h1, h2⟩ := ho
  obtain ⟨h3, h4, _⟩ := runOk_app h2
  have i1 := begin_I0 hs0 h1
  have i2 := run_mid hs0 mids _ _ _ hm i1 h3
  have i3 := finish_I0 i2 h4
  rw [List.nil_append] at i3
  have e : runO (itL x y z u v w 60000 sd 0 :: (mids ++ [itM p q r p' q' r'])) St0 = (pushO (ofRow (itL x y z u v w 60000 sd 0)) St0 ++ runO mids (pushS (ofRow (itL x y z u v w 60000 sd 0)) St0)) ++ pushO (ofRow (itM p q r p' q' r')) (runS mids (pushS (ofRow (itL x y z u v w 60000 sd 0)) St0)) := by
    show _ ++ runO (mids ++ [_]) _ = _
    rw [runO_app, List.append_assoc]
    show _ ++ (_ ++ (_ ++ [])) = _
    rw [List.append_nil]
  rw [e]
  exact i3
end Go.Proofs.Ytmbfbhimdkjkoaa
namespace Go.Proofs.Ytmbfbhimdkjkoaa
open Go.SX Go.RowKit
theorem skA_stop {X : List (List Int)} {k : Nat} (h : skC X k = false) : skA X k = k := by
  unfold skA
  cases X.length - k
  · rfl
  · unfold skN; rw [h]; rfl
theorem skA_go {X : List (List Int)} {k : Nat} (hx : X.length ≤ 1000) (h : skC X k = true) : skA X k = skA X (k + 1) := by
  have := skC_lt hx h
  unfold skA
  have e : X.length - k = (X.length - (k + 1)) + 1 := by omega
  rw [e]
  conv => lhs; unfold skN
  rw [h]; rfl
theorem getD_pre (pre suf : List (List Int)) (m : List Int) : (pre ++ m :: suf).getD pre.length [] = m := by simp [List.getD]
theorem sk_mid {pre suf : List (List Int)} {m : List Int} (hp : pre ≠ []) (hs : suf ≠ []) (hx : (pre ++ m :: suf).length ≤ 1000) : skC (pre ++ m :: suf) pre.length = !keepR m := by
  unfold skC keepR
  rw [getD_pre]
  have h1 : 1 ≤ pre.length := List.length_pos_iff.2 hp
  have h2 : 1 ≤ suf.length := List.length_pos_iff.2 hs
  have hl : (pre ++ m :: suf).length = pre.length + (suf.length + 1) := by rw [List.length_append, List.length_cons]
  have e1 : decide (Int.ofNat pre.length < IntKind.i64.wrap (Int.ofNat (pre ++ m :: suf).length - 1)) = true := by
    rw [wrI (by simp; omega) (by simp; omega)]
    exact decide_eq_true (by rw [hl]; simp; omega)
  have e2 : decide (Int.ofNat pre.length > 0) = true := decide_eq_true (by simp; omega)
  rw [e1, e2, Bool.not_not]
  rfl
theorem sk_last {pre : List (List Int)} {m : List Int} (hx : (pre ++ [m]).length ≤ 1000) : skC (pre ++ [m]) pre.length = false := by
  unfold skC
  have hl : (pre ++ [m]).length = pre.length + 1 := by simp
  have e1 : decide (Int.ofNat pre.length < IntKind.i64.wrap (Int.ofNat (pre ++ [m]).length - 1)) = false := by
    rw [hl, wrI (by simp <;> omega) (by simp <;> omega)]
    exact decide_eq_false (by simp)
  rw [e1]
  simp
theorem ro_step {A X : List (List Int)} {n i k : Nat} (h : skA X k < X.length) (hd : diffR (A.getD i []) (X.getD (skA X k) []) = false) : roN A X (n + 1) ⟨i, k⟩ = roN A X n ⟨i + 1, skA X k + 1⟩ := by
  have hb : roB A X i k = false := by
    unfold roB
    rw [hd, show decide (Int.ofNat (skA X k) ≥ Int.ofNat X.length) = false from decide_eq_false (by simp; omega)]
    rfl
  conv => lhs; unfold roN
  rw [hb]; rfl
theorem ro_all {A X : List (List Int)} (hx : X.length ≤ 1000) {last : List Int} : ∀ (ms : List (List Int)) (pre A' Ap : List (List Int)) (k0 : Nat), X = pre ++ (ms ++ [last]) → pre ≠ [] → A = Ap ++ A' → All2 Mt A' (ms.filter keepR ++ [last]) → skA X k0 = skA X pre.length →
    roN A X A'.length ⟨Ap.length, k0⟩ = ⟨false, X.length⟩
  | [], pre, A', Ap, k0, hX, hp, hA, hM, hk => by
    cases hM with
    | cons h1 h2 =>
      cases h2
      have e := sk_last (pre := pre) (m := last) (by rw [← show X = pre ++ [last] from hX]; exact hx)
      rw [← show X = pre ++ [last] from hX] at e
      have e2 := skA_stop e
      rename_i a
      have hl : X.length = pre.length + 1 := by rw [hX]; simp
      show roN A X (0 + 1) ⟨Ap.length, k0⟩ = _
      rw [ro_step (by rw [hk, e2]; omega) (by rw [hk, e2, hA, getD_pre, hX]; show diffR a ((pre ++ [last]).getD pre.length []) = false; rw [getD_pre]; exact h1)]
      show RdT.mk false (skA X k0 + 1) = _
      rw [hk, e2, hl]
  | m :: ms, pre, A', Ap, k0, hX, hp, hA, hM, hk => by
    have hX' : X = pre ++ m :: (ms ++ [last]) := hX
    have e := sk_mid (pre := pre) (m := m) (suf := ms ++ [last]) hp (by simp) (by rw [← hX']; exact hx)
    rw [← hX'] at e
    have hl : X.length = pre.length + (ms.length + 1 + 1) := by rw [hX']; simp
    have hX2 : X = (pre ++ [m]) ++ (ms ++ [last]) := by rw [hX']; simp
    cases hkp : keepR m
    · rw [List.filter_cons, hkp, if_neg (by simp)] at hM
      rw [hkp] at e
      have e2 := skA_go hx e
      exact ro_all hx ms (pre ++ [m]) A' Ap k0 hX2 (by simp) hA hM (by rw [hk, e2]; simp)
    · rw [List.filter_cons, hkp, if_pos rfl] at hM
      rw [hkp] at e
      have e2 := skA_stop e
      cases hM with
      | cons h1 h2 =>
        rename_i a A''
        show roN A X (A''.length + 1) ⟨Ap.length, k0⟩ = _
        rw [ro_step (by rw [hk, e2]; omega) (by rw [hk, e2, hA, getD_pre, hX', getD_pre]; exact h1), hk, e2]
        have := ro_all (A := A) hx ms (pre ++ [m]) A'' (Ap ++ [a]) (pre.length + 1) hX2 (by simp) (by rw [hA]; simp) h2 (by simp)
        rw [List.length_append] at this
        exact this
theorem ro_good {A X ms : List (List Int)} {lead last : List Int} (hx : X.length ≤ 1000) (hX : X = lead :: (ms ++ [last])) (hM : All2 Mt A (lead :: (ms.filter keepR ++ [last]))) :
    roN A X A.length ⟨0, 0⟩ = ⟨false, X.length⟩ := by
  cases hM with
  | cons h1 h2 =>
    rename_i a A'
    have e : skA X 0 = 0 := skA_stop (by unfold skC; rw [show decide (Int.ofNat 0 > 0) = false from rfl, Bool.and_false]; rfl)
    have hl : X.length = ms.length + 1 + 1 := by rw [hX]; simp
    show roN (a :: A') X (A'.length + 1) ⟨0, 0⟩ = _
    rw [ro_step (by rw [e]; omega) (by rw [e, hX]; exact h1), e]
    exact ro_all hx ms [lead] A' [a] 1 hX (by simp) rfl h2 rfl
theorem zrN_all : ∀ (n : Nat) (a : ZS), a.i + n = a.X.length → (zrN n a).X = a.X.take a.i ++ (a.X.drop a.i).map zrw
  | 0, a, h => by
    rw [List.take_of_length_le (by omega), List.drop_eq_nil_of_le (by omega)]
    exact (List.append_nil _).symm
  | n + 1, a, h => by
    have hi : a.i < a.X.length := by omega
    show (zrN n (zrS a)).X = _
    have hl : (zrS a).X.length = a.X.length := by show (a.X.set _ _).length = _; rw [List.length_set]
    rw [zrN_all n (zrS a) (by rw [hl]; show a.i + 1 + n = _; omega)]
    show (a.X.set a.i (zrw (a.X.getD a.i []))).take (a.i + 1) ++ ((a.X.set a.i (zrw (a.X.getD a.i []))).drop (a.i + 1)).map zrw = _
    rw [drop_cons hi, List.map_cons]
    have h1 : (a.X.set a.i (zrw (a.X.getD a.i []))).take (a.i + 1) = a.X.take a.i ++ [zrw (a.X.getD a.i [])] := by
      rw [List.take_set, List.take_succ_eq_append_getElem hi, List.set_append_right _ _ (by rw [List.length_take]; omega)]
      have : a.i - (a.X.take a.i).length = 0 := by rw [List.length_take]; omega
      rw [this]; rfl
    have h2 : (a.X.set a.i (zrw (a.X.getD a.i []))).drop (a.i + 1) = a.X.drop (a.i + 1) := by rw [List.drop_set, if_pos (by omega)]
    rw [h1, h2, List.append_assoc]; rfl
theorem zrw_mid {sd ra : Int} {r : List Int} (h : Mid sd ra r) : Mid sd 0 (zrw r) := by
  cases h with
  | out n => exact (show zrw (itO n) = itO n by kernel_rfl) ▸ .out n
  | line x y z u v w fe h => exact (show zrw (itL x y z u v w fe sd ra) = itL x y z u v w fe sd 0 by kernel_rfl) ▸ .line x y z u v w fe h
  | arc x y z u v w c d e dir => exact (show zrw (itA x y z u v w c d e dir 60000 sd ra) = itA x y z u v w c d e dir 60000 sd 0 by kernel_rfl) ▸ .arc x y z u v w c d e dir
theorem zr_shape (L : List (List Int)) : ∃ x y z u v w mids p q r p' q' r', (∀ m ∈ mids, Mid (cSd 0 L) 0 m) ∧
    ((rzF (contL 0 L).length).fin (ZS.mk 0 (contL 0 L))).X = itL x y z u v w 60000 (cSd 0 L) 0 :: (mids ++ [itM p q r p' q' r']) := by
  obtain ⟨x, y, z, u, v, w, mids, p, q, r, p', q', r', h1, h2⟩ := contL_shape 0 L
  refine ⟨x, y, z, u, v, w, mids.map zrw, p, q, r, p', q', r', fun m hm => ?_, ?_⟩
  · obtain ⟨m', h3, rfl⟩ := List.mem_map.1 hm
    exact zrw_mid (h1 m' h3)
  · have h3 : ((rzF (contL 0 L).length).fin (ZS.mk 0 (contL 0 L))).X = (contL 0 L).map zrw := by
      show (zrN ((contL 0 L).length - 0) ⟨0, contL 0 L⟩).X = _
      rw [zrN_all _ _ (by show 0 + ((contL 0 L).length - 0) = _; simp)]
      rfl
    rw [h3, h2, List.map_cons, List.map_append]
    have e1 : zrw (itL x y z u v w 60000 (cSd 0 L) (cRa 0 L)) = itL x y z u v w 60000 (cSd 0 L) 0 := by kernel_rfl
    have e2 : [itM p q r p' q' r'].map zrw = [itM p q r p' q' r'] := by kernel_rfl
    rw [e1, e2]
theorem zr_len (L : List (List Int)) : ((rzF (contL 0 L).length).fin (ZS.mk 0 (contL 0 L))).X.length = (contL 0 L).length := by
  show (zrN ((contL 0 L).length - 0) ⟨0, contL 0 L⟩).X.length = _
  rw [zrN_all _ _ (by show 0 + ((contL 0 L).length - 0) = _; simp)]
  simp
noncomputable def lawR_tpl : Tpl := ⟨[.one (.wh 0)], [(0, .row true 3 1 1 [.int .i64])], 2⟩
noncomputable def lawR_s0 (L : List (List Int)) : List (List Int) :=
  ((rzF (contL 0 L).length).fin (ZS.mk 0 (contL 0 L))).X
noncomputable def lawR_0 (L : List (List Int)) : Bool :=
  bif !light_0 L then true
  else
   bif apE (lawR_s0 L) != 0 then true
   else bif ((roF (apO (lawR_s0 L)) (lawR_s0 L)).fin (RdS.mk 0 0)).bad then false else true && Int.ofNat ((roF (apO (lawR_s0 L)) (lawR_s0 L)).fin (RdS.mk 0 0)).k == Int.ofNat (lawR_s0 L).length
noncomputable def lawR_needs (L : List (List Int)) : List Prop :=
  [(!light_0 L) = false →
   Int.ofNat 0 ≤ 0 ∧
   L.length ≤ 1000000 ∧
   ((ZS.mk 0 (contL 0 L)).i ≤ (ZS.mk 0 (contL 0 L)).X.length ∧ (ZS.mk 0 (contL 0 L)).X.length = (contL 0 L).length ∧ (contL 0 L).length ≤ 1000) ∧
   Int.ofNat (ZS.mk 0 (contL 0 L)).i = 0 ∧
   (ZS.mk 0 (contL 0 L)).X = contL 0 L ∧
   (lawR_s0 L).length ≤ 1000 ∧
   ((apE (lawR_s0 L) != 0) = false →
   (0 ≤ (apO (lawR_s0 L)).length ∧ (apO (lawR_s0 L)).length ≤ 100000 ∧ 0 ≤ (lawR_s0 L).length ∧ (lawR_s0 L).length ≤ 1000 ∧ 1 ≤ (lawR_s0 L).length) ∧ Int.ofNat 0 = 0 ∧ Int.ofNat 0 = 0)]
theorem lawR_0_eq (L : List (List Int)) : (lawR_0 L) = true := by
  unfold lawR_0
  cases !light_0 L
  · rw [cond_false]
    cases he : (apE (lawR_s0 L) != 0)
    · rw [cond_false]
      have he' : apE (lawR_s0 L) = 0 := bne_eq_false_iff_eq.1 he
      obtain ⟨h1, _, _, h2, _⟩ := ap_ok he'
      obtain ⟨x, y, z, u, v, w, mids, p, q, r, p', q', r', h3, h4⟩ := zr_shape L
      have h5 : lawR_s0 L = itL x y z u v w 60000 (cSd 0 L) 0 :: (mids ++ [itM p q r p' q' r']) := h4
      have hx := contL_len 0 L
      have hz : (lawR_s0 L).length = (contL 0 L).length := zr_len L
      have hsd : cSd 0 L ≠ 0 := by rcases cSd_pm 0 L with e | e <;> rw [e] <;> decide
      have hA := run_all hsd h3 (by rw [← h5]; exact h1)
      rw [← h5, ← h2] at hA
      have hg : (roF (apO (lawR_s0 L)) (lawR_s0 L)).fin (RdS.mk 0 0) = ⟨false, (lawR_s0 L).length⟩ := ro_good (by omega) h5 hA
      rw [hg]
      simp
    · rfl
  · rfl
theorem lawR_need {L : List (List Int)} : ∀ q ∈ (lawR_needs L), q := by
  unfold lawR_needs
  simp only [List.forall_mem_cons, List.not_mem_nil, false_implies, implies_true, and_true]
  intro hl
  have hl' := light_len (L := L) (by simpa using hl)
  have hx := contL_len 0 L
  have hz : (lawR_s0 L).length = (contL 0 L).length := zr_len L
  refine ⟨by decide, by omega, ⟨Nat.zero_le _, trivial, by omega⟩, rfl, trivial, by omega, fun he => ⟨⟨Nat.zero_le _, ?_, Nat.zero_le _, by omega, by omega⟩, rfl, rfl⟩⟩
  have he' : apE (lawR_s0 L) = 0 := bne_eq_false_iff_eq.1 he
  rw [(ap_ok he').2.2.2.1]
  have hlen : ∀ (l : List (List Int)) (s : St), s.C.length ≤ 8 → (runO l s).length ≤ 11 * l.length := by
    intro l
    induction l with
    | nil => intro s h; exact Nat.zero_le _
    | cons r l ih =>
      intro s h
      have h1 := pushO_len (ofRow r) s h
      have h2 := ih (pushS (ofRow r) s) (pushS_C _ _ h)
      show (pushO (ofRow r) s ++ runO l (pushS (ofRow r) s)).length ≤ 11 * (l.length + 1)
      rw [List.length_append]; omega
  have := hlen (lawR_s0 L) St0 (Nat.zero_le _)
  omega
set_option maxRecDepth 1000000 in
theorem lawR_runs (L : List (List Int)) (hNeeds : ∀ pN ∈ (lawR_needs L), pN) : Runs (runF (sums K_awake) L_ro 3) (lawR_tpl.args []) (lawR_tpl.memo [] [L]) lawR_tpl.n (SV.one (SC.bool (SB.v (lawR_0 L))))
    ([]) :=
  Runs.of1 (ps := (lawR_needs L)) (by kernel_rfl) hNeeds
noncomputable def lawR_out : List Pm → Lss → Option CRes
  | [], [L] => some ⟨SV.one (SC.bool (SB.v (lawR_0 L))),
    [],
    [], [], 5110⟩
  | _, _ => none
theorem lawR_ok : FOk Try.prog 3 (tplS lawR_tpl lawR_out) := by
  refine tplS_ok (runF_ok known_roL 3) fun ps ls r hr hn _ => ?_
  unfold lawR_out at hr
  split at hr
  · cases hr; exact ⟨_, lawR_runs _ (fun p hp => lawR_need p hp), fun _ => by simp only [SV.den, SC.den, SB.val, lawR_0_eq]⟩
  · cases hr
noncomputable def K_lawR : List (Nat × Summ) := (3, tplS lawR_tpl lawR_out) :: K_awake
theorem known_lawR : Known Try.prog (sums K_lawR) L_ro := known_cons known_roL lawR_ok
end Go.Proofs.Ytmbfbhimdkjkoaa
namespace Go.SX
open Go.RowKit Go.WideElems Go.ChangeShapes

/-! ### Types of integers and truth values -/
noncomputable def flatFs (P : Program) (rec' : TypeId → Option (List CK)) : List Field → Nat → Option (List CK)
  | [], _ => some []
  | f :: r, o => match rec' f.type with
    | some ks => bif Nat.beq f.offset o && Nat.beq ks.length (P.cellsOf f.type) then (flatFs P rec' r (o + ks.length)).map (ks ++ ·) else none
    | none => none
noncomputable def flatK (P : Program) : Nat → TypeId → Option (List CK)
  | 0, _ => none
  | d + 1, t => match P.underlying t with
    | some .bool => some [.bool]
    | some (.int k) => some [.int k]
    | some (.struct fs) => match flatFs P (flatK P d) fs.toList 0 with
      | some ks => bif Nat.beq ks.length (P.cellsOf t) then some ks else none
      | none => none
    | _ => none
noncomputable def okV : CK → Value → Prop
  | .int k, v => ∃ n, v = .int k n
  | .bool, v => ∃ b, v = .bool b
noncomputable def okL : List CK → List Value → Prop
  | [], [] => True
  | k :: ks, v :: vs => okV k v ∧ okL ks vs
  | _, _ => False
theorem okL_length : ∀ {ks : List CK} {vs : List Value}, okL ks vs → vs.length = ks.length
  | [], [], _ => rfl
  | [], _ :: _, h => h.elim
  | _ :: _, [], h => h.elim
  | _ :: _, _ :: _, h => by simp [okL_length h.2]
theorem okL_append : ∀ {ks js : List CK} {vs ws : List Value}, okL ks vs → okL js ws → okL (ks ++ js) (vs ++ ws)
  | [], _, [], _, _, h => h
  | [], _, _ :: _, _, h, _ => h.elim
  | _ :: _, _, [], _, h, _ => h.elim
  | _ :: _, _, _ :: _, _, h, k => ⟨h.1, okL_append h.2 k⟩
section
variable {H : Type} {enc : TypeId × Value → H} {P : Program} {w : World} {base : Nat} {spare : Nat → Bool} {held : Bool}
theorem take_split (l : List Value) (o a b : Nat) : (l.drop o).take (a + b) = (l.drop o).take a ++ (l.drop (o + a)).take b := by
  rw [List.take_add, List.drop_drop]
theorem flatFs_ok {rec' : TypeId → Option (List CK)} {n : Nat} {cs : List Value} (hrec : ∀ t ks ds x, rec' t = some ks → DataW.trod enc P w base spare held n t ds = some x → okL ks ds) :
    ∀ {fs : List Field} {o : Nat} {ks : List CK}, flatFs P rec' fs o = some ks → (∀ f ∈ fs, ∃ x, DataW.trod enc P w base spare held n f.type ((cs.drop f.offset).take (P.cellsOf f.type)) = some x) → okL ks ((cs.drop o).take ks.length)
  | [], o, ks, h, _ => by cases h; simp [okL]
  | f :: r, o, ks, h, hx => by
    simp only [flatFs] at h
    split at h
    · rename_i k1 h1
      cases hb : (Nat.beq f.offset o && Nat.beq k1.length (P.cellsOf f.type))
      · rw [hb] at h; cases h
      rw [hb] at h
      simp only [Bool.and_eq_true] at hb
      have e1 := Nat.eq_of_beq_eq_true hb.1
      have e2 := Nat.eq_of_beq_eq_true hb.2
      simp only [cond_true, Option.map_eq_some_iff] at h
      obtain ⟨k2, h2, rfl⟩ := h
      obtain ⟨x, hx1⟩ := hx f (by simp)
      have q1 := hrec _ _ _ _ h1 hx1
      rw [e1, ← e2] at q1
      have q2 := flatFs_ok hrec h2 (fun g hg => hx g (by simp [hg]))
      rw [List.length_append, take_split]
      exact okL_append q1 q2
    · cases h
theorem flat_ok : ∀ {d : Nat} {t : TypeId} {ks : List CK}, flatK P d t = some ks → ∀ {n : Nat} {cs : List Value} {x : DataW H × List MemPlace}, DataW.trod enc P w base spare held n t cs = some x → okL ks cs
  | 0, _, _, h, _, _, _, _ => by cases h
  | d + 1, t, ks, h, n, cs, x, hx => by
    simp only [flatK] at h
    split at h
    · rename_i hu
      cases h
      obtain ⟨b, rfl, _⟩ := DataW.trod_bool hu hx
      exact ⟨⟨b, rfl⟩, trivial⟩
    · rename_i k hu
      cases h
      obtain ⟨b, rfl, _⟩ := DataW.trod_int hu hx
      exact ⟨⟨b, rfl⟩, trivial⟩
    · rename_i fs hu
      split at h
      · rename_i js hj
        cases hb : Nat.beq js.length (P.cellsOf t)
        · rw [hb] at h; cases h
        rw [hb] at h
        cases h
        have e := Nat.eq_of_beq_eq_true hb
        obtain ⟨xs, m, rfl, _, hlen, hxl, hf⟩ := DataW.trod_struct hu hx
        have := flatFs_ok (P := P) (enc := enc) (w := w) (base := base) (spare := spare) (held := held) (n := m) (cs := cs) (fun t ks ds x h1 h2 => flat_ok h1 h2) hj (fun f hfm => by
          obtain ⟨i, hi⟩ := List.getElem?_of_mem hfm
          have hi' : fs[i]? = some f := by simpa using hi
          have hlt : i < xs.length := by
            rw [hxl]
            exact (Array.getElem?_eq_some_iff.1 hi').1
          exact ⟨xs[i], by rw [hf i f hi', List.getElem?_eq_getElem hlt]⟩)
        simp only [List.drop_zero] at this
        rwa [List.take_of_length_le (by omega)] at this
      · cases h
    · cases h
end

/-! ### Values of such types -/
noncomputable def pcOf : CK → PC
  | .int k => .int k
  | .bool => .bool
/-- The kinds of what is open. -/
noncomputable def PmOk : List CK → List Pm → Prop
  | [], [] => True
  | .int _ :: ks, .i _ :: ps => PmOk ks ps
  | .bool :: ks, .b _ :: ps => PmOk ks ps
  | _, _ => False
theorem PmOk.append : ∀ {ks js : List CK} {ps qs : List Pm}, PmOk ks ps → PmOk js qs → PmOk (ks ++ js) (ps ++ qs)
  | [], _, [], _, _, h => h
  | [], _, _ :: _, _, h, _ => h.elim
  | .int _ :: ks, js, .i _ :: ps, qs, h, k => PmOk.append (ks := ks) (js := js) (ps := ps) (qs := qs) h k
  | .bool :: ks, js, .b _ :: ps, qs, h, k => PmOk.append (ks := ks) (js := js) (ps := ps) (qs := qs) h k
  | .int _ :: _, _, [], _, h, _ => h.elim
  | .bool :: _, _, [], _, h, _ => h.elim
  | .int _ :: _, _, .b _ :: _, _, h, _ => h.elim
  | .bool :: _, _, .i _ :: _, _, h, _ => h.elim
theorem pm_nil {ps : List Pm} (h : PmOk [] ps) : ps = [] := by cases ps with | nil => rfl | cons => exact h.elim
theorem pm_i {k : IntKind} {ks : List CK} {ps : List Pm} (h : PmOk (.int k :: ks) ps) : ∃ n q, ps = .i n :: q ∧ PmOk ks q := by
  cases ps with
  | nil => exact h.elim
  | cons p q => cases p with
    | i n => exact ⟨n, q, rfl, h⟩
    | b x => exact h.elim
theorem pm_b {ks : List CK} {ps : List Pm} (h : PmOk (.bool :: ks) ps) : ∃ n q, ps = .b n :: q ∧ PmOk ks q := by
  cases ps with
  | nil => exact h.elim
  | cons p q => cases p with
    | b n => exact ⟨n, q, rfl, h⟩
    | i x => exact h.elim
theorem okL_pm : ∀ {ks : List CK} {vs : List Value}, okL ks vs → ∃ ps, PmOk ks ps ∧ ∀ rest, ∃ xs, mkCs (ks.map pcOf) (ps ++ rest) = (xs, rest) ∧ (∀ θ, dens θ xs = vs) ∧ idsCs xs = []
  | [], [], _ => ⟨[], trivial, fun rest => ⟨[], rfl, fun _ => rfl, rfl⟩⟩
  | [], _ :: _, h => h.elim
  | _ :: _, [], h => h.elim
  | .int k :: ks, v :: vs, h => by
    obtain ⟨⟨n, rfl⟩, h2⟩ := h
    obtain ⟨ps, h3, h4⟩ := okL_pm h2
    refine ⟨.i n :: ps, h3, fun rest => ?_⟩
    obtain ⟨xs, h5, h6, h7⟩ := h4 rest
    refine ⟨.int k (.v n) :: xs, ?_, fun θ => ?_, by rw [idsCs_cons, h7]; rfl⟩
    · simp only [List.map_cons, pcOf, mkCs, List.cons_append, PC.mk, h5]
    · have := h6 θ
      simp only [dens, List.map_cons] at this ⊢
      rw [this]; rfl
  | .bool :: ks, v :: vs, h => by
    obtain ⟨⟨n, rfl⟩, h2⟩ := h
    obtain ⟨ps, h3, h4⟩ := okL_pm h2
    refine ⟨.b n :: ps, h3, fun rest => ?_⟩
    obtain ⟨xs, h5, h6, h7⟩ := h4 rest
    refine ⟨.bool (.v n) :: xs, ?_, fun θ => ?_, by rw [idsCs_cons, h7]; rfl⟩
    · simp only [List.map_cons, pcOf, mkCs, List.cons_append, PC.mk, h5]
    · have := h6 θ
      simp only [dens, List.map_cons] at this ⊢
      rw [this]; rfl
/-- As integers. -/
theorem okL_ints : ∀ {ks : List CK} {vs : List Value}, okL ks vs → ∃ xs : List Int, xs.length = ks.length ∧ ∀ (pre : List Int) θ, dens θ (decodeF ks (pre ++ xs) pre.length) = vs
  | [], [], _ => ⟨[], rfl, fun _ _ => rfl⟩
  | [], _ :: _, h => h.elim
  | _ :: _, [], h => h.elim
  | .int k :: ks, v :: vs, h => by
    obtain ⟨⟨n, rfl⟩, h2⟩ := h
    obtain ⟨xs, h3, h4⟩ := okL_ints h2
    refine ⟨n :: xs, by simp [h3], fun pre θ => ?_⟩
    have := h4 (pre ++ [n]) θ
    simp only [List.append_assoc, List.singleton_append, List.length_append, List.length_cons, List.length_nil, Nat.zero_add] at this
    simp only [decodeF, dens, List.map_cons] at this ⊢
    rw [this]
    simp [CK.cell, SC.den, SI.val, List.getD]
  | .bool :: ks, v :: vs, h => by
    obtain ⟨⟨b, rfl⟩, h2⟩ := h
    obtain ⟨xs, h3, h4⟩ := okL_ints h2
    refine ⟨(bif b then 1 else 0) :: xs, by simp [h3], fun pre θ => ?_⟩
    have := h4 (pre ++ [bif b then 1 else 0]) θ
    simp only [List.append_assoc, List.singleton_append, List.length_append, List.length_cons, List.length_nil, Nat.zero_add] at this
    simp only [decodeF, dens, List.map_cons] at this ⊢
    rw [this]
    cases b <;> simp [CK.cell, SC.den, SB.val, List.getD]

/-! ### Parameters -/
inductive PS where
  | agg (ks : List CK) | one (k : CK) | row (e : TypeId) (ks : List CK)
noncomputable def psVs : List PS → Nat → List PV
  | [], _ => []
  | .agg ks :: r, id => .agg (ks.map pcOf) :: psVs r id
  | .one k :: r, id => .one (pcOf k) :: psVs r id
  | .row _ _ :: r, id => .one (.wh id) :: psVs r (id + 1)
noncomputable def psM : List PS → Nat → Nat → List (Nat × PO)
  | [], _, _ => []
  | .agg _ :: r, id, t => psM r id t
  | .one _ :: r, id, t => psM r id t
  | .row e ks :: r, id, t => (id, .row true e ks.length t ks) :: psM r (id + 1) (t + 1)
noncomputable def psK : List PS → List CK
  | [] => []
  | .agg ks :: r => ks ++ psK r
  | .one k :: r => k :: psK r
  | .row _ _ :: r => psK r
noncomputable def psR : List PS → Nat
  | [] => 0
  | .row _ _ :: r => psR r + 1
  | _ :: r => psR r
noncomputable def rowsM : List PS → Nat → Nat → Lss → Mem
  | [], _, _, _ => []
  | .agg _ :: r, id, t, ls => rowsM r id t ls
  | .one _ :: r, id, t, ls => rowsM r id t ls
  | .row e ks :: r, id, t, xs :: ls => (id, .row true e ks.length (.lst t ks xs)) :: rowsM r (id + 1) (t + 1) ls
  | .row _ _ :: _, _, _, [] => []
noncomputable def psOk1 (P : Program) : PS → TypeId → Bool
  | .agg ks, t => (match P.underlying t with | some (.struct _) => true | _ => false) && (match flatK P 20 t with | some js => cksEq ks js | none => false)
  | .one k, t => (match P.underlying t with | some (.int j) => ckEq k (.int j) | some .bool => ckEq k .bool | _ => false)
  | .row e ks, t => (match P.underlying t with | some (.slice u) => Nat.beq e u | _ => false) && ((match flatK P 20 e with | some js => cksEq ks js | none => false) && (Nat.beq ks.length (P.cellsOf e) && Nat.blt 0 ks.length))
noncomputable def psOk (P : Program) : List PS → List TypeId → Bool
  | [], [] => true
  | s :: r, t :: ts => psOk1 P s t && psOk P r ts
  | _, _ => false
theorem mkMem_rows : ∀ {pss : List PS} {id t : Nat} {r : List Pm} {ls : Lss}, ls.length = psR pss → mkMem (psM pss id t) r ls = rowsM pss id t ls
  | [], _, _, _, _, _ => rfl
  | .agg _ :: r, _, _, _, _, h => mkMem_rows (pss := r) h
  | .one _ :: r, _, _, _, _, h => mkMem_rows (pss := r) h
  | .row e ks :: r, id, t, q, xs :: ls, h => by
    simp only [psM, mkMem, PO.mk, rowsM]
    rw [mkMem_rows (by simpa [psR] using h)]
  | .row e ks :: r, id, t, q, [], h => by simp [psR] at h
section
variable {H : Type} {enc : TypeId × Value → H} {P : Program} {w : World}
theorem cells_one {v : Value} (h : ∀ cs, v ≠ .agg cs) : v.cells.toList = [v] := by cases v <;> first | rfl | exact absurd rfl (h _)
/-- A slice that is read. -/
theorem open_row {t e : TypeId} {ks : List CK} {n : Nat} {v : Value} {x : DataW H × List MemPlace} (hu : P.underlying t = some (.slice e)) (hf : flatK P 20 e = some ks) (hc : ks.length = P.cellsOf e) (hpos : 0 < ks.length)
    (h : DataW.trod enc P w 0 (fun _ => true) true n t v.cells.toList = some x) (hv : ∀ cs, v ≠ .agg cs) :
    ∃ (xs : List (List Int)) (l : Loc), v = .slice l.ad l.len l.cap ∧ rowOk ks.length (xs.map (decode ks)) ∧ ∀ θ : Th, seeRel l w xs.length (dens θ (xs.map (decode ks)).flatten) := by
  rw [cells_one hv] at h
  rcases DataW.trod_slice hu h with ⟨h0, _⟩ | ⟨a, len, cap, elems, rest, m, _, h1, _, _, hle, _, hlen, hel, _⟩
  · simp only [List.cons.injEq, and_true] at h0
    subst h0
    exact ⟨[], Loc.none, rfl, ⟨hpos, fun _ h => by cases h⟩, fun θ => ⟨rfl, rfl, Nat.le_refl _, .inl ⟨rfl, rfl, rfl⟩⟩⟩
  · simp only [List.cons.injEq, and_true] at h1
    subst h1
    have each : ∀ i, i < len → ∃ zs : List Int, zs.length = ks.length ∧ ∀ (θ : Th) (j : Nat) (u : Value), (dens θ (decode ks zs))[j]? = some u → w.cell? (a.add (i * ks.length + j)) = some u := by
      intro i hi
      have h2 := hel i hi
      rw [List.getElem?_eq_getElem (by omega)] at h2
      obtain ⟨cs, h3, h4⟩ := Option.bind_eq_some_iff.1 h2
      obtain ⟨_, h5, h6⟩ := World.cells?_some h3
      obtain ⟨zs, h7, h8⟩ := okL_ints (flat_ok hf h4)
      refine ⟨zs, h7, fun θ j u hu => ?_⟩
      have h9 := h8 [] θ
      simp only [List.nil_append, List.length_nil] at h9
      rw [decode, h9] at hu
      have hj : j < cs.length := (List.getElem?_eq_some_iff.1 hu).1
      have := h6 j (by omega)
      rw [hu, ← hc] at this
      rw [← this, Addr.add_add]
    obtain ⟨xs, hx1, hx2⟩ : ∃ xs : List (List Int), xs.length = len ∧ ∀ i zs, xs[i]? = some zs → zs.length = ks.length ∧ ∀ (θ : Th) (j : Nat) (u : Value), (dens θ (decode ks zs))[j]? = some u → w.cell? (a.add (i * ks.length + j)) = some u := by
      have : ∀ m, m ≤ len → ∃ xs : List (List Int), xs.length = m ∧ ∀ i zs, xs[i]? = some zs → zs.length = ks.length ∧ ∀ (θ : Th) (j : Nat) (u : Value), (dens θ (decode ks zs))[j]? = some u → w.cell? (a.add (i * ks.length + j)) = some u := by
        intro m
        induction m with
        | zero => exact fun _ => ⟨[], rfl, fun i zs h => by simp at h⟩
        | succ m ih =>
          intro hm
          obtain ⟨xs, h2, h3⟩ := ih (by omega)
          obtain ⟨zs, h4, h5⟩ := each m (by omega)
          refine ⟨xs ++ [zs], by simp [h2], fun i ys hi => ?_⟩
          by_cases him : i < m
          · rw [List.getElem?_append_left (by omega)] at hi
            exact h3 i ys hi
          · have hlt := (List.getElem?_eq_some_iff.1 hi).1
            simp at hlt
            have : i = m := by omega
            subst this
            rw [List.getElem?_append_right (by omega)] at hi
            simp [h2] at hi
            subst hi
            exact ⟨h4, h5⟩
      exact this len (Nat.le_refl _)
    have hrow : rowOk ks.length (xs.map (decode ks)) := ⟨hpos, fun r hr => by
      obtain ⟨zs, _, rfl⟩ := List.mem_map.1 hr
      exact ⟨by rw [decode, decodeF_length], decodeF_ids _ _ _⟩⟩
    have flat : ∀ (θ : Th) (ys : List (List Int)) (b : Nat), (∀ i zs, ys[i]? = some zs → ∀ (j : Nat) (u : Value), (dens θ (decode ks zs))[j]? = some u → w.cell? (a.add ((b + i) * ks.length + j)) = some u) → ∀ (j : Nat) (u : Value), (dens θ (ys.map (decode ks)).flatten)[j]? = some u → w.cell? (a.add (b * ks.length + j)) = some u := by
      intro θ ys
      induction ys with
      | nil => intro b _ j u h; simp [dens] at h
      | cons z ys ih =>
        intro b hz j u hj
        simp only [List.map_cons, List.flatten_cons, dens, List.map_append] at hj
        have hdl : (List.map (SC.den θ) (decode ks z)).length = ks.length := by rw [List.length_map, decode, decodeF_length]
        by_cases hlt : j < ks.length
        · rw [List.getElem?_append_left (by omega)] at hj
          exact hz 0 z rfl j u hj
        · rw [List.getElem?_append_right (by omega), hdl] at hj
          have := ih (b + 1) (fun i zs hi j u hj => by
            have := hz (i + 1) zs (by simpa using hi) j u hj
            rwa [show b + (i + 1) = b + 1 + i from by omega] at this) (j - ks.length) u hj
          rw [← this]
          congr 2
          rw [Nat.add_mul, Nat.one_mul]; omega
    by_cases hl0 : len = 0
    · subst hl0
      have : xs = [] := List.length_eq_zero_iff.1 hx1
      subst this
      exact ⟨[], ⟨.none, .none, some a, 0, cap, #[]⟩, rfl, hrow, fun θ => ⟨rfl, rfl, Nat.zero_le _, .inl ⟨rfl, rfl, rfl⟩⟩⟩
    · refine ⟨xs, ⟨.none, some a.block, some a, len, cap, #[]⟩, rfl, hrow, fun θ => ⟨rfl, hx1.symm, by rw [hx1]; exact hle, .inr ⟨a, rfl, rfl, ?_, fun j u hj => ?_⟩⟩⟩
      · intro h0
        have := congrArg List.length h0
        obtain ⟨z, zs, rfl⟩ : ∃ z zs, xs = z :: zs := by
          cases xs with
          | nil => exact absurd hx1 (fun h => hl0 h.symm)
          | cons z zs => exact ⟨z, zs, rfl⟩
        simp only [dens, List.map_cons, List.flatten_cons, List.map_append, List.length_append, List.length_map, decode, decodeF_length, List.length_nil] at this
        omega
      · have := flat θ xs 0 (fun i zs hi j u hj => by
          have := (hx2 i zs hi).2 θ j u hj
          simpa using this) j u hj
        simpa using this
/-- The arguments are those of a pattern. -/
theorem open_args {b0 : Nat} : ∀ {pss : List PS} {ts : List TypeId} {vs : List Value} {ds : List (DataW H)} {p : List MemPlace}, psOk P pss ts = true → DataW.TrodAll enc P w 0 (fun _ => true) true ts vs ds p →
    (∀ (j : Nat) t v, ts[j]? = some t → vs[j]? = some v → Value.okWide P w .any b0 t v) →
    ∃ (ps : List Pm) (ls : Lss) (locs : List Loc), PmOk (psK pss) ps ∧ ls.length = psR pss ∧ locs.length = psR pss ∧
      ∀ (id : Nat) (θ : Th), (∀ i l, locs[i]? = some l → θ (id + i) = l) → (∀ rest, ∃ A, mkPs (psVs pss id) (ps ++ rest) = (A, rest) ∧ A.map (SV.den θ) = vs ∧ (∀ i ∈ idsVs A, i < id + psR pss)) ∧
        ∀ t i o, look (rowsM pss id t ls) i = some o → objRel θ w i o ∧ (θ i).blk = none ∧ id ≤ i ∧ i < id + psR pss ∧ idsO o = []
  | [], [], vs, ds, p, _, h, _ => by
    obtain ⟨rfl, _, _⟩ := trodAll_nil h
    exact ⟨[], [], [], trivial, rfl, rfl, fun id θ _ => ⟨fun rest => ⟨[], rfl, rfl, fun _ h => by cases h⟩, fun t i o h => by cases h⟩⟩
  | [], _ :: _, _, _, _, h, _, _ => by cases h
  | _ :: _, [], _, _, _, h, _, _ => by cases h
  | s :: r, t :: ts, vs, ds, p, hok, h, hw => by
    obtain ⟨v, vs', d, ds', p1, p2, rfl, rfl, rfl, ⟨n, h1⟩, h2⟩ := trodAll_cons h
    simp only [psOk, Bool.and_eq_true] at hok
    obtain ⟨ps, ls, locs, q1, q2, q3, q4⟩ := open_args hok.2 h2 (fun j t v hj hv => hw (j + 1) t v (by simpa using hj) (by simpa using hv))
    have hv := hw 0 t v rfl rfl
    have hok1 := hok.1
    cases s with
    | agg ks =>
      simp only [psOk1, Bool.and_eq_true] at hok1
      obtain ⟨k1, k2⟩ := hok1
      have hst : ∃ fs, P.underlying t = some (.struct fs) := by
        split at k1
        · exact ⟨_, by assumption⟩
        · cases k1
      obtain ⟨fs, hst⟩ := hst
      have hfl : flatK P 20 t = some ks := by
        split at k2
        · rename_i js hj; rw [hj, cksEq_spec k2]
        · cases k2
      unfold Value.okWide at hv
      rw [hst] at hv
      obtain ⟨cs, rfl, _⟩ := hv
      obtain ⟨qs, m1, m2⟩ := okL_pm (flat_ok hfl h1)
      refine ⟨qs ++ ps, ls, locs, PmOk.append m1 q1, q2, q3, fun id θ hθ => ?_⟩
      obtain ⟨z1, z2⟩ := q4 id θ hθ
      refine ⟨fun rest => ?_, fun t i o ho => z2 t i o ho⟩
      obtain ⟨xs, e1, e2, e3⟩ := m2 (ps ++ rest)
      obtain ⟨A, e4, e5, e6⟩ := z1 rest
      refine ⟨.agg xs :: A, by simp only [psVs, mkPs, PV.mk, List.append_assoc, e1, e4], ?_, fun i hi => ?_⟩
      · simp only [List.map_cons, e5, SV.den, e2 θ]
        simp [Value.cells]
      · simp only [idsVs, idsV, e3, List.nil_append] at hi
        exact e6 i hi
    | one k =>
      simp only [psOk1] at hok1
      have hone : (∀ cs, v ≠ .agg cs) ∧ flatK P 20 t = some [k] := by
        unfold Value.okWide Cell.okWide Cell.ok at hv
        split at hok1
        · rename_i j hu
          rw [hu] at hv
          refine ⟨fun cs hc => ?_, ?_⟩
          · subst hc; exact hv.elim
          · simp only [flatK, hu]; rw [ckEq_spec hok1]
        · rename_i hu
          rw [hu] at hv
          refine ⟨fun cs hc => ?_, ?_⟩
          · subst hc; exact hv.elim
          · simp only [flatK, hu]; rw [ckEq_spec hok1]
        · cases hok1
      obtain ⟨ho1, hfl⟩ := hone
      rw [cells_one ho1] at h1
      obtain ⟨qs, m1, m2⟩ := okL_pm (flat_ok hfl h1)
      refine ⟨qs ++ ps, ls, locs, PmOk.append (ks := [k]) m1 q1, q2, q3, fun id θ hθ => ?_⟩
      obtain ⟨z1, z2⟩ := q4 id θ hθ
      refine ⟨fun rest => ?_, fun t i o ho => z2 t i o ho⟩
      obtain ⟨xs, e1, e2, e3⟩ := m2 (ps ++ rest)
      obtain ⟨A, e4, e5, e6⟩ := z1 rest
      have e7 := e2 θ
      have hxl : ∃ c, xs = [c] := by
        have := congrArg List.length e7
        simp [dens] at this
        match xs, this with
        | [c], _ => exact ⟨c, rfl⟩
      obtain ⟨c, rfl⟩ := hxl
      simp only [List.map_cons, List.map_nil, mkCs, Prod.mk.injEq, List.cons.injEq, and_true] at e1
      refine ⟨.one c :: A, ?_, ?_, fun i hi => ?_⟩
      · simp only [psVs, mkPs, PV.mk, List.append_assoc, e1.1, e1.2, e4]
      · simp only [dens, List.map_cons, List.map_nil, List.cons.injEq, and_true] at e7
        simp only [List.map_cons, e5, SV.den, e7]
      · simp only [idsVs, idsV, List.mem_append] at hi
        rcases hi with hi | hi
        · rw [idsCs_cons] at e3
          simp [List.append_eq_nil_iff] at e3
          rw [e3.1] at hi; cases hi
        · exact e6 i hi
    | row e ks =>
      simp only [psOk1, Bool.and_eq_true] at hok1
      obtain ⟨k1, k2, k3, k4⟩ := hok1
      have hst : P.underlying t = some (.slice e) := by
        split at k1
        · rename_i u hu; rw [hu, Nat.eq_of_beq_eq_true k1]
        · cases k1
      have hfl : flatK P 20 e = some ks := by
        split at k2
        · rename_i js hj; rw [hj, cksEq_spec k2]
        · cases k2
      have hna : ∀ cs, v ≠ .agg cs := fun cs hc => by
        unfold Value.okWide Cell.okWide Cell.ok at hv
        rw [hst] at hv
        subst hc; exact hv.elim
      obtain ⟨xs, l, m1, m2, m3⟩ := open_row hst hfl (Nat.eq_of_beq_eq_true k3) (by rwa [Nat.blt_eq] at k4) h1 hna
      refine ⟨ps, xs :: ls, l :: locs, q1, by simp [psR, q2], by simp [psR, q3], fun id θ hθ => ?_⟩
      have hl : θ id = l := hθ 0 l rfl
      obtain ⟨z1, z2⟩ := q4 (id + 1) θ (fun i l hi => by
        have := hθ (i + 1) l (by simpa using hi)
        rwa [show id + (i + 1) = id + 1 + i from by omega] at this)
      refine ⟨fun rest => ?_, fun t i o ho => ?_⟩
      · obtain ⟨A, e4, e5, e6⟩ := z1 rest
        refine ⟨.one (.wh id) :: A, by simp only [psVs, mkPs, PV.mk, PC.mk, e4], ?_, fun i hi => ?_⟩
        · simp only [List.map_cons, e5, SV.den, SC.den, hl, m1]
        · simp only [idsVs, idsV, idsC, List.singleton_append, List.mem_cons] at hi
          simp only [psR]
          rcases hi with rfl | hi
          · omega
          · have := e6 i hi; omega
      · simp only [rowsM, look_cons] at ho
        cases hb : Nat.beq id i
        · rw [hb] at ho
          obtain ⟨y1, y2, y3, y4, y5⟩ := z2 (t + 1) i o ho
          simp only [psR]
          exact ⟨y1, y2, by omega, by omega, y5⟩
        · rw [hb] at ho
          cases ho
          have := Nat.eq_of_beq_eq_true hb; subst this
          simp only [psR]
          refine ⟨⟨m2, ?_⟩, by rw [hl]; exact (m3 θ).1, Nat.le_refl _, by omega, rfl⟩
          rw [hl]
          simpa [RowC.rows] using m3 θ
/-- Behind the call the arguments read as before. -/
theorem args_stay (hl : laidOutB P = true) {W W' : World} (hb : Below W.heap.size W W') : ∀ {ts : List TypeId} {vs : List Value} {ds : List (DataW H)} {ps : List MemPlace},
    (ts.all fun t => P.readableRec t && decide (t < P.types.size)) = true → DataW.TrodAll enc P W 0 (fun _ => true) true ts vs ds ps → (∀ x ∈ ps, x.block < W.heap.size) → DataW.TrodAll enc P W' 0 (fun b => decide (b < W.heap.size)) true ts vs ds ps
  | [], vs, ds, ps, _, h, _ => by
    obtain ⟨rfl, rfl, rfl⟩ := trodAll_nil h
    rfl
  | t :: ts, vs, ds, ps, hr, h, hp => by
    obtain ⟨v, vs', d, ds', p1, p2, rfl, rfl, rfl, ⟨n, h1⟩, h2⟩ := trodAll_cons h
    simp only [List.all_cons, Bool.and_eq_true, decide_eq_true_eq] at hr
    exact ⟨p1, p2, ⟨n, DataW.trod_stays (kids_book hl hr.1.1) (book_sized hr.1.1) (fun h => by cases h) ⟨hr.1.2, book_self t⟩ h1 (fun x hx => hb.same (hp x (by simp [hx]))) (fun x hx => by simpa using hp x (by simp [hx]))⟩,
      args_stay hl hb (by simpa using hr.2) h2 (fun x hx => hp x (by simp [hx])), rfl⟩
theorem Below.kept {W W' : World} (hb : Below W.heap.size W W') (may : MemPlace → Prop) : W.keptBut W' may := by
  refine ⟨hb.os, hb.output, fun i hi => ?_⟩
  rw [hb.block i hi]
  cases h : W.heap[i]? with
  | none => rfl
  | some o => cases o <;> simp
/-- A LAW'S STEP: the frame of its statement. -/
theorem law_post {f : Func} {s : ChangeSpec} {W W' : World} {args : Array Value} {bt : TypeId} {ds : List (DataW H)} {before p q : List MemPlace} {gs : List (DataW H)} (hvars : s.vars = []) (hbt : P.underlying bt = some .bool) (hres : f.resultTypes = #[bt])
    (hfn : s.fn H (ds ++ []) = { results := [.lit (.bool true)], args := ds }) (hl : laidOutB P = true) (hr : (f.params.toList.all fun t => P.readableRec t && decide (t < P.types.size)) = true)
    (hW : DataW.Whole enc P f.params.toList s.vars false W args.toList ds gs before) (hA : DataW.TrodAll enc P W 0 (fun _ => true) true f.params.toList args.toList ds p) (hV : DataW.TrodVars enc P W (fun _ => true) s.vars gs q) (hpq : before = p ++ q)
    (hb : Below W.heap.size W W') : s.post enc P f false true false false W args (.bool true) W' := by
  rw [hvars] at hV
  obtain ⟨rfl, rfl⟩ := trodVars_none hV
  refine ⟨ds, [], before, [], p, [], hW, ?_, ?_, ?_, Below.kept hb _, fun h => by cases h⟩
  · rw [hfn, hres]
    exact trodAll_mk1 (shut_bool hbt true)
  · rw [hfn]
    exact args_stay hl hb hr hA (fun x hx => hW.lt x (by rw [hpq]; simp [hx]))
  · rw [hfn, hvars]
    rfl
end
/-- What a run of a law says of its call. -/
theorem law_calls {P : Program} {f : FuncId} {g : Summ} (hg : FOk P f g) {tpl : Tpl} {ps : List Pm} {ls : Lss} {v : SV} {m : Mem} (h : Runs g (tpl.args ps) (tpl.memo ps ls) tpl.n v m) (hv : ∀ θ, v.den θ = .bool true)
    {pss : List PS} {P' : Program} {w : World} {vs : List Value} {θ : Th} (hA : (tpl.args ps).map (SV.den θ) = vs) (hi : ∀ i ∈ idsVs (tpl.args ps), i < tpl.n)
    (hM : ∀ i o, look (tpl.memo ps ls) i = some o → objRel θ w i o ∧ (θ i).blk = none ∧ i < tpl.n ∧ idsO o = []) (hf : f < 1000000 := by decide) :
    Calls P f vs.toArray w fun e w' => e = .returned (.bool true) ∧ Below w.heap.size w w' := by
  have := calls_runs hg h (fun i o ho => ⟨(hM i o ho).2.2.1, fun j hj => by rw [(hM i o ho).2.2.2] at hj; cases hj⟩) hi (θ := θ) (w := w) ⟨fun i o ho => (hM i o ho).1, fun i i' o o' b ho _ _ hb => by rw [(hM i o ho).2.1] at hb; cases hb⟩ hf
  rw [hA] at this
  refine this.mono fun e w' ⟨θ', h1, h2, _⟩ => ⟨by rw [h1, hv], h2.os, h2.tape, h2.output, h2.size, fun b hb => h2.heap b hb fun i o ho he => ?_⟩
  rw [(hM i o ho).2.1] at he; cases he
end Go.SX
namespace Go.Proofs.Ytmbfbhimdkjkoaa.cutterRadius
open Go.SX Go.RowKit Go.ChangeShapes Go.WideShapes Go.ChangeAt
theorem own : ownKnob Try.prog.godebug = none := by kernel_rfl
theorem laid : laidOutB Try.prog = true := by kernel_rfl
set_option maxRecDepth 100000 in
theorem lifted (os : Os) (started : os.Started) (H : Type) (enc : TypeId × Value → H) :
    ReturnsInHanded {} Try.checked os 3 .any (Rows.cutterRadiusSpec.pre6 enc Try.prog Try.f3 Rows.cutterRadiusRow.domain false) (Rows.cutterRadiusSpec.post enc Try.prog Try.f3 false true false false) := by
  refine returnsInHanded_of_change (C := Try.checked) own started (by kernel_rfl) Try.func3
    (ChangeSpec.witness6 (enc := enc) (C := Try.checked) false ⟨#[], #[.slice none 0 0], []⟩ 8 (by kernel_rfl) (by kernel_rfl) (by kernel_rfl) (by kernel_rfl)) ?_
  intro W base args ds gs before hval0 hW hcnd _
  have hval : ∀ (j : Nat) t v, Try.f3.params[j]? = some t → args[j]? = some v → Value.okWide Try.prog W .any base t v := hval0
  have hW' := hW
  obtain ⟨p, q, hA0, hV, hpq, _, _⟩ := hW
  have hA : DataW.TrodAll enc Try.prog W 0 (fun _ => true) true Try.f3.params.toList args.toList ds p := hA0
  have hA1 := hA
  rw [Try.params3] at hA1 hval
  obtain ⟨ps, ls, locs, z1, z2, z3, z4⟩ := open_args (b0 := base) (pss := [.row 3 [.int .i64]]) (by kernel_rfl) hA1 (fun j t v h1 h2 => hval j t v (by simpa using h1) (by simpa using h2))
  obtain ⟨y1, y2⟩ := z4 0 (fun i => locs.getD i Loc.none) (fun i l h => by simp [List.getD, h])
  obtain ⟨A, a1, a2, a3⟩ := y1 []
  rw [List.append_nil] at a1
  have t0 : PmOk [] ps := z1
  clear z1
  obtain rfl := pm_nil t0
  obtain ⟨L0, rfl⟩ : ∃ L0, ls = [L0] := by
    match ls, z2 with
    | [L0], _ => exact ⟨_, rfl⟩
  obtain ⟨_, _, d0, _, _, _, _, rfl, _, _, hB0⟩ := trodAll_cons hA1
  obtain ⟨_, rfl, _⟩ := trodAll_nil hB0
  have eA : lawR_tpl.args [] = A := by
    have : lawR_tpl.args [] = (mkPs (psVs [.row 3 [.int .i64]] 0) []).1 := by kernel_rfl
    rw [this, a1]
  have hr : psR [.row 3 [.int .i64]] = 1 := by kernel_rfl
  rw [hr] at a3 y2
  have hn : lawR_tpl.n = 2 := by kernel_rfl
  have := law_calls (runF_ok known_roL 3) (lawR_runs _ (fun q hq => lawR_need q hq)) (fun _ => by simp only [SV.den, SC.den, SB.val, lawR_0_eq]) (P' := Try.prog) (w := W) (vs := args.toList) (pss := []) (θ := fun i => locs.getD i Loc.none)
    (by rw [eA]; exact a2) (by rw [eA, hn]; intro i hi; have := a3 i hi; omega) (fun i o ho => by
      have e : lawR_tpl.memo [] [L0] = rowsM [.row 3 [.int .i64]] 0 1 [L0] := by kernel_rfl
      rw [e] at ho
      obtain ⟨w1, w2, _, w4, w5⟩ := y2 1 i o ho
      exact ⟨w1, w2, by rw [hn]; omega, w5⟩)
  rw [Array.toArray_toList] at this
  refine this.mono fun e W' ⟨he, hb⟩ => ?_
  subst he
  exact ⟨_, rfl, law_post (bt := 4) rfl Try.underlying4 (by kernel_rfl) rfl laid (by kernel_rfl) hW' hA hV hpq hb⟩
theorem holds : Rows.CutterRadiusSaid :=
  OpenClaim.holds_of_wide 3 Try.f3 rfl rfl rfl rfl rfl rfl rfl ⟨rfl, rfl, rfl, rfl, rfl⟩ rfl rfl rfl rfl rfl (by kernel_rfl) Try.func3 (by kernel_rfl)
    (of_decide_eq_true (by kernel_rfl)) (by unfold Func.isWrapper; first | (rw [if_pos (by decide +kernel)]; kernel_rfl) | (rw [if_neg (by decide +kernel)]; exact ⟨rfl, rfl⟩))
    (fun os started H enc _ => lifted os started H enc)
#print axioms holds
end Go.Proofs.Ytmbfbhimdkjkoaa.cutterRadius
