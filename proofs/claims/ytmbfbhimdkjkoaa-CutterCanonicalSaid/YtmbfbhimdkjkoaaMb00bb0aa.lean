/-
  Texts of one claim, laid together. Conditions: none.
-/
import Derived.Test.YtmbfbhimdkjkoaaMad265d7e
set_option linter.all false
namespace Go.Proofs.Ytmbfbhimdkjkoaa
open Go.SX Go.RowKit
theorem nrm_nrm (x : List GC) : nrm (nrm x) = nrm x := by kernel_rfl
theorem nx0 (x : List GC) : xi (nrm x) 0 = xi x 0 := by kernel_rfl
theorem nx1 (x : List GC) : xi (nrm x) 1 = xi x 1 := by kernel_rfl
theorem nx2 (x : List GC) : xi (nrm x) 2 = xi x 2 := by kernel_rfl
theorem nx3 (x : List GC) : xi (nrm x) 3 = xi x 3 := by kernel_rfl
theorem nx4 (x : List GC) : xi (nrm x) 4 = xi x 4 := by kernel_rfl
theorem nx5 (x : List GC) : xi (nrm x) 5 = xi x 5 := by kernel_rfl
theorem nx6 (x : List GC) : xi (nrm x) 6 = xi x 6 := by kernel_rfl
theorem nx7 (x : List GC) : xi (nrm x) 7 = xi x 7 := by kernel_rfl
theorem nx8 (x : List GC) : xi (nrm x) 8 = xi x 8 := by kernel_rfl
theorem nx9 (x : List GC) : xi (nrm x) 9 = xi x 9 := by kernel_rfl
theorem nx10 (x : List GC) : xi (nrm x) 10 = xi x 10 := by kernel_rfl
theorem nx11 (x : List GC) : xi (nrm x) 11 = xi x 11 := by kernel_rfl
theorem nx12 (x : List GC) : xi (nrm x) 12 = xi x 12 := by kernel_rfl
theorem nx13 (x : List GC) : xb (nrm x) 13 = xb x 13 := by kernel_rfl
theorem nx14 (x : List GC) : xi (nrm x) 14 = xi x 14 := by kernel_rfl
theorem nx15 (x : List GC) : xb (nrm x) 15 = xb x 15 := by kernel_rfl
theorem nx16 (x : List GC) : xi (nrm x) 16 = xi x 16 := by kernel_rfl
theorem nx17 (x : List GC) : xi (nrm x) 17 = xi x 17 := by kernel_rfl
theorem nx18 (x : List GC) : xi (nrm x) 18 = xi x 18 := by kernel_rfl
theorem nx19 (x : List GC) : xi (nrm x) 19 = xi x 19 := by kernel_rfl
theorem nx20 (x : List GC) : xi (nrm x) 20 = xi x 20 := by kernel_rfl
theorem nx21 (x : List GC) : xb (nrm x) 21 = xb x 21 := by kernel_rfl
/-- Is an item refused at once? -/
noncomputable def inv (x : List GC) (s : St) : Bool := !cvalid_0 (nrm x) || s.en || cmotion_0 (xi x 0) && s.mo && !(xi x 2 == s.la0 && (xi x 3 == s.la1 && xi x 4 == s.la2))
/-- What a valid item leaves behind in any case. -/
noncomputable def mvd (x : List GC) (s : St) : St := { s with en := xi x 0 == 14, mo := cmotion_0 (xi x 0) || s.mo, la0 := bif cmotion_0 (xi x 0) then xi x 5 else s.la0, la1 := bif cmotion_0 (xi x 0) then xi x 6 else s.la1, la2 := bif cmotion_0 (xi x 0) then xi x 7 else s.la2 }

/-- The ends of an item's offset: the error, the near end, the far one. -/
noncomputable def nE (l x : List GC) : Int := oends_4 (flat_0 (xi l 8) (xi x 2) (xi x 3) (xi x 4)) (flat_1 (xi l 8) (xi x 2) (xi x 3) (xi x 4)) (flat_0 (xi l 8) (xi x 5) (xi x 6) (xi x 7)) (flat_1 (xi l 8) (xi x 5) (xi x 6) (xi x 7)) (bif xi x 0 == 3 then flat_0 (xi l 8) (xi x 9) (xi x 10) (xi x 11) else 0) (bif xi x 0 == 3 then flat_1 (xi l 8) (xi x 9) (xi x 10) (xi x 11) else 0) (bif xi x 0 == 3 then xi x 12 else 0) (IntKind.i64.wrap (xi l 16 * xi l 17))
noncomputable def n0 (l x : List GC) : Int := oends_0 (flat_0 (xi l 8) (xi x 2) (xi x 3) (xi x 4)) (flat_1 (xi l 8) (xi x 2) (xi x 3) (xi x 4)) (flat_0 (xi l 8) (xi x 5) (xi x 6) (xi x 7)) (flat_1 (xi l 8) (xi x 5) (xi x 6) (xi x 7)) (bif xi x 0 == 3 then flat_0 (xi l 8) (xi x 9) (xi x 10) (xi x 11) else 0) (bif xi x 0 == 3 then flat_1 (xi l 8) (xi x 9) (xi x 10) (xi x 11) else 0) (bif xi x 0 == 3 then xi x 12 else 0) (IntKind.i64.wrap (xi l 16 * xi l 17))
noncomputable def n1 (l x : List GC) : Int := oends_1 (flat_0 (xi l 8) (xi x 2) (xi x 3) (xi x 4)) (flat_1 (xi l 8) (xi x 2) (xi x 3) (xi x 4)) (flat_0 (xi l 8) (xi x 5) (xi x 6) (xi x 7)) (flat_1 (xi l 8) (xi x 5) (xi x 6) (xi x 7)) (bif xi x 0 == 3 then flat_0 (xi l 8) (xi x 9) (xi x 10) (xi x 11) else 0) (bif xi x 0 == 3 then flat_1 (xi l 8) (xi x 9) (xi x 10) (xi x 11) else 0) (bif xi x 0 == 3 then xi x 12 else 0) (IntKind.i64.wrap (xi l 16 * xi l 17))
noncomputable def f0 (l x : List GC) : Int := oends_2 (flat_0 (xi l 8) (xi x 2) (xi x 3) (xi x 4)) (flat_1 (xi l 8) (xi x 2) (xi x 3) (xi x 4)) (flat_0 (xi l 8) (xi x 5) (xi x 6) (xi x 7)) (flat_1 (xi l 8) (xi x 5) (xi x 6) (xi x 7)) (bif xi x 0 == 3 then flat_0 (xi l 8) (xi x 9) (xi x 10) (xi x 11) else 0) (bif xi x 0 == 3 then flat_1 (xi l 8) (xi x 9) (xi x 10) (xi x 11) else 0) (bif xi x 0 == 3 then xi x 12 else 0) (IntKind.i64.wrap (xi l 16 * xi l 17))
noncomputable def f1 (l x : List GC) : Int := oends_3 (flat_0 (xi l 8) (xi x 2) (xi x 3) (xi x 4)) (flat_1 (xi l 8) (xi x 2) (xi x 3) (xi x 4)) (flat_0 (xi l 8) (xi x 5) (xi x 6) (xi x 7)) (flat_1 (xi l 8) (xi x 5) (xi x 6) (xi x 7)) (bif xi x 0 == 3 then flat_0 (xi l 8) (xi x 9) (xi x 10) (xi x 11) else 0) (bif xi x 0 == 3 then flat_1 (xi l 8) (xi x 9) (xi x 10) (xi x 11) else 0) (bif xi x 0 == 3 then xi x 12 else 0) (IntKind.i64.wrap (xi l 16 * xi l 17))
/-- Where an item's offset leaves that of the one before. -/
noncomputable def trE (l y x : List GC) : Int := trim_2 (flat_0 (xi l 8) (xi y 2) (xi y 3) (xi y 4)) (flat_1 (xi l 8) (xi y 2) (xi y 3) (xi y 4)) (flat_0 (xi l 8) (xi y 5) (xi y 6) (xi y 7)) (flat_1 (xi l 8) (xi y 5) (xi y 6) (xi y 7)) (bif xi y 0 == 3 then flat_0 (xi l 8) (xi y 9) (xi y 10) (xi y 11) else 0) (bif xi y 0 == 3 then flat_1 (xi l 8) (xi y 9) (xi y 10) (xi y 11) else 0) (bif xi y 0 == 3 then xi y 12 else 0) (xi y 0 == 3 && xb y 13) (flat_0 (xi l 8) (xi x 2) (xi x 3) (xi x 4)) (flat_1 (xi l 8) (xi x 2) (xi x 3) (xi x 4)) (flat_0 (xi l 8) (xi x 5) (xi x 6) (xi x 7)) (flat_1 (xi l 8) (xi x 5) (xi x 6) (xi x 7)) (bif xi x 0 == 3 then flat_0 (xi l 8) (xi x 9) (xi x 10) (xi x 11) else 0) (bif xi x 0 == 3 then flat_1 (xi l 8) (xi x 9) (xi x 10) (xi x 11) else 0) (bif xi x 0 == 3 then xi x 12 else 0) (xi x 0 == 3 && xb x 13) (IntKind.i64.wrap (xi l 16 * xi l 17))
noncomputable def tr0 (l y x : List GC) : Int := trim_0 (flat_0 (xi l 8) (xi y 2) (xi y 3) (xi y 4)) (flat_1 (xi l 8) (xi y 2) (xi y 3) (xi y 4)) (flat_0 (xi l 8) (xi y 5) (xi y 6) (xi y 7)) (flat_1 (xi l 8) (xi y 5) (xi y 6) (xi y 7)) (bif xi y 0 == 3 then flat_0 (xi l 8) (xi y 9) (xi y 10) (xi y 11) else 0) (bif xi y 0 == 3 then flat_1 (xi l 8) (xi y 9) (xi y 10) (xi y 11) else 0) (bif xi y 0 == 3 then xi y 12 else 0) (xi y 0 == 3 && xb y 13) (flat_0 (xi l 8) (xi x 2) (xi x 3) (xi x 4)) (flat_1 (xi l 8) (xi x 2) (xi x 3) (xi x 4)) (flat_0 (xi l 8) (xi x 5) (xi x 6) (xi x 7)) (flat_1 (xi l 8) (xi x 5) (xi x 6) (xi x 7)) (bif xi x 0 == 3 then flat_0 (xi l 8) (xi x 9) (xi x 10) (xi x 11) else 0) (bif xi x 0 == 3 then flat_1 (xi l 8) (xi x 9) (xi x 10) (xi x 11) else 0) (bif xi x 0 == 3 then xi x 12 else 0) (xi x 0 == 3 && xb x 13) (IntKind.i64.wrap (xi l 16 * xi l 17))
noncomputable def tr1 (l y x : List GC) : Int := trim_1 (flat_0 (xi l 8) (xi y 2) (xi y 3) (xi y 4)) (flat_1 (xi l 8) (xi y 2) (xi y 3) (xi y 4)) (flat_0 (xi l 8) (xi y 5) (xi y 6) (xi y 7)) (flat_1 (xi l 8) (xi y 5) (xi y 6) (xi y 7)) (bif xi y 0 == 3 then flat_0 (xi l 8) (xi y 9) (xi y 10) (xi y 11) else 0) (bif xi y 0 == 3 then flat_1 (xi l 8) (xi y 9) (xi y 10) (xi y 11) else 0) (bif xi y 0 == 3 then xi y 12 else 0) (xi y 0 == 3 && xb y 13) (flat_0 (xi l 8) (xi x 2) (xi x 3) (xi x 4)) (flat_1 (xi l 8) (xi x 2) (xi x 3) (xi x 4)) (flat_0 (xi l 8) (xi x 5) (xi x 6) (xi x 7)) (flat_1 (xi l 8) (xi x 5) (xi x 6) (xi x 7)) (bif xi x 0 == 3 then flat_0 (xi l 8) (xi x 9) (xi x 10) (xi x 11) else 0) (bif xi x 0 == 3 then flat_1 (xi l 8) (xi x 9) (xi x 10) (xi x 11) else 0) (bif xi x 0 == 3 then xi x 12 else 0) (xi x 0 == 3 && xb x 13) (IntKind.i64.wrap (xi l 16 * xi l 17))
/-- The corner's kind. -/
noncomputable def kd (l y x : List GC) : Int := bif IntKind.i64.wrap (xi l 16 * xi l 17) == 0 then 0 else ocorner_0 (atang_0 (xi y 0) (xi y 2) (xi y 3) (xi y 4) (xi y 5) (xi y 6) (xi y 7) (xi y 8) (xi y 9) (xi y 10) (xi y 11) (xi y 12) true) (atang_1 (xi y 0) (xi y 2) (xi y 3) (xi y 4) (xi y 5) (xi y 6) (xi y 7) (xi y 8) (xi y 9) (xi y 10) (xi y 11) (xi y 12) true) (atang_0 (xi x 0) (xi x 2) (xi x 3) (xi x 4) (xi x 5) (xi x 6) (xi x 7) (xi x 8) (xi x 9) (xi x 10) (xi x 11) (xi x 12) false) (atang_1 (xi x 0) (xi x 2) (xi x 3) (xi x 4) (xi x 5) (xi x 6) (xi x 7) (xi x 8) (xi x 9) (xi x 10) (xi x 11) (xi x 12) false) (xi l 16)
/-- The last element's offset, up to a point. -/
noncomputable def shE (u w : Int) (tm : Bool) (s : St) : Int := shift_0 u w tm (nrm s.l) (nrm s.y) s.a0 s.a1 s.tr
noncomputable def shO (u w : Int) (tm : Bool) (s : St) : List (List Int) := shift_47 u w tm (nrm s.l) (nrm s.y) s.a0 s.a1 s.tr []
/-- Does a motion stay in its place in the plane, or is it none? -/
noncomputable def still (x l : List GC) : Bool := !cmotion_0 (xi x 0) || !(xb x 13 || !(flat_0 (xi l 8) (xi x 2) (xi x 3) (xi x 4) == flat_0 (xi l 8) (xi x 5) (xi x 6) (xi x 7) && flat_1 (xi l 8) (xi x 2) (xi x 3) (xi x 4) == flat_1 (xi l 8) (xi x 5) (xi x 6) (xi x 7)))
noncomputable def odd (x l : List GC) : Bool := cmotion_0 (xi x 0) && (xi x 8 != xi l 8 || xi x 16 != xi l 16 || xi x 17 != xi l 17)
noncomputable def three (x : List GC) : Bool := xi x 0 == 1 || xi x 0 == 11 || xi x 0 == 14
theorem cond_16 {c : Bool} (h : (bif c then (16 : Int) else 0) = 0) : c = false := by
  cases c
  · rfl
  · cases h
theorem shift_at (u w : Int) (tm : Bool) (l y : List GC) (a0 a1 : Int) (tr : Bool) (h : shift_0 u w tm l y a0 a1 tr = 0) : shift_45 u w tm l y a0 a1 tr = u ∧ shift_46 u w tm l y a0 a1 tr = w := by
  unfold shift_0 at h
  unfold shift_45 shift_46
  generalize (xi y 0 == 2) = b1 at h ⊢
  generalize ((tm || tr) && decide (shift_s0 u w l y a0 a1 ≤ 0)) = b2 at h ⊢
  generalize ((tm || tr) && !xb y 13 && !within_0 u w tm (nrm l) (nrm y) a0 a1 tr) = b3 at h ⊢
  cases b1 <;> cases b2 <;> cases b3 <;> first
    | exact ⟨rfl, rfl⟩
    | exact absurd h (by show ¬ (16 : Int) = 0; decide)
    | (simp only [cond_true, cond_false] at h ⊢; rw [cond_16 h]; exact ⟨rfl, rfl⟩)
theorem push_begin (x : List GC) (s : St) (he : s.er = 0) (hl : nrm s.l = s.l) (hy : nrm s.y = s.y) (hc : s.cl = false) (hi : inv x s = false) (ho : s.op = false) (hm : (cmotion_0 (xi x 0) && xi x 16 != 0) = true) (hd : leads_0 (nrm x) (xi x 8) (xi x 17) = true) :
    pushS x s = { mvd x s with l := nrm x, y := zeroG, a0 := 0, a1 := 0, tr := false, op := true, C := [] } ∧ pushO x s = [] := by
  unfold inv at hi
  have e2 : (s.er == 0) = true := by rw [he]; rfl
  refine ⟨?_, ?_⟩
  · unfold pushS mvd
    simp only [begin_0, begin_1, begin_2, begin_3, begin_4, begin_5, begin_6, begin_7, begin_8, begin_9, begin_10, begin_11, begin_12, begin_13, begin_14, begin_15, begin_16, begin_17, begin_18, begin_19, begin_20, begin_21, begin_22, begin_23, begin_24, begin_25, begin_26, begin_27, begin_28, begin_29, begin_30, begin_31, begin_32, begin_33, begin_34, begin_35, begin_36, begin_37, begin_38, begin_39, begin_40, begin_41, begin_42, begin_43, begin_44, begin_45, begin_47, begin_48, begin_49, take_0, take_1, take_2, take_3, take_4, take_5, take_6, take_7, take_8, take_9, take_10, take_11, take_12, take_13, take_14, take_15, take_16, take_17, take_18, take_19, take_20, take_21, take_22, take_23, take_24, take_25, take_26, take_27, take_28, take_29, take_30, take_31, take_32, take_33, take_34, take_35, take_36, take_37, take_38, take_39, take_40, take_41, take_42, take_43, take_44, take_45, take_46, take_47, take_48, take_49, take_50, take_51, take_52, take_53, take_54, take_55, take_s0, take_s1, push_0, push_1, push_2, push_3, push_4, push_5, push_6, push_7, push_8, push_9, push_10, push_11, push_12, push_13, push_14, push_15, push_16, push_17, push_18, push_19, push_20, push_21, push_22, push_23, push_24, push_25, push_26, push_27, push_28, push_29, push_30, push_31, push_32, push_33, push_34, push_35, push_36, push_37, push_38, push_39, push_40, push_41, push_42, push_43, push_44, push_45, push_46, push_47, push_48, push_49, push_50, push_51, push_52, push_53, push_54, push_55, push_56, nrm_nrm, nx0, nx1, nx2, nx3, nx4, nx5, nx6, nx7, nx8, nx9, nx10, nx11, nx12, nx13, nx14, nx15, nx16, nx17, nx18, nx19, nx20, nx21, e2, hc, hi, cond_true, cond_false, Bool.not_false, Bool.not_true, Bool.true_and, Bool.false_and, Bool.and_false, Bool.and_true, Bool.or_false, Bool.false_or, beq_self_eq_true, bne_self_eq_false, ho, hm, hd]
    simp only [he]
    try rw [← hl]
    try rw [← hy]
    all_goals rfl
  · unfold pushO
    simp only [begin_0, take_0, take_54, take_s0, take_s1, push_1, settled_45, nrm_nrm, nx0, nx1, nx2, nx3, nx4, nx5, nx6, nx7, nx8, nx9, nx10, nx11, nx12, nx13, nx14, nx15, nx16, nx17, nx18, nx19, nx20, nx21, e2, hc, hi, cond_true, cond_false, Bool.not_false, Bool.not_true, Bool.true_and, Bool.false_and, Bool.and_false, Bool.and_true, Bool.or_false, Bool.false_or, beq_self_eq_true, bne_self_eq_false, ho, hm, hd]
    all_goals rfl
theorem push_carry (x : List GC) (s : St) (he : s.er = 0) (hl : nrm s.l = s.l) (hy : nrm s.y = s.y) (hc : s.cl = false) (hi : inv x s = false) (ho : s.op = true) (hm : (cmotion_0 (xi x 0) && xi x 16 == 0) = false) (h3 : three x = false) (hd : odd x s.l = false) (hs : still x s.l = true) (hn : (Int.ofNat s.C.length == 8) = false) :
    pushS x s = { mvd x s with C := s.C ++ [toRow x] } ∧ pushO x s = [] := by
  unfold inv at hi
  have e2 : (s.er == 0) = true := by rw [he]; rfl
  unfold three at h3
  unfold odd at hd
  unfold still at hs
  refine ⟨?_, ?_⟩
  · unfold pushS mvd
    simp only [inner_0, inner_23, inner_24, inner_25, inner_26, inner_27, inner_28, inner_29, inner_30, inner_31, inner_32, inner_33, inner_34, inner_35, inner_36, inner_37, inner_38, inner_39, inner_40, inner_41, inner_42, inner_43, inner_44, inner_45, inner_46, inner_47, inner_48, inner_49, inner_s0, inner_s1, inner_s2, inner_s3, take_0, take_1, take_2, take_3, take_4, take_5, take_6, take_7, take_8, take_9, take_10, take_11, take_12, take_13, take_14, take_15, take_16, take_17, take_18, take_19, take_20, take_21, take_22, take_23, take_24, take_25, take_26, take_27, take_28, take_29, take_30, take_31, take_32, take_33, take_34, take_35, take_36, take_37, take_38, take_39, take_40, take_41, take_42, take_43, take_44, take_45, take_46, take_47, take_48, take_49, take_50, take_51, take_52, take_53, take_54, take_55, take_s0, take_s1, push_0, push_1, push_2, push_3, push_4, push_5, push_6, push_7, push_8, push_9, push_10, push_11, push_12, push_13, push_14, push_15, push_16, push_17, push_18, push_19, push_20, push_21, push_22, push_23, push_24, push_25, push_26, push_27, push_28, push_29, push_30, push_31, push_32, push_33, push_34, push_35, push_36, push_37, push_38, push_39, push_40, push_41, push_42, push_43, push_44, push_45, push_46, push_47, push_48, push_49, push_50, push_51, push_52, push_53, push_54, push_55, push_56, v9_c3, v9_c4, v9_c5, v9_c6, v9_c0, v9_c1, v9_c2, v10_c1, nrm_nrm, nx0, nx1, nx2, nx3, nx4, nx5, nx6, nx7, nx8, nx9, nx10, nx11, nx12, nx13, nx14, nx15, nx16, nx17, nx18, nx19, nx20, nx21, e2, hc, hi, cond_true, cond_false, Bool.not_false, Bool.not_true, Bool.true_and, Bool.false_and, Bool.and_false, Bool.and_true, Bool.or_false, Bool.false_or, beq_self_eq_true, bne_self_eq_false, ho, hm, h3, hd, hs, hn]
    simp only [he]
    try rw [← hl]
    try rw [← hy]
    all_goals rfl
  · unfold pushO
    simp only [inner_0, inner_48, inner_s0, inner_s1, inner_s2, inner_s3, take_0, take_54, take_s0, take_s1, push_1, v9_c3, v9_c4, v9_c5, v9_c6, v9_c0, v9_c1, v9_c2, v10_c1, settled_45, nrm_nrm, nx0, nx1, nx2, nx3, nx4, nx5, nx6, nx7, nx8, nx9, nx10, nx11, nx12, nx13, nx14, nx15, nx16, nx17, nx18, nx19, nx20, nx21, e2, hc, hi, cond_true, cond_false, Bool.not_false, Bool.not_true, Bool.true_and, Bool.false_and, Bool.and_false, Bool.and_true, Bool.or_false, Bool.false_or, beq_self_eq_true, bne_self_eq_false, ho, hm, h3, hd, hs, hn]
    all_goals rfl
theorem push_enter (x : List GC) (s : St) (he : s.er = 0) (hl : nrm s.l = s.l) (hy : nrm s.y = s.y) (hc : s.cl = false) (hi : inv x s = false) (ho : s.op = true) (hm : (cmotion_0 (xi x 0) && xi x 16 == 0) = false) (h3 : three x = false) (hd : odd x s.l = false) (hs : still x s.l = false) (h0 : (xi s.y 0 == 0) = true) (hE : nE s.l x = 0) :
    pushS x s = { mvd x s with y := nrm x, a0 := n0 s.l x, a1 := n1 s.l x, C := [] } ∧ pushO x s = release_44 (nrm s.l) (n0 s.l x) (n1 s.l x) s.C (line_46 (nrm s.l) (n0 s.l x) (n1 s.l x) (flat_2 (xi s.l 8) (xi s.l 2) (xi s.l 3) (xi s.l 4)) (flat_2 (xi s.l 8) (xi s.l 2) (xi s.l 3) (xi s.l 4)) true (nrm s.l) (flat_0 (xi s.l 8) (xi s.l 2) (xi s.l 3) (xi s.l 4)) (flat_1 (xi s.l 8) (xi s.l 2) (xi s.l 3) (xi s.l 4)) []) := by
  unfold inv at hi
  have e2 : (s.er == 0) = true := by rw [he]; rfl
  unfold three at h3
  unfold odd at hd
  unfold still at hs
  unfold nE at hE
  refine ⟨?_, ?_⟩
  · unfold pushS mvd
    simp only [enter_s0, enter_0, enter_23, enter_24, enter_25, enter_26, enter_27, enter_28, enter_29, enter_30, enter_31, enter_32, enter_33, enter_34, enter_35, enter_36, enter_37, enter_38, enter_39, enter_40, enter_41, enter_42, enter_43, enter_44, enter_s1, enter_s2, enter_s3, enter_45, enter_46, enter_s4, enter_s5, enter_47, enter_48, inner_0, inner_23, inner_24, inner_25, inner_26, inner_27, inner_28, inner_29, inner_30, inner_31, inner_32, inner_33, inner_34, inner_35, inner_36, inner_37, inner_38, inner_39, inner_40, inner_41, inner_42, inner_43, inner_44, inner_45, inner_46, inner_47, inner_48, inner_49, inner_s0, inner_s1, inner_s2, inner_s3, take_0, take_1, take_2, take_3, take_4, take_5, take_6, take_7, take_8, take_9, take_10, take_11, take_12, take_13, take_14, take_15, take_16, take_17, take_18, take_19, take_20, take_21, take_22, take_23, take_24, take_25, take_26, take_27, take_28, take_29, take_30, take_31, take_32, take_33, take_34, take_35, take_36, take_37, take_38, take_39, take_40, take_41, take_42, take_43, take_44, take_45, take_46, take_47, take_48, take_49, take_50, take_51, take_52, take_53, take_54, take_55, take_s0, take_s1, push_0, push_1, push_2, push_3, push_4, push_5, push_6, push_7, push_8, push_9, push_10, push_11, push_12, push_13, push_14, push_15, push_16, push_17, push_18, push_19, push_20, push_21, push_22, push_23, push_24, push_25, push_26, push_27, push_28, push_29, push_30, push_31, push_32, push_33, push_34, push_35, push_36, push_37, push_38, push_39, push_40, push_41, push_42, push_43, push_44, push_45, push_46, push_47, push_48, push_49, push_50, push_51, push_52, push_53, push_54, push_55, push_56, v9_c3, v9_c4, v9_c5, v9_c6, v9_c0, v9_c1, v9_c2, v10_c1, nrm_nrm, nx0, nx1, nx2, nx3, nx4, nx5, nx6, nx7, nx8, nx9, nx10, nx11, nx12, nx13, nx14, nx15, nx16, nx17, nx18, nx19, nx20, nx21, e2, hc, hi, cond_true, cond_false, Bool.not_false, Bool.not_true, Bool.true_and, Bool.false_and, Bool.and_false, Bool.and_true, Bool.or_false, Bool.false_or, beq_self_eq_true, bne_self_eq_false, ho, hm, h3, hd, hs, h0, hE]
    simp only [he]
    try rw [← hl]
    try rw [← hy]
    all_goals kernel_rfl
  · unfold pushO
    simp only [enter_s0, enter_0, enter_s1, enter_s2, enter_s3, enter_s4, enter_s5, enter_47, inner_0, inner_48, inner_s0, inner_s1, inner_s2, inner_s3, take_0, take_54, take_s0, take_s1, push_1, v9_c3, v9_c4, v9_c5, v9_c6, v9_c0, v9_c1, v9_c2, v10_c1, settled_45, nrm_nrm, nx0, nx1, nx2, nx3, nx4, nx5, nx6, nx7, nx8, nx9, nx10, nx11, nx12, nx13, nx14, nx15, nx16, nx17, nx18, nx19, nx20, nx21, e2, hc, hi, cond_true, cond_false, Bool.not_false, Bool.not_true, Bool.true_and, Bool.false_and, Bool.and_false, Bool.and_true, Bool.or_false, Bool.false_or, beq_self_eq_true, bne_self_eq_false, ho, hm, h3, hd, hs, h0, hE]
    all_goals kernel_rfl
theorem push_inside (x : List GC) (s : St) (he : s.er = 0) (hl : nrm s.l = s.l) (hy : nrm s.y = s.y) (hc : s.cl = false) (hi : inv x s = false) (ho : s.op = true) (hm : (cmotion_0 (xi x 0) && xi x 16 == 0) = false) (h3 : three x = false) (hd : odd x s.l = false) (hs : still x s.l = false) (h0 : (xi s.y 0 == 0) = false) (hk : (kd s.l s.y x == 2) = true) (hE : trE s.l s.y x = 0) (hS : shE (tr0 s.l s.y x) (tr1 s.l s.y x) true s = 0) :
    pushS x s = { mvd x s with y := nrm x, a0 := tr0 s.l s.y x, a1 := tr1 s.l s.y x, tr := true, C := [] } ∧ pushO x s = release_44 (nrm s.l) (tr0 s.l s.y x) (tr1 s.l s.y x) s.C (shO (tr0 s.l s.y x) (tr1 s.l s.y x) true s) := by
  unfold inv at hi
  have e2 : (s.er == 0) = true := by rw [he]; rfl
  unfold three at h3
  unfold odd at hd
  unfold still at hs
  unfold kd at hk
  unfold trE at hE
  unfold shE at hS
  obtain ⟨hs1, hs2⟩ := shift_at _ _ _ _ _ _ _ _ hS
  unfold tr0 tr1 at hS hs1 hs2
  refine ⟨?_, ?_⟩
  · unfold pushS mvd
    simp only [turn_s0, turn_s1, turn_s2, turn_s3, turn_s4, turn_s5, turn_s8, turn_s9, turn_s10, turn_s11, turn_s12, turn_0, turn_23, turn_24, turn_25, turn_26, turn_27, turn_28, turn_29, turn_30, turn_31, turn_32, turn_33, turn_34, turn_35, turn_36, turn_37, turn_38, turn_39, turn_40, turn_41, turn_42, turn_43, turn_44, turn_s13, turn_s14, turn_s15, turn_s16, turn_s17, turn_45, turn_s18, turn_46, turn_47, turn_s19, turn_48, turn_49, inner_0, inner_23, inner_24, inner_25, inner_26, inner_27, inner_28, inner_29, inner_30, inner_31, inner_32, inner_33, inner_34, inner_35, inner_36, inner_37, inner_38, inner_39, inner_40, inner_41, inner_42, inner_43, inner_44, inner_45, inner_46, inner_47, inner_48, inner_49, inner_s0, inner_s1, inner_s2, inner_s3, take_0, take_1, take_2, take_3, take_4, take_5, take_6, take_7, take_8, take_9, take_10, take_11, take_12, take_13, take_14, take_15, take_16, take_17, take_18, take_19, take_20, take_21, take_22, take_23, take_24, take_25, take_26, take_27, take_28, take_29, take_30, take_31, take_32, take_33, take_34, take_35, take_36, take_37, take_38, take_39, take_40, take_41, take_42, take_43, take_44, take_45, take_46, take_47, take_48, take_49, take_50, take_51, take_52, take_53, take_54, take_55, take_s0, take_s1, push_0, push_1, push_2, push_3, push_4, push_5, push_6, push_7, push_8, push_9, push_10, push_11, push_12, push_13, push_14, push_15, push_16, push_17, push_18, push_19, push_20, push_21, push_22, push_23, push_24, push_25, push_26, push_27, push_28, push_29, push_30, push_31, push_32, push_33, push_34, push_35, push_36, push_37, push_38, push_39, push_40, push_41, push_42, push_43, push_44, push_45, push_46, push_47, push_48, push_49, push_50, push_51, push_52, push_53, push_54, push_55, push_56, v9_c3, v9_c4, v9_c5, v9_c6, v9_c0, v9_c1, v9_c2, v10_c1, nrm_nrm, nx0, nx1, nx2, nx3, nx4, nx5, nx6, nx7, nx8, nx9, nx10, nx11, nx12, nx13, nx14, nx15, nx16, nx17, nx18, nx19, nx20, nx21, e2, hc, hi, cond_true, cond_false, Bool.not_false, Bool.not_true, Bool.true_and, Bool.false_and, Bool.and_false, Bool.and_true, Bool.or_false, Bool.false_or, beq_self_eq_true, bne_self_eq_false, ho, hm, h3, hd, hs, h0, hk, hE, hS, hs1, hs2]
    simp only [he]
    try rw [← hl]
    try rw [← hy]
    all_goals kernel_rfl
  · unfold pushO
    simp only [turn_s0, turn_s1, turn_s2, turn_s3, turn_s4, turn_s5, turn_s8, turn_s9, turn_s10, turn_s11, turn_s12, turn_0, turn_s13, turn_s14, turn_s15, turn_s16, turn_s17, turn_s18, turn_s19, turn_48, inner_0, inner_48, inner_s0, inner_s1, inner_s2, inner_s3, take_0, take_54, take_s0, take_s1, push_1, v9_c3, v9_c4, v9_c5, v9_c6, v9_c0, v9_c1, v9_c2, v10_c1, settled_45, nrm_nrm, nx0, nx1, nx2, nx3, nx4, nx5, nx6, nx7, nx8, nx9, nx10, nx11, nx12, nx13, nx14, nx15, nx16, nx17, nx18, nx19, nx20, nx21, e2, hc, hi, cond_true, cond_false, Bool.not_false, Bool.not_true, Bool.true_and, Bool.false_and, Bool.and_false, Bool.and_true, Bool.or_false, Bool.false_or, beq_self_eq_true, bne_self_eq_false, ho, hm, h3, hd, hs, h0, hk, hE, hS, hs1, hs2]
    all_goals kernel_rfl
theorem push_outside (x : List GC) (s : St) (he : s.er = 0) (hl : nrm s.l = s.l) (hy : nrm s.y = s.y) (hc : s.cl = false) (hi : inv x s = false) (ho : s.op = true) (hm : (cmotion_0 (xi x 0) && xi x 16 == 0) = false) (h3 : three x = false) (hd : odd x s.l = false) (hs : still x s.l = false) (h0 : (xi s.y 0 == 0) = false) (hk : (kd s.l s.y x == 2) = false) (hE : nE s.l s.y = 0) (hF : nE s.l x = 0) (hS : shE (f0 s.l s.y) (f1 s.l s.y) false s = 0) :
    pushS x s = { mvd x s with y := nrm x, a0 := n0 s.l x, a1 := n1 s.l x, tr := false, C := [] } ∧ pushO x s = join_46 (nrm x) (n0 s.l x) (n1 s.l x) (kd s.l s.y x == 1) (nrm s.l) (f0 s.l s.y) (f1 s.l s.y) (release_44 (nrm s.l) (f0 s.l s.y) (f1 s.l s.y) s.C (shO (f0 s.l s.y) (f1 s.l s.y) false s)) := by
  unfold inv at hi
  have e2 : (s.er == 0) = true := by rw [he]; rfl
  unfold three at h3
  unfold odd at hd
  unfold still at hs
  unfold kd at hk
  unfold nE at hE
  unfold nE at hF
  unfold shE at hS
  obtain ⟨hs1, hs2⟩ := shift_at _ _ _ _ _ _ _ _ hS
  unfold f0 f1 at hS hs1 hs2
  refine ⟨?_, ?_⟩
  · unfold pushS mvd
    simp only [turn_s0, turn_s1, turn_s2, turn_s3, turn_s4, turn_s5, turn_s8, turn_s9, turn_s10, turn_s11, turn_s12, turn_0, turn_23, turn_24, turn_25, turn_26, turn_27, turn_28, turn_29, turn_30, turn_31, turn_32, turn_33, turn_34, turn_35, turn_36, turn_37, turn_38, turn_39, turn_40, turn_41, turn_42, turn_43, turn_44, turn_s13, turn_s14, turn_s15, turn_s16, turn_s17, turn_45, turn_s18, turn_46, turn_47, turn_s19, turn_48, turn_49, inner_0, inner_23, inner_24, inner_25, inner_26, inner_27, inner_28, inner_29, inner_30, inner_31, inner_32, inner_33, inner_34, inner_35, inner_36, inner_37, inner_38, inner_39, inner_40, inner_41, inner_42, inner_43, inner_44, inner_45, inner_46, inner_47, inner_48, inner_49, inner_s0, inner_s1, inner_s2, inner_s3, take_0, take_1, take_2, take_3, take_4, take_5, take_6, take_7, take_8, take_9, take_10, take_11, take_12, take_13, take_14, take_15, take_16, take_17, take_18, take_19, take_20, take_21, take_22, take_23, take_24, take_25, take_26, take_27, take_28, take_29, take_30, take_31, take_32, take_33, take_34, take_35, take_36, take_37, take_38, take_39, take_40, take_41, take_42, take_43, take_44, take_45, take_46, take_47, take_48, take_49, take_50, take_51, take_52, take_53, take_54, take_55, take_s0, take_s1, push_0, push_1, push_2, push_3, push_4, push_5, push_6, push_7, push_8, push_9, push_10, push_11, push_12, push_13, push_14, push_15, push_16, push_17, push_18, push_19, push_20, push_21, push_22, push_23, push_24, push_25, push_26, push_27, push_28, push_29, push_30, push_31, push_32, push_33, push_34, push_35, push_36, push_37, push_38, push_39, push_40, push_41, push_42, push_43, push_44, push_45, push_46, push_47, push_48, push_49, push_50, push_51, push_52, push_53, push_54, push_55, push_56, v9_c3, v9_c4, v9_c5, v9_c6, v9_c0, v9_c1, v9_c2, v10_c1, nrm_nrm, nx0, nx1, nx2, nx3, nx4, nx5, nx6, nx7, nx8, nx9, nx10, nx11, nx12, nx13, nx14, nx15, nx16, nx17, nx18, nx19, nx20, nx21, e2, hc, hi, cond_true, cond_false, Bool.not_false, Bool.not_true, Bool.true_and, Bool.false_and, Bool.and_false, Bool.and_true, Bool.or_false, Bool.false_or, beq_self_eq_true, bne_self_eq_false, ho, hm, h3, hd, hs, h0, hk, hE, hF, hS, hs1, hs2]
    simp only [he]
    try rw [← hl]
    try rw [← hy]
    all_goals kernel_rfl
  · unfold pushO
    simp only [turn_s0, turn_s1, turn_s2, turn_s3, turn_s4, turn_s5, turn_s8, turn_s9, turn_s10, turn_s11, turn_s12, turn_0, turn_s13, turn_s14, turn_s15, turn_s16, turn_s17, turn_s18, turn_s19, turn_48, inner_0, inner_48, inner_s0, inner_s1, inner_s2, inner_s3, take_0, take_54, take_s0, take_s1, push_1, v9_c3, v9_c4, v9_c5, v9_c6, v9_c0, v9_c1, v9_c2, v10_c1, settled_45, nrm_nrm, nx0, nx1, nx2, nx3, nx4, nx5, nx6, nx7, nx8, nx9, nx10, nx11, nx12, nx13, nx14, nx15, nx16, nx17, nx18, nx19, nx20, nx21, e2, hc, hi, cond_true, cond_false, Bool.not_false, Bool.not_true, Bool.true_and, Bool.false_and, Bool.and_false, Bool.and_true, Bool.or_false, Bool.false_or, beq_self_eq_true, bne_self_eq_false, ho, hm, h3, hd, hs, h0, hk, hE, hF, hS, hs1, hs2]
    all_goals kernel_rfl
theorem push_finish (x : List GC) (s : St) (he : s.er = 0) (hl : nrm s.l = s.l) (hy : nrm s.y = s.y) (hc : s.cl = false) (hi : inv x s = false) (ho : s.op = true) (hm : (cmotion_0 (xi x 0) && xi x 16 == 0) = true) (hd : (!leads_0 (nrm x) (xi s.l 8) (xi s.l 17) || xi s.y 0 == 0) = false) (hE : nE s.l s.y = 0) (hS : shE (f0 s.l s.y) (f1 s.l s.y) false s = 0) :
    pushS x s = { mvd x s with l := zeroG, y := zeroG, a0 := 0, a1 := 0, tr := false, op := false, C := [] } ∧ pushO x s = line_46 (nrm x) (flat_0 (xi s.l 8) (xi x 5) (xi x 6) (xi x 7)) (flat_1 (xi s.l 8) (xi x 5) (xi x 6) (xi x 7)) (flat_2 (xi s.l 8) (xi x 5) (xi x 6) (xi x 7)) (flat_2 (xi s.l 8) (xi x 5) (xi x 6) (xi x 7)) true (nrm s.l) (f0 s.l s.y) (f1 s.l s.y) (release_44 (nrm s.l) (f0 s.l s.y) (f1 s.l s.y) s.C (shO (f0 s.l s.y) (f1 s.l s.y) false s)) := by
  unfold inv at hi
  have e2 : (s.er == 0) = true := by rw [he]; rfl
  unfold nE at hE
  unfold shE at hS
  obtain ⟨hs1, hs2⟩ := shift_at _ _ _ _ _ _ _ _ hS
  unfold f0 f1 at hS hs1 hs2
  refine ⟨?_, ?_⟩
  · unfold pushS mvd
    simp only [finish_s0, finish_s1, finish_s2, finish_s3, finish_s4, finish_0, finish_1, finish_2, finish_3, finish_4, finish_5, finish_6, finish_7, finish_8, finish_9, finish_10, finish_11, finish_12, finish_13, finish_14, finish_15, finish_16, finish_17, finish_18, finish_19, finish_20, finish_21, finish_22, finish_23, finish_24, finish_25, finish_26, finish_27, finish_28, finish_29, finish_30, finish_31, finish_32, finish_33, finish_34, finish_35, finish_36, finish_37, finish_38, finish_39, finish_40, finish_41, finish_42, finish_43, finish_44, finish_s5, finish_s6, finish_45, finish_46, finish_47, finish_48, finish_49, finish_50, take_0, take_1, take_2, take_3, take_4, take_5, take_6, take_7, take_8, take_9, take_10, take_11, take_12, take_13, take_14, take_15, take_16, take_17, take_18, take_19, take_20, take_21, take_22, take_23, take_24, take_25, take_26, take_27, take_28, take_29, take_30, take_31, take_32, take_33, take_34, take_35, take_36, take_37, take_38, take_39, take_40, take_41, take_42, take_43, take_44, take_45, take_46, take_47, take_48, take_49, take_50, take_51, take_52, take_53, take_54, take_55, take_s0, take_s1, push_0, push_1, push_2, push_3, push_4, push_5, push_6, push_7, push_8, push_9, push_10, push_11, push_12, push_13, push_14, push_15, push_16, push_17, push_18, push_19, push_20, push_21, push_22, push_23, push_24, push_25, push_26, push_27, push_28, push_29, push_30, push_31, push_32, push_33, push_34, push_35, push_36, push_37, push_38, push_39, push_40, push_41, push_42, push_43, push_44, push_45, push_46, push_47, push_48, push_49, push_50, push_51, push_52, push_53, push_54, push_55, push_56, v9_c3, v9_c4, v9_c5, v9_c6, v9_c0, v9_c1, v9_c2, v10_c1, nrm_nrm, nx0, nx1, nx2, nx3, nx4, nx5, nx6, nx7, nx8, nx9, nx10, nx11, nx12, nx13, nx14, nx15, nx16, nx17, nx18, nx19, nx20, nx21, e2, hc, hi, cond_true, cond_false, Bool.not_false, Bool.not_true, Bool.true_and, Bool.false_and, Bool.and_false, Bool.and_true, Bool.or_false, Bool.false_or, beq_self_eq_true, bne_self_eq_false, ho, hm, hd, hE, hS, hs1, hs2]
    simp only [he]
    try rw [← hl]
    try rw [← hy]
    all_goals kernel_rfl
  · unfold pushO
    simp only [finish_s0, finish_s1, finish_s2, finish_s3, finish_s4, finish_0, finish_s5, finish_s6, finish_49, take_0, take_54, take_s0, take_s1, push_1, v9_c3, v9_c4, v9_c5, v9_c6, v9_c0, v9_c1, v9_c2, v10_c1, settled_45, nrm_nrm, nx0, nx1, nx2, nx3, nx4, nx5, nx6, nx7, nx8, nx9, nx10, nx11, nx12, nx13, nx14, nx15, nx16, nx17, nx18, nx19, nx20, nx21, e2, hc, hi, cond_true, cond_false, Bool.not_false, Bool.not_true, Bool.true_and, Bool.false_and, Bool.and_false, Bool.and_true, Bool.or_false, Bool.false_or, beq_self_eq_true, bne_self_eq_false, ho, hm, hd, hE, hS, hs1, hs2]
    all_goals kernel_rfl
end Go.Proofs.Ytmbfbhimdkjkoaa
namespace Go.Proofs.Ytmbfbhimdkjkoaa
open Go.SX Go.RowKit
/-- The error of a filter that has none, for an item. -/
noncomputable def errS (x : List GC) (s : St) : Int :=
  bif s.cl then 13 else bif inv x s then 1 else
  bif !s.op && cmotion_0 (xi x 0) && xi x 16 != 0 then (bif !leads_0 (nrm x) (xi x 8) (xi x 17) then 14 else 0)
  else bif !s.op then 0
  else bif cmotion_0 (xi x 0) && xi x 16 == 0 then
    (bif !leads_0 (nrm x) (xi s.l 8) (xi s.l 17) || xi s.y 0 == 0 then 14 else
      bif nE s.l s.y == 0 then (bif shE (f0 s.l s.y) (f1 s.l s.y) false s != 0 then shE (f0 s.l s.y) (f1 s.l s.y) false s else 0) else (bif nE s.l s.y != 0 then nE s.l s.y else 0))
  else bif three x then 13 else bif odd x s.l then 13
  else bif still x s.l then (bif Int.ofNat s.C.length == 8 then 10 else 0)
  else bif xi s.y 0 == 0 then (bif nE s.l x != 0 then nE s.l x else 0)
  else bif kd s.l s.y x == 2 then
    (bif trE s.l s.y x == 0 then (bif shE (tr0 s.l s.y x) (tr1 s.l s.y x) true s != 0 then shE (tr0 s.l s.y x) (tr1 s.l s.y x) true s else 0) else (bif trE s.l s.y x != 0 then trE s.l s.y x else 0))
  else (bif nE s.l s.y != 0 then nE s.l s.y else
    bif nE s.l x == 0 then (bif shE (f0 s.l s.y) (f1 s.l s.y) false s != 0 then shE (f0 s.l s.y) (f1 s.l s.y) false s else 0) else (bif nE s.l x != 0 then nE s.l x else 0))
theorem pushE_spec (x : List GC) (s : St) (he : s.er = 0) : pushE x s = errS x s := by
  unfold pushE
  rw [push_0_eq]
  unfold push_55
  rw [he, beq_self_eq_true, cond_true]
  kernel_rfl
theorem cond_ne {c : Bool} {a b : Int} (ha : a ≠ 0) (h : (bif c then a else b) = 0) : c = false ∧ b = 0 := by
  cases c
  · exact ⟨rfl, h⟩
  · exact absurd h ha
theorem id_ne {a : Int} (h : (bif a != 0 then a else 0) = 0) : a = 0 := by
  cases ha : (a != 0)
  · simpa using ha
  · rw [ha] at h; exact h
theorem two_ne {a b : Int} (h : (bif a == 0 then (bif b != 0 then b else 0) else (bif a != 0 then a else 0)) = 0) : a = 0 ∧ b = 0 := by
  cases ha : (a == 0)
  · rw [ha] at h
    have := id_ne h
    rw [this] at ha; cases ha
  · rw [ha] at h
    exact ⟨by simpa using ha, id_ne h⟩
/-- The item that is not refused. -/
theorem push_cases (x : List GC) (s : St) (he : s.er = 0) (h : pushE x s = 0) : s.cl = false ∧ inv x s = false ∧
    ((s.op = false ∧ (cmotion_0 (xi x 0) && xi x 16 != 0) = false) ∨
     (s.op = false ∧ (cmotion_0 (xi x 0) && xi x 16 != 0) = true ∧ leads_0 (nrm x) (xi x 8) (xi x 17) = true) ∨
     (s.op = true ∧ (cmotion_0 (xi x 0) && xi x 16 == 0) = true ∧ (!leads_0 (nrm x) (xi s.l 8) (xi s.l 17) || xi s.y 0 == 0) = false ∧ nE s.l s.y = 0 ∧ shE (f0 s.l s.y) (f1 s.l s.y) false s = 0) ∨
     (s.op = true ∧ (cmotion_0 (xi x 0) && xi x 16 == 0) = false ∧ three x = false ∧ odd x s.l = false ∧
       ((still x s.l = true ∧ (Int.ofNat s.C.length == 8) = false) ∨
        (still x s.l = false ∧ (xi s.y 0 == 0) = true ∧ nE s.l x = 0) ∨
        (still x s.l = false ∧ (xi s.y 0 == 0) = false ∧ (kd s.l s.y x == 2) = true ∧ trE s.l s.y x = 0 ∧ shE (tr0 s.l s.y x) (tr1 s.l s.y x) true s = 0) ∨
        (still x s.l = false ∧ (xi s.y 0 == 0) = false ∧ (kd s.l s.y x == 2) = false ∧ nE s.l s.y = 0 ∧ nE s.l x = 0 ∧ shE (f0 s.l s.y) (f1 s.l s.y) false s = 0)))) := by
  rw [pushE_spec x s he] at h
  unfold errS at h
  obtain ⟨h1, h⟩ := cond_ne (by decide) h
  obtain ⟨h2, h⟩ := cond_ne (by decide) h
  refine ⟨h1, h2, ?_⟩
  cases ho : s.op
  · rw [ho] at h
    simp only [Bool.not_false, Bool.true_and, cond_true] at h
    cases hm : (cmotion_0 (xi x 0) && xi x 16 != 0)
    · exact .inl ⟨rfl, rfl⟩
    · rw [hm, cond_true] at h
      obtain ⟨h3, _⟩ := cond_ne (by decide) h
      exact .inr (.inl ⟨rfl, rfl, by simpa using h3⟩)
  · rw [ho] at h
    simp only [Bool.not_true, Bool.false_and, cond_false] at h
    cases hm : (cmotion_0 (xi x 0) && xi x 16 == 0)
    · rw [hm, cond_false] at h
      obtain ⟨h3, h⟩ := cond_ne (by decide) h
      obtain ⟨h4, h⟩ := cond_ne (by decide) h
      refine .inr (.inr (.inr ⟨rfl, rfl, h3, h4, ?_⟩))
      cases hs : still x s.l
      · rw [hs, cond_false] at h
        cases h0 : (xi s.y 0 == 0)
        · rw [h0, cond_false] at h
          cases hk : (kd s.l s.y x == 2)
          · rw [hk, cond_false] at h
            have hn : nE s.l s.y = 0 := by
              cases hn : (nE s.l s.y != 0)
              · simpa using hn
              · rw [hn, cond_true] at h; exact h
            rw [hn, bne_self_eq_false, cond_false] at h
            obtain ⟨h5, h6⟩ := two_ne h
            exact .inr (.inr (.inr ⟨rfl, rfl, rfl, hn, h5, h6⟩))
          · rw [hk, cond_true] at h
            obtain ⟨h5, h6⟩ := two_ne h
            exact .inr (.inr (.inl ⟨rfl, rfl, rfl, h5, h6⟩))
        · rw [h0, cond_true] at h
          exact .inr (.inl ⟨rfl, rfl, id_ne h⟩)
      · rw [hs, cond_true] at h
        obtain ⟨h5, _⟩ := cond_ne (by decide) h
        exact .inl ⟨rfl, h5⟩
    · rw [hm, cond_true] at h
      obtain ⟨h3, h⟩ := cond_ne (by decide) h
      obtain ⟨h5, h6⟩ := two_ne h
      exact .inr (.inr (.inl ⟨rfl, rfl, h3, h5, h6⟩))
end Go.Proofs.Ytmbfbhimdkjkoaa
namespace Go.Proofs.Ytmbfbhimdkjkoaa
open Go.SX Go.RowKit
/-- The filter behind a list, and what it has settled. -/
noncomputable def runS : List (List Int) → St → St
  | [], s => s
  | r :: l, s => runS l (pushS (ofRow r) s)
noncomputable def runO : List (List Int) → St → List (List Int)
  | [], _ => []
  | r :: l, s => pushO (ofRow r) s ++ runO l (pushS (ofRow r) s)
/-- No item is refused. -/
noncomputable def runOk : List (List Int) → St → Prop
  | [], _ => True
  | r :: l, s => pushE (ofRow r) s = 0 ∧ runOk l (pushS (ofRow r) s)
theorem drop_cons {L : List (List Int)} {i : Nat} (h : i < L.length) : L.drop i = L.getD i [] :: L.drop (i + 1) := by
  rw [List.drop_eq_getElem_cons h]
  simp [List.getD, List.getElem?_eq_getElem h]
theorem apN_run (L : List (List Int)) : ∀ (k : Nat) (a : AS), a.i + k = L.length → (apN L k a).bad = false →
    runOk (L.drop a.i) a.s ∧ (apN L k a).s = runS (L.drop a.i) a.s ∧ (apN L k a).R = a.R ++ runO (L.drop a.i) a.s
  | 0, a, h, _ => by
    have e : L.drop a.i = [] := List.drop_eq_nil_of_le (by omega)
    rw [e]
    exact ⟨trivial, rfl, (List.append_nil _).symm⟩
  | k + 1, a, h, hb => by
    unfold apN at hb ⊢
    cases he : (pushE (ofRow (L.getD a.i [])) a.s != 0)
    · rw [he, cond_false] at hb
      rw [cond_false, drop_cons (by omega)]
      obtain ⟨h1, h2, h3⟩ := apN_run L k _ (by show a.i + 1 + k = _; omega) hb
      exact ⟨⟨by simpa using he, h1⟩, h2, by rw [h3]; show (a.R ++ _) ++ _ = _; rw [List.append_assoc]; rfl⟩
    · rw [he, cond_true] at hb; cases hb
/-- What Apply returns of a list that is accepted. -/
theorem ap_ok {L : List (List Int)} (h : apE L = 0) : runOk L St0 ∧ (runS L St0).op = false ∧ (runS L St0).er = 0 ∧ apO L = runO L St0 ∧ apI L = Int.ofNat L.length := by
  unfold apE at h
  cases hb : (apT L).bad
  · rw [hb, cond_false] at h
    have hc : apC L = 0 := id_ne h
    obtain ⟨h1, h2, h3⟩ := apN_run L (L.length - 0) ⟨0, St0, []⟩ (by show 0 + (L.length - 0) = _; omega) hb
    have h2' : (apT L).s = runS L St0 := h2
    have h3' : (apT L).R = runO L St0 := h3
    have hc' := hc
    unfold apC close_0 at hc'
    rw [oitem_3_id] at hc'
    obtain ⟨h4, h5⟩ := cond_ne (by decide) hc'
    rw [h5] at h4
    simp only [beq_self_eq_true, Bool.true_and, Bool.or_eq_false_iff] at h4
    refine ⟨h1, by rw [← h2']; exact h4.2, by rw [← h2']; exact h5, ?_, ?_⟩
    · unfold apO
      rw [hb, hc, bne_self_eq_false, cond_false, cond_false, h3']
      have : close_46 (apT L).s.op (apT L).s.cl (apT L).s.er [] = [] := by unfold close_46 settled_45; cases (bif (apT L).s.er == 0 && ((apT L).s.cl || (apT L).s.op) then (13 : Int) else (apT L).s.er) != 0 <;> rfl
      rw [this, List.append_nil]
    · unfold apI
      rw [hb, hc]; rfl
  · exfalso
    rw [hb, cond_true] at h
    have : ∀ (k : Nat) (a : AS), (apN L k a).bad = true → (apN L k a).e ≠ 0 := by
      intro k
      induction k with
      | zero => intro a h; cases h
      | succ k ih =>
        intro a h
        unfold apN at h ⊢
        cases he : (pushE (ofRow (L.getD a.i [])) a.s != 0)
        · rw [he] at h; exact ih _ h
        · rw [cond_true]; simpa using he
    exact this _ _ hb h
end Go.Proofs.Ytmbfbhimdkjkoaa
namespace Go.Proofs.Ytmbfbhimdkjkoaa
open Go.SX Go.RowKit
noncomputable def sqr (n : Int) : Int := fr 63 n 63
/-- The double of the absolute value, rounded down. -/
noncomputable def tw (p n : Int) : Int := fr 64 (4 * (p * p) / n) 64
/-- The absolute value, rounded to the nearest one; a half up. -/
noncomputable def ovq (p n : Int) (neg : Bool) : Int :=
  if tw p n % 2 = 1 ∧ (neg = false ∨ tw p n * tw p n * n ≠ 4 * (p * p)) then tw p n / 2 + 1 else tw p n / 2
theorem tw_law {p n : Int} (hp : 0 ≤ p ∧ p ≤ 4611686018427387904) (hn : 1 ≤ n ∧ n ≤ 4611686018427387904) : 0 ≤ tw p n ∧ tw p n * tw p n * n ≤ 4 * (p * p) ∧ 4 * (p * p) < (tw p n + 1) * (tw p n + 1) * n ∧ tw p n ≤ 9223372036854775808 := by
  have hq := prod_lt 4611686018427387904 4611686018427387904 (x := p) (y := p) hp hp (by omega)
  have hd : 0 ≤ 4 * (p * p) / n := Int.ediv_nonneg (by omega) (by omega)
  have hd2 := Int.ediv_le_self n (show 0 ≤ 4 * (p * p) by omega)
  have e : (2 : Int) ^ 64 * 2 ^ 64 = 340282366920938463463374607431768211456 := rfl
  obtain ⟨x, y, z, w⟩ := fr_all (T := 64) (x := 4 * (p * p) / n) hd (by omega)
  have h1 := (Int.le_ediv_iff_mul_le (show 0 < n by omega)).1 y
  have h2 : 4 * (p * p) < (tw p n + 1) * (tw p n + 1) * n := by
    rcases Int.lt_or_le (4 * (p * p)) ((tw p n + 1) * (tw p n + 1) * n) with g | g
    · exact g
    · have := (Int.le_ediv_iff_mul_le (show 0 < n by omega)).2 g
      have z' : 4 * (p * p) / n < (tw p n + 1) * (tw p n + 1) := z
      omega
  refine ⟨x, h1, h2, ?_⟩
  rcases Int.lt_or_le (tw p n) 9223372036854775809 with g | g
  · omega
  · exfalso
    have g2 := Int.mul_le_mul g g (by omega) x
    have y' : tw p n * tw p n ≤ 4 * (p * p) / n := y
    omega
theorem wOver_law {a b n : Int} (ha : isI a) (hb : isI b) (la : wsize_0 a ≤ 2147483648) (lb : wsize_0 b ≤ 2147483648) (hn : 1 ≤ n ∧ n ≤ 4611686018427387904) :
    wOver_0 a b n 2 = (if wsign_0 a b < 0 then -ovq (wsize_0 a * wsize_0 b) n true else ovq (wsize_0 a * wsize_0 b) n false) ∧ wOver_1 a b n 2 = true := by
  have sa := wsize_rng ha
  have sb := wsize_rng hb
  obtain ⟨p0, p1⟩ := prod_lt 2147483648 2147483648 (x := wsize_0 a) (y := wsize_0 b) ⟨sa.1, la⟩ ⟨sb.1, lb⟩ (by omega)
  have hc : (decide (wsize_0 a > 2147483648) || decide (wsize_0 b > 2147483648) || decide (n < 1) || decide (n > 4611686018427387904) || !((2 : Int) == 0 || (2 : Int) == 1 || (2 : Int) == 2)) = false := by
    rw [decide_eq_false (by omega), decide_eq_false (by omega), decide_eq_false (by omega), decide_eq_false (by omega)]; rfl
  have ew : IntKind.u64.wrap n = n := wrU (by omega) (by omega)
  have e0 : wOver_s0 a b = 2 * (wsize_0 a * wsize_0 b) := by
    unfold wOver_s0
    rw [wrU (x := wsize_0 a * wsize_0 b) (by omega) (by omega), wrU (by omega) (by omega)]
  generalize hP : wsize_0 a * wsize_0 b = P at *
  have us : u64 (wOver_s0 a b) := by rw [e0]; exact ⟨by omega, by omega⟩
  have hh := m0_u64 us us
  have hl := m1_u64 (wOver_s0 a b) (wOver_s0 a b)
  have ehl : mul64_0 (wOver_s0 a b) (wOver_s0 a b) * 18446744073709551616 + mul64_1 (wOver_s0 a b) (wOver_s0 a b) = 4 * (P * P) := by
    rw [mul64_hi _ _ us us, mul64_lo, e0]
    have : 2 * P * (2 * P) = 4 * (P * P) := by grind
    rw [this]; omega
  obtain ⟨q1, q2, q3, q4⟩ := quot_law hh hl (c := n) (by omega) (by omega)
  rw [ehl] at q3 q4
  have eT : wOver_s2 a b n = tw P n := by
    unfold wOver_s2 wOver_s1
    rw [ew]
    show fr 64 _ 64 = _
    rw [q3]; rfl
  obtain ⟨t0, t1, t2, t3⟩ := tw_law (p := P) (n := n) ⟨p0, by omega⟩ hn
  have uT : u64 (tw P n) := ⟨t0, by omega⟩
  have dm := Int.mul_ediv_add_emod (4 * (P * P)) n
  have m3 := Int.emod_nonneg (4 * (P * P)) (show n ≠ 0 by omega)
  -- is there a rest?
  have e4 : wOver_s4 a b n = decide (tw P n * tw P n * n ≠ 4 * (P * P)) := by
    unfold wOver_s4 wOver_s1
    rw [ew, eT, q4, mul64_hi _ _ uT uT, mul64_lo]
    have hT : (tw P n * tw P n / 18446744073709551616 == div64_0 0 (mul64_0 (wOver_s0 a b) (wOver_s0 a b)) n && tw P n * tw P n % 18446744073709551616 == div64_0 (div64_1 0 (mul64_0 (wOver_s0 a b) (wOver_s0 a b)) n) (mul64_1 (wOver_s0 a b) (wOver_s0 a b)) n) = decide (tw P n * tw P n = 4 * (P * P) / n) := by
      rw [← q3]
      generalize tw P n * tw P n = z at *
      generalize div64_0 0 (mul64_0 (wOver_s0 a b) (wOver_s0 a b)) n = u at *
      generalize div64_0 (div64_1 0 (mul64_0 (wOver_s0 a b) (wOver_s0 a b)) n) (mul64_1 (wOver_s0 a b) (wOver_s0 a b)) n = v at *
      rw [Bool.eq_iff_iff]
      simp only [Bool.and_eq_true, beq_iff_eq, decide_eq_true_eq]
      omega
    rw [hT]
    have hle : tw P n * tw P n ≤ 4 * (P * P) / n := (Int.le_ediv_iff_mul_le (show 0 < n by omega)).2 t1
    have hcm : n * (4 * (P * P) / n) = 4 * (P * P) / n * n := Int.mul_comm _ _
    rw [hcm] at dm
    rw [Bool.eq_iff_iff]
    simp only [Bool.or_eq_true, Bool.not_eq_true', decide_eq_true_eq, decide_eq_false_iff_not]
    constructor
    · rintro (g | g)
      · have := Int.mul_le_mul_of_nonneg_right hle (show 0 ≤ n by omega)
        omega
      · have := Int.mul_le_mul_of_nonneg_right (show tw P n * tw P n + 1 ≤ 4 * (P * P) / n by omega) (show 0 ≤ n by omega)
        rw [Int.add_mul] at this
        omega
    · intro g
      by_cases g2 : tw P n * tw P n = 4 * (P * P) / n
      · left
        rw [g2] at g
        omega
      · exact .inr g2
  have e3 : wOver_s3 a b n = decide (tw P n % 2 = 1) := by
    unfold wOver_s3
    rw [eT, Int.tmod_eq_emod_of_nonneg t0]
    rfl
  have ehalf : IntKind.u64.wrap ((tw P n).tdiv 2) = tw P n / 2 := by
    rw [Int.tdiv_eq_ediv_of_nonneg t0, wrU (by omega) (by omega)]
  unfold wOver_0 wOver_1
  rw [hc, cond_false, cond_false, eT, ehalf, e3, e4, wrU (x := tw P n / 2 + 1) (by omega) (by omega)]
  have e5 : wOver_s5 a b = decide (wsign_0 a b < 0) := rfl
  rw [e5]
  have key : ∀ ng : Bool, (bif grows_0 2 (bif decide (tw P n % 2 = 1) then bif decide (tw P n * tw P n * n ≠ 4 * (P * P)) then 1 else 0 else -1) (decide (tw P n * tw P n * n ≠ 4 * (P * P)) || decide (tw P n % 2 = 1)) ng then tw P n / 2 + 1 else tw P n / 2) = ovq P n ng := by
    intro ng
    unfold ovq grows_0
    by_cases g1 : tw P n % 2 = 1
    · by_cases g2 : tw P n * tw P n * n = 4 * (P * P)
      · cases ng <;> simp [g1, g2]
      · cases ng <;> simp [g1, g2]
    · simp [g1]
  have hq : ∀ ng, 0 ≤ ovq P n ng ∧ ovq P n ng ≤ 4611686018427387905 := fun ng => by
    unfold ovq
    split <;> omega
  rw [key]
  by_cases hs : wsign_0 a b < 0
  · rw [decide_eq_true hs, if_pos hs]
    unfold signed_0 signed_1
    have := hq true
    rw [decide_eq_true (show ovq P n true ≤ 9223372036854775808 by omega)]
    simp only [Bool.and_self, cond_true, Bool.true_or, and_true]
    by_cases hz : ovq P n true = 0
    · rw [hz]; rfl
    · rw [wrU_mod]
      have : (0 - ovq P n true) % 18446744073709551616 = 18446744073709551616 - ovq P n true := by omega
      rw [this]
      unfold IntKind.wrap
      simp only [IntKind.bits, IntKind.signed]
      simp
      omega
  · rw [decide_eq_false hs, if_neg hs]
    unfold signed_0 signed_1
    have := hq false
    rw [decide_eq_true (show ovq P n false < 9223372036854775808 by omega)]
    simp only [Bool.false_and, cond_false, Bool.not_false, Bool.and_self, cond_true, Bool.false_or, and_true]
    rw [wrI (by omega) (by omega)]
theorem wsize_le {a : Int} (h : bd 2147483648 a) : wsize_0 a ≤ 2147483648 := by
  rw [wsize_eq a ⟨by omega, by omega⟩]
  split <;> omega
theorem sqm {x y n : Int} (h0 : 0 ≤ x) (h : x ≤ y) (hn : 0 ≤ n) : x * x * n ≤ y * y * n :=
  Int.mul_le_mul_of_nonneg_right (Int.mul_le_mul h h h0 (by omega)) hn
theorem ovq_law {p n : Int} (ng : Bool) (hp : 0 ≤ p ∧ p ≤ 4611686018427387904) (hn : 1 ≤ n ∧ n ≤ 4611686018427387904) :
    0 ≤ ovq p n ng ∧ (1 ≤ ovq p n ng → (2 * ovq p n ng - 1) * (2 * ovq p n ng - 1) * n ≤ 4 * (p * p)) ∧ 4 * (p * p) ≤ (2 * ovq p n ng + 1) * (2 * ovq p n ng + 1) * n := by
  obtain ⟨t0, t1, t2, t3⟩ := tw_law hp hn
  unfold ovq
  generalize tw p n = t at *
  by_cases h1 : t % 2 = 1
  · by_cases h2 : ng = false ∨ t * t * n ≠ 4 * (p * p)
    · rw [if_pos ⟨h1, h2⟩]
      have e1 : 2 * (t / 2 + 1) - 1 = t := by omega
      have e2 : 2 * (t / 2 + 1) + 1 = t + 2 := by omega
      rw [e1, e2]
      exact ⟨by omega, fun _ => t1, by have := sqm (x := t + 1) (y := t + 2) (n := n) (by omega) (by omega) (by omega); omega⟩
    · rw [if_neg (fun h => h2 h.2)]
      have e1 : 2 * (t / 2) - 1 = t - 2 := by omega
      have e2 : 2 * (t / 2) + 1 = t := by omega
      rw [e1, e2]
      have h3 : t * t * n = 4 * (p * p) := by
        by_cases h : t * t * n = 4 * (p * p)
        · exact h
        · exact absurd (.inr h) h2
      exact ⟨by omega, fun _ => by have := sqm (x := t - 2) (y := t) (n := n) (by omega) (by omega) (by omega); omega, by omega⟩
  · rw [if_neg (fun h => h1 h.1)]
    have e1 : 2 * (t / 2) - 1 = t - 1 := by omega
    have e2 : 2 * (t / 2) + 1 = t + 1 := by omega
    rw [e1, e2]
    exact ⟨by omega, fun _ => by have := sqm (x := t - 1) (y := t) (n := n) (by omega) (by omega) (by omega); omega, by omega⟩
theorem abs_ex (x : Int) : ∃ p : Int, 0 ≤ p ∧ (x = p ∨ x = -p) ∧ (0 ≤ x → p = x) ∧ p * p = x * x := by
  by_cases h : x < 0
  · exact ⟨-x, by omega, by omega, by omega, Int.neg_mul_neg _ _⟩
  · exact ⟨x, by omega, by omega, by omega, rfl⟩
/-- Over, by its absolute value. -/
theorem over_val {a g N : Int} (ha : bd 4194304 a) (hg : bd 4194304 g) (hN : 1 ≤ N ∧ N ≤ 4611686018427387904) :
    ∃ P : Int, (0 ≤ P ∧ P ≤ 17592186044416) ∧ P * P = (a * g) * (a * g) ∧ (0 ≤ a * g → wOver_0 a g N 2 = ovq P N false) ∧ (a * g < 0 → wOver_0 a g N 2 = -ovq P N true) ∧ wOver_0 a (-g) N 2 = (if a * g > 0 then -ovq P N true else ovq P N false) := by
  have hl := (wOver_law (a := a) (b := g) (n := N) ⟨by omega, by omega⟩ ⟨by omega, by omega⟩ (wsize_le (by omega)) (wsize_le (by omega)) hN).1
  have hl' := (wOver_law (a := a) (b := -g) (n := N) ⟨by omega, by omega⟩ ⟨by omega, by omega⟩ (wsize_le (by omega)) (wsize_le (by omega)) hN).1
  obtain ⟨p, p0, p1, p2, p3⟩ := abs_ex a
  obtain ⟨q, q0, q1, q2, q3⟩ := abs_ex g
  have sa : wsize_0 a = p := by
    rw [wsize_eq a ⟨by omega, by omega⟩]; split <;> omega
  have sg : wsize_0 g = q := by
    rw [wsize_eq g ⟨by omega, by omega⟩]; split <;> omega
  have sg' : wsize_0 (-g) = q := by
    rw [wsize_eq (-g) ⟨by omega, by omega⟩]; split <;> omega
  rw [sa, sg] at hl
  rw [sa, sg'] at hl'
  have hpq := prod_lt 4194304 4194304 (x := p) (y := q) ⟨p0, by omega⟩ ⟨q0, by omega⟩ (by omega)
  have hs := wsign_or a g
  have hs' := wsign_or a (-g)
  rw [Int.mul_neg] at hs'
  refine ⟨p * q, ⟨hpq.1, by omega⟩, ?_, ?_, ?_, ?_⟩
  · have e : p * q * (p * q) = p * p * (q * q) := by grind
    rw [e, p3, q3]; grind
  · intro h
    rw [hl, if_neg (by rcases hs with ⟨h1, h2⟩ | ⟨h1, h2, h3⟩ | ⟨h1, h2, h3⟩ <;> omega)]
  · intro h
    rw [hl, if_pos (by rcases hs with ⟨h1, h2⟩ | ⟨h1, h2, h3⟩ | ⟨h1, h2, h3⟩ <;> omega)]
  · rw [hl']
    by_cases h : a * g > 0
    · rw [if_pos h, if_pos (by rcases hs' with ⟨h1, h2⟩ | ⟨h1, h2, h3⟩ | ⟨h1, h2, h3⟩ <;> omega)]
    · rw [if_neg h, if_neg (by rcases hs' with ⟨h1, h2⟩ | ⟨h1, h2, h3⟩ | ⟨h1, h2, h3⟩ <;> omega)]
theorem over_abs {a g N : Int} (ha : bd 4194304 a) (hg : bd 4194304 g) (hN : 1 ≤ N ∧ N ≤ 4611686018427387904) :
    ∃ U : Int, 0 ≤ U ∧ (0 ≤ a * g → wOver_0 a g N 2 = U) ∧ (a * g < 0 → wOver_0 a g N 2 = -U) ∧ (1 ≤ U → (2 * U - 1) * (2 * U - 1) * N ≤ 4 * ((a * g) * (a * g))) ∧ 4 * ((a * g) * (a * g)) ≤ (2 * U + 1) * (2 * U + 1) * N := by
  obtain ⟨P, h0, h1, h2, h3, _⟩ := over_val ha hg hN
  rw [← h1]
  by_cases h : 0 ≤ a * g
  · obtain ⟨o1, o2, o3⟩ := ovq_law false (p := P) (n := N) ⟨h0.1, by omega⟩ hN
    exact ⟨_, o1, fun _ => h2 h, fun h' => by omega, o2, o3⟩
  · obtain ⟨o1, o2, o3⟩ := ovq_law true (p := P) (n := N) ⟨h0.1, by omega⟩ hN
    exact ⟨_, o1, fun h' => by omega, fun _ => h3 (by omega), o2, o3⟩
theorem over_ineq {p q U W g N : Int} (hp : 0 ≤ p) (hq : 0 ≤ q) (hU : 0 ≤ U) (hW : 0 ≤ W) (hN : 0 < N) (h1 : 1 ≤ U → (2 * U - 1) * (2 * U - 1) * N ≤ 4 * ((p * g) * (p * g))) (h2 : 4 * ((q * g) * (q * g)) ≤ (2 * W + 1) * (2 * W + 1) * N) :
    q * (2 * U - 1) ≤ p * (2 * W + 1) := by
  have hY : 0 ≤ p * (2 * W + 1) := Int.mul_nonneg hp (by omega)
  by_cases hU0 : U = 0
  · subst hU0
    have : q * (2 * 0 - 1) = -q := by omega
    omega
  · rcases Int.lt_or_le (p * (2 * W + 1)) (q * (2 * U - 1)) with h | h
    · exfalso
      have s1 := Int.mul_self_lt_mul_self hY h
      have s2 := Int.mul_lt_mul_of_pos_right s1 hN
      have e1 : q * (2 * U - 1) * (q * (2 * U - 1)) * N = q * q * ((2 * U - 1) * (2 * U - 1) * N) := by grind
      have e2 : p * (2 * W + 1) * (p * (2 * W + 1)) * N = p * p * ((2 * W + 1) * (2 * W + 1) * N) := by grind
      have q0 : 0 ≤ q * q := Int.mul_nonneg hq hq
      have p0 : 0 ≤ p * p := Int.mul_nonneg hp hp
      have m1 := Int.mul_le_mul_of_nonneg_left (h1 (by omega)) q0
      have m2 := Int.mul_le_mul_of_nonneg_left h2 p0
      have e3 : q * q * (4 * ((p * g) * (p * g))) = p * p * (4 * ((q * g) * (q * g))) := by grind
      omega
    · exact h
theorem sq_nn1 (x : Int) : 0 ≤ x * x := by
  have := sq_nn x 0
  rw [Int.mul_zero, Int.add_zero] at this
  exact this
theorem over_bd {a g N m : Int} (hm : 0 ≤ m) (hm2 : m ≤ 4194304) (ha : bd 4194304 a) (hg : bd m g) (hN : 1 ≤ N ∧ N ≤ 4611686018427387904) (haN : a * a ≤ N) : bd m (wOver_0 a g N 2) := by
  obtain ⟨U, U0, u1, u2, U1, U2⟩ := over_abs ha (show bd 4194304 g by omega) hN
  have hU : U ≤ m := by
    rcases Int.lt_or_le m U with h | h
    · exfalso
      have h1 := U1 (by omega)
      have k1 := sqm (x := 2 * m + 1) (y := 2 * U - 1) (n := N) (by omega) (by omega) (by omega)
      have k2 : (a * g) * (a * g) = a * a * (g * g) := by grind
      have k3 := mul_bd hg hg hm hm
      have k4 := Int.mul_le_mul_of_nonneg_right haN (sq_nn1 g)
      have k5 := Int.mul_le_mul_of_nonneg_left k3.2 (show 0 ≤ N by omega)
      have k6 : (2 * m + 1) * (2 * m + 1) * N = 4 * (N * (m * m)) + 4 * (m * N) + N := by grind
      have k7 := Int.mul_nonneg hm (show 0 ≤ N by omega)
      omega
    · exact h
  by_cases h : 0 ≤ a * g
  · rw [u1 h]; omega
  · rw [u2 (by omega)]; omega
theorem nrm_ok {p0 p1 t0 t1 r : Int} (h0 : t0 ≠ 0 ∨ t1 ≠ 0) (h1 : bd 4194304 t0) (h2 : bd 4194304 t1) (h3 : bd 1048576 p0) (h4 : bd 1048576 p1) (h5 : bd 32768 r) : (t0 == 0 && t1 == 0 || !oin_0 t0 4194304 || !oin_0 t1 4194304 || !oin_0 p0 1048576 || !oin_0 p1 1048576 || !oin_0 r 32768) = false := by
  rw [(oin_iff (by omega) (by omega)).2 h1, (oin_iff (by omega) (by omega)).2 h2, (oin_iff (by omega) (by omega)).2 h3, (oin_iff (by omega) (by omega)).2 h4, (oin_iff (by omega) (by omega)).2 h5]
  have : (t0 == 0 && t1 == 0) = false := by
    rw [Bool.and_eq_false_iff, beq_eq_false_iff_ne, beq_eq_false_iff_ne]; exact h0
  rw [this]; rfl
/-- A normal's point. -/
theorem normal_val {p0 p1 t0 t1 r : Int} (h0 : t0 ≠ 0 ∨ t1 ≠ 0) (h1 : bd 4194304 t0) (h2 : bd 4194304 t1) (h3 : bd 1048576 p0) (h4 : bd 1048576 p1) (h5 : bd 32768 r) :
    onormal_0 p0 p1 t0 t1 r = p0 + wOver_0 (-t1) r (t0 * t0 + t1 * t1) 2 ∧ onormal_1 p0 p1 t0 t1 r = p1 + wOver_0 t0 r (t0 * t0 + t1 * t1) 2 ∧ onormal_2 p0 p1 t0 t1 r = true ∧ bd 32768 (wOver_0 (-t1) r (t0 * t0 + t1 * t1) 2) ∧ bd 32768 (wOver_0 t0 r (t0 * t0 + t1 * t1) 2) ∧ 1 ≤ t0 * t0 + t1 * t1 ∧ t0 * t0 + t1 * t1 ≤ 35184372088832 := by
  have hn := sq_pos h0
  have m1 := mul_bd h1 h1 (by omega) (by omega)
  have m2 := mul_bd h2 h2 (by omega) (by omega)
  have n1 := sq_nn1 t0
  have n2 := sq_nn1 t1
  have b1 : bd 32768 (wOver_0 (-t1) r (t0 * t0 + t1 * t1) 2) := over_bd (by omega) (by omega) (by omega) h5 (by omega) (by rw [Int.neg_mul_neg]; omega)
  have b2 : bd 32768 (wOver_0 t0 r (t0 * t0 + t1 * t1) 2) := over_bd (by omega) (by omega) (by omega) h5 (by omega) (by omega)
  have ev : vinner_0 t0 t1 t0 t1 = t0 * t0 + t1 * t1 := vinner_eq (by omega) (by omega) (by omega) (by omega)
  have ew : IntKind.i64.wrap (0 - t1) = -t1 := by rw [wrI (by omega) (by omega)]; omega
  unfold onormal_0 onormal_1 onormal_2
  rw [nrm_ok h0 h1 h2 h3 h4 h5, ev, ew, cond_false, cond_false, addpt_eq (by omega) (by omega), addpt_eq (by omega) (by omega)]
  exact ⟨rfl, rfl, rfl, b1, b2, by omega, by omega⟩
end Go.Proofs.Ytmbfbhimdkjkoaa
namespace Go.Proofs.Ytmbfbhimdkjkoaa
open Go.SX Go.RowKit
theorem four_ok {a b c d : Bool} (h : (bif !a then (3 : Int) else bif !b then 3 else bif !c then 3 else bif !d then 3 else 0) = 0) : a = true ∧ b = true ∧ c = true ∧ d = true := by
  cases a <;> cases b <;> cases c <;> cases d <;> first | exact ⟨rfl, rfl, rfl, rfl⟩ | exact absurd h (by decide)
theorem ends_ok (e0 e1 e2 e3 e4 e5 e6 r : Int) (h : oends_4 e0 e1 e2 e3 e4 e5 e6 r = 0) :
    oends_0 e0 e1 e2 e3 e4 e5 e6 r = oends_s1 e0 e1 e2 e3 e4 e5 e6 r ∧ oends_1 e0 e1 e2 e3 e4 e5 e6 r = oends_s3 e0 e1 e2 e3 e4 e5 e6 r ∧
    oends_2 e0 e1 e2 e3 e4 e5 e6 r = oends_s5 e0 e1 e2 e3 e4 e5 e6 r ∧ oends_3 e0 e1 e2 e3 e4 e5 e6 r = oends_s7 e0 e1 e2 e3 e4 e5 e6 r ∧
    oin_0 (oends_s1 e0 e1 e2 e3 e4 e5 e6 r) 1048576 = true ∧ oin_0 (oends_s3 e0 e1 e2 e3 e4 e5 e6 r) 1048576 = true ∧ oin_0 (oends_s5 e0 e1 e2 e3 e4 e5 e6 r) 1048576 = true ∧ oin_0 (oends_s7 e0 e1 e2 e3 e4 e5 e6 r) 1048576 = true := by
  have key : oends_s9 e0 e1 e2 e3 e4 e5 e6 r = 0 → oends_s2 e0 e1 e2 e3 e4 e5 e6 r = oends_s1 e0 e1 e2 e3 e4 e5 e6 r ∧ oends_s4 e0 e1 e2 e3 e4 e5 e6 r = oends_s3 e0 e1 e2 e3 e4 e5 e6 r ∧
      oends_s6 e0 e1 e2 e3 e4 e5 e6 r = oends_s5 e0 e1 e2 e3 e4 e5 e6 r ∧ oends_s8 e0 e1 e2 e3 e4 e5 e6 r = oends_s7 e0 e1 e2 e3 e4 e5 e6 r ∧
      oin_0 (oends_s1 e0 e1 e2 e3 e4 e5 e6 r) 1048576 = true ∧ oin_0 (oends_s3 e0 e1 e2 e3 e4 e5 e6 r) 1048576 = true ∧ oin_0 (oends_s5 e0 e1 e2 e3 e4 e5 e6 r) 1048576 = true ∧ oin_0 (oends_s7 e0 e1 e2 e3 e4 e5 e6 r) 1048576 = true := by
    intro h
    obtain ⟨h1, h2, h3, h4⟩ := four_ok (show (bif !oin_0 (oends_s1 e0 e1 e2 e3 e4 e5 e6 r) 1048576 then (3 : Int) else bif !oin_0 (oends_s3 e0 e1 e2 e3 e4 e5 e6 r) 1048576 then 3 else bif !oin_0 (oends_s5 e0 e1 e2 e3 e4 e5 e6 r) 1048576 then 3 else bif !oin_0 (oends_s7 e0 e1 e2 e3 e4 e5 e6 r) 1048576 then 3 else 0) = 0 from h)
    have e (a : Int) : (bif !oin_0 (oends_s1 e0 e1 e2 e3 e4 e5 e6 r) 1048576 then (0 : Int) else bif !oin_0 (oends_s3 e0 e1 e2 e3 e4 e5 e6 r) 1048576 then 0 else bif !oin_0 (oends_s5 e0 e1 e2 e3 e4 e5 e6 r) 1048576 then 0 else bif !oin_0 (oends_s7 e0 e1 e2 e3 e4 e5 e6 r) 1048576 then 0 else a) = a := by rw [h1, h2, h3, h4]; rfl
    exact ⟨e _, e _, e _, e _, h1, h2, h3, h4⟩
  unfold oends_4 at h
  unfold oends_0 oends_1 oends_2 oends_3
  generalize (e6 != 0 && oinward_0 e6 r) = b1 at h ⊢
  generalize decide (vinner_0 (minus_0 e0 e4) (minus_0 e1 e5) (minus_0 e0 e4) (minus_0 e1 e5) < IntKind.i64.wrap (oends_s0 r * oends_s0 r)) = b2 at h ⊢
  generalize decide (vinner_0 (minus_0 e2 e4) (minus_0 e3 e5) (minus_0 e2 e4) (minus_0 e3 e5) < IntKind.i64.wrap (oends_s0 r * oends_s0 r)) = b3 at h ⊢
  cases b1
  · exact key h
  · cases b2
    · cases b3
      · exact key h
      · exact absurd h (by show ¬ (16 : Int) = 0; decide)
    · exact absurd h (by show ¬ (16 : Int) = 0; decide)
theorem oin_bd {n m : Int} (hm : 0 ≤ m) (hm2 : m ≤ 1000000000) : oin_0 n m = true ↔ bd m n := by
  unfold oin_0
  rw [wrI (by omega) (by omega)]
  simp only [Bool.and_eq_true, decide_eq_true_eq]
  omega
/-- A straight piece's directions. -/
theorem line_ends {x y u v r : Int} (hx : bd 1048576 x) (hy : bd 1048576 y) (hu : bd 1048576 u) (hv : bd 1048576 v) :
    oends_s1 x y u v 0 0 0 r = onormal_0 x y (u - x) (v - y) r ∧ oends_s3 x y u v 0 0 0 r = onormal_1 x y (u - x) (v - y) r ∧
    oends_s5 x y u v 0 0 0 r = onormal_0 u v (u - x) (v - y) r ∧ oends_s7 x y u v 0 0 0 r = onormal_1 u v (u - x) (v - y) r := by
  have e0 : IntKind.i64.wrap (u - x) = u - x := wrI (by omega) (by omega)
  have e1 : IntKind.i64.wrap (v - y) = v - y := wrI (by omega) (by omega)
  have a0 : ∀ b, atang_0 (oitem_0 0) x y 0 u v 0 17 (oitem_1 0 0) (oitem_1 0 0) 0 (oitem_3 0) b = u - x := fun b => by show IntKind.i64.wrap (u - x) = _; exact e0
  have a1 : ∀ b, atang_1 (oitem_0 0) x y 0 u v 0 17 (oitem_1 0 0) (oitem_1 0 0) 0 (oitem_3 0) b = v - y := fun b => by show IntKind.i64.wrap (v - y) = _; exact e1
  unfold oends_s1 oends_s3 oends_s5 oends_s7
  rw [a0, a1, a0, a1]
  exact ⟨rfl, rfl, rfl, rfl⟩
/-- An arc's directions: t is the spoke turned. -/
theorem arc_ends {x y u v c d e r : Int} (he : e = 1 ∨ e = -1) (hx : bd 1048576 x) (hy : bd 1048576 y) (hu : bd 1048576 u) (hv : bd 1048576 v) (hc : bd 1048576 c) (hd : bd 1048576 d) :
    oends_s1 x y u v c d e r = onormal_0 x y (-(y - d) * e) ((x - c) * e) r ∧ oends_s3 x y u v c d e r = onormal_1 x y (-(y - d) * e) ((x - c) * e) r ∧
    oends_s5 x y u v c d e r = onormal_0 u v (-(v - d) * e) ((u - c) * e) r ∧ oends_s7 x y u v c d e r = onormal_1 u v (-(v - d) * e) ((u - c) * e) r := by
  have w : ∀ {a : Int}, bd 4000000 a → IntKind.i64.wrap a = a := fun h => wrI (by omega) (by omega)
  have i0 : oitem_0 e = 3 := by rcases he with rfl | rfl <;> rfl
  have i1 : oitem_1 c e = c := by rcases he with rfl | rfl <;> rfl
  have i2 : oitem_1 d e = d := by rcases he with rfl | rfl <;> rfl
  have i3 : oitem_3 e = e := oitem_3_id e
  have s0 : ∀ {p q : Int}, bd 1048576 p → bd 1048576 q → aspokes_0 p q 0 17 c d 0 = p - c := fun hp hq => by
    rename_i p q
    show IntKind.i64.wrap (p - c) = _
    exact w (by omega)
  have s1 : ∀ {p q : Int}, bd 1048576 p → bd 1048576 q → aspokes_1 p q 0 17 c d 0 = q - d := fun hp hq => by
    rename_i p q
    show IntKind.i64.wrap (q - d) = _
    exact w (by omega)
  have n : ∀ {a : Int}, bd 3000000 a → IntKind.i64.wrap (0 - a) = -a := fun h => by rw [w (by omega)]; omega
  have t0 : ∀ b, atang_0 3 x y 0 u v 0 17 c d 0 e b = bif b then -(v - d) * e else -(y - d) * e := fun b => by
    unfold atang_0 atang_s0
    rw [s1 hu hv, s1 hx hy]
    rcases he with rfl | rfl <;> cases b <;> simp only [cond_true, cond_false, bne_self_eq_false] <;> first | (rw [show decide ((1 : Int) < 0) = false from rfl, cond_false, n (by omega)]; omega) | (rw [show decide ((-1 : Int) < 0) = true from rfl, cond_true]; omega)
  have t1 : ∀ b, atang_1 3 x y 0 u v 0 17 c d 0 e b = bif b then (u - c) * e else (x - c) * e := fun b => by
    unfold atang_1 atang_s1
    rw [s0 hu hv, s0 hx hy]
    rcases he with rfl | rfl <;> cases b <;> simp only [cond_true, cond_false, bne_self_eq_false] <;> first | (rw [show decide ((1 : Int) < 0) = false from rfl, cond_false]; omega) | (rw [show decide ((-1 : Int) < 0) = true from rfl, cond_true, n (by omega)]; omega)
  unfold oends_s1 oends_s3 oends_s5 oends_s7
  rw [i0, i1, i2, i3, t0, t1, t0, t1]
  exact ⟨rfl, rfl, rfl, rfl⟩
end Go.Proofs.Ytmbfbhimdkjkoaa
namespace Go.Proofs.Ytmbfbhimdkjkoaa
open Go.SX Go.RowKit
/-- What stands between the lead-in and the lead-out. -/
inductive Mid (sd ra : Int) : List Int → Prop where
  | out (n : Int) : Mid sd ra (itO n)
  | line (x y z u v w fe : Int) (h : fe = 30000 ∨ fe = 60000) : Mid sd ra (itL x y z u v w fe sd ra)
  | arc (x y z u v w c d e dir : Int) : Mid sd ra (itA x y z u v w c d e dir 60000 sd ra)
theorem conStep_mid (L : List (List Int)) (sd ra sz : Int) (s : CS) : ∃ r, Mid sd ra r ∧ (conStep L sd ra sz s).R = s.R ++ [r] := by
  unfold conStep
  cases next_0 10 s.a L == 0
  · cases next_0 10 s.a L == 1
    · cases (bif next_0 10 s.a L == 2 then next_0 10 s.a L == 2 else next_0 10 s.a L == 3)
      · exact ⟨_, .line _ _ _ _ _ _ _ (.inr rfl), rfl⟩
      · exact ⟨_, .arc _ _ _ _ _ _ _ _ _ _, rfl⟩
    · exact ⟨_, .line _ _ _ _ _ _ _ (.inl rfl), rfl⟩
  · exact ⟨_, .out _, rfl⟩
theorem conN_mid (L : List (List Int)) (sd ra sz : Int) : ∀ (k : Nat) (s : CS), ∃ l, (∀ r ∈ l, Mid sd ra r) ∧ (conN L sd ra sz k s).R = s.R ++ l
  | 0, s => ⟨[], fun _ h => (by cases h), (List.append_nil _).symm⟩
  | k + 1, s => by
    obtain ⟨r, h1, h2⟩ := conStep_mid L sd ra sz s
    obtain ⟨l, h3, h4⟩ := conN_mid L sd ra sz k (conStep L sd ra sz s)
    refine ⟨r :: l, fun q hq => ?_, ?_⟩
    · rcases List.mem_cons.1 hq with rfl | hq
      · exact h1
      · exact h3 q hq
    · show (conN L sd ra sz k (conStep L sd ra sz s)).R = _
      rw [h4, h2, List.append_assoc]; rfl
theorem cSd_pm (a : Int) (L : List (List Int)) : cSd a L = 1 ∨ cSd a L = -1 := by
  have h := next_0_range 2 a L (by omega) (by omega)
  unfold cSd
  rcases (show next_0 2 a L = 0 ∨ next_0 2 a L = 1 by omega) with e | e <;> rw [e]
  · exact .inl (by decide)
  · exact .inr (by decide)
theorem contL_shape (a : Int) (L : List (List Int)) : ∃ x y z u v w mids p q r p' q' r', (∀ m ∈ mids, Mid (cSd a L) (cRa a L) m) ∧
    contL a L = itL x y z u v w 60000 (cSd a L) (cRa a L) :: (mids ++ [itM p q r p' q' r']) := by
  obtain ⟨l, h1, h2⟩ := conN_mid L (cSd a L) (cRa a L) (cSz a L) (cS a L).k (cS a L)
  obtain ⟨x, y, z, u, v, w, e1⟩ : ∃ x y z u v w, (cS a L).R = [itL x y z u v w 60000 (cSd a L) (cRa a L)] := ⟨_, _, _, _, _, _, rfl⟩
  obtain ⟨p, q, r, p', q', r', e2⟩ : ∃ p q r p' q' r', contL a L = (cT a L).R ++ [itM p q r p' q' r'] := ⟨_, _, _, _, _, _, rfl⟩
  refine ⟨x, y, z, u, v, w, l, p, q, r, p', q', r', h1, ?_⟩
  have e3 : (cT a L).R = (cS a L).R ++ l := h2
  rw [e2, e3, e1]
  rfl
/-- Does an item differ from one without compensation? -/
noncomputable def diffR (p q : List Int) : Bool := !(p.getD 0 0 == q.getD 0 0 && (p.getD 1 0 == q.getD 1 0 && (p.getD 2 0 == q.getD 2 0 && (p.getD 3 0 == q.getD 3 0 && (p.getD 4 0 == q.getD 4 0 && (p.getD 5 0 == q.getD 5 0 && (p.getD 6 0 == q.getD 6 0 && (p.getD 7 0 == q.getD 7 0 && ((p.getD 8 0 == bif q.getD 0 0 == 2 then 0 else q.getD 8 0) && (p.getD 9 0 == q.getD 9 0 && (p.getD 10 0 == q.getD 10 0 && (p.getD 11 0 == q.getD 11 0 && (p.getD 12 0 == q.getD 12 0 && (((p.getD 13 0 != 0) == (q.getD 13 0 != 0)) && (p.getD 14 0 == q.getD 14 0 && (((p.getD 15 0 != 0) == (q.getD 15 0 != 0)) && (p.getD 16 0 == 0 && (p.getD 17 0 == q.getD 17 0 && (p.getD 18 0 == q.getD 18 0 && (p.getD 19 0 == q.getD 19 0 && (p.getD 20 0 == q.getD 20 0 && ((p.getD 21 0 != 0) == (q.getD 21 0 != 0)))))))))))))))))))))))
noncomputable def zl (r : List Int) : Bool := r.getD 2 0 == r.getD 5 0 && (r.getD 3 0 == r.getD 6 0 && r.getD 4 0 == r.getD 7 0)
/-! ### Valid items -/
theorem bcond {c b : Bool} (h : (bif c then false else b) = true) : c = false ∧ b = true := by
  cases c
  · exact ⟨rfl, h⟩
  · cases h
theorem cvalid_motion {x : List GC} (hv : cvalid_0 x = true) (hm : cmotion_0 (xi x 0) = true) :
    vwithin_0 (xi x 2) (xi x 3) (xi x 4) = true ∧ vwithin_0 (xi x 5) (xi x 6) (xi x 7) = true ∧ (decide (xi x 1 < 0) || decide (xi x 1 ≥ 2000)) = false ∧
    (bif xi x 0 == 3 then bif acheck_0 (xi x 0) (xi x 2) (xi x 3) (xi x 4) (xi x 5) (xi x 6) (xi x 7) (xi x 8) (xi x 9) (xi x 10) (xi x 11) (xi x 12) (xb x 13) != 0 then false else cvalid_s1 x
      else bif !(xi x 9 == 0 && (xi x 10 == 0 && xi x 11 == 0)) || xi x 12 != 0 || xb x 13 then false else cvalid_s1 x) = true := by
  unfold cvalid_0 at hv
  obtain ⟨h0, hv⟩ := bcond hv
  rw [hm, cond_true] at hv
  obtain ⟨h1, h2⟩ := bcond hv
  simp only [Bool.or_eq_false_iff, Bool.not_eq_false'] at h1
  exact ⟨h1.1.1.1.1, h1.1.1.1.2, h0, h2⟩
theorem vwithin_bd {a b c : Int} (h : vwithin_0 a b c = true) : bd 1048576 a ∧ bd 1048576 b ∧ bd 1048576 c := by
  unfold vwithin_0 at h
  simp only [Bool.and_eq_true, decide_eq_true_eq] at h
  omega
theorem acheck_zero {x y z u v w c d e dir : Int} (h : acheck_0 3 x y z u v w 17 c d e dir false = 0) :
    bd 1048576 x ∧ bd 1048576 y ∧ bd 1048576 u ∧ bd 1048576 v ∧ bd 1048576 c ∧ bd 1048576 d ∧ (dir = 1 ∨ dir = -1) ∧ z = e ∧
    64 ≤ (x - c) * (x - c) + (y - d) * (y - d) ∧ 64 ≤ (u - c) * (u - c) + (v - d) * (v - d) ∧ ¬ (x = u ∧ y = v) := by
  unfold acheck_0 at h
  obtain ⟨h1, h⟩ := cond_ne (by decide) h
  obtain ⟨h2, _⟩ := cond_ne (by decide) h
  simp only [Bool.or_eq_false_iff, Bool.not_eq_false', bne_eq_false_iff_eq, Bool.and_eq_false_iff, bne_self_eq_false] at h1
  obtain ⟨⟨⟨⟨⟨⟨_, _⟩, h3⟩, h4⟩, h5⟩, h6⟩, h7⟩ := h1
  have f := vwithin_bd h3
  have t := vwithin_bd h4
  have g := vwithin_bd h5
  have w0 : ∀ {a : Int}, bd 4000000 a → IntKind.i64.wrap a = a := fun h => wrI (by omega) (by omega)
  have a0 : aspokes_0 x y z 17 c d e = x - c := by show IntKind.i64.wrap (x - c) = _; exact w0 (by omega)
  have a1 : aspokes_1 x y z 17 c d e = y - d := by show IntKind.i64.wrap (y - d) = _; exact w0 (by omega)
  have b0 : aspokes_0 u v w 17 c d e = u - c := by show IntKind.i64.wrap (u - c) = _; exact w0 (by omega)
  have b1 : aspokes_1 u v w 17 c d e = v - d := by show IntKind.i64.wrap (v - d) = _; exact w0 (by omega)
  rw [a0, a1, b0, b1] at h2
  rw [vinner_eq (by omega) (by omega) (by omega) (by omega), vinner_eq (by omega) (by omega) (by omega) (by omega)] at h2
  simp only [Bool.or_eq_false_iff, decide_eq_false_iff_not, Bool.false_and, Bool.not_false, Bool.true_and] at h2
  obtain ⟨⟨⟨⟨h8, h9⟩, _⟩, _⟩, h10⟩ := h2
  refine ⟨f.1, f.2.1, t.1, t.2.1, g.1, g.2.1, by omega, h7, by omega, by omega, fun ⟨e1, e2⟩ => ?_⟩
  subst e1; subst e2
  unfold aligned_0 at h10
  rw [vcross_eq (by omega) (by omega) (by omega) (by omega), vinner_eq (by omega) (by omega) (by omega) (by omega)] at h10
  have e : (x - c) * (y - d) - (y - d) * (x - c) = 0 := by grind
  rw [e] at h10
  simp at h10
  omega
end Go.Proofs.Ytmbfbhimdkjkoaa
namespace Go.Proofs.Ytmbfbhimdkjkoaa
open Go.SX Go.RowKit
theorem nrm_of (r : List Int) : nrm (ofRow r) = ofRow r := by kernel_rfl
theorem toO (n : Int) : toRow (ofRow (itO n)) = itO n := by kernel_rfl
theorem toL (x y z u v w fe sd ra : Int) : toRow (ofRow (itL x y z u v w fe sd ra)) = itL x y z u v w fe sd ra := by kernel_rfl
/-- The corners' kind and the ends where the radius is 0. -/
theorem kd0 {l y x : List GC} (h : xi l 17 = 0) : (kd l y x == 2) = false ∧ (kd l y x == 1) = false := by
  unfold kd
  rw [h, Int.mul_zero]
  exact ⟨rfl, rfl⟩
/-- A line that moves in the plane. -/
structure LineOk (x y u v : Int) : Prop where
  a : bd 1048576 x
  b : bd 1048576 y
  c : bd 1048576 u
  d : bd 1048576 v
  ne : ¬ (x = u ∧ y = v)
theorem nE_line (l : List GC) (h8 : xi l 8 = 17) (x y z u v w fe sd ra : Int) : nE l (ofRow (itL x y z u v w fe sd ra)) = oends_4 x y u v 0 0 0 (IntKind.i64.wrap (xi l 16 * xi l 17)) ∧
    n0 l (ofRow (itL x y z u v w fe sd ra)) = oends_0 x y u v 0 0 0 (IntKind.i64.wrap (xi l 16 * xi l 17)) ∧ n1 l (ofRow (itL x y z u v w fe sd ra)) = oends_1 x y u v 0 0 0 (IntKind.i64.wrap (xi l 16 * xi l 17)) ∧
    f0 l (ofRow (itL x y z u v w fe sd ra)) = oends_2 x y u v 0 0 0 (IntKind.i64.wrap (xi l 16 * xi l 17)) ∧ f1 l (ofRow (itL x y z u v w fe sd ra)) = oends_3 x y u v 0 0 0 (IntKind.i64.wrap (xi l 16 * xi l 17)) := by
  unfold nE n0 n1 f0 f1
  rw [h8]
  exact ⟨by kernel_rfl, by kernel_rfl, by kernel_rfl, by kernel_rfl, by kernel_rfl⟩
theorem nE_arc (l : List GC) (h8 : xi l 8 = 17) (x y z u v w c d e dir fe sd ra : Int) : nE l (ofRow (itA x y z u v w c d e dir fe sd ra)) = oends_4 x y u v c d dir (IntKind.i64.wrap (xi l 16 * xi l 17)) ∧
    n0 l (ofRow (itA x y z u v w c d e dir fe sd ra)) = oends_0 x y u v c d dir (IntKind.i64.wrap (xi l 16 * xi l 17)) ∧ n1 l (ofRow (itA x y z u v w c d e dir fe sd ra)) = oends_1 x y u v c d dir (IntKind.i64.wrap (xi l 16 * xi l 17)) ∧
    f0 l (ofRow (itA x y z u v w c d e dir fe sd ra)) = oends_2 x y u v c d dir (IntKind.i64.wrap (xi l 16 * xi l 17)) ∧ f1 l (ofRow (itA x y z u v w c d e dir fe sd ra)) = oends_3 x y u v c d dir (IntKind.i64.wrap (xi l 16 * xi l 17)) := by
  unfold nE n0 n1 f0 f1
  rw [h8]
  exact ⟨by kernel_rfl, by kernel_rfl, by kernel_rfl, by kernel_rfl, by kernel_rfl⟩
structure ArcOk (x y u v c d dir : Int) : Prop where
  bx : bd 1048576 x
  yb : bd 1048576 y
  ub : bd 1048576 u
  vb : bd 1048576 v
  cb : bd 1048576 c
  db : bd 1048576 d
  dir : dir = 1 ∨ dir = -1
  s : 64 ≤ (x - c) * (x - c) + (y - d) * (y - d)
  t : 64 ≤ (u - c) * (u - c) + (v - d) * (v - d)
  ne : ¬ (x = u ∧ y = v)
theorem nz_of {a b : Int} (h : 64 ≤ a * a + b * b) : a ≠ 0 ∨ b ≠ 0 := by
  by_cases ha : a = 0
  · by_cases hb : b = 0
    · rw [ha, hb] at h; omega
    · exact .inr hb
  · exact .inl ha
end Go.Proofs.Ytmbfbhimdkjkoaa
namespace Go.Proofs.Ytmbfbhimdkjkoaa
open Go.SX Go.RowKit
inductive All2 (M : List Int → List Int → Prop) : List (List Int) → List (List Int) → Prop where
  | nil : All2 M [] []
  | cons {p q a b} : M p q → All2 M a b → All2 M (p :: a) (q :: b)
theorem All2.append {M : List Int → List Int → Prop} : ∀ {a b c d : List (List Int)}, All2 M a b → All2 M c d → All2 M (a ++ c) (b ++ d)
  | _, _, _, _, .nil, h => h
  | _, _, _, _, .cons h1 h2, h => .cons h1 (All2.append h2 h)
noncomputable def Mt (p q : List Int) : Prop := diffR p q = false
noncomputable def keepR (r : List Int) : Bool := !(r.getD 0 0 == 2 && zl r)
noncomputable def outL (x y z u v w fe : Int) : List Int := [2, 0, x, y, z, u, v, w, 0, 0, 0, 0, 0, 0, fe, 0, 0, 0, 0, 0, 0, 0]
noncomputable def outA (x y z u v w c d e dir fe : Int) : List Int := [3, 0, x, y, z, u, v, w, 17, c, d, e, dir, 0, fe, 0, 0, 0, 0, 0, 0, 0]
/-- What is carried. -/
inductive Car (sd q0 q1 : Int) : List Int → Prop where
  | out (n : Int) : Car sd q0 q1 (itO n)
  | line (z w fe : Int) : Car sd q0 q1 (itL q0 q1 z q0 q1 w fe sd 0)
theorem line46_L (l : List GC) (h8 : xi l 8 = 17) (x y z u v w fe sd ra a0 a1 b0 b1 lo hi : Int) (al : Bool) (O : List (List Int)) :
    line_46 (ofRow (itL x y z u v w fe sd ra)) b0 b1 lo hi al l a0 a1 O = bif al || !(a0 == b0 && (a1 == b1 && lo == hi)) then O ++ [outL a0 a1 lo b0 b1 hi fe] else O := by
  unfold line_46
  rw [h8]
  kernel_rfl
/-- The element that is not settled. -/
inductive Ele (sd q0 q1 : Int) : List Int → Int → Int → Prop where
  | line (x y z w fe : Int) : LineOk x y q0 q1 → Ele sd q0 q1 (itL x y z q0 q1 w fe sd 0) x y
  | arc (x y z w c d e dir fe : Int) : ArcOk x y q0 q1 c d dir → Ele sd q0 q1 (itA x y z q0 q1 w c d e dir fe sd 0) x y
end Go.Proofs.Ytmbfbhimdkjkoaa
namespace Go.Proofs.Ytmbfbhimdkjkoaa
open Go.SX Go.RowKit
structure I0 (lead : List Int) (sd : Int) (s : St) (R D : List (List Int)) : Prop where
  er : s.er = 0
  cl : s.cl = false
  op : s.op = true
  mo : s.mo = true
  tr : s.tr = false
  l : s.l = ofRow lead
  ld : ∃ x y z u v, lead = itL x y z u v z 60000 sd 0
  y : nrm s.y = s.y
  c : ∀ r ∈ s.C, Car sd s.la0 s.la1 r
  p : (s.y = zeroG ∧ R = [] ∧ D = s.C ∧ ∃ x y z, lead = itL x y z s.la0 s.la1 z 60000 sd 0) ∨
      ∃ r D', Ele sd s.la0 s.la1 r s.a0 s.a1 ∧ s.y = ofRow r ∧ All2 Mt R (lead :: D'.filter keepR) ∧ D = D' ++ r :: s.C
end Go.Proofs.Ytmbfbhimdkjkoaa
namespace Go.Proofs.Ytmbfbhimdkjkoaa
open Go.SX Go.RowKit
noncomputable def isM (r : List Int) : Bool := cmotion_0 (r.getD 0 0)
noncomputable def frm (r : List Int) : Int × Int × Int := (r.getD 2 0, r.getD 3 0, r.getD 4 0)
noncomputable def too (r : List Int) : Int × Int × Int := (r.getD 5 0, r.getD 6 0, r.getD 7 0)
/-- A settled item: valid, without compensation, not the end. -/
structure GR (r : List Int) : Prop where
  v : cvalid_0 (nrm (ofRow r)) = true
  s : r.getD 16 0 = 0
  a : r.getD 17 0 = 0
  k : r.getD 0 0 ≠ 14
/-- Each motion begins where the one before it ends. -/
inductive Ch : Option (Int × Int × Int) → List (List Int) → Option (Int × Int × Int) → Prop where
  | nil (p) : Ch p [] p
  | skip {p r l q} : isM r = false → GR r → Ch p l q → Ch p (r :: l) q
  | go {p r l q} : isM r = true → GR r → (p = none ∨ p = some (frm r)) → Ch (some (too r)) l q → Ch p (r :: l) q
theorem Ch.append : ∀ {p a q b t}, Ch p a q → Ch q b t → Ch p (a ++ b) t
  | _, _, _, _, _, .nil _, h => h
  | _, _, _, _, _, .skip h1 h2 h3, h => .skip h1 h2 (Ch.append h3 h)
  | _, _, _, _, _, .go h1 h2 h3 h4, h => .go h1 h2 h3 (Ch.append h4 h)
theorem Ch.one {r : List Int} {p q : Int × Int × Int} (hm : isM r = true) (hg : GR r) (hp : frm r = p) (hq : too r = q) : Ch (some p) [r] (some q) := by
  subst hp; subst hq
  exact .go hm hg (.inr rfl) (.nil _)
theorem gr_line {x y z u v w fe : Int} (hf : fe = 30000 ∨ fe = 60000) (h1 : vwithin_0 x y z = true) (h2 : vwithin_0 u v w = true) : GR (outL x y z u v w fe) := by
  refine ⟨?_, rfl, rfl, (by show ¬ (2 : Int) = 14; decide)⟩
  have e : cvalid_0 (nrm (ofRow (outL x y z u v w fe))) = (bif (!vwithin_0 x y z || !vwithin_0 u v w || false || false || !true) then false else (bif decide (fe < 1) || decide (fe > 60000000) then false else true)) := by kernel_rfl
  rw [e, h1, h2]
  rcases hf with rfl | rfl <;> rfl
theorem gr_arc {x y z u v w c d e dir : Int} {fe : Int} (hf : fe = 30000 ∨ fe = 60000) (h : acheck_0 3 x y z u v w 17 c d e dir false = 0) : GR (outA x y z u v w c d e dir fe) := by
  refine ⟨?_, rfl, rfl, (by show ¬ (3 : Int) = 14; decide)⟩
  have e1 : cvalid_0 (nrm (ofRow (outA x y z u v w c d e dir fe))) = (bif (!vwithin_0 x y z || !vwithin_0 u v w || false || false || !true) then false else (bif acheck_0 3 x y z u v w 17 c d e dir false != 0 then false else (bif decide (fe < 1) || decide (fe > 60000000) then false else true))) := by kernel_rfl
  have h' := h
  unfold acheck_0 at h'
  obtain ⟨h1, _⟩ := cond_ne (by decide) h'
  simp only [Bool.or_eq_false_iff, Bool.not_eq_false'] at h1
  rw [e1, h, h1.1.1.1.1.2, h1.1.1.1.2]
  rcases hf with rfl | rfl <;> rfl
theorem gr_out {n : Int} (h : cvalid_0 (nrm (ofRow (itO n))) = true) : GR (itO n) := ⟨h, rfl, rfl, (by show ¬ (10 : Int) = 14; decide)⟩
theorem vw_mk {a b c : Int} (ha : bd 1048576 a) (hb : bd 1048576 b) (hc : bd 1048576 c) : vwithin_0 a b c = true := by
  unfold vwithin_0
  simp only [Bool.and_eq_true, decide_eq_true_eq]
  omega
/-- An arc that is not turned back passes the check. -/
theorem acheck_mk {x y z u v w c d e dir : Int} (h1 : vwithin_0 x y z = true) (h2 : vwithin_0 u v w = true) (h3 : vwithin_0 c d e = true) (hd : dir = 1 ∨ dir = -1) (hz : z = e)
    (ha : 64 ≤ (x - c) * (x - c) + (y - d) * (y - d)) (hb : 64 ≤ (u - c) * (u - c) + (v - d) * (v - d)) (hs : similar_0 ((x - c) * (x - c) + (y - d) * (y - d)) ((u - c) * (u - c) + (v - d) * (v - d)) = true)
    (hn : (x - c) * (v - d) - (y - d) * (u - c) = 0 → (x - c) * (u - c) + (y - d) * (v - d) ≤ 0) : acheck_0 3 x y z u v w 17 c d e dir false = 0 := by
  have f := vwithin_bd h1
  have t := vwithin_bd h2
  have g := vwithin_bd h3
  have w0 : ∀ {a : Int}, bd 4000000 a → IntKind.i64.wrap a = a := fun h => wrI (by omega) (by omega)
  have a0 : aspokes_0 x y z 17 c d e = x - c := by show IntKind.i64.wrap (x - c) = _; exact w0 (by omega)
  have a1 : aspokes_1 x y z 17 c d e = y - d := by show IntKind.i64.wrap (y - d) = _; exact w0 (by omega)
  have b0 : aspokes_0 u v w 17 c d e = u - c := by show IntKind.i64.wrap (u - c) = _; exact w0 (by omega)
  have b1 : aspokes_1 u v w 17 c d e = v - d := by show IntKind.i64.wrap (v - d) = _; exact w0 (by omega)
  have hal : aligned_0 (x - c) (y - d) (u - c) (v - d) = false := by
    unfold aligned_0
    rw [vcross_eq (by omega) (by omega) (by omega) (by omega), vinner_eq (by omega) (by omega) (by omega) (by omega)]
    by_cases hc : (x - c) * (v - d) - (y - d) * (u - c) = 0
    · rw [show decide ((x - c) * (u - c) + (y - d) * (v - d) > 0) = false from decide_eq_false (by have := hn hc; omega), Bool.and_false]
    · rw [show ((x - c) * (v - d) - (y - d) * (u - c) == 0) = false from by simpa using hc, Bool.false_and]
  have hz' : (flat_2 17 x y z != flat_2 17 c d e) = false := by show (z != e) = false; rw [hz]; simp
  unfold acheck_0
  rw [h1, h2, h3, hz', a0, a1, b0, b1, vinner_eq (by omega) (by omega) (by omega) (by omega), vinner_eq (by omega) (by omega) (by omega) (by omega), hs, hal,
    show decide ((x - c) * (x - c) + (y - d) * (y - d) < 64) = false from decide_eq_false (by omega), show decide ((u - c) * (u - c) + (v - d) * (v - d) < 64) = false from decide_eq_false (by omega)]
  rcases hd with rfl | rfl <;> rfl
/-- Two radii that are nearly the same. -/
theorem similar_mk {a b k : Int} (hk : 1 ≤ k ∧ k ≤ 32768) (ha1 : (k - 1) * (k - 1) ≤ a) (ha2 : a ≤ (k + 1) * (k + 1)) (hb1 : (k - 1) * (k - 1) ≤ b) (hb2 : b ≤ (k + 1) * (k + 1)) : similar_0 a b = true := by
  have q1 := mul_bd (m := 32769) (n := 32769) (x := k + 1) (y := k + 1) (by omega) (by omega) (by omega) (by omega)
  have q0 := sq_nn1 (k - 1)
  have e4 : (k + 1) * (k + 1) = (k - 1) * (k - 1) + 4 * k := by grind
  have main : ∀ {p q : Int}, (k - 1) * (k - 1) ≤ q → q ≤ p → p ≤ (k + 1) * (k + 1) → p - q - 16 ≤ 0 ∨ (p - q - 16) * (p - q - 16) ≤ 64 * q := fun {p q} h1 h2 h3 => by
    by_cases h : p - q - 16 ≤ 0
    · exact .inl h
    · refine .inr ?_
      have h5 : p - q - 16 ≤ 8 * (k - 1) := by omega
      have h6 := Int.mul_le_mul h5 h5 (by omega) (by omega)
      have e8 : 8 * (k - 1) * (8 * (k - 1)) = 64 * ((k - 1) * (k - 1)) := by grind
      omega
  have w : ∀ {x : Int}, bd 4611686018427387904 x → IntKind.i64.wrap x = x := fun h => wrI (by omega) (by omega)
  have fin : ∀ {p q : Int}, (if b > a then b else a) = p → (if b < a then b else a) = q → (k - 1) * (k - 1) ≤ q → q ≤ p → p ≤ (k + 1) * (k + 1) → similar_0 a b = true := fun {p q} e1 e2 h1 h2 h3 => by
    unfold similar_0 similar_s1 similar_s0
    rw [e1, e2, w (x := p - q) (by omega), w (x := p - q - 16) (by omega)]
    rcases main h1 h2 h3 with h | h
    · rw [show decide (p - q - 16 ≤ 0) = true from decide_eq_true h]; rfl
    · have := wcmp_eq (p - q - 16) (p - q - 16) 64 q ⟨by omega, by omega⟩ ⟨by omega, by omega⟩ ⟨by omega, by omega⟩ ⟨by omega, by omega⟩
      rw [this, cmpI_le, show decide ((p - q - 16) * (p - q - 16) ≤ 64 * q) = true from decide_eq_true h, Bool.or_true]
  by_cases hab : b > a
  · exact fin (if_pos hab) (if_neg (by omega)) ha1 (by omega) hb2
  · by_cases hba : b < a
    · exact fin (if_neg hab) (if_pos hba) hb1 (by omega) ha2
    · exact fin (if_neg hab) (if_neg hba) ha1 (by omega) ha2
end Go.Proofs.Ytmbfbhimdkjkoaa
namespace Go.Proofs.Ytmbfbhimdkjkoaa
open Go.SX Go.RowKit
noncomputable def nm (l : List (List Int)) : List (List Int) := l.filter fun r => !isM r
theorem nm_app (a b : List (List Int)) : nm (a ++ b) = nm a ++ nm b := List.filter_append ..
/-- The element that is not settled: where it begins, and its heights. -/
inductive EleC (sd ra q0 q1 : Int) : List Int → Int → Int → Int → Int → Prop where
  | line (x y z w fe : Int) : LineOk x y q0 q1 → (bd 1048576 z ∧ bd 1048576 w ∧ (fe = 30000 ∨ fe = 60000)) → EleC sd ra q0 q1 (itL x y z q0 q1 w fe sd ra) x y z w
  | arc (x y z w c d e dir : Int) : ArcOk x y q0 q1 c d dir → (bd 1048576 z ∧ bd 1048576 w) → EleC sd ra q0 q1 (itA x y z q0 q1 w c d e dir 60000 sd ra) x y z w
/-- An offset's ends: points beside the element's ends. -/
structure EndsC (l x : List GC) (R p0 p1 q0 q1 : Int) : Prop where
  n : ∃ t0 t1, (t0 ≠ 0 ∨ t1 ≠ 0) ∧ bd 4194304 t0 ∧ bd 4194304 t1 ∧ n0 l x = p0 + wOver_0 (-t1) R (t0 * t0 + t1 * t1) 2 ∧ n1 l x = p1 + wOver_0 t0 R (t0 * t0 + t1 * t1) 2 ∧ 1 ≤ t0 * t0 + t1 * t1 ∧ t0 * t0 + t1 * t1 ≤ 35184372088832
  f : ∃ t0 t1, (t0 ≠ 0 ∨ t1 ≠ 0) ∧ bd 4194304 t0 ∧ bd 4194304 t1 ∧ f0 l x = q0 + wOver_0 (-t1) R (t0 * t0 + t1 * t1) 2 ∧ f1 l x = q1 + wOver_0 t0 R (t0 * t0 + t1 * t1) 2 ∧ 1 ≤ t0 * t0 + t1 * t1 ∧ t0 * t0 + t1 * t1 ≤ 35184372088832
  bn0 : bd 1048576 (n0 l x)
  bn1 : bd 1048576 (n1 l x)
  bf0 : bd 1048576 (f0 l x)
  bf1 : bd 1048576 (f1 l x)
theorem ends_mk {l x : List GC} {R p0 p1 q0 q1 t0 t1 t2 t3 : Int} (bR : bd 32768 R) (h0 : t0 ≠ 0 ∨ t1 ≠ 0) (b0 : bd 4194304 t0) (b1 : bd 4194304 t1) (h2 : t2 ≠ 0 ∨ t3 ≠ 0) (b2 : bd 4194304 t2) (b3 : bd 4194304 t3) (bp0 : bd 1048576 p0) (bp1 : bd 1048576 p1) (bq0 : bd 1048576 q0) (bq1 : bd 1048576 q1)
    (e0 : n0 l x = onormal_0 p0 p1 t0 t1 R) (e1 : n1 l x = onormal_1 p0 p1 t0 t1 R) (e2 : f0 l x = onormal_0 q0 q1 t2 t3 R) (e3 : f1 l x = onormal_1 q0 q1 t2 t3 R)
    (i0 : oin_0 (onormal_0 p0 p1 t0 t1 R) 1048576 = true) (i1 : oin_0 (onormal_1 p0 p1 t0 t1 R) 1048576 = true) (i2 : oin_0 (onormal_0 q0 q1 t2 t3 R) 1048576 = true) (i3 : oin_0 (onormal_1 q0 q1 t2 t3 R) 1048576 = true) : EndsC l x R p0 p1 q0 q1 := by
  obtain ⟨a, b, _, _, _, c, d⟩ := normal_val (r := R) h0 b0 b1 bp0 bp1 bR
  obtain ⟨a', b', _, _, _, c', d'⟩ := normal_val (r := R) h2 b2 b3 bq0 bq1 bR
  have q : ∀ {y : Int}, oin_0 y 1048576 = true → bd 1048576 y := fun h => (oin_bd (by omega) (by omega)).1 h
  exact ⟨⟨t0, t1, h0, b0, b1, by rw [e0, a], by rw [e1, b], c, d⟩, ⟨t2, t3, h2, b2, b3, by rw [e2, a'], by rw [e3, b'], c', d'⟩, by rw [e0]; exact q i0, by rw [e1]; exact q i1, by rw [e2]; exact q i2, by rw [e3]; exact q i3⟩
theorem eleC_ends {sd ra q0 q1 x y z w R : Int} {r : List Int} {l : List GC} (h8 : xi l 8 = 17) (hR : IntKind.i64.wrap (xi l 16 * xi l 17) = R) (bR : bd 32768 R) (h : EleC sd ra q0 q1 r x y z w) (hE : nE l (ofRow r) = 0) : EndsC l (ofRow r) R x y q0 q1 := by
  cases h with
  | line _ _ _ _ fe hk hz =>
    obtain ⟨e4, e0, e1, e2, e3⟩ := nE_line l h8 x y z q0 q1 w fe sd ra
    obtain ⟨ha, hb, hc, hd, ne⟩ := hk
    rw [hR] at e0 e1 e2 e3 e4
    rw [e4] at hE
    obtain ⟨o0, o1, o2, o3, i0, i1, i2, i3⟩ := ends_ok _ _ _ _ _ _ _ _ hE
    obtain ⟨s0, s1, s2, s3⟩ := line_ends (r := R) ha hb hc hd
    rw [s0] at o0 i0
    rw [s1] at o1 i1
    rw [s2] at o2 i2
    rw [s3] at o3 i3
    exact ends_mk bR (by omega) (by omega) (by omega) (by omega) (by omega) (by omega) ha hb hc hd (by rw [e0, o0]) (by rw [e1, o1]) (by rw [e2, o2]) (by rw [e3, o3]) i0 i1 i2 i3
  | arc _ _ _ _ c d e dir hk hz =>
    obtain ⟨e4, e0, e1, e2, e3⟩ := nE_arc l h8 x y z q0 q1 w c d e dir 60000 sd ra
    obtain ⟨hx, hy, hu, hv, hc, hd, hdir, hs, ht, ne⟩ := hk
    rw [hR] at e0 e1 e2 e3 e4
    rw [e4] at hE
    obtain ⟨o0, o1, o2, o3, i0, i1, i2, i3⟩ := ends_ok _ _ _ _ _ _ _ _ hE
    obtain ⟨s0, s1, s2, s3⟩ := arc_ends (r := R) hdir hx hy hu hv hc hd
    rw [s0] at o0 i0
    rw [s1] at o1 i1
    rw [s2] at o2 i2
    rw [s3] at o3 i3
    have n1 := nz_of hs
    have n2 := nz_of ht
    exact ends_mk bR (by rcases hdir with rfl | rfl <;> omega) (by rcases hdir with rfl | rfl <;> omega) (by rcases hdir with rfl | rfl <;> omega) (by rcases hdir with rfl | rfl <;> omega) (by rcases hdir with rfl | rfl <;> omega) (by rcases hdir with rfl | rfl <;> omega) hx hy hu hv (by rw [e0, o0]) (by rw [e1, o1]) (by rw [e2, o2]) (by rw [e3, o3]) i0 i1 i2 i3
theorem skip_err {a b : Int} (h : (bif a != 0 then a else b) = 0) : (a != 0) = false ∧ b = 0 := by
  cases ha : (a != 0)
  · rw [ha] at h; exact ⟨rfl, h⟩
  · rw [ha] at h
    have : a = 0 := h
    rw [this] at ha; cases ha
theorem trim_bd {e0 e1 e2 e3 e4 e5 e6 : Int} {e7 : Bool} {f0 f1 f2 f3 f4 f5 f6 : Int} {f7 : Bool} {r : Int} (h : trim_2 e0 e1 e2 e3 e4 e5 e6 e7 f0 f1 f2 f3 f4 f5 f6 f7 r = 0) :
    bd 1048576 (trim_0 e0 e1 e2 e3 e4 e5 e6 e7 f0 f1 f2 f3 f4 f5 f6 f7 r) ∧ bd 1048576 (trim_1 e0 e1 e2 e3 e4 e5 e6 e7 f0 f1 f2 f3 f4 f5 f6 f7 r) := by
  unfold trim_2 at h
  obtain ⟨h1, h⟩ := skip_err h
  obtain ⟨h2, h⟩ := skip_err h
  obtain ⟨h3, h⟩ := cond_ne (by decide) h
  obtain ⟨h4, h⟩ := cond_ne (by decide) h
  obtain ⟨h5, _⟩ := cond_ne (by decide) h
  unfold trim_0 trim_1
  rw [h1, h2, h3, h4, h5]
  simp only [Bool.or_eq_false_iff, Bool.not_eq_false'] at h4
  exact ⟨(oin_bd (by omega) (by omega)).1 h4.1, (oin_bd (by omega) (by omega)).1 h4.2⟩
theorem trim_in {l y x : List GC} (h : trE l y x = 0) : bd 1048576 (tr0 l y x) ∧ bd 1048576 (tr1 l y x) := trim_bd h
/-- The last element's offset. -/
theorem shiftC {sd ra q0 q1 x y z w : Int} {r : List Int} (s : St) (h8 : xi s.l 8 = 17) (hy : s.y = ofRow r) (he : EleC sd ra q0 q1 r x y z w) (u v : Int) (tm : Bool) (ba : bd 1048576 s.a0) (bb : bd 1048576 s.a1) (bu : bd 1048576 u) (bv : bd 1048576 v) (hS : shE u v tm s = 0) :
    Ch (some (s.a0, s.a1, z)) (shO u v tm s) (some (u, v, w)) ∧ nm (shO u v tm s) = [] := by
  unfold shE shift_0 at hS
  unfold shO shift_47
  have e8 : xi (nrm s.l) 8 = 17 := by rw [nx8]; exact h8
  cases he with
  | line _ _ _ _ fe hk hz =>
    have e2 : (xi (nrm s.y) 0 == 2) = true := by rw [hy]; kernel_rfl
    rw [e2, cond_true] at hS ⊢
    rw [cond_16 hS, cond_false, hy, nrm_of, nrm_of, e8, line46_L (nrm (nrm s.l)) (by rw [nx8]; exact e8)]
    have z0 : flat_2 17 (xi (ofRow (itL x y z q0 q1 w fe sd ra)) 2) (xi (ofRow (itL x y z q0 q1 w fe sd ra)) 3) (xi (ofRow (itL x y z q0 q1 w fe sd ra)) 4) = z := by kernel_rfl
    have z1 : flat_2 17 (xi (ofRow (itL x y z q0 q1 w fe sd ra)) 5) (xi (ofRow (itL x y z q0 q1 w fe sd ra)) 6) (xi (ofRow (itL x y z q0 q1 w fe sd ra)) 7) = w := by kernel_rfl
    rw [z0, z1, Bool.false_or]
    cases hc : (s.a0 == u && (s.a1 == v && z == w))
    · exact ⟨.one rfl (gr_line hz.2.2 (vw_mk ba bb hz.1) (vw_mk bu bv hz.2.1)) rfl rfl, rfl⟩
    · simp only [Bool.and_eq_true, beq_iff_eq] at hc
      rw [hc.1, hc.2.1, hc.2.2]
      exact ⟨.nil _, rfl⟩
  | arc _ _ _ _ c d e dir hk hz =>
    have e2 : (xi (nrm s.y) 0 == 2) = false := by rw [hy]; kernel_rfl
    rw [e2, cond_false] at hS ⊢
    obtain ⟨h1, h2⟩ := cond_ne (by decide) hS
    have h3 := cond_16 h2
    unfold shift_s1
    rw [h1, cond_false, h3, cond_false]
    have ha := bne_eq_false_iff_eq.1 h3
    rw [e8, hy] at ha
    have ha' : acheck_0 3 s.a0 s.a1 z u v w 17 c d e dir (false && !tm && !s.tr) = 0 := ha
    rw [Bool.false_and, Bool.false_and] at ha'
    have hrow : ∀ b : Bool, b = false → ([[xi (ofRow (itA x y z q0 q1 w c d e dir 60000 sd ra)) 0, 0, s.a0, s.a1, z, u, v, w, 17, c, d, e, dir, bif b then 1 else 0, 60000, 0, 0, 0, 0, 0, 0, 0]] : List (List Int)) = [outA s.a0 s.a1 z u v w c d e dir 60000] := fun b h => by rw [h]; rfl
    have e3 : (false && !tm && !s.tr) = false := by rw [Bool.false_and, Bool.false_and]
    have key := hrow (false && !tm && !s.tr) e3
    rw [e8, hy]
    have goalEq : ([] ++ [[xi (ofRow (itA x y z q0 q1 w c d e dir 60000 sd ra)) 0, 0, s.a0, s.a1, z, u, v, w, 17, c, d, e, dir, bif (false && !tm && !s.tr) then 1 else 0, 60000, 0, 0, 0, 0, 0, 0, 0]] : List (List Int)) = [outA s.a0 s.a1 z u v w c d e dir 60000] := key
    have fin : Ch (some (s.a0, s.a1, z)) ([] ++ [[xi (ofRow (itA x y z q0 q1 w c d e dir 60000 sd ra)) 0, 0, s.a0, s.a1, z, u, v, w, 17, c, d, e, dir, bif (false && !tm && !s.tr) then 1 else 0, 60000, 0, 0, 0, 0, 0, 0, 0]]) (some (u, v, w)) ∧ nm ([] ++ [[xi (ofRow (itA x y z q0 q1 w c d e dir 60000 sd ra)) 0, 0, s.a0, s.a1, z, u, v, w, 17, c, d, e, dir, bif (false && !tm && !s.tr) then 1 else 0, 60000, 0, 0, 0, 0, 0, 0, 0]]) = [] := by
      rw [goalEq]
      exact ⟨.one rfl (gr_arc (.inr rfl) ha') rfl rfl, rfl⟩
    exact fin
/-- Heights of what is carried. -/
inductive Hc : Int → List (List Int) → Int → Prop where
  | nil (h : Int) : Hc h [] h
  | out {h h' : Int} {n : Int} {C : List (List Int)} : cvalid_0 (nrm (ofRow (itO n))) = true → Hc h C h' → Hc h (itO n :: C) h'
  | line {z w fe p0 p1 sd ra h' : Int} {C : List (List Int)} : bd 1048576 z → bd 1048576 w → (fe = 30000 ∨ fe = 60000) → Hc w C h' → Hc z (itL p0 p1 z p0 p1 w fe sd ra :: C) h'
theorem Hc.append : ∀ {h C k D t}, Hc h C k → Hc k D t → Hc h (C ++ D) t
  | _, _, _, _, _, .nil _, h => h
  | _, _, _, _, _, .out h1 h2, h => .out h1 (Hc.append h2 h)
  | _, _, _, _, _, .line h1 h2 h3 h4, h => .line h1 h2 h3 (Hc.append h4 h)
theorem relC {l : List GC} (h8 : xi l 8 = 17) {q0 q1 : Int} (b0 : bd 1048576 q0) (b1 : bd 1048576 q1) : ∀ {h : Int} {C : List (List Int)} {h' : Int} (O : List (List Int)), Hc h C h' → ∃ P, relL l q0 q1 O C = O ++ P ∧ Ch (some (q0, q1, h)) P (some (q0, q1, h')) ∧ nm P = nm C
  | _, _, _, O, .nil h => ⟨[], (List.append_nil _).symm, .nil _, rfl⟩
  | h, _, h', O, .out (n := n) (C := C) hv hc => by
    obtain ⟨P, h1, h2, h3⟩ := relC h8 b0 b1 (relS l q0 q1 O (itO n)) hc
    have e : relS l q0 q1 O (itO n) = O ++ [itO n] := by kernel_rfl
    refine ⟨itO n :: P, ?_, .skip (by kernel_rfl) (gr_out hv) h2, ?_⟩
    · show relL l q0 q1 (relS l q0 q1 O (itO n)) C = _
      rw [h1, e, List.append_assoc]; rfl
    · have k : isM (itO n) = false := by kernel_rfl
      unfold nm at h3 ⊢
      rw [List.filter_cons, List.filter_cons, k, h3]
  | z, _, h', O, .line (w := w) (fe := fe) (p0 := p0) (p1 := p1) (sd := sd) (ra := ra) (C := C) bz bw hf hc => by
    obtain ⟨P, h1, h2, h3⟩ := relC h8 b0 b1 (relS l q0 q1 O (itL p0 p1 z p0 p1 w fe sd ra)) hc
    have e : relS l q0 q1 O (itL p0 p1 z p0 p1 w fe sd ra) = line_46 (ofRow (itL p0 p1 z p0 p1 w fe sd ra)) q0 q1 (flat_2 (xi l 8) p0 p1 z) (flat_2 (xi l 8) p0 p1 w) false (nrm l) q0 q1 O := by kernel_rfl
    have z0 : ∀ c, flat_2 17 p0 p1 c = c := fun c => by kernel_rfl
    rw [line46_L (nrm l) (by rw [nx8]; exact h8), h8, z0, z0, Bool.false_or] at e
    have k : isM (itL p0 p1 z p0 p1 w fe sd ra) = true := by kernel_rfl
    have kc : nm (itL p0 p1 z p0 p1 w fe sd ra :: C) = nm C := by unfold nm; rw [List.filter_cons, k]; rfl
    show ∃ P, relL l q0 q1 (relS l q0 q1 O (itL p0 p1 z p0 p1 w fe sd ra)) C = O ++ P ∧ _
    rw [e] at h1 ⊢
    cases hq : (q0 == q0 && (q1 == q1 && z == w))
    · rw [hq] at h1
      refine ⟨outL q0 q1 z q0 q1 w fe :: P, ?_, ?_, ?_⟩
      · rw [Bool.not_false, cond_true] at h1 ⊢
        rw [h1, List.append_assoc]; rfl
      · exact (Ch.one rfl (gr_line hf (vw_mk b0 b1 bz) (vw_mk b0 b1 bw)) rfl rfl).append h2
      · rw [kc, ← h3]
        unfold nm
        rw [List.filter_cons, show isM (outL q0 q1 z q0 q1 w fe) = true by kernel_rfl]; rfl
    · rw [hq] at h1
      simp only [Bool.and_eq_true, beq_iff_eq] at hq
      have hzw := hq.2.2
      subst hzw
      exact ⟨P, h1, h2, by rw [kc, h3]⟩
theorem releaseC {l : List GC} (h8 : xi l 8 = 17) {q0 q1 : Int} (b0 : bd 1048576 q0) (b1 : bd 1048576 q1) {h : Int} {C : List (List Int)} {h' : Int} (O : List (List Int)) (hc : Hc h C h') : ∃ P, release_44 (nrm l) q0 q1 C O = O ++ P ∧ Ch (some (q0, q1, h)) P (some (q0, q1, h')) ∧ nm P = nm C := by
  unfold release_44
  exact relC (by rw [nx8, nx8]; exact h8) b0 b1 O hc
end Go.Proofs.Ytmbfbhimdkjkoaa
namespace Go.Proofs.Ytmbfbhimdkjkoaa
open Go.SX Go.RowKit
/-- Both are rounded: the square of the distance. (p, q: the components of the direction; k: the radius.) -/
theorem beside_le {p q k n U W : Int} (hk : 0 ≤ k) (hn : 1 ≤ n) (en : p * p + q * q = n) (hU : 0 ≤ U) (hW : 0 ≤ W) (U1 : 1 ≤ U → (2 * U - 1) * (2 * U - 1) * n ≤ 4 * ((p * k) * (p * k))) (W1 : 1 ≤ W → (2 * W - 1) * (2 * W - 1) * n ≤ 4 * ((q * k) * (q * k))) :
    U * U + W * W ≤ (k + 1) * (k + 1) := by
  have ep : (p * k) * (p * k) = p * p * (k * k) := by grind
  have eq : (q * k) * (q * k) = q * q * (k * k) := by grind
  have n1 := sq_nn1 p
  have n2 := sq_nn1 q
  have n3 := sq_nn1 k
  have el : (k + 1) * (k + 1) = k * k + 2 * k + 1 := by grind
  -- divided by n
  have dv : ∀ {x y : Int}, x * n ≤ y * n → x ≤ y := fun {x y} h => by
    rcases Int.lt_or_le y x with g | g
    · have := Int.mul_lt_mul_of_pos_right g (show 0 < n by omega); omega
    · exact g
  have one : ∀ {V s : Int}, 1 ≤ V → 0 ≤ s → s ≤ n → (2 * V - 1) * (2 * V - 1) * n ≤ 4 * (s * (k * k)) → V ≤ k := fun {V s} h1 h2 h3 h4 => by
    have a1 := Int.mul_le_mul_of_nonneg_right h3 n3
    have a2 : 4 * (n * (k * k)) = 4 * (k * k) * n := by grind
    have a3 := dv (x := (2 * V - 1) * (2 * V - 1)) (y := 4 * (k * k)) (by omega)
    rcases Int.lt_or_le k V with g | g
    · have := Int.mul_le_mul (show 2 * k + 1 ≤ 2 * V - 1 by omega) (show 2 * k + 1 ≤ 2 * V - 1 by omega) (by omega) (by omega)
      have e : (2 * k + 1) * (2 * k + 1) = 4 * (k * k) + 4 * k + 1 := by grind
      omega
    · exact g
  by_cases u0 : U = 0
  · subst u0
    by_cases w0 : W = 0
    · subst w0; omega
    · have h1 := W1 (by omega)
      rw [eq] at h1
      have h2 := one (by omega) n2 (by omega) h1
      have := Int.mul_le_mul h2 h2 hW hk
      omega
  · by_cases w0 : W = 0
    · subst w0
      have h1 := U1 (by omega)
      rw [ep] at h1
      have h2 := one (by omega) n1 (by omega) h1
      have := Int.mul_le_mul h2 h2 hU hk
      omega
    · have h1 := U1 (by omega)
      have h2 := W1 (by omega)
      rw [ep] at h1
      rw [eq] at h2
      have a1 : ((2 * U - 1) * (2 * U - 1) + (2 * W - 1) * (2 * W - 1)) * n ≤ 4 * (k * k) * n := by
        have e1 : ((2 * U - 1) * (2 * U - 1) + (2 * W - 1) * (2 * W - 1)) * n = (2 * U - 1) * (2 * U - 1) * n + (2 * W - 1) * (2 * W - 1) * n := Int.add_mul _ _ _
        have e2 : 4 * (k * k) * n = 4 * (p * p * (k * k)) + 4 * (q * q * (k * k)) := by rw [← en]; grind
        omega
      have a2 := dv a1
      generalize hX : 2 * U - 1 = X at *
      generalize hY : 2 * W - 1 = Y at *
      have a3 : X + Y ≤ 3 * k := by
        rcases Int.lt_or_le (3 * k) (X + Y) with g | g
        · have b1 := Int.mul_self_lt_mul_self (show 0 ≤ 3 * k by omega) g
          have b2 := sq_nn1 (X - Y)
          have b3 : (X + Y) * (X + Y) + (X - Y) * (X - Y) = 2 * (X * X + Y * Y) := by grind
          have b4 : 3 * k * (3 * k) = 9 * (k * k) := by grind
          omega
        · exact g
      have a4 : 4 * (U * U + W * W) = (X * X + Y * Y) + 2 * (X + Y) + 2 := by rw [← hX, ← hY]; grind
      omega
theorem beside_ge {p q k n U W : Int} (hk : 1 ≤ k) (hn : 1 ≤ n) (en : p * p + q * q = n) (hU : 0 ≤ U) (hW : 0 ≤ W) (U2 : 4 * ((p * k) * (p * k)) ≤ (2 * U + 1) * (2 * U + 1) * n) (W2 : 4 * ((q * k) * (q * k)) ≤ (2 * W + 1) * (2 * W + 1) * n) :
    (k - 1) * (k - 1) ≤ U * U + W * W ∧ 4 * (k * k) ≤ (2 * U + 1) * (2 * U + 1) + (2 * W + 1) * (2 * W + 1) := by
  have ep : (p * k) * (p * k) = p * p * (k * k) := by grind
  have eq : (q * k) * (q * k) = q * q * (k * k) := by grind
  have dv : ∀ {x y : Int}, x * n ≤ y * n → x ≤ y := fun {x y} h => by
    rcases Int.lt_or_le y x with g | g
    · have := Int.mul_lt_mul_of_pos_right g (show 0 < n by omega); omega
    · exact g
  have a1 : 4 * (k * k) * n ≤ ((2 * U + 1) * (2 * U + 1) + (2 * W + 1) * (2 * W + 1)) * n := by
    have e1 : ((2 * U + 1) * (2 * U + 1) + (2 * W + 1) * (2 * W + 1)) * n = (2 * U + 1) * (2 * U + 1) * n + (2 * W + 1) * (2 * W + 1) * n := Int.add_mul _ _ _
    have e2 : 4 * (k * k) * n = 4 * (p * p * (k * k)) + 4 * (q * q * (k * k)) := by rw [← en]; grind
    rw [ep] at U2
    rw [eq] at W2
    omega
  have a2 := dv a1
  refine ⟨?_, a2⟩
  rcases Int.lt_or_le (U * U + W * W) ((k - 1) * (k - 1)) with g | g
  · exfalso
    have e1 : (2 * U + 1) * (2 * U + 1) + (2 * W + 1) * (2 * W + 1) = 4 * (U * U + W * W) + 4 * (U + W) + 2 := by grind
    have e2 : (k - 1) * (k - 1) = k * k - 2 * k + 1 := by grind
    have a3 : 2 * (U + W) ≤ 3 * (k - 1) := by
      rcases Int.lt_or_le (3 * (k - 1)) (2 * (U + W)) with g2 | g2
      · have b1 := Int.mul_self_lt_mul_self (show 0 ≤ 3 * (k - 1) by omega) g2
        have b2 := sq_nn1 (U - W)
        have b3 : (2 * (U + W)) * (2 * (U + W)) + 4 * ((U - W) * (U - W)) = 8 * (U * U + W * W) := by grind
        have b4 : 3 * (k - 1) * (3 * (k - 1)) = 9 * ((k - 1) * (k - 1)) := by grind
        have b5 := sq_nn1 (k - 1)
        omega
      · exact g2
    omega
  · exact g
theorem sgA {x r v V : Int} (hr : 0 < r) (h1 : 0 ≤ x * r → v = V) (h2 : x * r < 0 → v = -V) : (0 ≤ x ∧ v = V) ∨ (x < 0 ∧ v = -V) := by
  rcases Int.lt_or_le x 0 with h | h
  · exact .inr ⟨h, h2 (Int.mul_neg_of_neg_of_pos h hr)⟩
  · exact .inl ⟨h, h1 (Int.mul_nonneg h (Int.le_of_lt hr))⟩
theorem sgB {x r v V : Int} (hr : r < 0) (h1 : 0 ≤ x * r → v = V) (h2 : x * r < 0 → v = -V) : (x ≤ 0 ∧ v = V) ∨ (0 < x ∧ v = -V) := by
  rcases Int.lt_or_le 0 x with h | h
  · exact .inr ⟨h, h2 (Int.mul_neg_of_pos_of_neg h hr)⟩
  · refine .inl ⟨h, h1 ?_⟩
    have := Int.mul_nonneg (show 0 ≤ -x by omega) (show 0 ≤ -r by omega)
    rw [Int.neg_mul_neg] at this; exact this
theorem sg_fin1 {p q U W t0 t1 u w : Int} (A : (t1 = -p ∧ u = U) ∨ (t1 = p ∧ u = -U)) (B : (t0 = q ∧ w = W) ∨ (t0 = -q ∧ w = -W)) : t0 * w - t1 * u = q * W + p * U ∧ (t0 * u + t1 * w = q * U - p * W ∨ t0 * u + t1 * w = -(q * U - p * W)) := by
  rcases A with ⟨rfl, rfl⟩ | ⟨rfl, rfl⟩ <;> rcases B with ⟨rfl, rfl⟩ | ⟨rfl, rfl⟩ <;> simp only [Int.neg_mul, Int.mul_neg, Int.neg_neg] <;> omega
/-- Signs of the parts. -/
theorem bs_sign {t0 t1 r u w p q U W : Int} (hp : 0 ≤ p) (hq : 0 ≤ q) (p1 : t1 = p ∨ t1 = -p) (q1 : t0 = q ∨ t0 = -q) (hr : r ≠ 0)
    (u1 : 0 ≤ -t1 * r → u = U) (u2 : -t1 * r < 0 → u = -U) (w1 : 0 ≤ t0 * r → w = W) (w2 : t0 * r < 0 → w = -W) :
    ((0 < r → t0 * w - t1 * u = q * W + p * U) ∧ (r < 0 → t0 * w - t1 * u = -(q * W + p * U))) ∧ (t0 * u + t1 * w = q * U - p * W ∨ t0 * u + t1 * w = -(q * U - p * W)) := by
  rcases Int.lt_or_le 0 r with hr1 | hr1
  · have a := sgA hr1 u1 u2
    have b := sgA hr1 w1 w2
    clear u1 u2 w1 w2
    have A : (t1 = -p ∧ u = U) ∨ (t1 = p ∧ u = -U) := by
      rcases a with ⟨h, e⟩ | ⟨h, e⟩
      · exact .inl ⟨by omega, e⟩
      · exact .inr ⟨by omega, e⟩
    have B : (t0 = q ∧ w = W) ∨ (t0 = -q ∧ w = -W) := by
      rcases b with ⟨h, e⟩ | ⟨h, e⟩
      · exact .inl ⟨by omega, e⟩
      · exact .inr ⟨by omega, e⟩
    obtain ⟨x, y⟩ := sg_fin1 A B
    exact ⟨⟨fun _ => x, fun h => absurd h (by omega)⟩, y⟩
  · have hr2 : r < 0 := by omega
    have a := sgB hr2 u1 u2
    have b := sgB hr2 w1 w2
    clear u1 u2 w1 w2
    have A : (t1 = -p ∧ -u = U) ∨ (t1 = p ∧ -u = -U) := by
      rcases a with ⟨h, e⟩ | ⟨h, e⟩
      · exact .inr ⟨by omega, by omega⟩
      · exact .inl ⟨by omega, by omega⟩
    have B : (t0 = q ∧ -w = W) ∨ (t0 = -q ∧ -w = -W) := by
      rcases b with ⟨h, e⟩ | ⟨h, e⟩
      · exact .inr ⟨by omega, by omega⟩
      · exact .inl ⟨by omega, by omega⟩
    obtain ⟨x, y⟩ := sg_fin1 A B
    simp only [Int.mul_neg] at x y
    exact ⟨⟨fun h => absurd h (by omega), fun _ => by omega⟩, by omega⟩
theorem bs_pos {p q k n U W : Int} (hp : 0 ≤ p) (hq : 0 ≤ q) (hU : 0 ≤ U) (hW : 0 ≤ W) (hk : 1 ≤ k) (hn : 1 ≤ n) (en : p * p + q * q = n) (U2 : 4 * ((p * k) * (p * k)) ≤ (2 * U + 1) * (2 * U + 1) * n) (W2 : 4 * ((q * k) * (q * k)) ≤ (2 * W + 1) * (2 * W + 1) * n) : 0 < q * W + p * U := by
  have h1 := Int.mul_nonneg hq hW
  have h2 := Int.mul_nonneg hp hU
  rcases Int.lt_or_le 0 (q * W + p * U) with h | h
  · exact h
  · exfalso
    have hk2 := Int.mul_le_mul hk hk (by omega) (by omega)
    have ep : (p * k) * (p * k) = p * p * (k * k) := by grind
    have eq : (q * k) * (q * k) = q * q * (k * k) := by grind
    have kp := Int.mul_le_mul_of_nonneg_left hk2 (sq_nn1 p)
    have kq := Int.mul_le_mul_of_nonneg_left hk2 (sq_nn1 q)
    rw [ep] at U2
    rw [eq] at W2
    have A : p = 0 ∨ U = 0 := by
      rcases Int.mul_eq_zero.1 (show p * U = 0 by omega) with h | h
      · exact .inl h
      · exact .inr h
    have B : q = 0 ∨ W = 0 := by
      rcases Int.mul_eq_zero.1 (show q * W = 0 by omega) with h | h
      · exact .inl h
      · exact .inr h
    rcases A with rfl | rfl <;> rcases B with rfl | rfl <;> omega
/-- THE PLAIN LAW of a normal. -/
theorem beside_law {t0 t1 r n u w k : Int} (hb0 : bd 4194304 t0) (hb1 : bd 4194304 t1) (hr : bd 32768 r) (en : t0 * t0 + t1 * t1 = n) (hn : 1 ≤ n ∧ n ≤ 4611686018427387904) (eu : wOver_0 (-t1) r n 2 = u) (ew : wOver_0 t0 r n 2 = w) (ek : (if -r > r then -r else r) = k) :
    u * u + w * w ≤ (k + 1) * (k + 1) ∧ (1 ≤ k → (k - 1) * (k - 1) ≤ u * u + w * w) ∧ (1 ≤ r → 0 < t0 * w - t1 * u) ∧ (r ≤ -1 → t0 * w - t1 * u < 0) ∧ (t0 * u + t1 * w) * (t0 * u + t1 * w) ≤ n ∧ 2 * ((t0 * u + t1 * w) * (t0 * u + t1 * w)) ≤ n := by
  obtain ⟨U, U0, u1, u2, U1, U2⟩ := over_abs (a := -t1) (g := r) (N := n) (by omega) (by omega) hn
  obtain ⟨W, W0, w1, w2, W1, W2⟩ := over_abs (a := t0) (g := r) (N := n) (by omega) (by omega) hn
  rw [eu] at u1 u2
  rw [ew] at w1 w2
  obtain ⟨p, hp, hp', pa, pp⟩ := abs_ex t1
  obtain ⟨q, hq, hq', qa, qq⟩ := abs_ex t0
  have hk : 0 ≤ k ∧ (r = k ∨ r = -k) ∧ k * k = r * r := by
    rw [← ek]; split
    · exact ⟨by omega, by omega, Int.neg_mul_neg _ _⟩
    · exact ⟨by omega, by omega, rfl⟩
  obtain ⟨k0, k1, kk⟩ := hk
  have e1 : (-t1 * r) * (-t1 * r) = (p * k) * (p * k) := by
    have a : (-t1 * r) * (-t1 * r) = t1 * t1 * (r * r) := by grind
    have b : (p * k) * (p * k) = p * p * (k * k) := by grind
    rw [a, b, pp, kk]
  have e2 : (t0 * r) * (t0 * r) = (q * k) * (q * k) := by
    have a : (t0 * r) * (t0 * r) = t0 * t0 * (r * r) := by grind
    have b : (q * k) * (q * k) = q * q * (k * k) := by grind
    rw [a, b, qq, kk]
  rw [e1] at U1 U2
  rw [e2] at W1 W2
  have en' : p * p + q * q = n := by rw [pp, qq]; omega
  have uu : u * u = U * U := by
    rcases Int.lt_or_le (-t1 * r) 0 with h | h
    · rw [u2 h, Int.neg_mul_neg]
    · rw [u1 h]
  have ww : w * w = W * W := by
    rcases Int.lt_or_le (t0 * r) 0 with h | h
    · rw [w2 h, Int.neg_mul_neg]
    · rw [w1 h]
  rw [uu, ww]
  have h1 := beside_le k0 hn.1 en' U0 W0 U1 W1
  refine ⟨h1, fun hk1 => (beside_ge hk1 hn.1 en' U0 W0 U2 W2).1, ?_⟩
  have hN : 0 < n := by omega
  have i1 := over_ineq hp hq U0 W0 hN U1 W2
  have i2 := over_ineq hq hp W0 U0 hN W1 U2
  have f1 : q * (2 * U - 1) = 2 * (q * U) - q := by grind
  have f2 : p * (2 * W + 1) = 2 * (p * W) + p := by grind
  have f3 : p * (2 * W - 1) = 2 * (p * W) - p := by grind
  have f4 : q * (2 * U + 1) = 2 * (q * U) + q := by grind
  rw [f1, f2] at i1
  rw [f3, f4] at i2
  have ht : (q + p) * (q + p) ≤ 2 * n := by
    have := sq_nn1 (q - p)
    have e : (q - p) * (q - p) + (q + p) * (q + p) = 2 * n := by rw [← en']; grind
    omega
  have hpos : 1 ≤ k → 0 < q * W + p * U := fun h => bs_pos hp hq U0 W0 h hn.1 en' U2 W2
  by_cases hr0 : r = 0
  · subst hr0
    have hk0 : k = 0 := by omega
    have zero : ∀ {x V : Int}, 0 ≤ V → (1 ≤ V → (2 * V - 1) * (2 * V - 1) * n ≤ 4 * ((x * k) * (x * k))) → V = 0 := fun {x V} h0 h => by
      by_cases hV : 1 ≤ V
      · have := h hV
        rw [hk0, Int.mul_zero] at this
        have := Int.mul_pos (Int.mul_pos (show 0 < 2 * V - 1 by omega) (show 0 < 2 * V - 1 by omega)) hN
        omega
      · omega
    have z1 := zero U0 U1
    have z2 := zero W0 W1
    rw [z1] at uu
    rw [z2] at ww
    have z3 : u = 0 := by rcases Int.mul_eq_zero.1 (show u * u = 0 by omega) with h | h <;> exact h
    have z4 : w = 0 := by rcases Int.mul_eq_zero.1 (show w * w = 0 by omega) with h | h <;> exact h
    rw [z3, z4]
    simp only [Int.mul_zero, Int.add_zero, Int.sub_self]
    exact ⟨by omega, by omega, by omega, by omega⟩
  · have zz : ∀ {x V : Int}, 0 ≤ V → (1 ≤ V → (2 * V - 1) * (2 * V - 1) * n ≤ 4 * ((x * k) * (x * k))) → x = 0 → V = 0 := fun {x V} h0 h hx => by
      by_cases hV : 1 ≤ V
      · have := h hV
        rw [hx, Int.zero_mul] at this
        have := Int.mul_pos (Int.mul_pos (show 0 < 2 * V - 1 by omega) (show 0 < 2 * V - 1 by omega)) hN
        omega
      · omega
    obtain ⟨⟨c1, c2⟩, c3⟩ := bs_sign hp hq hp' hq' hr0 u1 u2 w1 w2
    have hi : (t0 * u + t1 * w) * (t0 * u + t1 * w) = (q * U - p * W) * (q * U - p * W) := by
      rcases c3 with h | h <;> rw [h]
      rw [Int.neg_mul_neg]
    have hii : 4 * ((q * U - p * W) * (q * U - p * W)) ≤ (q + p) * (q + p) := by
      have := mul_bd (m := q + p) (n := q + p) (x := 2 * (q * U - p * W)) (y := 2 * (q * U - p * W)) (by constructor <;> omega) (by constructor <;> omega) (by omega) (by omega)
      have e : 2 * (q * U - p * W) * (2 * (q * U - p * W)) = 4 * ((q * U - p * W) * (q * U - p * W)) := by grind
      omega
    have hsq := sq_nn1 (q * U - p * W)
    rw [hi]
    refine ⟨fun h => ?_, fun h => ?_, by omega, by omega⟩
    · rw [c1 (by omega)]; exact hpos (by omega)
    · rw [c2 (by omega)]
      have := hpos (by omega)
      omega
end Go.Proofs.Ytmbfbhimdkjkoaa
namespace Go.Proofs.Ytmbfbhimdkjkoaa
open Go.SX Go.RowKit
/-- A point at the distance k, nearly. -/
def Ring (k a b : Int) : Prop := bd 32768 a ∧ bd 32768 b ∧ a * a + b * b ≤ (k + 1) * (k + 1) ∧ (1 ≤ k → (k - 1) * (k - 1) ≤ a * a + b * b)
theorem ring_of {t0 t1 R k : Int} (h0 : t0 ≠ 0 ∨ t1 ≠ 0) (b0 : bd 4194304 t0) (b1 : bd 4194304 t1) (hn : 1 ≤ t0 * t0 + t1 * t1 ∧ t0 * t0 + t1 * t1 ≤ 35184372088832) (bR : bd 30000 R) (hk : (if -R > R then -R else R) = k) : Ring k (wOver_0 (-t1) R (t0 * t0 + t1 * t1) 2) (wOver_0 t0 R (t0 * t0 + t1 * t1) 2) := by
  obtain ⟨h1, h2, _⟩ := beside_law (t0 := t0) (t1 := t1) (r := R) (n := t0 * t0 + t1 * t1) (k := k) b0 b1 (by omega) rfl ⟨hn.1, by omega⟩ rfl rfl hk
  have z0 : bd 32768 (wOver_0 (-t1) R (t0 * t0 + t1 * t1) 2) := over_bd (by omega) (by omega) (by omega) (by omega) ⟨hn.1, by omega⟩ (by
    have := sq_nn1 t0
    have e : -t1 * -t1 = t1 * t1 := by grind
    rw [e]; omega)
  have z1 : bd 32768 (wOver_0 t0 R (t0 * t0 + t1 * t1) 2) := over_bd (by omega) (by omega) (by omega) (by omega) ⟨hn.1, by omega⟩ (by have := sq_nn1 t1; omega)
  exact ⟨z0, z1, h1, h2⟩
/-- An item's fields that a corner takes over. -/
structure CornC (x : List GC) (J0 J1 h fe : Int) : Prop where
  a : xi x 2 = J0
  b : xi x 3 = J1
  c : xi x 4 = h
  d : xi x 1 = 0
  e : xi x 14 = fe
  f : xb x 15 = false
theorem eleC_corn {sd ra q0 q1 x y z w : Int} {r : List Int} (h : EleC sd ra q0 q1 r x y z w) : ∃ fe, (fe = 30000 ∨ fe = 60000) ∧ CornC (ofRow r) x y z fe := by
  cases h with
  | line _ _ _ _ fe _ hz => exact ⟨fe, hz.2.2, by kernel_rfl, by kernel_rfl, by kernel_rfl, by kernel_rfl, by kernel_rfl, by kernel_rfl⟩
  | arc _ _ _ _ c d e dir _ _ => exact ⟨60000, .inr rfl, by kernel_rfl, by kernel_rfl, by kernel_rfl, by kernel_rfl, by kernel_rfl, by kernel_rfl⟩
theorem jcond {ou a b c d : Bool} {l : List GC} (h : (ou && (a || b) && c && d) = true) : ou = true ∧ (a = true ∨ b = true) ∧ c = true ∧ d = true := by
  cases ou <;> cases a <;> cases b <;> cases c <;> cases d <;> simp_all
theorem joinC {x l : List GC} {sd k J0 J1 h fe F0 F1 N0 N1 : Int} {ou : Bool} (h8 : xi l 8 = 17) (h16 : xi l 16 = sd) (hs : sd = 1 ∨ sd = -1) (hx : CornC x J0 J1 h fe) (hf : fe = 30000 ∨ fe = 60000) (hk : ou = true → 1 ≤ k ∧ k ≤ 32000)
    (bJ0 : bd 1048576 J0) (bJ1 : bd 1048576 J1) (bh : bd 1048576 h) (bF0 : bd 1048576 F0) (bF1 : bd 1048576 F1) (bN0 : bd 1048576 N0) (bN1 : bd 1048576 N1) (rF : Ring k (F0 - J0) (F1 - J1)) (rN : Ring k (N0 - J0) (N1 - J1)) (O : List (List Int)) :
    ∃ P, join_46 x N0 N1 ou l F0 F1 O = O ++ P ∧ Ch (some (F0, F1, h)) P (some (N0, N1, h)) ∧ nm P = [] := by
  obtain ⟨ha, hb, hc, hd, he, hf'⟩ := hx
  have w0 : ∀ {a : Int}, bd 4000000 a → IntKind.i64.wrap a = a := fun h => wrI (by omega) (by omega)
  have z0 : flat_0 (xi l 8) (xi x 2) (xi x 3) (xi x 4) = J0 := by rw [h8]; exact ha
  have z1 : flat_1 (xi l 8) (xi x 2) (xi x 3) (xi x 4) = J1 := by rw [h8]; exact hb
  have z2 : flat_2 (xi l 8) (xi x 2) (xi x 3) (xi x 4) = h := by rw [h8]; exact hc
  have s0 : join_s0 x l F0 = F0 - J0 := by
    unfold join_s0
    rw [z0]; exact w0 (by omega)
  have s1 : join_s1 x l F1 = F1 - J1 := by
    unfold join_s1
    rw [z1]; exact w0 (by omega)
  have s2 : join_s2 x N0 l = N0 - J0 := by
    unfold join_s2
    rw [z0]; exact w0 (by omega)
  have s3 : join_s3 x N1 l = N1 - J1 := by
    unfold join_s3
    rw [z1]; exact w0 (by omega)
  have hneg : IntKind.i64.wrap (0 - sd) = -sd := by rw [w0 (by omega)]; omega
  have vF := vinner_eq (a := F0 - J0) (b := F1 - J1) (c := F0 - J0) (d := F1 - J1) (by omega) (by omega) (by omega) (by omega)
  have vN := vinner_eq (a := N0 - J0) (b := N1 - J1) (c := N0 - J0) (d := N1 - J1) (by omega) (by omega) (by omega) (by omega)
  have vI := vinner_eq (a := F0 - J0) (b := F1 - J1) (c := N0 - J0) (d := N1 - J1) (by omega) (by omega) (by omega) (by omega)
  unfold join_46
  rw [s0, s1, s2, s3, vF, vN, vI, z0, z1, z2, hd, he, hf', h16, hneg, h8]
  cases hC : (ou && (decide (join_s4 x N0 N1 l F0 F1 > 0) || join_s4 x N0 N1 l F0 F1 == 0 && decide ((F0 - J0) * (N0 - J0) + (F1 - J1) * (N1 - J1) < 0)) && decide ((F0 - J0) * (F0 - J0) + (F1 - J1) * (F1 - J1) ≥ 64) && decide ((N0 - J0) * (N0 - J0) + (N1 - J1) * (N1 - J1) ≥ 64))
  · rw [cond_false]
    have e : ∀ y : List GC, xi y 0 = 2 → xi y 1 = 0 → xi y 9 = 0 → xi y 10 = 0 → xi y 11 = 0 → xi y 12 = 0 → xb y 13 = false → xi y 14 = fe → xb y 15 = false → xi y 18 = 0 → xi y 19 = 0 → xi y 20 = 0 → xb y 21 = false →
        line_46 y N0 N1 h h false (nrm l) F0 F1 O = bif !(F0 == N0 && (F1 == N1 && h == h)) then O ++ [outL F0 F1 h N0 N1 h fe] else O := by
      intro y y0 y1 y9 y10 y11 y12 y13 y14 y15 y18 y19 y20 y21
      unfold line_46
      rw [nx8, h8, y0, y1, y9, y10, y11, y12, y13, y14, y15, y18, y19, y20, y21]
      kernel_rfl
    rw [e _ rfl rfl rfl rfl rfl rfl rfl rfl rfl rfl rfl rfl rfl]
    cases hq : (F0 == N0 && (F1 == N1 && h == h))
    · exact ⟨[outL F0 F1 h N0 N1 h fe], rfl, .one rfl (gr_line hf (vw_mk bF0 bF1 bh) (vw_mk bN0 bN1 bh)) rfl rfl, rfl⟩
    · simp only [Bool.and_eq_true, beq_iff_eq] at hq
      rw [hq.1, hq.2.1]
      exact ⟨[], (List.append_nil _).symm, .nil _, rfl⟩
  · rw [cond_true]
    obtain ⟨h1, h2, h3, h4⟩ := jcond (l := l) hC
    have h3' : 64 ≤ (F0 - J0) * (F0 - J0) + (F1 - J1) * (F1 - J1) := of_decide_eq_true h3
    have h4' : 64 ≤ (N0 - J0) * (N0 - J0) + (N1 - J1) * (N1 - J1) := of_decide_eq_true h4
    obtain ⟨hk1, hk2⟩ := hk h1
    obtain ⟨rf0, rf1, rf2, rf3⟩ := rF
    obtain ⟨rn0, rn1, rn2, rn3⟩ := rN
    have hsim := similar_mk (k := k) ⟨hk1, by omega⟩ (rf3 hk1) rf2 (rn3 hk1) rn2
    have q1 := mul_bd rf0 rn1 (by omega) (by omega)
    have q2 := mul_bd rf1 rn0 (by omega) (by omega)
    have hs4 : join_s4 x N0 N1 l F0 F1 = ((F0 - J0) * (N1 - J1) - (F1 - J1) * (N0 - J0)) * -sd := by
      unfold join_s4
      rw [s0, s1, s2, s3, h16, hneg, vcross_eq (by omega) (by omega) (by omega) (by omega)]
      rcases hs with rfl | rfl <;> exact wrI (by omega) (by omega)
    have hal : (F0 - J0) * (N1 - J1) - (F1 - J1) * (N0 - J0) = 0 → (F0 - J0) * (N0 - J0) + (F1 - J1) * (N1 - J1) ≤ 0 := fun hz => by
      rw [hs4, hz, Int.zero_mul] at h2
      rcases h2 with h2 | h2
      · exact absurd (of_decide_eq_true h2) (by decide)
      · simp only [Bool.and_eq_true, decide_eq_true_eq] at h2
        omega
    have hac := acheck_mk (x := F0) (y := F1) (z := h) (u := N0) (v := N1) (w := h) (c := J0) (d := J1) (e := h) (dir := -sd) (vw_mk bF0 bF1 bh) (vw_mk bN0 bN1 bh) (vw_mk bJ0 bJ1 bh) (by rcases hs with rfl | rfl <;> omega) rfl h3' h4' hsim hal
    exact ⟨[outA F0 F1 h N0 N1 h J0 J1 h (-sd) fe], rfl, .one rfl (gr_arc hf hac) rfl rfl, rfl⟩
end Go.Proofs.Ytmbfbhimdkjkoaa
namespace Go.Proofs.Ytmbfbhimdkjkoaa
open Go.SX Go.RowKit
/-- The list that was settled, the filter, and what it was given behind the lead-in. -/
structure IC (lead : List Int) (sd ra : Int) (s : St) (R D : List (List Int)) : Prop where
  er : s.er = 0
  cl : s.cl = false
  op : s.op = true
  mo : s.mo = true
  l : s.l = ofRow lead
  ld : ∃ x y z u v, lead = itL x y z u v z 60000 sd ra ∧ bd 1048576 x ∧ bd 1048576 y ∧ bd 1048576 z
  y : nrm s.y = s.y
  n : nm R ++ nm s.C = nm D
  p : (s.y = zeroG ∧ R = [] ∧ ∃ x y z, lead = itL x y z s.la0 s.la1 z 60000 sd ra ∧ Hc z s.C s.la2) ∨
      ∃ r x y zy wy, EleC sd ra s.la0 s.la1 r x y zy wy ∧ s.y = ofRow r ∧ Hc wy s.C s.la2 ∧ Ch none R (some (s.a0, s.a1, zy)) ∧ bd 1048576 s.a0 ∧ bd 1048576 s.a1 ∧ ∃ r0 R', R = r0 :: R' ∧ frm r0 = frm lead
theorem eleC_kind {sd ra q0 q1 x y z w : Int} {r : List Int} (h : EleC sd ra q0 q1 r x y z w) : (xi (ofRow r) 0 == 0) = false := by cases h <;> kernel_rfl
theorem eleC_q {sd ra q0 q1 x y z w : Int} {r : List Int} (h : EleC sd ra q0 q1 r x y z w) : bd 1048576 q0 ∧ bd 1048576 q1 ∧ bd 1048576 x ∧ bd 1048576 y ∧ bd 1048576 z ∧ bd 1048576 w := by
  cases h with
  | line _ _ _ _ fe hk hz => exact ⟨hk.c, hk.d, hk.a, hk.b, hz.1, hz.2.1⟩
  | arc _ _ _ _ c d e dir hk hz => exact ⟨hk.ub, hk.vb, hk.bx, hk.yb, hz.1, hz.2⟩
theorem ring_n {l x : List GC} {R p0 p1 q0 q1 k : Int} (h : EndsC l x R p0 p1 q0 q1) (bR : bd 30000 R) (hk : (if -R > R then -R else R) = k) : Ring k (n0 l x - p0) (n1 l x - p1) ∧ Ring k (f0 l x - q0) (f1 l x - q1) := by
  obtain ⟨⟨t0, t1, h0, b0, b1, e0, e1, hn⟩, ⟨u0, u1, g0, c0, c1, d0, d1, gn⟩, _⟩ := h
  rw [e0, e1, d0, d1]
  have r1 := ring_of h0 b0 b1 hn bR hk
  have r2 := ring_of g0 c0 c1 gn bR hk
  exact ⟨by rw [show p0 + wOver_0 (-t1) R (t0 * t0 + t1 * t1) 2 - p0 = wOver_0 (-t1) R (t0 * t0 + t1 * t1) 2 by omega, show p1 + wOver_0 t0 R (t0 * t0 + t1 * t1) 2 - p1 = wOver_0 t0 R (t0 * t0 + t1 * t1) 2 by omega]; exact r1,
    by rw [show q0 + wOver_0 (-u1) R (u0 * u0 + u1 * u1) 2 - q0 = wOver_0 (-u1) R (u0 * u0 + u1 * u1) 2 by omega, show q1 + wOver_0 u0 R (u0 * u0 + u1 * u1) 2 - q1 = wOver_0 u0 R (u0 * u0 + u1 * u1) 2 by omega]; exact r2⟩
theorem nm_m {l : List (List Int)} {r : List Int} (h : isM r = true) : nm (l ++ [r]) = nm l := by
  rw [nm_app]
  have : nm [r] = [] := by unfold nm; rw [List.filter_cons, h]; rfl
  rw [this, List.append_nil]
theorem ic_ele {lead : List Int} {sd ra : Int} {s : St} {R D : List (List Int)} (h : IC lead sd ra s R D) {r : List Int} {q0 q1 w : Int} (hsd : sd = 1 ∨ sd = -1) (hra : 0 ≤ ra ∧ ra ≤ 2000)
    (hi : inv (ofRow r) s = false) (hm : (cmotion_0 (xi (ofRow r) 0) && xi (ofRow r) 16 == 0) = false) (h3 : three (ofRow r) = false) (hd : odd (ofRow r) s.l = false) (hst : still (ofRow r) s.l = false)
    (hE : EleC sd ra q0 q1 r s.la0 s.la1 s.la2 w) (hcm : cmotion_0 (xi (ofRow r) 0) = true) (hq0 : xi (ofRow r) 5 = q0) (hq1 : xi (ofRow r) 6 = q1) (hq2 : xi (ofRow r) 7 = w)
    (hc : ((xi s.y 0 == 0) = true ∧ nE s.l (ofRow r) = 0) ∨ ((xi s.y 0 == 0) = false ∧ (kd s.l s.y (ofRow r) == 2) = true ∧ trE s.l s.y (ofRow r) = 0 ∧ shE (tr0 s.l s.y (ofRow r)) (tr1 s.l s.y (ofRow r)) true s = 0) ∨
      ((xi s.y 0 == 0) = false ∧ (kd s.l s.y (ofRow r) == 2) = false ∧ nE s.l s.y = 0 ∧ nE s.l (ofRow r) = 0 ∧ shE (f0 s.l s.y) (f1 s.l s.y) false s = 0)) :
    IC lead sd ra (pushS (ofRow r) s) (R ++ pushO (ofRow r) s) (D ++ [r]) := by
  obtain ⟨er, cl, op, mo, hl, ⟨lx, ly, lz, lu, lv, rfl, bx, by', bz⟩, hy, hn, hp⟩ := h
  have h8 : xi s.l 8 = 17 := by rw [hl]; kernel_rfl
  have h16 : xi s.l 16 = sd := by rw [hl]; kernel_rfl
  have hln : nrm s.l = s.l := by rw [hl, nrm_of]
  have hR : IntKind.i64.wrap (xi s.l 16 * xi s.l 17) = sd * ra := by
    rw [hl]
    show IntKind.i64.wrap (sd * ra) = _
    rcases hsd with rfl | rfl <;> exact wrI (by omega) (by omega)
  have bR : bd 30000 (sd * ra) := by rcases hsd with rfl | rfl <;> omega
  have hk : (if -(sd * ra) > sd * ra then -(sd * ra) else sd * ra) = ra := by rcases hsd with rfl | rfl <;> split <;> omega
  have hxn : nrm (ofRow r) = ofRow r := nrm_of r
  have m0 : (mvd (ofRow r) s).la0 = q0 := by show (bif _ then _ else _) = _; rw [hcm, cond_true, hq0]
  have m1 : (mvd (ofRow r) s).la1 = q1 := by show (bif _ then _ else _) = _; rw [hcm, cond_true, hq1]
  have m3 : (mvd (ofRow r) s).la2 = w := by show (bif _ then _ else _) = _; rw [hcm, cond_true, hq2]
  have m2 : (mvd (ofRow r) s).mo = true := by show (_ || _) = _; rw [hcm]; rfl
  have hxM : isM r = true := hcm
  have hM : nm (D ++ [r]) = nm D := nm_m hxM
  obtain ⟨bq0, bq1, bl0, bl1, bl2, bw⟩ := eleC_q hE
  have fin : ∀ (A0 A1 : Int) (trx : Bool) (R' : List (List Int)), Ch none R' (some (A0, A1, s.la2)) → bd 1048576 A0 → bd 1048576 A1 → nm R' = nm D → (∃ r0 R'', R' = r0 :: R'' ∧ frm r0 = frm (itL lx ly lz lu lv lz 60000 sd ra)) →
      IC (itL lx ly lz lu lv lz 60000 sd ra) sd ra { mvd (ofRow r) s with y := ofRow r, a0 := A0, a1 := A1, tr := trx, C := [] } R' (D ++ [r]) := fun A0 A1 trx R' c1 c2 c3 c4 c5 => by
    refine ⟨er, cl, op, m2, hl, ⟨_, _, _, _, _, rfl, bx, by', bz⟩, hxn, ?_, .inr ⟨r, s.la0, s.la1, s.la2, w, ?_, rfl, ?_, c1, c2, c3, c5⟩⟩
    · show nm R' ++ nm [] = _
      rw [hM, c4]; exact List.append_nil _
    · show EleC sd ra (mvd (ofRow r) s).la0 (mvd (ofRow r) s).la1 r s.la0 s.la1 s.la2 w
      rw [m0, m1]; exact hE
    · show Hc w [] (mvd (ofRow r) s).la2
      rw [m3]; exact .nil _
  rcases hc with ⟨h0, hN⟩ | ⟨h0, h5, hT, hS⟩ | ⟨h0, h5, hN, hN', hS⟩
  · rcases hp with ⟨y0, rfl, x, y, z, hld, hH⟩ | ⟨r', x, y, zy, wy, e1, e2, _⟩
    · obtain ⟨e1, e2⟩ := push_enter (ofRow r) s er hln hy cl hi op hm h3 hd hst h0 hN
      have hE' := eleC_ends h8 hR (by omega) hE hN
      rw [hld] at hl
      have hl46 : line_46 (nrm s.l) (n0 s.l (ofRow r)) (n1 s.l (ofRow r)) (flat_2 (xi s.l 8) (xi s.l 2) (xi s.l 3) (xi s.l 4)) (flat_2 (xi s.l 8) (xi s.l 2) (xi s.l 3) (xi s.l 4)) true (nrm s.l) (flat_0 (xi s.l 8) (xi s.l 2) (xi s.l 3) (xi s.l 4)) (flat_1 (xi s.l 8) (xi s.l 2) (xi s.l 3) (xi s.l 4)) [] = [outL x y z (n0 s.l (ofRow r)) (n1 s.l (ofRow r)) z 60000] := by
        generalize n0 s.l (ofRow r) = a
        generalize n1 s.l (ofRow r) = b
        rw [hl]
        exact (line46_L (nrm (ofRow (itL x y z s.la0 s.la1 z 60000 sd ra))) (by kernel_rfl) x y z s.la0 s.la1 z 60000 sd ra x y a b z z true [] :)
      obtain ⟨P, r1, r2, r3⟩ := releaseC h8 hE'.bn0 hE'.bn1 [outL x y z (n0 s.l (ofRow r)) (n1 s.l (ofRow r)) z 60000] hH
      rw [hl46, r1] at e2
      rw [e1, e2, hxn, List.nil_append]
      have hxyz : x = lx ∧ y = ly ∧ z = lz := by
        injection hld with _ hld
        injection hld with _ hld
        injection hld with g0 hld
        injection hld with g1 hld
        injection hld with g2 hld
        exact ⟨g0.symm, g1.symm, g2.symm⟩
      obtain ⟨rfl, rfl, rfl⟩ := hxyz
      have hg := gr_line (fe := 60000) (.inr rfl) (vw_mk bx by' bz) (vw_mk hE'.bn0 hE'.bn1 bz)
      exact fin _ _ s.tr _ (.go (by kernel_rfl) hg (.inl rfl) r2) hE'.bn0 hE'.bn1 (by
        rw [← hn]
        show nm ([outL x y z (n0 s.l (ofRow r)) (n1 s.l (ofRow r)) z 60000] ++ P) = [] ++ nm s.C
        rw [nm_app, r3]; rfl) ⟨_, _, rfl, rfl⟩
    · rw [e2, eleC_kind e1] at h0; cases h0
  · rcases hp with ⟨y0, _⟩ | ⟨r', x, y, zy, wy, e1, e2, hH, hCh, ba, bb, r0, R', rfl, hf⟩
    · rw [y0] at h0; cases h0
    · obtain ⟨o1, o2⟩ := push_inside (ofRow r) s er hln hy cl hi op hm h3 hd hst h0 h5 hT hS
      obtain ⟨bt0, bt1⟩ := trim_in hT
      obtain ⟨s1, s2⟩ := shiftC s h8 e2 e1 _ _ true ba bb bt0 bt1 hS
      obtain ⟨P, r1, r2, r3⟩ := releaseC h8 bt0 bt1 (shO (tr0 s.l s.y (ofRow r)) (tr1 s.l s.y (ofRow r)) true s) hH
      rw [r1] at o2
      rw [o1, o2, hxn]
      exact fin _ _ true _ (hCh.append (s1.append r2)) bt0 bt1 (by rw [nm_app, nm_app, s2, r3, ← hn]; rfl) ⟨r0, _, rfl, hf⟩
  · rcases hp with ⟨y0, _⟩ | ⟨r', x, y, zy, wy, e1, e2, hH, hCh, ba, bb, r0, R', rfl, hf⟩
    · rw [y0] at h0; cases h0
    · obtain ⟨o1, o2⟩ := push_outside (ofRow r) s er hln hy cl hi op hm h3 hd hst h0 h5 hN hN' hS
      have hX := eleC_ends h8 hR (by omega) hE hN'
      have hY := eleC_ends h8 hR (by omega) e1 (by rw [← e2]; exact hN)
      rw [← e2] at hY
      obtain ⟨s1, s2⟩ := shiftC s h8 e2 e1 _ _ false ba bb hY.bf0 hY.bf1 hS
      obtain ⟨P, r1, r2, r3⟩ := releaseC h8 hY.bf0 hY.bf1 (shO (f0 s.l s.y) (f1 s.l s.y) false s) hH
      obtain ⟨fe, hfe, hcn⟩ := eleC_corn hE
      have hou : (kd s.l s.y (ofRow r) == 1) = true → 1 ≤ ra ∧ ra ≤ 32000 := fun h => by
        refine ⟨?_, by omega⟩
        by_cases hz : ra = 0
        · exfalso
          have h17 : xi s.l 17 = 0 := by rw [hl, hz]; kernel_rfl
          have := (kd0 (l := s.l) (y := s.y) (x := ofRow r) h17).2
          rw [this] at h; cases h
        · omega
      obtain ⟨J, j1, j2, j3⟩ := joinC (k := ra) h8 h16 hsd hcn hfe hou bl0 bl1 bl2 hY.bf0 hY.bf1 hX.bn0 hX.bn1 (ring_n hY bR hk).2 (ring_n hX bR hk).1 (shO (f0 s.l s.y) (f1 s.l s.y) false s ++ P)
      rw [r1, hxn, hln, j1] at o2
      rw [o1, o2, hxn]
      exact fin _ _ false _ (hCh.append ((s1.append r2).append j2)) hX.bn0 hX.bn1 (by rw [nm_app, nm_app, nm_app, s2, r3, j3, List.append_nil, ← hn]; rfl) ⟨r0, _, rfl, hf⟩
end Go.Proofs.Ytmbfbhimdkjkoaa
namespace Go.Proofs.Ytmbfbhimdkjkoaa
open Go.SX Go.RowKit
theorem inv_ok {x : List GC} {s : St} (h : inv x s = false) (hmo : s.mo = true) (hm : cmotion_0 (xi x 0) = true) : cvalid_0 (nrm x) = true ∧ xi x 2 = s.la0 ∧ xi x 3 = s.la1 ∧ xi x 4 = s.la2 := by
  unfold inv at h
  rw [hmo, hm] at h
  simp only [Bool.or_eq_false_iff, Bool.not_eq_false', Bool.and_true, Bool.true_and, Bool.and_eq_true, beq_iff_eq] at h
  exact ⟨h.1.1, h.2⟩
theorem runOk_app : ∀ {a b : List (List Int)} {s : St}, runOk (a ++ b) s → runOk a s ∧ runOk b (runS a s)
  | [], _, _, h => ⟨trivial, h⟩
  | r :: a, b, s, h => by
    obtain ⟨h1, h2⟩ := runOk_app h.2
    exact ⟨⟨h.1, h1⟩, h2⟩
theorem runO_app : ∀ (a b : List (List Int)) (s : St), runO (a ++ b) s = runO a s ++ runO b (runS a s)
  | [], _, _ => rfl
  | r :: a, b, s => by
    show _ ++ runO (a ++ b) _ = (_ ++ runO a _) ++ _
    rw [runO_app a b, List.append_assoc]; rfl
end Go.Proofs.Ytmbfbhimdkjkoaa
namespace Go.Proofs.Ytmbfbhimdkjkoaa
open Go.SX Go.RowKit
theorem ic_car {lead : List Int} {sd ra : Int} {s : St} {R D : List (List Int)} (h : IC lead sd ra s R D) {r : List Int} {w : Int}
    (hi : inv (ofRow r) s = false) (hm : (cmotion_0 (xi (ofRow r) 0) && xi (ofRow r) 16 == 0) = false) (h3 : three (ofRow r) = false) (hd : odd (ofRow r) s.l = false) (hst : still (ofRow r) s.l = true) (hn : (Int.ofNat s.C.length == 8) = false)
    (hR : toRow (ofRow r) = r) (hE : Hc s.la2 [r] w) (hq0 : (mvd (ofRow r) s).la0 = s.la0) (hq1 : (mvd (ofRow r) s).la1 = s.la1) (hq2 : (mvd (ofRow r) s).la2 = w) : IC lead sd ra (pushS (ofRow r) s) (R ++ pushO (ofRow r) s) (D ++ [r]) := by
  obtain ⟨er, cl, op, mo, hl, hld, hy, hnm, hp⟩ := h
  have hln : nrm s.l = s.l := by rw [hl, nrm_of]
  obtain ⟨e1, e2⟩ := push_carry (ofRow r) s er hln hy cl hi op hm h3 hd hst hn
  rw [e1, e2, hR, List.append_nil]
  refine ⟨er, cl, op, ?_, hl, hld, hy, ?_, ?_⟩
  · show (_ || s.mo) = true
    rw [mo, Bool.or_true]
  · show nm R ++ nm (s.C ++ [r]) = _
    rw [nm_app, nm_app, ← List.append_assoc, hnm]
  · rcases hp with ⟨y0, rfl, x, y, z, hl', hH⟩ | ⟨r', x, y, zy, wy, g1, g2, hH, g3, g4, g5, g6⟩
    · exact .inl ⟨y0, rfl, x, y, z, by show lead = itL x y z (mvd (ofRow r) s).la0 (mvd (ofRow r) s).la1 z 60000 sd ra; rw [hq0, hq1]; exact hl', by show Hc z (s.C ++ [r]) (mvd (ofRow r) s).la2; rw [hq2]; exact hH.append hE⟩
    · exact .inr ⟨r', x, y, zy, wy, by show EleC sd ra (mvd (ofRow r) s).la0 (mvd (ofRow r) s).la1 r' x y zy wy; rw [hq0, hq1]; exact g1, g2, by show Hc wy (s.C ++ [r]) (mvd (ofRow r) s).la2; rw [hq2]; exact hH.append hE, g3, g4, g5, g6⟩
theorem ic_mid {lead : List Int} {sd ra : Int} {s : St} {R D : List (List Int)} (h : IC lead sd ra s R D) {r : List Int} (hsd : sd = 1 ∨ sd = -1) (hra : 0 ≤ ra ∧ ra ≤ 2000) (hr : Mid sd ra r) (hE : pushE (ofRow r) s = 0) :
    IC lead sd ra (pushS (ofRow r) s) (R ++ pushO (ofRow r) s) (D ++ [r]) := by
  have hh := h
  obtain ⟨er, cl, op, mo, hl, ⟨lx, ly, lz, lu, lv, hld, _⟩, hy, hnm, hp⟩ := h
  have hs0 : sd ≠ 0 := by rcases hsd with rfl | rfl <;> decide
  have h8 : xi s.l 8 = 17 := by rw [hl, hld]; kernel_rfl
  obtain ⟨_, hi, hc⟩ := push_cases (ofRow r) s er hE
  rcases hc with ⟨ho, _⟩ | ⟨ho, _⟩ | ⟨_, hm, _⟩ | ⟨_, hm, h3, hd, hc⟩
  · rw [op] at ho; cases ho
  · rw [op] at ho; cases ho
  · exfalso
    simp only [Bool.and_eq_true, beq_iff_eq] at hm
    cases hr with
    | out n => exact absurd hm.1 (by rw [show cmotion_0 (xi (ofRow (itO n)) 0) = false by kernel_rfl]; simp)
    | line x y z u v w fe _ => exact hs0 hm.2
    | arc x y z u v w c d e dir => exact hs0 hm.2
  · cases hr with
    | out n =>
      have hst : still (ofRow (itO n)) s.l = true := by
        have : still (ofRow (itO n)) s.l = (!false || !(xb (ofRow (itO n)) 13 || !(flat_0 (xi s.l 8) 0 0 0 == flat_0 (xi s.l 8) 0 0 0 && flat_1 (xi s.l 8) 0 0 0 == flat_1 (xi s.l 8) 0 0 0))) := by kernel_rfl
        rw [this]; rfl
      have hv : cvalid_0 (nrm (ofRow (itO n))) = true := by
        unfold inv at hi
        simp only [Bool.or_eq_false_iff, Bool.not_eq_false'] at hi
        exact hi.1.1
      rcases hc with ⟨_, hn⟩ | ⟨hs, _⟩ | ⟨hs, _⟩ | ⟨hs, _⟩
      · exact ic_car hh hi hm h3 hd hst hn (toO n) (.out hv (.nil _)) (by kernel_rfl) (by kernel_rfl) (by kernel_rfl)
      · rw [hst] at hs; cases hs
      · rw [hst] at hs; cases hs
      · rw [hst] at hs; cases hs
    | line x y z u v w fe hfe =>
      have hcm : cmotion_0 (xi (ofRow (itL x y z u v w fe sd ra)) 0) = true := by kernel_rfl
      obtain ⟨hv, i0, i1, i2⟩ := inv_ok hi mo hcm
      have hv' := cvalid_motion hv (by rw [nx0]; exact hcm)
      have bx := vwithin_bd hv'.1
      have bu := vwithin_bd hv'.2.1
      rw [nx2, nx3, nx4] at bx
      rw [nx5, nx6, nx7] at bu
      have hst : still (ofRow (itL x y z u v w fe sd ra)) s.l = (x == u && y == v) := by
        have : still (ofRow (itL x y z u v w fe sd ra)) s.l = (!true || !(false || !(flat_0 (xi s.l 8) x y z == flat_0 (xi s.l 8) u v w && flat_1 (xi s.l 8) x y z == flat_1 (xi s.l 8) u v w))) := by kernel_rfl
        rw [this, h8]
        show (false || !(false || !(x == u && y == v))) = _
        simp
      have j0 : x = s.la0 := i0
      have j1 : y = s.la1 := i1
      have j2 : z = s.la2 := i2
      rcases hc with ⟨hs, hn⟩ | hc
      · rw [hst] at hs
        simp only [Bool.and_eq_true, beq_iff_eq] at hs
        obtain ⟨rfl, rfl⟩ := hs
        refine ic_car (w := w) hh hi hm h3 hd (by rw [hst]; simp) hn (toL ..) ?_ j0 j1 (by kernel_rfl)
        rw [← j2]
        exact .line bx.2.2 bu.2.2 hfe (.nil _)
      · have hs : (x == u && y == v) = false := by rw [← hst]; rcases hc with ⟨hs, _⟩ | ⟨hs, _⟩ | ⟨hs, _⟩ <;> exact hs
        have hne : ¬ (x = u ∧ y = v) := fun h => by rw [h.1, h.2] at hs; simp at hs
        have hle : LineOk x y u v := ⟨bx.1, bx.2.1, bu.1, bu.2.1, hne⟩
        refine ic_ele (q0 := u) (q1 := v) (w := w) hh hsd hra hi hm h3 hd (by rw [hst]; exact hs) ?_ hcm rfl rfl rfl ?_
        · rw [← j0, ← j1, ← j2]
          exact .line x y z w fe hle ⟨bx.2.2, bu.2.2, hfe⟩
        · rcases hc with ⟨_, h⟩ | ⟨_, h⟩ | ⟨_, h⟩
          · exact .inl h
          · exact .inr (.inl h)
          · exact .inr (.inr h)
    | arc x y z u v w c d e dir =>
      have hcm : cmotion_0 (xi (ofRow (itA x y z u v w c d e dir 60000 sd ra)) 0) = true := by kernel_rfl
      obtain ⟨hv, i0, i1, i2⟩ := inv_ok hi mo hcm
      have hvm := cvalid_motion hv (by rw [nx0]; exact hcm)
      have bx := vwithin_bd hvm.1
      have bu := vwithin_bd hvm.2.1
      rw [nx2, nx3, nx4] at bx
      rw [nx5, nx6, nx7] at bu
      have hv' := hvm.2.2.2
      rw [show (xi (nrm (ofRow (itA x y z u v w c d e dir 60000 sd ra))) 0 == 3) = true by kernel_rfl, cond_true] at hv'
      have ha : acheck_0 3 x y z u v w 17 c d e dir false = 0 := by
        exact bne_eq_false_iff_eq.1 (bcond hv').1
      obtain ⟨a1, a2, a3, a4, a5, a6, a7, _, a8, a9, a10⟩ := acheck_zero ha
      have hst : still (ofRow (itA x y z u v w c d e dir 60000 sd ra)) s.l = false := by
        have : still (ofRow (itA x y z u v w c d e dir 60000 sd ra)) s.l = (!true || !(false || !(flat_0 (xi s.l 8) x y z == flat_0 (xi s.l 8) u v w && flat_1 (xi s.l 8) x y z == flat_1 (xi s.l 8) u v w))) := by kernel_rfl
        rw [this, h8]
        show (false || !(false || !(x == u && y == v))) = _
        cases h : (x == u && y == v)
        · rfl
        · simp only [Bool.and_eq_true, beq_iff_eq] at h
          exact absurd h a10
      have j0 : x = s.la0 := i0
      have j1 : y = s.la1 := i1
      have j2 : z = s.la2 := i2
      rcases hc with ⟨hs, hn⟩ | hc
      · rw [hst] at hs; cases hs
      · refine ic_ele (q0 := u) (q1 := v) (w := w) hh hsd hra hi hm h3 hd hst ?_ hcm rfl rfl rfl ?_
        · rw [← j0, ← j1, ← j2]
          exact .arc x y z w c d e dir ⟨a1, a2, a3, a4, a5, a6, a7, a8, a9, a10⟩ ⟨bx.2.2, bu.2.2⟩
        · rcases hc with ⟨_, h⟩ | ⟨_, h⟩ | ⟨_, h⟩
          · exact .inl h
          · exact .inr (.inl h)
          · exact .inr (.inr h)
theorem ic_begin {sd ra x y z u v w : Int} (hs0 : sd ≠ 0) (hE : pushE (ofRow (itL x y z u v w 60000 sd ra)) St0 = 0) :
    IC (itL x y z u v w 60000 sd ra) sd ra (pushS (ofRow (itL x y z u v w 60000 sd ra)) St0) ([] ++ pushO (ofRow (itL x y z u v w 60000 sd ra)) St0) [] := by
  obtain ⟨_, hi, hc⟩ := push_cases _ St0 rfl hE
  have hm : (cmotion_0 (xi (ofRow (itL x y z u v w 60000 sd ra)) 0) && xi (ofRow (itL x y z u v w 60000 sd ra)) 16 != 0) = true := by
    have : (cmotion_0 (xi (ofRow (itL x y z u v w 60000 sd ra)) 0) && xi (ofRow (itL x y z u v w 60000 sd ra)) 16 != 0) = (true && sd != 0) := by kernel_rfl
    rw [this]; simpa using hs0
  have hv : cvalid_0 (nrm (ofRow (itL x y z u v w 60000 sd ra))) = true := by
    unfold inv at hi
    simp only [Bool.or_eq_false_iff, Bool.not_eq_false'] at hi
    exact hi.1.1
  have hv' := cvalid_motion hv (by kernel_rfl)
  have bx := vwithin_bd hv'.1
  rw [nx2, nx3, nx4] at bx
  rcases hc with ⟨_, h⟩ | ⟨_, _, hd⟩ | ⟨ho, _⟩ | ⟨ho, _⟩
  · rw [hm] at h; cases h
  · have hln : nrm St0.l = St0.l := by kernel_rfl
    obtain ⟨e1, e2⟩ := push_begin _ St0 rfl hln hln rfl hi rfl hm hd
    have hz : z = w := by
      unfold leads_0 at hd
      simp only [Bool.and_eq_true, beq_iff_eq] at hd
      exact hd.1.1.2
    subst hz
    rw [e1, e2, nrm_of]
    have m0 : (mvd (ofRow (itL x y z u v z 60000 sd ra)) St0).la0 = u := by kernel_rfl
    have m1 : (mvd (ofRow (itL x y z u v z 60000 sd ra)) St0).la1 = v := by kernel_rfl
    have m3 : (mvd (ofRow (itL x y z u v z 60000 sd ra)) St0).la2 = z := by kernel_rfl
    have m2 : (mvd (ofRow (itL x y z u v z 60000 sd ra)) St0).mo = true := by kernel_rfl
    refine ⟨rfl, rfl, rfl, m2, rfl, ⟨_, _, _, _, _, rfl, bx.1, bx.2.1, bx.2.2⟩, by kernel_rfl, rfl, .inl ⟨rfl, rfl, x, y, z, ?_, ?_⟩⟩
    · show itL x y z u v z 60000 sd ra = itL x y z (mvd (ofRow (itL x y z u v z 60000 sd ra)) St0).la0 (mvd (ofRow (itL x y z u v z 60000 sd ra)) St0).la1 z 60000 sd ra
      rw [m0, m1]
    · show Hc z [] (mvd (ofRow (itL x y z u v z 60000 sd ra)) St0).la2
      rw [m3]; exact .nil _
  · cases ho
  · cases ho
theorem ic_run {lead : List Int} {sd ra : Int} (hsd : sd = 1 ∨ sd = -1) (hra : 0 ≤ ra ∧ ra ≤ 2000) : ∀ (l : List (List Int)) (s : St) (R D : List (List Int)), (∀ r ∈ l, Mid sd ra r) → IC lead sd ra s R D → runOk l s → IC lead sd ra (runS l s) (R ++ runO l s) (D ++ l)
  | [], s, R, D, _, h, _ => by
    show IC lead sd ra s (R ++ []) (D ++ [])
    rw [List.append_nil, List.append_nil]; exact h
  | r :: l, s, R, D, hl, h, ho => by
    have h1 := ic_mid h hsd hra (hl r (List.mem_cons_self ..)) ho.1
    have h2 := ic_run hsd hra l _ _ _ (fun q hq => hl q (List.mem_cons_of_mem _ hq)) h1 ho.2
    rw [List.append_assoc, List.append_assoc] at h2
    exact h2
/-- The lead-out. -/
theorem ic_finish {lead : List Int} {sd ra : Int} {s : St} {R D : List (List Int)} (hsd : sd = 1 ∨ sd = -1) (hra : 0 ≤ ra ∧ ra ≤ 2000) (h : IC lead sd ra s R D) {x y z u v w : Int} (hE : pushE (ofRow (itM x y z u v w)) s = 0) :
    ∃ A' o, R ++ pushO (ofRow (itM x y z u v w)) s = A' ++ [o] ∧ Ch none (R ++ pushO (ofRow (itM x y z u v w)) s) (some (u, v, w)) ∧ isM o = true ∧ too o = (u, v, w) ∧ nm (R ++ pushO (ofRow (itM x y z u v w)) s) = nm D ∧
      ∃ r0 R', R ++ pushO (ofRow (itM x y z u v w)) s = r0 :: R' ∧ frm r0 = frm lead := by
  obtain ⟨er, cl, op, mo, hl, ⟨lx, ly, lz, lu, lv, hld, _⟩, hy, hnm, hp⟩ := h
  have h8 : xi s.l 8 = 17 := by rw [hl, hld]; kernel_rfl
  have hln : nrm s.l = s.l := by rw [hl, nrm_of]
  have hR : IntKind.i64.wrap (xi s.l 16 * xi s.l 17) = sd * ra := by
    rw [hl, hld]
    show IntKind.i64.wrap (sd * ra) = _
    rcases hsd with rfl | rfl <;> exact wrI (by omega) (by omega)
  have bR : bd 30000 (sd * ra) := by rcases hsd with rfl | rfl <;> omega
  obtain ⟨_, hi, hc⟩ := push_cases _ s er hE
  have hm : (cmotion_0 (xi (ofRow (itM x y z u v w)) 0) && xi (ofRow (itM x y z u v w)) 16 == 0) = true := by kernel_rfl
  have hcm : cmotion_0 (xi (ofRow (itM x y z u v w)) 0) = true := by kernel_rfl
  obtain ⟨hv, i0, i1, i2⟩ := inv_ok hi mo hcm
  have hv' := cvalid_motion hv (by rw [nx0]; exact hcm)
  have bu := vwithin_bd hv'.2.1
  rw [nx5, nx6, nx7] at bu
  have j2 : z = s.la2 := i2
  rcases hc with ⟨ho, _⟩ | ⟨ho, _⟩ | ⟨_, _, hd, hN, hS⟩ | ⟨_, h, _⟩
  · rw [op] at ho; cases ho
  · rw [op] at ho; cases ho
  · have hd' := hd
    simp only [Bool.or_eq_false_iff, Bool.not_eq_false'] at hd'
    obtain ⟨hd1, hd2⟩ := hd'
    have hz : z = w := by
      rw [h8] at hd1
      unfold leads_0 at hd1
      simp only [Bool.and_eq_true, beq_iff_eq] at hd1
      exact hd1.1.1.2
    subst hz
    rcases hp with ⟨y0, _⟩ | ⟨r', x', y', zy, wy, e1, e2, hH, hCh, ba, bb, r0, R', rfl, hf⟩
    · rw [y0] at hd2; cases hd2
    · obtain ⟨o1, o2⟩ := push_finish _ s er hln hy cl hi op hm hd hN hS
      have hY := eleC_ends h8 hR (by omega) e1 (by rw [← e2]; exact hN)
      rw [← e2] at hY
      obtain ⟨s1, s2⟩ := shiftC s h8 e2 e1 _ _ false ba bb hY.bf0 hY.bf1 hS
      obtain ⟨P, r1, r2, r3⟩ := releaseC h8 hY.bf0 hY.bf1 (shO (f0 s.l s.y) (f1 s.l s.y) false s) hH
      rw [r1, nrm_of, h8] at o2
      have hl46 : line_46 (ofRow (itM x y z u v z)) (flat_0 17 (xi (ofRow (itM x y z u v z)) 5) (xi (ofRow (itM x y z u v z)) 6) (xi (ofRow (itM x y z u v z)) 7)) (flat_1 17 (xi (ofRow (itM x y z u v z)) 5) (xi (ofRow (itM x y z u v z)) 6) (xi (ofRow (itM x y z u v z)) 7)) (flat_2 17 (xi (ofRow (itM x y z u v z)) 5) (xi (ofRow (itM x y z u v z)) 6) (xi (ofRow (itM x y z u v z)) 7)) (flat_2 17 (xi (ofRow (itM x y z u v z)) 5) (xi (ofRow (itM x y z u v z)) 6) (xi (ofRow (itM x y z u v z)) 7)) true (nrm s.l) (f0 s.l s.y) (f1 s.l s.y) (shO (f0 s.l s.y) (f1 s.l s.y) false s ++ P) = (shO (f0 s.l s.y) (f1 s.l s.y) false s ++ P) ++ [outL (f0 s.l s.y) (f1 s.l s.y) z u v z 60000] := by
        unfold line_46
        rw [nx8, h8]
        kernel_rfl
      rw [hl46] at o2
      have hg := gr_line (fe := 60000) (.inr rfl) (vw_mk hY.bf0 hY.bf1 bu.2.2) (vw_mk bu.1 bu.2.1 bu.2.2)
      have hlast : Ch (some (f0 s.l s.y, f1 s.l s.y, s.la2)) [outL (f0 s.l s.y) (f1 s.l s.y) z u v z 60000] (some (u, v, z)) := .one rfl hg (by rw [← j2]; rfl) rfl
      refine ⟨r0 :: R' ++ (shO (f0 s.l s.y) (f1 s.l s.y) false s ++ P), outL (f0 s.l s.y) (f1 s.l s.y) z u v z 60000, ?_, ?_, rfl, rfl, ?_, r0, _, rfl, hf⟩
      · rw [o2, ← List.append_assoc]
      · rw [o2]
        exact hCh.append ((s1.append r2).append hlast)
      · rw [o2, nm_app, nm_app, nm_app, s2, r3, ← hnm]
        show nm (r0 :: R') ++ ([] ++ nm s.C ++ []) = _
        simp
  · rw [hm] at h; cases h
/-- A compensated contour. -/
theorem canon_all {sd ra x y z u v w p q r p' q' r' : Int} (hsd : sd = 1 ∨ sd = -1) (hra : 0 ≤ ra ∧ ra ≤ 2000) {mids : List (List Int)} (hm : ∀ m ∈ mids, Mid sd ra m) (ho : runOk (itL x y z u v w 60000 sd ra :: (mids ++ [itM p q r p' q' r'])) St0) {A : List (List Int)}
    (hA : A = runO (itL x y z u v w 60000 sd ra :: (mids ++ [itM p q r p' q' r'])) St0) :
    (∃ A' o, A = A' ++ [o] ∧ isM o = true ∧ too o = (p', q', r')) ∧ Ch none A (some (p', q', r')) ∧ nm A = nm mids ∧ ∃ r0 R', A = r0 :: R' ∧ frm r0 = (x, y, z) := by
  obtain ⟨h1, h2⟩ := ho
  obtain ⟨h3, h4, _⟩ := runOk_app h2
  have hs0 : sd ≠ 0 := by rcases hsd with rfl | rfl <;> decide
  have i1 := ic_begin hs0 h1
  have i2 := ic_run hsd hra mids _ _ _ hm i1 h3
  have i3 := ic_finish hsd hra i2 h4
  rw [List.nil_append] at i3
  have e : runO (itL x y z u v w 60000 sd ra :: (mids ++ [itM p q r p' q' r'])) St0 = (pushO (ofRow (itL x y z u v w 60000 sd ra)) St0 ++ runO mids (pushS (ofRow (itL x y z u v w 60000 sd ra)) St0)) ++ pushO (ofRow (itM p q r p' q' r')) (runS mids (pushS (ofRow (itL x y z u v w 60000 sd ra)) St0)) := by
    show _ ++ runO (mids ++ [_]) _ = _
    rw [runO_app, List.append_assoc]
    show _ ++ (_ ++ (_ ++ [])) = _
    rw [List.append_nil]
  rw [hA, e]
  obtain ⟨A', o, g1, g2, g3, g4, g5, r0, R', g6, g7⟩ := i3
  exact ⟨⟨A', o, g1, g3, g4⟩, g2, g5, r0, R', g6, g7⟩
end Go.Proofs.Ytmbfbhimdkjkoaa
namespace Go.Proofs.Ytmbfbhimdkjkoaa
open Go.SX Go.RowKit
structure CkS where
  i : Nat
  en : Bool
  mo : Bool
  p : Int
  q : Int
  r : Int
structure CkT where
  bad : Bool
  i : Nat
  e : Int
noncomputable def ckM (A : List (List Int)) (a : CkS) : Bool := cmotion_0 ((A.getD a.i []).getD 0 0)
noncomputable def ckB (A : List (List Int)) (a : CkS) : Bool := a.en || (ckM A a && a.mo && !((A.getD a.i []).getD 2 0 == a.p && ((A.getD a.i []).getD 3 0 == a.q && (A.getD a.i []).getD 4 0 == a.r)))
noncomputable def ckX (A : List (List Int)) (a : CkS) : CkS := ⟨a.i + 1, (A.getD a.i []).getD 0 0 == 14, ckM A a || a.mo, bif ckM A a then (A.getD a.i []).getD 5 0 else a.p, bif ckM A a then (A.getD a.i []).getD 6 0 else a.q, bif ckM A a then (A.getD a.i []).getD 7 0 else a.r⟩
noncomputable def ckN (A : List (List Int)) : Nat → CkS → CkT
  | 0, a => ⟨false, a.i, 0⟩
  | k + 1, a => bif !cvalid_0 (ofRow (A.getD a.i [])) then ⟨true, a.i, 1⟩ else bif ckB A a then ⟨true, a.i, 13⟩ else ckN A k (ckX A a)
noncomputable def ckF (A : List (List Int)) : Fam CkS CkT where
  k := 60
  E a := [(16, ent 1000000000 (.one (I (Int.ofNat a.i)))), (15, ent 22 (.one (I (Int.ofNat A.length)))), (14, ent 21 (.one (.wh 0))), (5, ent 1000000001 (.one (B a.mo))), (4, ent 1000000002 (.one (B a.en))), (6, ent 14 (.one (.ptr 10 0))), (0, ent 0 (.one (.wh 0)))]
  M a := [(10, .blk 30 [(1000000003, I a.p), (1000000004, I a.q), (1000000005, I a.r)]), rowI 0 1 A]
  out t := .ite t.bad (.leaf .ret [(2, ent 30 (.one (I (Int.ofNat t.i)))), (3, ent 31 (.one (I t.e)))] [rowI 0 1 A]) (.leaf (.exit 0) [(0, ent 0 (.one (.wh 0)))] [rowI 0 1 A])
  fin a := ckN A (A.length - a.i) a
  next a _ := ckX A a
  J a := a.i ≤ A.length ∧ A.length ≤ 20000
  μ a := A.length - a.i
structure EnT where
  fd : Bool
  p : Int
  q : Int
  r : Int
noncomputable def enN (A : List (List Int)) : Nat → EnT
  | 0 => ⟨false, 0, 0, 0⟩
  | j + 1 => bif cmotion_0 ((A.getD j []).getD 0 0) then ⟨true, (A.getD j []).getD 5 0, (A.getD j []).getD 6 0, (A.getD j []).getD 7 0⟩ else enN A j
noncomputable def enF (A : List (List Int)) (p q r : Int) : Fam Nat EnT where
  k := 60
  E j := [(5, ent 1000000000 (.one (I (Int.ofNat j - 1)))), (4, ent 11 (.one (.ptr 7 0))), (3, ent 6 (.one (.ptr 2 0))), (0, ent 0 (.one (.wh 0)))]
  M _ := [(7, .blk 30 [(8, .int .i64 (.c 0)), (9, .int .i64 (.c 0)), (10, .int .i64 (.c 0))]), (2, .blk 30 [(3, I p), (4, I q), (5, I r)]), rowI 0 1 A]
  out t := .ite t.fd (.leaf .ret [(4, ent 11 (.one (.ptr 7 0)))] [(7, .blk 30 [(20, I t.p), (21, I t.q), (22, I t.r)]), rowI 0 1 A])
    (.leaf (.exit 0) [(4, ent 11 (.one (.ptr 7 0))), (3, ent 6 (.one (.ptr 2 0)))] [(7, .blk 30 [(8, .int .i64 (.c 0)), (9, .int .i64 (.c 0)), (10, .int .i64 (.c 0))]), (2, .blk 30 [(3, I p), (4, I q), (5, I r)]), rowI 0 1 A])
  fin j := enN A j
  next j _ := j - 1
  J j := j ≤ A.length ∧ A.length ≤ 20000
  μ j := j
noncomputable def ck_s0 (A : List (List Int)) (a : CkS) : Prop :=
  decide (Int.ofNat a.i < Int.ofNat A.length) = true
noncomputable def ck_s1 (A : List (List Int)) (a : CkS) : Int :=
  (A.getD (Int.ofNat a.i).toNat []).getD 0 0
noncomputable def ck_needs (A : List (List Int)) (a : CkS) : List Prop :=
  [ck_s0 A a → 0 ≤ Int.ofNat a.i ∧ (Int.ofNat a.i).toNat < A.length ∧ (Int.ofNat a.i).toNat < A.length,
    ck_s0 A a →
     ((!cvalid_0 (ofRow (A.getD (Int.ofNat a.i).toNat []))) = true →
     (((ckF A).fin a).bad = true → Int.ofNat ((ckF A).fin a).i = Int.ofNat a.i ∧ ((ckF A).fin a).e = 1) ∧ (((ckF A).fin a).bad = false → False)) ∧
     ((!cvalid_0 (ofRow (A.getD (Int.ofNat a.i).toNat []))) = false →
     ((a.en ||
     cmotion_0 (ck_s1 A a) && a.mo &&
     !((A.getD (Int.ofNat a.i).toNat []).getD 2 0 == a.p && ((A.getD (Int.ofNat a.i).toNat []).getD 3 0 == a.q && (A.getD (Int.ofNat a.i).toNat []).getD 4 0 == a.r))) =
     true →
     (((ckF A).fin a).bad = true → Int.ofNat ((ckF A).fin a).i = Int.ofNat a.i ∧ ((ckF A).fin a).e = 13) ∧ (((ckF A).fin a).bad = false → False)) ∧
     ((a.en ||
     cmotion_0 (ck_s1 A a) && a.mo &&
     !((A.getD (Int.ofNat a.i).toNat []).getD 2 0 == a.p && ((A.getD (Int.ofNat a.i).toNat []).getD 3 0 == a.q && (A.getD (Int.ofNat a.i).toNat []).getD 4 0 == a.r))) =
     false →
     (((ckF A).next a 2).i ≤ A.length ∧ A.length ≤ 20000) ∧
     (ckF A).μ ((ckF A).next a 2) < (ckF A).μ a ∧
     (ckF A).fin ((ckF A).next a 2) = (ckF A).fin a ∧
     Int.ofNat ((ckF A).next a 2).i = IntKind.i64.wrap (Int.ofNat a.i + 1) ∧
     ((ckF A).next a 2).mo = (cmotion_0 (ck_s1 A a) || a.mo) ∧
     ((ckF A).next a 2).en = (ck_s1 A a == 14) ∧
     (((ckF A).next a 2).p = bif cmotion_0 (ck_s1 A a) then (A.getD (Int.ofNat a.i).toNat []).getD 5 0 else a.p) ∧
     (((ckF A).next a 2).q = bif cmotion_0 (ck_s1 A a) then (A.getD (Int.ofNat a.i).toNat []).getD 6 0 else a.q) ∧
     ((ckF A).next a 2).r = bif cmotion_0 (ck_s1 A a) then (A.getD (Int.ofNat a.i).toNat []).getD 7 0 else a.r)),
    decide (Int.ofNat a.i < Int.ofNat A.length) = false → ((ckF A).fin a).bad = true → False]
theorem ck_round (A : List (List Int)) (a : CkS) (hNeeds : ∀ pN ∈ (ck_needs A a), pN) : RoundOk (roundC (ckF A) (bodyOf Try.prog (sums K_awake) L_ap 24 0) 24 a) :=
  RoundOk.of (ps := (ck_needs A a)) (by kernel_rfl) (by kernel_rfl) hNeeds
theorem ck_rounds (A : List (List Int)) : RoundsOk (ckF A) (bodyOf Try.prog (sums K_awake) L_ap 24 0) 24 := by
  intro a hJ
  obtain ⟨h1, h2⟩ : a.i ≤ A.length ∧ A.length ≤ 20000 := hJ
  have e6 : IntKind.i64.wrap (Int.ofNat a.i + 1) = Int.ofNat (a.i + 1) := wrI (by simp; omega) (by simp; omega)
  refine ck_round A a ?_
  unfold ck_needs
  simp only [List.forall_mem_cons, List.not_mem_nil, false_implies, implies_true, and_true]
  have lt : ck_s0 A a → a.i < A.length := fun h => by unfold ck_s0 at h; simp at h; omega
  have step (h : a.i < A.length) : (ckF A).fin a = bif !cvalid_0 (ofRow (A.getD a.i [])) then ⟨true, a.i, 1⟩ else bif ckB A a then ⟨true, a.i, 13⟩ else ckN A (A.length - (a.i + 1)) (ckX A a) := by
    show ckN A (A.length - a.i) a = _
    have e : A.length - a.i = (A.length - (a.i + 1)) + 1 := by omega
    rw [e]; rfl
  refine ⟨fun h => ⟨Int.natCast_nonneg _, lt h, lt h⟩, fun h => ⟨fun hb => ?_, fun hb => ⟨fun hc => ?_, fun hc => ⟨⟨?_, h2⟩, ?_, ?_, e6.symm, rfl, rfl, rfl, rfl, rfl⟩⟩⟩, fun h hf => ?_⟩
  · have hb' : (!cvalid_0 (ofRow (A.getD a.i []))) = true := hb
    rw [step (lt h), hb']
    exact ⟨fun _ => ⟨rfl, rfl⟩, fun h => (by cases h)⟩
  · have hb' : (!cvalid_0 (ofRow (A.getD a.i []))) = false := hb
    have hc' : ckB A a = true := hc
    rw [step (lt h), hb', hc']
    exact ⟨fun _ => ⟨rfl, rfl⟩, fun h => (by cases h)⟩
  · have := lt h
    show a.i + 1 ≤ _; omega
  · have := lt h
    show A.length - (a.i + 1) < A.length - a.i; omega
  · have hb' : (!cvalid_0 (ofRow (A.getD a.i []))) = false := hb
    have hc' : ckB A a = false := hc
    rw [step (lt h), hb', hc']; rfl
  · have hi : a.i = A.length := by simp at h; omega
    have e : (ckF A).fin a = ⟨false, a.i, 0⟩ := by
      show ckN A (A.length - a.i) a = _
      rw [hi, Nat.sub_self]; unfold ckN; rw [hi]
    rw [e] at hf; cases hf
noncomputable def ckLp : LoopS := fun env mem m => match SX.look mem 0 with
  | some (.row _ _ _ (.lst _ _ A)) => famS (ckF A) 24 (fun _ _ => some ⟨0, false, false, 0, 0, 0⟩) env mem m
  | _ => none
noncomputable def L_ck : FuncId → Nat → Option LoopS := addL L_ap 24 5 ckLp
theorem known_ckL : Known Try.prog (sums K_awake) L_ck := by
  refine known_addL 0 known_awake (by kernel_rfl) (codeOk_of fun env mem m x h => ?_)
  unfold ckLp at h
  have hlen : (loopList Try.prog 24).length = 1 := by kernel_rfl
  split at h
  · exact ⟨_, fam_ok (bodyOf_ok plainN known_awake (by omega)) (ck_rounds _), h⟩
  · cases h
noncomputable def en_s0 (j : Nat) : Prop :=
  decide (Int.ofNat j - 1 ≥ 0) = true
noncomputable def en_s1 (A : List (List Int)) (j : Nat) : Prop :=
  (Int.ofNat j - 1).toNat < A.length
noncomputable def en_s2 (A : List (List Int)) (j : Nat) : Prop :=
  cmotion_0 ((A.getD (Int.ofNat j - 1).toNat []).getD 0 0) = true
noncomputable def en_needs (A : List (List Int)) (p : Int) (q : Int) (r : Int) (j : Nat) : List Prop :=
  [en_s0 j → 0 ≤ Int.ofNat j - 1 ∧ en_s1 A j ∧ en_s1 A j ∧ en_s1 A j ∧ (en_s2 A j → 0 ≤ Int.ofNat j - 1 ∧ en_s1 A j ∧ en_s1 A j ∧ en_s1 A j),
    en_s0 j →
     (en_s2 A j →
     (((enF A p q r).fin j).fd = true →
     ((enF A p q r).fin j).p = (A.getD (Int.ofNat j - 1).toNat []).getD 5 0 ∧
     ((enF A p q r).fin j).q = (A.getD (Int.ofNat j - 1).toNat []).getD 6 0 ∧ ((enF A p q r).fin j).r = (A.getD (Int.ofNat j - 1).toNat []).getD 7 0) ∧
     (((enF A p q r).fin j).fd = false → False)) ∧
     (cmotion_0 ((A.getD (Int.ofNat j - 1).toNat []).getD 0 0) = false →
     ((enF A p q r).next j 1 ≤ A.length ∧ A.length ≤ 20000) ∧
     (enF A p q r).μ ((enF A p q r).next j 1) < (enF A p q r).μ j ∧
     (enF A p q r).fin ((enF A p q r).next j 1) = (enF A p q r).fin j ∧ Int.ofNat ((enF A p q r).next j 1) - 1 = IntKind.i64.wrap (Int.ofNat j - 1 - 1)),
    decide (Int.ofNat j - 1 ≥ 0) = false → ((enF A p q r).fin j).fd = true → False]
theorem en_round (A : List (List Int)) (p q r : Int) (j : Nat) (hNeeds : ∀ pN ∈ (en_needs A p q r j), pN) : RoundOk (roundC (enF A p q r) (bodyOf Try.prog (sums K_awake) L_ck 25 0) 16 j) :=
  RoundOk.of (ps := (en_needs A p q r j)) (by kernel_rfl) (by kernel_rfl) hNeeds
theorem en_rounds (A : List (List Int)) (p q r : Int) : RoundsOk (enF A p q r) (bodyOf Try.prog (sums K_awake) L_ck 25 0) 16 := by
  intro j hJ
  obtain ⟨h1, h2⟩ : j ≤ A.length ∧ A.length ≤ 20000 := hJ
  refine en_round A p q r j ?_
  unfold en_needs
  simp only [List.forall_mem_cons, List.not_mem_nil, false_implies, implies_true, and_true]
  cases j with
  | zero =>
    refine ⟨fun h => ?_, fun h => ?_, fun h hf => ?_⟩
    · exfalso; unfold en_s0 at h; simp at h
    · exfalso; unfold en_s0 at h; simp at h
    · cases hf
  | succ i =>
    have e0 : Int.ofNat (i + 1) - 1 = Int.ofNat i := by simp
    have e1 : IntKind.i64.wrap (Int.ofNat i - 1) = Int.ofNat i - 1 := wrI (by simp; omega) (by simp; omega)
    unfold en_s1 en_s2
    rw [e0]
    have hl : (Int.ofNat i).toNat < A.length := by show i < _; omega
    have zz : 0 ≤ Int.ofNat i := Int.natCast_nonneg _
    have step : (enF A p q r).fin (i + 1) = bif cmotion_0 ((A.getD i []).getD 0 0) then ⟨true, (A.getD i []).getD 5 0, (A.getD i []).getD 6 0, (A.getD i []).getD 7 0⟩ else enN A i := rfl
    refine ⟨fun _ => ⟨zz, hl, hl, hl, fun _ => ⟨zz, hl, hl, hl⟩⟩, fun _ => ⟨fun hm => ?_, fun hm => ⟨⟨?_, h2⟩, ?_, ?_, ?_⟩⟩, fun h hf => ?_⟩
    · have hm' : cmotion_0 ((A.getD i []).getD 0 0) = true := hm
      rw [step, hm']
      exact ⟨fun _ => ⟨rfl, rfl, rfl⟩, fun h => (by cases h)⟩
    · show i ≤ _; omega
    · show i < i + 1; omega
    · have hm' : cmotion_0 ((A.getD i []).getD 0 0) = false := hm
      rw [step, hm']; rfl
    · show Int.ofNat i - 1 = _
      rw [e1]
    · exfalso; simp at h <;> omega
noncomputable def enLp : LoopS := fun env mem m => match SX.look mem 0, mInts mem 2 with
  | some (.row _ _ _ (.lst _ _ A)), some [p, q, r] => famS (enF A p q r) 16 (fun _ _ => some A.length) env mem m
  | _, _ => none
noncomputable def L_en : FuncId → Nat → Option LoopS := addL L_ck 25 2 enLp
theorem known_enL : Known Try.prog (sums K_awake) L_en := by
  refine known_addL 0 known_ckL (by kernel_rfl) (codeOk_of fun env mem m x h => ?_)
  unfold enLp at h
  have hlen : (loopList Try.prog 25).length = 1 := by kernel_rfl
  split at h
  · exact ⟨_, fam_ok (bodyOf_ok plainN known_ckL (by omega)) (en_rounds _ _ _ _), h⟩
  · cases h
noncomputable def ckI (A : List (List Int)) : Int := bif decide (Int.ofNat A.length > 20000) then 0 else bif (ckN A (A.length - 0) (CkS.mk 0 false false 0 0 0)).bad then Int.ofNat (ckN A (A.length - 0) (CkS.mk 0 false false 0 0 0)).i else Int.ofNat A.length
noncomputable def ckE (A : List (List Int)) : Int := bif decide (Int.ofNat A.length > 20000) then 10 else bif (ckN A (A.length - 0) (CkS.mk 0 false false 0 0 0)).bad then (ckN A (A.length - 0) (CkS.mk 0 false false 0 0 0)).e else 0
noncomputable def cchk_tpl : Tpl := ⟨[.one (.wh 0)], [(0, .row false 32 22 1 CKi)], 2⟩
noncomputable def cchk_0 (A : List (List Int)) : Int :=
  bif decide (Int.ofNat A.length > 20000) then 0 else bif ((ckF A).fin (CkS.mk 0 false false 0 0 0)).bad then Int.ofNat ((ckF A).fin (CkS.mk 0 false false 0 0 0)).i else Int.ofNat A.length
noncomputable def cchk_1 (A : List (List Int)) : Int :=
  bif decide (Int.ofNat A.length > 20000) then 10 else bif ((ckF A).fin (CkS.mk 0 false false 0 0 0)).bad then ((ckF A).fin (CkS.mk 0 false false 0 0 0)).e else 0
noncomputable def cchk_needs (A : List (List Int)) : List Prop :=
  [decide (Int.ofNat A.length > 20000) = false → (0 ≤ A.length ∧ A.length ≤ 20000) ∧ Int.ofNat 0 = 0 ∧ false = false ∧ false = false ∧ Int.ofNat 0 = 0 ∧ Int.ofNat 0 = 0 ∧ Int.ofNat 0 = 0]
theorem cchk_need {A : List (List Int)} : ∀ q ∈ (cchk_needs A), q := by
  unfold cchk_needs
  simp only [List.forall_mem_cons, List.not_mem_nil, false_implies, implies_true, and_true]
  intro h
  have hl : A.length ≤ 20000 := by simp at h; omega
  exact ⟨⟨Nat.zero_le _, hl⟩, rfl, trivial, trivial, rfl, rfl, rfl⟩
set_option maxRecDepth 1000000 in
theorem cchk_runs (A : List (List Int)) (hNeeds : ∀ pN ∈ (cchk_needs A), pN) : Runs (runF (sums K_awake) L_en 24) (cchk_tpl.args []) (cchk_tpl.memo [] [A]) cchk_tpl.n (SV.tup [(false, [SC.int IntKind.i64 (SI.v (cchk_0 A))]), (false, [SC.int IntKind.i64 (SI.v (cchk_1 A))])])
    ([(0,
     Obj.row false 32 22
     (RowC.lst 1
     [CK.int IntKind.i64, CK.int IntKind.i64, CK.int IntKind.i64, CK.int IntKind.i64, CK.int IntKind.i64, CK.int IntKind.i64, CK.int IntKind.i64, CK.int IntKind.i64, CK.int IntKind.i64,
     CK.int IntKind.i64, CK.int IntKind.i64, CK.int IntKind.i64, CK.int IntKind.i64, CK.bool, CK.int IntKind.i64, CK.bool, CK.int IntKind.i64, CK.int IntKind.i64, CK.int IntKind.i64,
     CK.int IntKind.i64, CK.int IntKind.i64, CK.bool]
     A))]) :=
  Runs.of1 (ps := (cchk_needs A)) (by kernel_rfl) hNeeds
noncomputable def cchk_out : List Pm → Lss → Option CRes
  | [], [A] => some ⟨SV.tup [(false, [SC.int IntKind.i64 (SI.v ((ckI A)))]), (false, [SC.int IntKind.i64 (SI.v ((ckE A)))])],
    [(0,
     Obj.row false 32 22
     (RowC.lst 1
     [CK.int IntKind.i64, CK.int IntKind.i64, CK.int IntKind.i64, CK.int IntKind.i64, CK.int IntKind.i64, CK.int IntKind.i64, CK.int IntKind.i64, CK.int IntKind.i64, CK.int IntKind.i64,
     CK.int IntKind.i64, CK.int IntKind.i64, CK.int IntKind.i64, CK.int IntKind.i64, CK.bool, CK.int IntKind.i64, CK.bool, CK.int IntKind.i64, CK.int IntKind.i64, CK.int IntKind.i64,
     CK.int IntKind.i64, CK.int IntKind.i64, CK.bool]
     A))],
    [], [], 88⟩
  | _, _ => none
theorem cchk_turned (A : List (List Int)) : Runs (runF (sums K_awake) L_en 24) (cchk_tpl.args []) (cchk_tpl.memo [] [A]) cchk_tpl.n (SV.tup [(false, [SC.int IntKind.i64 (SI.v ((ckI A)))]), (false, [SC.int IntKind.i64 (SI.v ((ckE A)))])])
    ([(0,
     Obj.row false 32 22
     (RowC.lst 1
     [CK.int IntKind.i64, CK.int IntKind.i64, CK.int IntKind.i64, CK.int IntKind.i64, CK.int IntKind.i64, CK.int IntKind.i64, CK.int IntKind.i64, CK.int IntKind.i64, CK.int IntKind.i64,
     CK.int IntKind.i64, CK.int IntKind.i64, CK.int IntKind.i64, CK.int IntKind.i64, CK.bool, CK.int IntKind.i64, CK.bool, CK.int IntKind.i64, CK.int IntKind.i64, CK.int IntKind.i64,
     CK.int IntKind.i64, CK.int IntKind.i64, CK.bool]
     A))]) :=
  (cchk_runs A (fun p hp => cchk_need p hp)).to (by first | rfl | (simp only [])) (by first | rfl | (simp only []))
theorem cchk_ok : FOk Try.prog 24 (tplS cchk_tpl cchk_out) := by
  refine tplS_ok (runF_ok known_enL 24) fun ps ls r hr hn _ => ?_
  unfold cchk_out at hr
  split at hr
  · cases hr; exact ⟨_, cchk_turned _, fun _ => rfl⟩
  · cases hr
noncomputable def K_cchk : List (Nat × Summ) := (24, tplS cchk_tpl cchk_out) :: K_awake
theorem known_cchk : Known Try.prog (sums K_cchk) L_en := known_cons known_enL cchk_ok
noncomputable def cend_tpl : Tpl := ⟨[.one (.wh 0), .agg [.int .i64, .int .i64, .int .i64]], [(0, .row false 32 22 1 CKi)], 2⟩
noncomputable def cend_0 (p : Int) (q : Int) (r : Int) (A : List (List Int)) : Int :=
  bif ((enF A p q r).fin A.length).fd then ((enF A p q r).fin A.length).p else p
noncomputable def cend_1 (p : Int) (q : Int) (r : Int) (A : List (List Int)) : Int :=
  bif ((enF A p q r).fin A.length).fd then ((enF A p q r).fin A.length).q else q
noncomputable def cend_2 (p : Int) (q : Int) (r : Int) (A : List (List Int)) : Int :=
  bif ((enF A p q r).fin A.length).fd then ((enF A p q r).fin A.length).r else r
noncomputable def cend_needs (A : List (List Int)) : List Prop :=
  [A.length ≤ A.length ∧ A.length ≤ 20000, Int.ofNat A.length - 1 = IntKind.i64.wrap (Int.ofNat A.length - 1)]
theorem cend_weak {A : List (List Int)} (hW : ∀ q ∈ ([A.length ≤ 20000] : List Prop), q) : ∀ q ∈ (cend_needs A), q := by
  simp only [List.mem_cons, List.not_mem_nil, or_false, forall_eq_or_imp, forall_eq] at hW
  unfold cend_needs
  simp only [List.forall_mem_cons, List.not_mem_nil, false_implies, implies_true, and_true]
  exact ⟨⟨Nat.le_refl _, hW⟩, (wrI (by simp; omega) (by simp; omega)).symm⟩
set_option maxRecDepth 1000000 in
theorem cend_runs (p q r : Int) (A : List (List Int)) (hNeeds : ∀ pN ∈ (cend_needs A), pN) : Runs (runF (sums K_cchk) L_en 25) (cend_tpl.args [.i p, .i q, .i r]) (cend_tpl.memo [.i p, .i q, .i r] [A]) cend_tpl.n (SV.agg [SC.int IntKind.i64 (SI.v (cend_0 p q r A)), SC.int IntKind.i64 (SI.v (cend_1 p q r A)), SC.int IntKind.i64 (SI.v (cend_2 p q r A))])
    ([(0,
     Obj.row false 32 22
     (RowC.lst 1
     [CK.int IntKind.i64, CK.int IntKind.i64, CK.int IntKind.i64, CK.int IntKind.i64, CK.int IntKind.i64, CK.int IntKind.i64, CK.int IntKind.i64, CK.int IntKind.i64, CK.int IntKind.i64,
     CK.int IntKind.i64, CK.int IntKind.i64, CK.int IntKind.i64, CK.int IntKind.i64, CK.bool, CK.int IntKind.i64, CK.bool, CK.int IntKind.i64, CK.int IntKind.i64, CK.int IntKind.i64,
     CK.int IntKind.i64, CK.int IntKind.i64, CK.bool]
     A))]) :=
  Runs.of1 (ps := (cend_needs A)) (by kernel_rfl) hNeeds
noncomputable def cend_out : List Pm → Lss → Option CRes
  | [.i p, .i q, .i r], [A] => some ⟨SV.agg [SC.int IntKind.i64 (SI.v (cend_0 p q r A)), SC.int IntKind.i64 (SI.v (cend_1 p q r A)), SC.int IntKind.i64 (SI.v (cend_2 p q r A))],
    [(0,
     Obj.row false 32 22
     (RowC.lst 1
     [CK.int IntKind.i64, CK.int IntKind.i64, CK.int IntKind.i64, CK.int IntKind.i64, CK.int IntKind.i64, CK.int IntKind.i64, CK.int IntKind.i64, CK.int IntKind.i64, CK.int IntKind.i64,
     CK.int IntKind.i64, CK.int IntKind.i64, CK.int IntKind.i64, CK.int IntKind.i64, CK.bool, CK.int IntKind.i64, CK.bool, CK.int IntKind.i64, CK.int IntKind.i64, CK.int IntKind.i64,
     CK.int IntKind.i64, CK.int IntKind.i64, CK.bool]
     A))],
    [A.length ≤ 20000], [], 84⟩
  | _, _ => none
theorem cend_ok : FOk Try.prog 25 (tplS cend_tpl cend_out) := by
  refine tplS_ok (runF_ok known_cchk 25) fun ps ls r hr hn _ => ?_
  unfold cend_out at hr
  split at hr
  · cases hr; exact ⟨_, cend_runs _ _ _ _ (cend_weak (by exact hn)), fun _ => rfl⟩
  · cases hr
noncomputable def K_cend : List (Nat × Summ) := (25, tplS cend_tpl cend_out) :: K_cchk
theorem known_cend : Known Try.prog (sums K_cend) L_en := known_cons known_cchk cend_ok
noncomputable def rmot_tpl : Tpl := ⟨[.one (.int .i64)], [], 0⟩
noncomputable def rmot_0 (k : Int) : Bool :=
  decide (k ≥ 1) && decide (k ≤ 6)
set_option maxRecDepth 1000000 in
theorem rmot_runs (k : Int) : Runs (runF (sums K_cend) L_en 26) (rmot_tpl.args [.i k]) (rmot_tpl.memo [.i k] []) rmot_tpl.n (SV.one (SC.bool (SB.v (rmot_0 k))))
    ([]) :=
  Runs.of1 (ps := []) (by kernel_rfl) (by simp)
noncomputable def rmot_out : List Pm → Lss → Option CRes
  | [.i k], [] => some ⟨SV.one (SC.bool (SB.v (rmot_0 k))),
    [],
    [], [], 8⟩
  | _, _ => none
theorem rmot_ok : FOk Try.prog 26 (tplS rmot_tpl rmot_out) := by
  refine tplS_ok (runF_ok known_cend 26) fun ps ls r hr hn _ => ?_
  unfold rmot_out at hr
  split at hr
  · cases hr; exact ⟨_, rmot_runs _, fun _ => rfl⟩
  · cases hr
noncomputable def K_rmot : List (Nat × Summ) := (26, tplS rmot_tpl rmot_out) :: K_cend
theorem known_rmot : Known Try.prog (sums K_rmot) L_en := known_cons known_cend rmot_ok
end Go.Proofs.Ytmbfbhimdkjkoaa
namespace Go.Proofs.Ytmbfbhimdkjkoaa
open Go.SX Go.RowKit
noncomputable def smC (X : List (List Int)) (k : Nat) : Bool := decide (Int.ofNat k < Int.ofNat X.length) && rmot_0 ((X.getD k []).getD 0 0)
noncomputable def smN (X : List (List Int)) : Nat → Nat → Nat
  | 0, k => k
  | n + 1, k => bif smC X k then smN X n (k + 1) else k
noncomputable def smF (A X : List (List Int)) (i : Int) : Fam Nat Nat where
  k := 100
  E k := [(10, ent 1000000000 (.one (I i))), (9, ent 1000000002 (.one (I (Int.ofNat k)))), (4, ent 2716 (.one (.wh 2710))), (3, ent 2209 (.one (.wh 2203)))]
  M _ := [rowI 2710 2709 A, rowI 2203 2205 X]
  out t := .leaf (.exit 2) [(10, ent 5450 (.one (I i))), (9, ent 5451 (.one (I (Int.ofNat t)))), (4, ent 2716 (.one (.wh 2710))), (3, ent 2209 (.one (.wh 2203)))] [rowI 2710 2709 A, rowI 2203 2205 X]
  fin k := smN X (X.length - k) k
  next k _ := k + 1
  J k := k ≤ X.length ∧ X.length ≤ 1000
  μ k := X.length - k
noncomputable def sm_s0 (X : List (List Int)) (k : Nat) : Bool :=
  decide (Int.ofNat k < Int.ofNat X.length)
noncomputable def sm_needs (A : List (List Int)) (X : List (List Int)) (i : Int) (k : Nat) : List Prop :=
  [sm_s0 X k = true → 0 ≤ Int.ofNat k, sm_s0 X k = true → (Int.ofNat k).toNat < X.length, sm_s0 X k = true → (Int.ofNat k).toNat < X.length, sm_s0 X k = true → (Int.ofNat k).toNat < X.length,
    (sm_s0 X k && rmot_0 ((X.getD (Int.ofNat k).toNat []).getD 0 0)) = true →
     ((smF A X i).next k 0 ≤ X.length ∧ X.length ≤ 1000) ∧
     (smF A X i).μ ((smF A X i).next k 0) < (smF A X i).μ k ∧
     (smF A X i).fin ((smF A X i).next k 0) = (smF A X i).fin k ∧ i = i ∧ Int.ofNat ((smF A X i).next k 0) = IntKind.i64.wrap (Int.ofNat k + 1),
    (sm_s0 X k && rmot_0 ((X.getD (Int.ofNat k).toNat []).getD 0 0)) = false → i = i ∧ Int.ofNat ((smF A X i).fin k) = Int.ofNat k]
theorem sm_round (A X : List (List Int)) (i : Int) (k : Nat) (hNeeds : ∀ pN ∈ (sm_needs A X i k), pN) : RoundOk (roundC (smF A X i) (bodyOf Try.prog (sums K_rmot) L_en 8 1) 5416 k) :=
  RoundOk.of (ps := (sm_needs A X i k)) (by kernel_rfl) (by kernel_rfl) hNeeds
theorem sm_rounds (A X : List (List Int)) (i : Int) : RoundsOk (smF A X i) (bodyOf Try.prog (sums K_rmot) L_en 8 1) 5416 := by
  intro k hJ
  obtain ⟨h1, h2⟩ : k ≤ X.length ∧ X.length ≤ 1000 := hJ
  have e6 : IntKind.i64.wrap (Int.ofNat k + 1) = Int.ofNat (k + 1) := wrI (by simp; omega) (by simp; omega)
  refine sm_round A X i k ?_
  unfold sm_needs
  simp only [List.forall_mem_cons, List.not_mem_nil, false_implies, implies_true, and_true, sm_s0]
  have lt : decide (Int.ofNat k < Int.ofNat X.length) = true → k < X.length := fun h => by simp at h; omega
  have zz : 0 ≤ Int.ofNat k := Int.natCast_nonneg _
  have go : smC X k = true → smN X (X.length - (k + 1)) (k + 1) = smN X (X.length - k) k := fun h => by
    have hk : k < X.length := by
      unfold smC at h
      simp only [Bool.and_eq_true] at h
      exact lt h.1
    have e : X.length - k = (X.length - (k + 1)) + 1 := by omega
    rw [e]
    conv => rhs; unfold smN
    rw [h]; rfl
  have stop : smC X k = false → smN X (X.length - k) k = k := fun h => by
    cases X.length - k
    · rfl
    · unfold smN; rw [h]; rfl
  refine ⟨fun _ => zz, lt, lt, lt, fun h => ?_, fun h => ?_⟩
  · have hk : k < X.length := by
      have h' := h
      simp only [Bool.and_eq_true] at h'
      exact lt h'.1
    exact ⟨⟨hk, h2⟩, by show X.length - (k + 1) < X.length - k; omega, go h, trivial, e6.symm⟩
  · refine ⟨trivial, ?_⟩
    show Int.ofNat (smN X (X.length - k) k) = Int.ofNat k
    rw [stop h]
noncomputable def smLp : LoopS := fun env mem m => match SX.look env 10, SX.look env 9, SX.look mem 2710, SX.look mem 2203 with
  | some ⟨_, _, _, .one (.int _ i)⟩, some ⟨_, _, _, .one (.int _ k)⟩, some (.row _ _ _ (.lst _ _ A)), some (.row _ _ _ (.lst _ _ X)) => famS (smF A X i.val) 5416 (fun _ _ => some k.val.toNat) env mem m
  | _, _, _, _ => none
noncomputable def L_sm : FuncId → Nat → Option LoopS := addL L_en 8 17 smLp
theorem known_smL : Known Try.prog (sums K_rmot) L_sm := by
  refine known_addL 1 known_rmot (by kernel_rfl) (codeOk_of fun env mem m x h => ?_)
  unfold smLp at h
  have hlen : (loopList Try.prog 8).length = 3 := by kernel_rfl
  split at h
  · exact ⟨_, fam_ok (bodyOf_ok plainN known_rmot (by omega)) (sm_rounds _ _ _), h⟩
  · cases h
structure CnS where
  i : Nat
  k : Nat
structure CnT where
  bad : Bool
  k : Nat
/-- Do two items differ? -/
noncomputable def difB (p q : List Int) : Bool := !(p.getD 0 0 == q.getD 0 0 && (p.getD 1 0 == q.getD 1 0 && (p.getD 2 0 == q.getD 2 0 && (p.getD 3 0 == q.getD 3 0 && (p.getD 4 0 == q.getD 4 0 && (p.getD 5 0 == q.getD 5 0 && (p.getD 6 0 == q.getD 6 0 && (p.getD 7 0 == q.getD 7 0 && (p.getD 8 0 == q.getD 8 0 && (p.getD 9 0 == q.getD 9 0 && (p.getD 10 0 == q.getD 10 0 && (p.getD 11 0 == q.getD 11 0 && (p.getD 12 0 == q.getD 12 0 && (((p.getD 13 0 != 0) == (q.getD 13 0 != 0)) && (p.getD 14 0 == q.getD 14 0 && (((p.getD 15 0 != 0) == (q.getD 15 0 != 0)) && (p.getD 16 0 == q.getD 16 0 && (p.getD 17 0 == q.getD 17 0 && (p.getD 18 0 == q.getD 18 0 && (p.getD 19 0 == q.getD 19 0 && (p.getD 20 0 == q.getD 20 0 && (((p.getD 21 0 != 0) == (q.getD 21 0 != 0))))))))))))))))))))))))
noncomputable def smA (X : List (List Int)) (k : Nat) : Nat := smN X (X.length - k) k
noncomputable def cnB (A X : List (List Int)) (a : CnS) : Bool := Int.ofNat (smA X a.k) == Int.ofNat X.length || difB (A.getD a.i []) (X.getD (smA X a.k) [])
noncomputable def cnC (A : List (List Int)) (a : CnS) : Bool := (A.getD a.i []).getD 16 0 != 0 || (A.getD a.i []).getD 17 0 != 0
noncomputable def cnN (A X : List (List Int)) : Nat → CnS → CnT
  | 0, a => ⟨false, a.k⟩
  | n + 1, a => bif cnC A a then ⟨true, 0⟩ else bif rmot_0 ((A.getD a.i []).getD 0 0) then cnN A X n ⟨a.i + 1, a.k⟩ else bif cnB A X a then ⟨true, 0⟩ else cnN A X n ⟨a.i + 1, smA X a.k + 1⟩
noncomputable def cnF (A X : List (List Int)) : Fam CnS CnT where
  k := 300
  E a := [(10, ent 1000000000 (.one (I (Int.ofNat a.i)))), (9, ent 1000000001 (.one (I (Int.ofNat a.k)))), (4, ent 2716 (.one (.wh 2710))), (3, ent 2209 (.one (.wh 2203)))]
  M _ := [rowI 2710 2709 A, rowI 2203 2205 X]
  out t := .ite t.bad (.leaf .ret [(2, ent 5090 (.one (.bool (.c false))))] [])
    (.leaf (.exit 0) [(9, ent 5091 (.one (I (Int.ofNat t.k)))), (4, ent 2716 (.one (.wh 2710))), (3, ent 2209 (.one (.wh 2203)))] [rowI 2710 2709 A, rowI 2203 2205 X])
  fin a := cnN A X (A.length - a.i) a
  next a i := match i with
    | 1 => ⟨a.i + 1, a.k⟩
    | _ => ⟨a.i + 1, smA X a.k + 1⟩
  J a := a.i ≤ A.length ∧ A.length ≤ 20000 ∧ a.k ≤ X.length ∧ X.length ≤ 1000
  μ a := A.length - a.i
noncomputable def cn_s0 (A : List (List Int)) (a : CnS) : Prop :=
  decide (Int.ofNat a.i < Int.ofNat A.length) = true
noncomputable def cn_s1 (A : List (List Int)) (a : CnS) : Int :=
  (A.getD (Int.ofNat a.i).toNat []).getD 16 0
noncomputable def cn_s2 (A : List (List Int)) (a : CnS) : Int :=
  (A.getD (Int.ofNat a.i).toNat []).getD 17 0
noncomputable def cn_s3 (A : List (List Int)) (a : CnS) : Prop :=
  (cn_s1 A a != 0 || cn_s2 A a != 0) = false
noncomputable def cn_s4 (A : List (List Int)) (a : CnS) : Int :=
  (A.getD (Int.ofNat a.i).toNat []).getD 0 0
noncomputable def cn_s5 (A : List (List Int)) (X : List (List Int)) (a : CnS) : Bool :=
  Int.ofNat ((smF A X (Int.ofNat a.i)).fin (Int.ofNat a.k).toNat) == Int.ofNat X.length
noncomputable def cn_needs (A : List (List Int)) (X : List (List Int)) (a : CnS) : List Prop :=
  [cn_s0 A a →
     0 ≤ Int.ofNat a.i ∧
     (Int.ofNat a.i).toNat < A.length ∧
     (Int.ofNat a.i).toNat < A.length ∧
     (Int.ofNat a.i).toNat < A.length ∧
     ((cn_s1 A a != 0) = false → 0 ≤ Int.ofNat a.i) ∧
     ((cn_s1 A a != 0) = false → (Int.ofNat a.i).toNat < A.length) ∧
     ((cn_s1 A a != 0) = false → (Int.ofNat a.i).toNat < A.length) ∧
     ((cn_s1 A a != 0) = false → (Int.ofNat a.i).toNat < A.length) ∧
     (cn_s3 A a →
     0 ≤ Int.ofNat a.i ∧
     (Int.ofNat a.i).toNat < A.length ∧
     (Int.ofNat a.i).toNat < A.length ∧
     (Int.ofNat a.i).toNat < A.length ∧
     (rmot_0 (cn_s4 A a) = false →
     ((Int.ofNat a.k).toNat ≤ X.length ∧ X.length ≤ 1000) ∧
     Int.ofNat a.i = Int.ofNat a.i ∧
     Int.ofNat (Int.ofNat a.k).toNat = Int.ofNat a.k ∧
     (cn_s5 A X a = false → 0 ≤ Int.ofNat a.i) ∧
     (cn_s5 A X a = false → (Int.ofNat a.i).toNat < A.length) ∧
     (cn_s5 A X a = false → (Int.ofNat a.i).toNat < A.length) ∧
     (cn_s5 A X a = false → 0 ≤ Int.ofNat ((smF A X (Int.ofNat a.i)).fin (Int.ofNat a.k).toNat)) ∧
     (cn_s5 A X a = false → (Int.ofNat ((smF A X (Int.ofNat a.i)).fin (Int.ofNat a.k).toNat)).toNat < X.length) ∧
     (cn_s5 A X a = false → (Int.ofNat ((smF A X (Int.ofNat a.i)).fin (Int.ofNat a.k).toNat)).toNat < X.length))),
    cn_s0 A a →
     ((cn_s1 A a != 0 || cn_s2 A a != 0) = true → ((cnF A X).fin a).bad = false → False) ∧
     (cn_s3 A a →
     (rmot_0 (cn_s4 A a) = true →
     (((cnF A X).next a 1).i ≤ A.length ∧ A.length ≤ 20000 ∧ ((cnF A X).next a 1).k ≤ X.length ∧ X.length ≤ 1000) ∧
     (cnF A X).μ ((cnF A X).next a 1) < (cnF A X).μ a ∧
     (cnF A X).fin ((cnF A X).next a 1) = (cnF A X).fin a ∧ Int.ofNat ((cnF A X).next a 1).i = IntKind.i64.wrap (Int.ofNat a.i + 1) ∧ Int.ofNat ((cnF A X).next a 1).k = Int.ofNat a.k) ∧
     (rmot_0 (cn_s4 A a) = false →
     ((cn_s5 A X a ||
     !(cn_s4 A a == (X.getD (Int.ofNat ((smF A X (Int.ofNat a.i)).fin (Int.ofNat a.k).toNat)).toNat []).getD 0 0 &&
     ((A.getD (Int.ofNat a.i).toNat []).getD 1 0 == (X.getD (Int.ofNat ((smF A X (Int.ofNat a.i)).fin (Int.ofNat a.k).toNat)).toNat []).getD 1 0 &&
     ((A.getD (Int.ofNat a.i).toNat []).getD 2 0 == (X.getD (Int.ofNat ((smF A X (Int.ofNat a.i)).fin (Int.ofNat a.k).toNat)).toNat []).getD 2 0 &&
     ((A.getD (Int.ofNat a.i).toNat []).getD 3 0 == (X.getD (Int.ofNat ((smF A X (Int.ofNat a.i)).fin (Int.ofNat a.k).toNat)).toNat []).getD 3 0 &&
     ((A.getD (Int.ofNat a.i).toNat []).getD 4 0 == (X.getD (Int.ofNat ((smF A X (Int.ofNat a.i)).fin (Int.ofNat a.k).toNat)).toNat []).getD 4 0 &&
     ((A.getD (Int.ofNat a.i).toNat []).getD 5 0 == (X.getD (Int.ofNat ((smF A X (Int.ofNat a.i)).fin (Int.ofNat a.k).toNat)).toNat []).getD 5 0 &&
     ((A.getD (Int.ofNat a.i).toNat []).getD 6 0 == (X.getD (Int.ofNat ((smF A X (Int.ofNat a.i)).fin (Int.ofNat a.k).toNat)).toNat []).getD 6 0 &&
     ((A.getD (Int.ofNat a.i).toNat []).getD 7 0 == (X.getD (Int.ofNat ((smF A X (Int.ofNat a.i)).fin (Int.ofNat a.k).toNat)).toNat []).getD 7 0 &&
     ((A.getD (Int.ofNat a.i).toNat []).getD 8 0 == (X.getD (Int.ofNat ((smF A X (Int.ofNat a.i)).fin (Int.ofNat a.k).toNat)).toNat []).getD 8 0 &&
     ((A.getD (Int.ofNat a.i).toNat []).getD 9 0 == (X.getD (Int.ofNat ((smF A X (Int.ofNat a.i)).fin (Int.ofNat a.k).toNat)).toNat []).getD 9 0 &&
     ((A.getD (Int.ofNat a.i).toNat []).getD 10 0 == (X.getD (Int.ofNat ((smF A X (Int.ofNat a.i)).fin (Int.ofNat a.k).toNat)).toNat []).getD 10 0 &&
     ((A.getD (Int.ofNat a.i).toNat []).getD 11 0 == (X.getD (Int.ofNat ((smF A X (Int.ofNat a.i)).fin (Int.ofNat a.k).toNat)).toNat []).getD 11 0 &&
     ((A.getD (Int.ofNat a.i).toNat []).getD 12 0 == (X.getD (Int.ofNat ((smF A X (Int.ofNat a.i)).fin (Int.ofNat a.k).toNat)).toNat []).getD 12 0 &&
     (((A.getD (Int.ofNat a.i).toNat []).getD 13 0 != 0) ==
     ((X.getD (Int.ofNat ((smF A X (Int.ofNat a.i)).fin (Int.ofNat a.k).toNat)).toNat []).getD 13 0 != 0) &&
     ((A.getD (Int.ofNat a.i).toNat []).getD 14 0 == (X.getD (Int.ofNat ((smF A X (Int.ofNat a.i)).fin (Int.ofNat a.k).toNat)).toNat []).getD 14 0 &&
     (((A.getD (Int.ofNat a.i).toNat []).getD 15 0 != 0) ==
     ((X.getD (Int.ofNat ((smF A X (Int.ofNat a.i)).fin (Int.ofNat a.k).toNat)).toNat []).getD 15 0 != 0) &&
     (cn_s1 A a == (X.getD (Int.ofNat ((smF A X (Int.ofNat a.i)).fin (Int.ofNat a.k).toNat)).toNat []).getD 16 0 &&
     (cn_s2 A a == (X.getD (Int.ofNat ((smF A X (Int.ofNat a.i)).fin (Int.ofNat a.k).toNat)).toNat []).getD 17 0 &&
     ((A.getD (Int.ofNat a.i).toNat []).getD 18 0 ==
     (X.getD (Int.ofNat ((smF A X (Int.ofNat a.i)).fin (Int.ofNat a.k).toNat)).toNat []).getD 18 0 &&
     ((A.getD (Int.ofNat a.i).toNat []).getD 19 0 ==
     (X.getD (Int.ofNat ((smF A X (Int.ofNat a.i)).fin (Int.ofNat a.k).toNat)).toNat []).getD 19 0 &&
     ((A.getD (Int.ofNat a.i).toNat []).getD 20 0 ==
     (X.getD (Int.ofNat ((smF A X (Int.ofNat a.i)).fin (Int.ofNat a.k).toNat)).toNat []).getD 20 0 &&
     ((A.getD (Int.ofNat a.i).toNat []).getD 21 0 != 0) ==
     ((X.getD (Int.ofNat ((smF A X (Int.ofNat a.i)).fin (Int.ofNat a.k).toNat)).toNat []).getD 21 0 != 0))))))))))))))))))))))) =
     true →
     ((cnF A X).fin a).bad = false → False) ∧
     ((cn_s5 A X a ||
     !(cn_s4 A a == (X.getD (Int.ofNat ((smF A X (Int.ofNat a.i)).fin (Int.ofNat a.k).toNat)).toNat []).getD 0 0 &&
     ((A.getD (Int.ofNat a.i).toNat []).getD 1 0 == (X.getD (Int.ofNat ((smF A X (Int.ofNat a.i)).fin (Int.ofNat a.k).toNat)).toNat []).getD 1 0 &&
     ((A.getD (Int.ofNat a.i).toNat []).getD 2 0 == (X.getD (Int.ofNat ((smF A X (Int.ofNat a.i)).fin (Int.ofNat a.k).toNat)).toNat []).getD 2 0 &&
     ((A.getD (Int.ofNat a.i).toNat []).getD 3 0 == (X.getD (Int.ofNat ((smF A X (Int.ofNat a.i)).fin (Int.ofNat a.k).toNat)).toNat []).getD 3 0 &&
     ((A.getD (Int.ofNat a.i).toNat []).getD 4 0 == (X.getD (Int.ofNat ((smF A X (Int.ofNat a.i)).fin (Int.ofNat a.k).toNat)).toNat []).getD 4 0 &&
     ((A.getD (Int.ofNat a.i).toNat []).getD 5 0 == (X.getD (Int.ofNat ((smF A X (Int.ofNat a.i)).fin (Int.ofNat a.k).toNat)).toNat []).getD 5 0 &&
     ((A.getD (Int.ofNat a.i).toNat []).getD 6 0 == (X.getD (Int.ofNat ((smF A X (Int.ofNat a.i)).fin (Int.ofNat a.k).toNat)).toNat []).getD 6 0 &&
     ((A.getD (Int.ofNat a.i).toNat []).getD 7 0 == (X.getD (Int.ofNat ((smF A X (Int.ofNat a.i)).fin (Int.ofNat a.k).toNat)).toNat []).getD 7 0 &&
     ((A.getD (Int.ofNat a.i).toNat []).getD 8 0 == (X.getD (Int.ofNat ((smF A X (Int.ofNat a.i)).fin (Int.ofNat a.k).toNat)).toNat []).getD 8 0 &&
     ((A.getD (Int.ofNat a.i).toNat []).getD 9 0 == (X.getD (Int.ofNat ((smF A X (Int.ofNat a.i)).fin (Int.ofNat a.k).toNat)).toNat []).getD 9 0 &&
     ((A.getD (Int.ofNat a.i).toNat []).getD 10 0 == (X.getD (Int.ofNat ((smF A X (Int.ofNat a.i)).fin (Int.ofNat a.k).toNat)).toNat []).getD 10 0 &&
     ((A.getD (Int.ofNat a.i).toNat []).getD 11 0 == (X.getD (Int.ofNat ((smF A X (Int.ofNat a.i)).fin (Int.ofNat a.k).toNat)).toNat []).getD 11 0 &&
     ((A.getD (Int.ofNat a.i).toNat []).getD 12 0 == (X.getD (Int.ofNat ((smF A X (Int.ofNat a.i)).fin (Int.ofNat a.k).toNat)).toNat []).getD 12 0 &&
     (((A.getD (Int.ofNat a.i).toNat []).getD 13 0 != 0) ==
     ((X.getD (Int.ofNat ((smF A X (Int.ofNat a.i)).fin (Int.ofNat a.k).toNat)).toNat []).getD 13 0 != 0) &&
     ((A.getD (Int.ofNat a.i).toNat []).getD 14 0 == (X.getD (Int.ofNat ((smF A X (Int.ofNat a.i)).fin (Int.ofNat a.k).toNat)).toNat []).getD 14 0 &&
     (((A.getD (Int.ofNat a.i).toNat []).getD 15 0 != 0) ==
     ((X.getD (Int.ofNat ((smF A X (Int.ofNat a.i)).fin (Int.ofNat a.k).toNat)).toNat []).getD 15 0 != 0) &&
     (cn_s1 A a == (X.getD (Int.ofNat ((smF A X (Int.ofNat a.i)).fin (Int.ofNat a.k).toNat)).toNat []).getD 16 0 &&
     (cn_s2 A a == (X.getD (Int.ofNat ((smF A X (Int.ofNat a.i)).fin (Int.ofNat a.k).toNat)).toNat []).getD 17 0 &&
     ((A.getD (Int.ofNat a.i).toNat []).getD 18 0 ==
     (X.getD (Int.ofNat ((smF A X (Int.ofNat a.i)).fin (Int.ofNat a.k).toNat)).toNat []).getD 18 0 &&
     ((A.getD (Int.ofNat a.i).toNat []).getD 19 0 ==
     (X.getD (Int.ofNat ((smF A X (Int.ofNat a.i)).fin (Int.ofNat a.k).toNat)).toNat []).getD 19 0 &&
     ((A.getD (Int.ofNat a.i).toNat []).getD 20 0 ==
     (X.getD (Int.ofNat ((smF A X (Int.ofNat a.i)).fin (Int.ofNat a.k).toNat)).toNat []).getD 20 0 &&
     ((A.getD (Int.ofNat a.i).toNat []).getD 21 0 != 0) ==
     ((X.getD (Int.ofNat ((smF A X (Int.ofNat a.i)).fin (Int.ofNat a.k).toNat)).toNat []).getD 21 0 != 0))))))))))))))))))))))) =
     false →
     (((cnF A X).next a 3).i ≤ A.length ∧ A.length ≤ 20000 ∧ ((cnF A X).next a 3).k ≤ X.length ∧ X.length ≤ 1000) ∧
     (cnF A X).μ ((cnF A X).next a 3) < (cnF A X).μ a ∧
     (cnF A X).fin ((cnF A X).next a 3) = (cnF A X).fin a ∧
     Int.ofNat ((cnF A X).next a 3).i = IntKind.i64.wrap (Int.ofNat a.i + 1) ∧
     Int.ofNat ((cnF A X).next a 3).k = IntKind.i64.wrap (Int.ofNat ((smF A X (Int.ofNat a.i)).fin (Int.ofNat a.k).toNat) + 1)))),
    decide (Int.ofNat a.i < Int.ofNat A.length) = false → (((cnF A X).fin a).bad = true → False) ∧ (((cnF A X).fin a).bad = false → Int.ofNat ((cnF A X).fin a).k = Int.ofNat a.k)]
theorem cn_round (A X : List (List Int)) (a : CnS) (hNeeds : ∀ pN ∈ (cn_needs A X a), pN) : RoundOk (roundC (cnF A X) (bodyOf Try.prog (sums K_rmot) L_sm 8 0) 5083 a) :=
  RoundOk.of (ps := (cn_needs A X a)) (by kernel_rfl) (by kernel_rfl) hNeeds
theorem smA_le {X : List (List Int)} {k : Nat} (hk : k ≤ X.length) : smA X k ≤ X.length := by
  unfold smA
  have : ∀ (n k : Nat), k ≤ X.length → smN X n k ≤ X.length := by
    intro n
    induction n with
    | zero => intro k h; exact h
    | succ n ih =>
      intro k hk
      unfold smN
      cases hc : smC X k
      · exact hk
      · have : k < X.length := by
          unfold smC at hc
          simp only [Bool.and_eq_true, decide_eq_true_eq] at hc
          have := hc.1
          simp at this; omega
        exact ih _ this
  exact this _ _ hk
theorem cn_rounds (A X : List (List Int)) : RoundsOk (cnF A X) (bodyOf Try.prog (sums K_rmot) L_sm 8 0) 5083 := by
  intro a hJ
  obtain ⟨h1, h2, h3, h4⟩ : a.i ≤ A.length ∧ A.length ≤ 20000 ∧ a.k ≤ X.length ∧ X.length ≤ 1000 := hJ
  have hs := smA_le h3
  have e6 : IntKind.i64.wrap (Int.ofNat a.i + 1) = Int.ofNat (a.i + 1) := wrI (by simp; omega) (by simp; omega)
  have e7 : IntKind.i64.wrap (Int.ofNat (smA X a.k) + 1) = Int.ofNat (smA X a.k + 1) := wrI (by simp; omega) (by simp; omega)
  refine cn_round A X a ?_
  unfold cn_needs
  simp only [List.forall_mem_cons, List.not_mem_nil, false_implies, implies_true, and_true]
  have lt : cn_s0 A a → a.i < A.length := fun h => by unfold cn_s0 at h; simp at h; omega
  have lt2 : cn_s5 A X a = false → smA X a.k < X.length := fun h => by
    have h' : (Int.ofNat (smA X a.k) == Int.ofNat X.length) = false := h
    simp at h'; omega
  have zz : 0 ≤ Int.ofNat a.i := Int.natCast_nonneg _
  have step (h : a.i < A.length) : (cnF A X).fin a = bif cnC A a then ⟨true, 0⟩ else bif rmot_0 ((A.getD a.i []).getD 0 0) then cnN A X (A.length - (a.i + 1)) ⟨a.i + 1, a.k⟩ else bif cnB A X a then ⟨true, 0⟩ else cnN A X (A.length - (a.i + 1)) ⟨a.i + 1, smA X a.k + 1⟩ := by
    show cnN A X (A.length - a.i) a = _
    have e : A.length - a.i = (A.length - (a.i + 1)) + 1 := by omega
    rw [e]; rfl
  refine ⟨fun h => ⟨zz, lt h, lt h, lt h, fun _ => zz, fun _ => lt h, fun _ => lt h, fun _ => lt h, fun _ => ⟨zz, lt h, lt h, lt h, fun _ => ⟨⟨h3, h4⟩, trivial, rfl, fun _ => zz, fun _ => lt h, fun _ => lt h, fun _ => Int.natCast_nonneg _, lt2, lt2⟩⟩⟩,
    fun h => ⟨fun hb hf => ?_, fun hc => ⟨fun hm => ⟨⟨?_, h2, h3, h4⟩, ?_, ?_, e6.symm, rfl⟩, fun hm => ⟨fun hb hf => ?_, fun hb => ⟨⟨?_, h2, ?_, h4⟩, ?_, ?_, e6.symm, e7.symm⟩⟩⟩⟩, fun h => ?_⟩
  · have hb' : cnC A a = true := hb
    rw [step (lt h), hb'] at hf; cases hf
  · have := lt h
    show a.i + 1 ≤ _; omega
  · have := lt h
    show A.length - (a.i + 1) < A.length - a.i; omega
  · have hc' : cnC A a = false := hc
    have hm' : rmot_0 ((A.getD a.i []).getD 0 0) = true := hm
    rw [step (lt h), hc', hm']; rfl
  · have hc' : cnC A a = false := hc
    have hm' : rmot_0 ((A.getD a.i []).getD 0 0) = false := hm
    have hb' : cnB A X a = true := hb
    rw [step (lt h), hc', hm', hb'] at hf; cases hf
  · have := lt h
    show a.i + 1 ≤ _; omega
  · have hb' : cnB A X a = false := hb
    unfold cnB at hb'
    rw [Bool.or_eq_false_iff] at hb'
    have := lt2 hb'.1
    show smA X a.k + 1 ≤ _; omega
  · have := lt h
    show A.length - (a.i + 1) < A.length - a.i; omega
  · have hc' : cnC A a = false := hc
    have hm' : rmot_0 ((A.getD a.i []).getD 0 0) = false := hm
    have hb' : cnB A X a = false := hb
    rw [step (lt h), hc', hm', hb']; rfl
  · have hi : a.i = A.length := by simp at h; omega
    have e : (cnF A X).fin a = ⟨false, a.k⟩ := by
      show cnN A X (A.length - a.i) a = _
      rw [hi, Nat.sub_self]; rfl
    rw [e]
    exact ⟨fun h => (by cases h), fun _ => rfl⟩
noncomputable def cnLp : LoopS := fun env mem m => match SX.look mem 2710, SX.look mem 2203 with
  | some (.row _ _ _ (.lst _ _ A)), some (.row _ _ _ (.lst _ _ X)) => famS (cnF A X) 5083 (fun _ _ => some ⟨0, 0⟩) env mem m
  | _, _ => none
noncomputable def L_cn : FuncId → Nat → Option LoopS := addL L_sm 8 12 cnLp
theorem known_cnL : Known Try.prog (sums K_rmot) L_cn := by
  refine known_addL 0 known_smL (by kernel_rfl) (codeOk_of fun env mem m x h => ?_)
  unfold cnLp at h
  have hlen : (loopList Try.prog 8).length = 3 := by kernel_rfl
  split at h
  · exact ⟨_, fam_ok (bodyOf_ok plainN known_smL (by omega)) (cn_rounds _ _), h⟩
  · cases h
noncomputable def lmF (A X : List (List Int)) : Fam Nat Nat where
  k := 100
  E k := [(9, ent 1000000000 (.one (I (Int.ofNat k)))), (4, ent 2716 (.one (.wh 2710))), (3, ent 2209 (.one (.wh 2203)))]
  M _ := [rowI 2710 2709 A, rowI 2203 2205 X]
  out t := .leaf (.exit 4) [(9, ent 5390 (.one (I (Int.ofNat t)))), (4, ent 2716 (.one (.wh 2710))), (3, ent 2209 (.one (.wh 2203)))] [rowI 2710 2709 A, rowI 2203 2205 X]
  fin k := smN X (X.length - k) k
  next k _ := k + 1
  J k := k ≤ X.length ∧ X.length ≤ 1000
  μ k := X.length - k
noncomputable def lm_s0 (X : List (List Int)) (k : Nat) : Bool :=
  decide (Int.ofNat k < Int.ofNat X.length)
noncomputable def lm_needs (A : List (List Int)) (X : List (List Int)) (k : Nat) : List Prop :=
  [lm_s0 X k = true → 0 ≤ Int.ofNat k, lm_s0 X k = true → (Int.ofNat k).toNat < X.length, lm_s0 X k = true → (Int.ofNat k).toNat < X.length, lm_s0 X k = true → (Int.ofNat k).toNat < X.length,
    (lm_s0 X k && rmot_0 ((X.getD (Int.ofNat k).toNat []).getD 0 0)) = true →
     ((lmF A X).next k 0 ≤ X.length ∧ X.length ≤ 1000) ∧
     (lmF A X).μ ((lmF A X).next k 0) < (lmF A X).μ k ∧ (lmF A X).fin ((lmF A X).next k 0) = (lmF A X).fin k ∧ Int.ofNat ((lmF A X).next k 0) = IntKind.i64.wrap (Int.ofNat k + 1),
    (lm_s0 X k && rmot_0 ((X.getD (Int.ofNat k).toNat []).getD 0 0)) = false → Int.ofNat ((lmF A X).fin k) = Int.ofNat k]
theorem lm_round (A X : List (List Int)) (k : Nat) (hNeeds : ∀ pN ∈ (lm_needs A X k), pN) : RoundOk (roundC (lmF A X) (bodyOf Try.prog (sums K_rmot) L_cn 8 2) 5383 k) :=
  RoundOk.of (ps := (lm_needs A X k)) (by kernel_rfl) (by kernel_rfl) hNeeds
theorem lm_rounds (A X : List (List Int)) : RoundsOk (lmF A X) (bodyOf Try.prog (sums K_rmot) L_cn 8 2) 5383 := by
  intro k hJ
  obtain ⟨h1, h2⟩ : k ≤ X.length ∧ X.length ≤ 1000 := hJ
  have e6 : IntKind.i64.wrap (Int.ofNat k + 1) = Int.ofNat (k + 1) := wrI (by simp; omega) (by simp; omega)
  refine lm_round A X k ?_
  unfold lm_needs
  simp only [List.forall_mem_cons, List.not_mem_nil, false_implies, implies_true, and_true, lm_s0]
  have lt : decide (Int.ofNat k < Int.ofNat X.length) = true → k < X.length := fun h => by simp at h; omega
  have zz : 0 ≤ Int.ofNat k := Int.natCast_nonneg _
  have go : smC X k = true → smN X (X.length - (k + 1)) (k + 1) = smN X (X.length - k) k := fun h => by
    have hk : k < X.length := by
      unfold smC at h
      simp only [Bool.and_eq_true] at h
      exact lt h.1
    have e : X.length - k = (X.length - (k + 1)) + 1 := by omega
    rw [e]
    conv => rhs; unfold smN
    rw [h]; rfl
  have stop : smC X k = false → smN X (X.length - k) k = k := fun h => by
    cases X.length - k
    · rfl
    · unfold smN; rw [h]; rfl
  refine ⟨fun _ => zz, lt, lt, lt, fun h => ?_, fun h => ?_⟩
  · have hk : k < X.length := by
      have h' := h
      simp only [Bool.and_eq_true] at h'
      exact lt h'.1
    exact ⟨⟨hk, h2⟩, by show X.length - (k + 1) < X.length - k; omega, go h, e6.symm⟩
  · show Int.ofNat (smN X (X.length - k) k) = Int.ofNat k
    rw [stop h]
noncomputable def lmLp : LoopS := fun env mem m => match SX.look env 9, SX.look mem 2710, SX.look mem 2203 with
  | some ⟨_, _, _, .one (.int _ k)⟩, some (.row _ _ _ (.lst _ _ A)), some (.row _ _ _ (.lst _ _ X)) => famS (lmF A X) 5383 (fun _ _ => some k.val.toNat) env mem m
  | _, _, _ => none
noncomputable def L_lm : FuncId → Nat → Option LoopS := addL L_cn 8 22 lmLp
theorem known_lmL : Known Try.prog (sums K_rmot) L_lm := by
  refine known_addL 2 known_cnL (by kernel_rfl) (codeOk_of fun env mem m x h => ?_)
  unfold lmLp at h
  have hlen : (loopList Try.prog 8).length = 3 := by kernel_rfl
  split at h
  · exact ⟨_, fam_ok (bodyOf_ok plainN known_cnL (by omega)) (lm_rounds _ _), h⟩
  · cases h
end Go.Proofs.Ytmbfbhimdkjkoaa
namespace Go.Proofs.Ytmbfbhimdkjkoaa
open Go.SX Go.RowKit
theorem rmot_isM (r : List Int) : rmot_0 (r.getD 0 0) = isM r := by kernel_rfl
theorem getD_preC (pre suf : List (List Int)) (m : List Int) : (pre ++ m :: suf).getD pre.length [] = m := by simp [List.getD]
theorem ch_gr : ∀ {p A q}, Ch p A q → ∀ r ∈ A, GR r
  | _, _, _, .nil _, r, h => by cases h
  | _, _, _, .skip h1 h2 h3, r, h => by
    rcases List.mem_cons.1 h with rfl | h
    · exact h2
    · exact ch_gr h3 r h
  | _, _, _, .go h1 h2 h3 h4, r, h => by
    rcases List.mem_cons.1 h with rfl | h
    · exact h2
    · exact ch_gr h4 r h
theorem ck_step {A : List (List Int)} {n : Nat} {a : CkS} (hv : cvalid_0 (ofRow (A.getD a.i [])) = true) (hb : ckB A a = false) : ckN A (n + 1) a = ckN A n (ckX A a) := by
  conv => lhs; unfold ckN
  rw [hv, hb]; rfl
theorem ck_all {A : List (List Int)} : ∀ {p : Option (Int × Int × Int)} {A' : List (List Int)} {q : Option (Int × Int × Int)}, Ch p A' q → ∀ (Ap : List (List Int)) (a : CkS), A = Ap ++ A' → a.i = Ap.length → a.en = false →
    ((a.mo = false ∧ p = none) ∨ (a.mo = true ∧ p = some (a.p, a.q, a.r))) → (ckN A A'.length a).bad = false
  | _, _, _, .nil _, Ap, a, hA, hi, he, hm => rfl
  | p, r :: A', q, .skip h1 h2 h3, Ap, ⟨i, en, mo, a0, a1, a2⟩, hA, hi, he, hm => by
    have hi' : i = Ap.length := hi
    subst hi'
    have e : A.getD Ap.length [] = r := by rw [hA, getD_preC]
    have hM : ckM A ⟨Ap.length, en, mo, a0, a1, a2⟩ = false := by
      show cmotion_0 ((A.getD Ap.length []).getD 0 0) = false
      rw [e]; exact h1
    show (ckN A (A'.length + 1) _).bad = false
    rw [ck_step (by show cvalid_0 (ofRow (A.getD Ap.length [])) = true; rw [e, ← nrm_of]; exact h2.v) (by unfold ckB; rw [hM]; show (en || _) = false; rw [show en = false from he]; rfl)]
    refine ck_all h3 (Ap ++ [r]) _ (by rw [hA]; simp) (by show Ap.length + 1 = _; simp) ?_ ?_
    · show ((A.getD Ap.length []).getD 0 0 == 14) = false
      rw [e]; simpa using h2.k
    · unfold ckX
      rw [hM]
      exact hm
  | p, r :: A', q, .go h1 h2 h3 h4, Ap, ⟨i, en, mo, a0, a1, a2⟩, hA, hi, he, hm => by
    have hi' : i = Ap.length := hi
    subst hi'
    have e : A.getD Ap.length [] = r := by rw [hA, getD_preC]
    have hM : ckM A ⟨Ap.length, en, mo, a0, a1, a2⟩ = true := by
      show cmotion_0 ((A.getD Ap.length []).getD 0 0) = true
      rw [e]; exact h1
    show (ckN A (A'.length + 1) _).bad = false
    rw [ck_step (by show cvalid_0 (ofRow (A.getD Ap.length [])) = true; rw [e, ← nrm_of]; exact h2.v) (by
      unfold ckB; rw [hM]
      show (en || (true && mo && !((A.getD Ap.length []).getD 2 0 == a0 && ((A.getD Ap.length []).getD 3 0 == a1 && (A.getD Ap.length []).getD 4 0 == a2)))) = false
      rw [show en = false from he, e]
      rcases hm with ⟨hm, _⟩ | ⟨hm, hp⟩
      · rw [show mo = false from hm]; rfl
      · rcases h3 with h3 | h3
        · rw [h3] at hp; cases hp
        · rw [h3] at hp
          injection hp with hp
          unfold frm at hp
          injection hp with g0 hp
          injection hp with g1 g2
          rw [g0, g1, g2]
          simp)]
    refine ck_all h4 (Ap ++ [r]) _ (by rw [hA]; simp) (by show Ap.length + 1 = _; simp) ?_ (.inr ⟨?_, ?_⟩)
    · show ((A.getD Ap.length []).getD 0 0 == 14) = false
      rw [e]; simpa using h2.k
    · unfold ckX
      rw [hM]; rfl
    · unfold ckX
      rw [hM]
      show some (too r) = some ((A.getD Ap.length []).getD 5 0, (A.getD Ap.length []).getD 6 0, (A.getD Ap.length []).getD 7 0)
      rw [e]; rfl
theorem ck_good {A : List (List Int)} {q : Option (Int × Int × Int)} (h : Ch none A q) (hl : A.length ≤ 20000) : ckE A = 0 ∧ ckI A = Int.ofNat A.length := by
  have := ck_all (A := A) h [] ⟨0, false, false, 0, 0, 0⟩ rfl rfl rfl (.inl ⟨rfl, rfl⟩)
  unfold ckE ckI
  rw [Nat.sub_zero, this, show decide (Int.ofNat A.length > 20000) = false from decide_eq_false (by simp; omega)]
  exact ⟨rfl, rfl⟩
theorem en_good {A A' : List (List Int)} {o : List Int} {p q r a b c : Int} (h : A = A' ++ [o]) (hm : isM o = true) (ht : too o = (p, q, r)) : cend_0 a b c A = p ∧ cend_1 a b c A = q ∧ cend_2 a b c A = r := by
  have e : (enF A a b c).fin A.length = ⟨true, p, q, r⟩ := by
    show enN A A.length = _
    have hl : A.length = A'.length + 1 := by rw [h]; simp
    rw [hl]
    unfold enN
    have e : A.getD A'.length [] = o := by rw [h, getD_preC]
    unfold too at ht
    injection ht with g0 ht
    injection ht with g1 g2
    rw [e, show cmotion_0 (o.getD 0 0) = true from hm, g0, g1, g2]; rfl
  unfold cend_0 cend_1 cend_2
  rw [e]
  exact ⟨rfl, rfl, rfl⟩
/-! ### The items in order -/
theorem sm_at {X pre suf : List (List Int)} {r : List Int} (h : X = pre ++ r :: suf) : smC X pre.length = isM r := by
  unfold smC
  rw [h, getD_preC, rmot_isM, show decide (Int.ofNat pre.length < Int.ofNat (pre ++ r :: suf).length) = true from decide_eq_true (by simp; omega)]
  rfl
theorem sm_all {X : List (List Int)} : ∀ (suf pre : List (List Int)), X = pre ++ suf → (nm suf = [] ∧ smA X pre.length = X.length) ∨ ∃ pre' r suf', X = pre' ++ r :: suf' ∧ smA X pre.length = pre'.length ∧ isM r = false ∧ nm suf = r :: nm suf'
  | [], pre, h => .inl ⟨rfl, by
    have : X.length = pre.length := by rw [h]; simp
    unfold smA
    rw [this, Nat.sub_self]; rfl⟩
  | r :: suf, pre, h => by
    have hl : X.length - pre.length = suf.length + 1 := by rw [h]; simp
    cases hm : isM r
    · refine .inr ⟨pre, r, suf, h, ?_, hm, ?_⟩
      · unfold smA
        rw [hl]
        unfold smN
        rw [sm_at h, hm]; rfl
      · unfold nm
        rw [List.filter_cons, hm]; rfl
    · have e : smA X pre.length = smA X (pre ++ [r]).length := by
        unfold smA
        rw [hl]
        have hl2 : X.length - (pre ++ [r]).length = suf.length := by rw [h]; simp <;> omega
        rw [hl2]
        conv => lhs; unfold smN
        rw [sm_at h, hm, cond_true, List.length_append]; rfl
      have e2 : nm (r :: suf) = nm suf := by
        unfold nm
        rw [List.filter_cons, hm]; rfl
      rw [e, e2]
      exact sm_all suf (pre ++ [r]) (by rw [h]; simp)
theorem difB_self (r : List Int) : difB r r = false := by
  unfold difB
  simp
theorem cn_all {A X : List (List Int)} : ∀ (A' Ap suf pre : List (List Int)), A = Ap ++ A' → X = pre ++ suf → (∀ r ∈ A', GR r) → nm A' = nm suf → ∃ pre' suf', X = pre' ++ suf' ∧ nm suf' = [] ∧ cnN A X A'.length ⟨Ap.length, pre.length⟩ = ⟨false, pre'.length⟩
  | [], Ap, suf, pre, hA, hX, hG, hN => ⟨pre, suf, hX, hN.symm, rfl⟩
  | r :: A', Ap, suf, pre, hA, hX, hG, hN => by
    have e : A.getD Ap.length [] = r := by rw [hA, getD_preC]
    have hg := hG r (List.mem_cons_self ..)
    have hc : cnC A ⟨Ap.length, pre.length⟩ = false := by
      show ((A.getD Ap.length []).getD 16 0 != 0 || (A.getD Ap.length []).getD 17 0 != 0) = false
      rw [e, hg.s, hg.a]; rfl
    have hG' : ∀ r ∈ A', GR r := fun q hq => hG q (List.mem_cons_of_mem _ hq)
    have hA' : A = (Ap ++ [r]) ++ A' := by rw [hA]; simp
    show ∃ pre' suf', X = pre' ++ suf' ∧ nm suf' = [] ∧ cnN A X (A'.length + 1) ⟨Ap.length, pre.length⟩ = ⟨false, pre'.length⟩
    have hl : Ap.length + 1 = (Ap ++ [r]).length := by simp
    cases hm : isM r
    · have e2 : nm (r :: A') = r :: nm A' := by
        unfold nm
        rw [List.filter_cons, hm]; rfl
      rw [e2] at hN
      rcases sm_all suf pre hX with ⟨h1, _⟩ | ⟨pre', r', suf', h1, h2, h3, h4⟩
      · rw [h1] at hN; cases hN
      · rw [h4] at hN
        injection hN with g1 g2
        subst g1
        have hb : cnB A X ⟨Ap.length, pre.length⟩ = false := by
          show (Int.ofNat (smA X pre.length) == Int.ofNat X.length || difB (A.getD Ap.length []) (X.getD (smA X pre.length) [])) = false
          have hx : X.getD pre'.length [] = r := by rw [h1, getD_preC]
          have hlx : X.length = pre'.length + (suf'.length + 1) := by rw [h1]; simp
          rw [h2, e, hx, difB_self, Bool.or_false, hlx]
          simp <;> omega
        obtain ⟨p1, s1, q1, q2, q3⟩ := cn_all (A := A) (X := X) A' (Ap ++ [r]) suf' (pre' ++ [r]) hA' (by rw [h1]; simp) hG' g2
        refine ⟨p1, s1, q1, q2, ?_⟩
        unfold cnN
        rw [hc, cond_false, hb, cond_false]
        show (bif rmot_0 ((A.getD Ap.length []).getD 0 0) then cnN A X A'.length ⟨Ap.length + 1, pre.length⟩ else cnN A X A'.length ⟨Ap.length + 1, smA X pre.length + 1⟩) = _
        rw [e, rmot_isM, hm, cond_false, h2, hl, show pre'.length + 1 = (pre' ++ [r]).length by simp]
        exact q3
    · have e2 : nm (r :: A') = nm A' := by
        unfold nm
        rw [List.filter_cons, hm]; rfl
      rw [e2] at hN
      obtain ⟨p1, s1, q1, q2, q3⟩ := cn_all (A := A) (X := X) A' (Ap ++ [r]) suf pre hA' hX hG' hN
      refine ⟨p1, s1, q1, q2, ?_⟩
      unfold cnN
      rw [hc, cond_false]
      show (bif rmot_0 ((A.getD Ap.length []).getD 0 0) then cnN A X A'.length ⟨Ap.length + 1, pre.length⟩ else _) = _
      rw [e, rmot_isM, hm, cond_true, hl]
      exact q3
theorem cn_good {A X : List (List Int)} (hG : ∀ r ∈ A, GR r) (h : nm A = nm X) : ∃ k, k ≤ X.length ∧ (cnF A X).fin ⟨0, 0⟩ = ⟨false, k⟩ ∧ (lmF A X).fin k = X.length := by
  obtain ⟨pre', suf', h1, h2, h3⟩ := cn_all (A := A) (X := X) A [] X [] rfl rfl hG h
  refine ⟨pre'.length, by rw [h1]; simp, h3, ?_⟩
  show smA X pre'.length = _
  rcases sm_all suf' pre' h1 with ⟨_, h⟩ | ⟨_, r, _, _, _, _, h⟩
  · exact h
  · rw [h2] at h; cases h
theorem runO_len : ∀ (l : List (List Int)) (s : St), s.C.length ≤ 8 → (runO l s).length ≤ 11 * l.length := by
  intro l
  induction l with
  | nil => intro s h; exact Nat.zero_le _
  | cons r l ih =>
    intro s h
    have h1 := pushO_len (ofRow r) s h
    have h2 := ih (pushS (ofRow r) s) (pushS_C _ _ h)
    show (pushO (ofRow r) s ++ runO l (pushS (ofRow r) s)).length ≤ 11 * (l.length + 1)
    rw [List.length_append]; omega
end Go.Proofs.Ytmbfbhimdkjkoaa
namespace Go.Proofs.Ytmbfbhimdkjkoaa
open Go.SX Go.RowKit
theorem apN_i (L : List (List Int)) : ∀ (k : Nat) (a : AS), a.i + k ≤ L.length → (apN L k a).i ≤ L.length
  | 0, a, h => by show a.i ≤ _; omega
  | k + 1, a, h => by
    unfold apN
    cases pushE (ofRow (L.getD a.i [])) a.s != 0
    · rw [cond_false]
      exact apN_i L k _ (by show a.i + 1 + k ≤ _; omega)
    · rw [cond_true]
      show a.i ≤ _; omega
theorem ap_bad {L : List (List Int)} (h : apE L ≠ 0) : apO L = [] ∧ 0 ≤ apI L ∧ apI L ≤ Int.ofNat L.length := by
  unfold apE at h
  unfold apO apI
  cases hb : (apT L).bad
  · rw [hb, cond_false] at h
    cases hc : (apC L != 0)
    · rw [hc] at h; exact absurd rfl h
    · exact ⟨rfl, Int.natCast_nonneg _, Int.le_refl _⟩
  · refine ⟨rfl, Int.natCast_nonneg _, ?_⟩
    rw [cond_true]
    have := apN_i L (L.length - 0) ⟨0, St0, []⟩ (by show 0 + (L.length - 0) ≤ _; omega)
    have h2 : (apT L).i ≤ L.length := this
    simp; omega
theorem can_all {L : List (List Int)} (h : apE (contL 0 L) = 0) : ∃ x y z u v w mids p q r p' q' r' A' o R' r0, contL 0 L = itL x y z u v w 60000 (cSd 0 L) (cRa 0 L) :: (mids ++ [itM p q r p' q' r']) ∧
    apO (contL 0 L) = A' ++ [o] ∧ isM o = true ∧ too o = (p', q', r') ∧ Ch none (apO (contL 0 L)) (some (p', q', r')) ∧ nm (apO (contL 0 L)) = nm mids ∧ apO (contL 0 L) = r0 :: R' ∧ frm r0 = (x, y, z) ∧
    apI (contL 0 L) = Int.ofNat (contL 0 L).length ∧ (apO (contL 0 L)).length ≤ 88 := by
  obtain ⟨h1, _, _, h2, h3⟩ := ap_ok h
  obtain ⟨x, y, z, u, v, w, mids, p, q, r, p', q', r', h4, h5⟩ := contL_shape 0 L
  have ho : runOk (itL x y z u v w 60000 (cSd 0 L) (cRa 0 L) :: (mids ++ [itM p q r p' q' r'])) St0 := by rw [← h5]; exact h1
  obtain ⟨⟨A', o, g1, g2, g3⟩, g4, g5, r0, R', g6, g7⟩ := canon_all (cSd_pm 0 L) (cRa_rng 0 L) h4 ho (A := apO (contL 0 L)) (by rw [h2, ← h5])
  refine ⟨x, y, z, u, v, w, mids, p, q, r, p', q', r', A', o, R', r0, h5, g1, g2, g3, g4, g5, g6, g7, h3, ?_⟩
  have := runO_len (contL 0 L) St0 (Nat.zero_le _)
  have := contL_len 0 L
  rw [h2]; omega
theorem nmX {x y z u v w sd ra p q r p' q' r' : Int} {mids : List (List Int)} : nm (itL x y z u v w 60000 sd ra :: (mids ++ [itM p q r p' q' r'])) = nm mids := by
  have e1 : isM (itL x y z u v w 60000 sd ra) = true := by kernel_rfl
  have e2 : isM (itM p q r p' q' r') = true := by kernel_rfl
  unfold nm
  rw [List.filter_cons, e1, List.filter_append, List.filter_cons, e2]
  simp
theorem frm3 {r0 : List Int} {x y z : Int} (h : frm r0 = (x, y, z)) : r0.getD 2 0 = x ∧ r0.getD 3 0 = y ∧ r0.getD 4 0 = z := by
  unfold frm at h
  injection h with g0 h
  injection h with g1 g2
  exact ⟨g0, g1, g2⟩
noncomputable def lawN_tpl : Tpl := ⟨[.one (.wh 0)], [(0, .row true 3 1 1 [.int .i64])], 2⟩
noncomputable def lawN_s0 (L : List (List Int)) : Bool :=
  Int.ofNat (apO (contL 0 L)).length == 0
noncomputable def lawN_0 (L : List (List Int)) : Bool :=
  bif !light_0 L then true
  else
   bif apE (contL 0 L) != 0 then true && lawN_s0 L && decide (apI (contL 0 L) ≥ 0) && decide (apI (contL 0 L) ≤ Int.ofNat (contL 0 L).length)
   else
   bif
   false || ckE (apO (contL 0 L)) != 0 || ckI (apO (contL 0 L)) != Int.ofNat (apO (contL 0 L)).length || apI (contL 0 L) != Int.ofNat (contL 0 L).length || lawN_s0 L ||
   !(((apO (contL 0 L)).getD 0 []).getD 2 0 == ((contL 0 L).getD 0 []).getD 2 0 &&
   (((apO (contL 0 L)).getD 0 []).getD 3 0 == ((contL 0 L).getD 0 []).getD 3 0 && ((apO (contL 0 L)).getD 0 []).getD 4 0 == ((contL 0 L).getD 0 []).getD 4 0)) ||
   !(cend_0 0 0 0 (apO (contL 0 L)) == cend_0 0 0 0 (contL 0 L) &&
   (cend_1 0 0 0 (apO (contL 0 L)) == cend_1 0 0 0 (contL 0 L) && cend_2 0 0 0 (apO (contL 0 L)) == cend_2 0 0 0 (contL 0 L))) then
   false
   else
   bif ((cnF (apO (contL 0 L)) (contL 0 L)).fin (CnS.mk 0 0)).bad then false
   else Int.ofNat ((lmF (apO (contL 0 L)) (contL 0 L)).fin (Int.ofNat ((cnF (apO (contL 0 L)) (contL 0 L)).fin (CnS.mk 0 0)).k).toNat) == Int.ofNat (contL 0 L).length
noncomputable def lawN_s1 (L : List (List Int)) : Prop :=
  (contL 0 L).length ≤ 1000
noncomputable def lawN_s2 (L : List (List Int)) : Bool :=
  false || ckE (apO (contL 0 L)) != 0 || ckI (apO (contL 0 L)) != Int.ofNat (apO (contL 0 L)).length || apI (contL 0 L) != Int.ofNat (contL 0 L).length || Int.ofNat (apO (contL 0 L)).length == 0
noncomputable def lawN_s3 (L : List (List Int)) : Bool :=
  lawN_s2 L ||
   !(((apO (contL 0 L)).getD 0 []).getD 2 0 == ((contL 0 L).getD 0 []).getD 2 0 &&
   (((apO (contL 0 L)).getD 0 []).getD 3 0 == ((contL 0 L).getD 0 []).getD 3 0 && ((apO (contL 0 L)).getD 0 []).getD 4 0 == ((contL 0 L).getD 0 []).getD 4 0))
noncomputable def lawN_s4 (L : List (List Int)) : Prop :=
  (apO (contL 0 L)).length ≤ 20000
noncomputable def lawN_s5 (L : List (List Int)) : Int :=
  Int.ofNat ((cnF (apO (contL 0 L)) (contL 0 L)).fin (CnS.mk 0 0)).k
noncomputable def lawN_needs (L : List (List Int)) : List Prop :=
  [(!light_0 L) = false →
   Int.ofNat 0 ≤ 0 ∧
   L.length ≤ 1000000 ∧
   lawN_s1 L ∧
   ((apE (contL 0 L) != 0) = false →
   (lawN_s2 L = false → 0 < (apO (contL 0 L)).length) ∧
   (lawN_s2 L = false → 0 < (apO (contL 0 L)).length) ∧
   (lawN_s2 L = false → 0 < (apO (contL 0 L)).length) ∧
   (lawN_s2 L = false → 0 < (contL 0 L).length) ∧
   (lawN_s2 L = false → 0 < (contL 0 L).length) ∧
   (lawN_s2 L = false → 0 < (contL 0 L).length) ∧
   (lawN_s3 L = false → lawN_s4 L) ∧
   (lawN_s3 L = false → (contL 0 L).length ≤ 20000) ∧
   ((lawN_s3 L ||
   !(cend_0 0 0 0 (apO (contL 0 L)) == cend_0 0 0 0 (contL 0 L) &&
   (cend_1 0 0 0 (apO (contL 0 L)) == cend_1 0 0 0 (contL 0 L) && cend_2 0 0 0 (apO (contL 0 L)) == cend_2 0 0 0 (contL 0 L)))) =
   false →
   (0 ≤ (apO (contL 0 L)).length ∧ lawN_s4 L ∧ 0 ≤ (contL 0 L).length ∧ lawN_s1 L) ∧
   Int.ofNat 0 = 0 ∧
   Int.ofNat 0 = 0 ∧
   (((cnF (apO (contL 0 L)) (contL 0 L)).fin (CnS.mk 0 0)).bad = false →
   ((lawN_s5 L).toNat ≤ (contL 0 L).length ∧ lawN_s1 L) ∧ Int.ofNat (lawN_s5 L).toNat = lawN_s5 L)))]
theorem lawN_0_eq (L : List (List Int)) : (lawN_0 L) = true := by
  unfold lawN_0
  cases !light_0 L
  · rw [cond_false]
    cases he : (apE (contL 0 L) != 0)
    · rw [cond_false]
      have he' : apE (contL 0 L) = 0 := bne_eq_false_iff_eq.1 he
      obtain ⟨x, y, z, u, v, w, mids, p, q, r, p', q', r', A', o, R', r0, h5, g1, g2, g3, g4, g5, g6, g7, g8, g9⟩ := can_all he'
      obtain ⟨k, k1, k2, k3⟩ := cn_good (X := contL 0 L) (ch_gr g4) (g5.trans (by rw [h5, nmX]))
      obtain ⟨c1, c2⟩ := ck_good g4 (by omega)
      obtain ⟨e0, e1, e2⟩ := en_good (a := 0) (b := 0) (c := 0) g1 g2 g3
      have hX : contL 0 L = (itL x y z u v w 60000 (cSd 0 L) (cRa 0 L) :: mids) ++ [itM p q r p' q' r'] := h5
      obtain ⟨d0, d1, d2⟩ := en_good (p := p') (q := q') (r := r') (a := 0) (b := 0) (c := 0) hX (by kernel_rfl) rfl
      have ha : lawN_s0 L = false := by
        unfold lawN_s0
        rw [g6]
        simp <;> omega
      obtain ⟨f0, f1, f2⟩ := frm3 g7
      have hA0 : (apO (contL 0 L)).getD 0 [] = r0 := by rw [g6]; rfl
      have hX0 : (contL 0 L).getD 0 [] = itL x y z u v w 60000 (cSd 0 L) (cRa 0 L) := by rw [h5]; rfl
      have y0 : (itL x y z u v w 60000 (cSd 0 L) (cRa 0 L)).getD 2 0 = x := rfl
      have y1 : (itL x y z u v w 60000 (cSd 0 L) (cRa 0 L)).getD 3 0 = y := rfl
      have y2 : (itL x y z u v w 60000 (cSd 0 L) (cRa 0 L)).getD 4 0 = z := rfl
      rw [c1, c2, g8, ha, hA0, hX0, f0, f1, f2, y0, y1, y2, e0, e1, e2, d0, d1, d2, k2]
      show (bif _ then false else bif false then false else Int.ofNat ((lmF (apO (contL 0 L)) (contL 0 L)).fin k) == Int.ofNat (contL 0 L).length) = true
      rw [k3]
      simp
    · rw [cond_true]
      obtain ⟨h1, h2, h3⟩ := ap_bad (show apE (contL 0 L) ≠ 0 by simpa using he)
      unfold lawN_s0
      rw [h1, decide_eq_true h2, decide_eq_true h3]
      rfl
  · rfl
theorem lawN_need {L : List (List Int)} : ∀ q ∈ (lawN_needs L), q := by
  unfold lawN_needs
  simp only [List.forall_mem_cons, List.not_mem_nil, false_implies, implies_true, and_true]
  intro hl
  have hl' := light_len (L := L) (by simpa using hl)
  have hx := contL_len 0 L
  refine ⟨by decide, by omega, by show _ ≤ 1000; omega, fun he => ?_⟩
  have he' : apE (contL 0 L) = 0 := bne_eq_false_iff_eq.1 he
  obtain ⟨x, y, z, u, v, w, mids, p, q, r, p', q', r', A', o, R', r0, h5, g1, g2, g3, g4, g5, g6, g7, g8, g9⟩ := can_all he'
  have hp : 0 < (apO (contL 0 L)).length := by rw [g6]; exact Nat.succ_pos _
  have hq : 0 < (contL 0 L).length := by omega
  obtain ⟨k, k1, k2, k3⟩ := cn_good (X := contL 0 L) (ch_gr g4) (g5.trans (by rw [h5, nmX]))
  refine ⟨fun _ => hp, fun _ => hp, fun _ => hp, fun _ => hq, fun _ => hq, fun _ => hq, fun _ => by show _ ≤ 20000; omega, fun _ => by omega, fun _ => ⟨⟨Nat.zero_le _, by show _ ≤ 20000; omega, Nat.zero_le _, by show _ ≤ 1000; omega⟩, rfl, rfl, fun _ => ⟨⟨?_, by show _ ≤ 1000; omega⟩, rfl⟩⟩⟩
  show (Int.ofNat ((cnF (apO (contL 0 L)) (contL 0 L)).fin (CnS.mk 0 0)).k).toNat ≤ _
  rw [k2]; exact k1
set_option maxRecDepth 1000000 in
theorem lawN_runs (L : List (List Int)) (hNeeds : ∀ pN ∈ (lawN_needs L), pN) : Runs (runF (sums K_rmot) L_lm 8) (lawN_tpl.args []) (lawN_tpl.memo [] [L]) lawN_tpl.n (SV.one (SC.bool (SB.v (lawN_0 L))))
    ([]) :=
  Runs.of1 (ps := (lawN_needs L)) (by kernel_rfl) hNeeds
noncomputable def lawN_out : List Pm → Lss → Option CRes
  | [], [L] => some ⟨SV.one (SC.bool (SB.v (lawN_0 L))),
    [],
    [], [], 5488⟩
  | _, _ => none
noncomputable def K_lawN : List (Nat × Summ) := (8, tplS lawN_tpl lawN_out) :: K_rmot
end Go.Proofs.Ytmbfbhimdkjkoaa
