/-
  Texts of one claim, laid together. Conditions: none.
-/
import Derived.Test.YtmbfbhimdkjkoaaM87ea2def
set_option linter.all false
namespace Go.Proofs.Ytmbfbhimdkjkoaa
open Go.SX Go.RowKit
theorem nrm_nrm (x : List GC) : nrm (nrm x) = nrm x := by kernel_rfl
theorem nx0 (x : List GC) : xi (nrm x) 0 = xi x 0 := by kernel_rfl
theorem nx1 (x : List GC) : xi (nrm x) 1 = xi x 1 := by kernel_rfl
theorem nx2 (x : List GC) : xi (nrm x) 2 = xi x 2 := by kernel_rfl
theorem nx3 (x : List GC) : xi (nrm x) 3 = xi x 3 := by kernel_rfl
theorem nx4 (x : List GC) : xi (nrm x) 4 = xi x 4 := by kernel_rfl
theorem nx5 (x : List GC) : xi (nrm x) 5 = xi x 5 := by kernel_rfl
theorem nx6 (x : List GC) : xi (nrm x) 6 = xi x 6 := by kernel_rfl
theorem nx7 (x : List GC) : xi (nrm x) 7 = xi x 7 := by kernel_rfl
theorem nx8 (x : List GC) : xi (nrm x) 8 = xi x 8 := by kernel_rfl
theorem nx9 (x : List GC) : xi (nrm x) 9 = xi x 9 := by kernel_rfl
theorem nx10 (x : List GC) : xi (nrm x) 10 = xi x 10 := by kernel_rfl
theorem nx11 (x : List GC) : xi (nrm x) 11 = xi x 11 := by kernel_rfl
theorem nx12 (x : List GC) : xi (nrm x) 12 = xi x 12 := by kernel_rfl
theorem nx13 (x : List GC) : xb (nrm x) 13 = xb x 13 := by kernel_rfl
theorem nx14 (x : List GC) : xi (nrm x) 14 = xi x 14 := by kernel_rfl
theorem nx15 (x : List GC) : xb (nrm x) 15 = xb x 15 := by kernel_rfl
theorem nx16 (x : List GC) : xi (nrm x) 16 = xi x 16 := by kernel_rfl
theorem nx17 (x : List GC) : xi (nrm x) 17 = xi x 17 := by kernel_rfl
theorem nx18 (x : List GC) : xi (nrm x) 18 = xi x 18 := by kernel_rfl
theorem nx19 (x : List GC) : xi (nrm x) 19 = xi x 19 := by kernel_rfl
theorem nx20 (x : List GC) : xi (nrm x) 20 = xi x 20 := by kernel_rfl
theorem nx21 (x : List GC) : xb (nrm x) 21 = xb x 21 := by kernel_rfl
/-- Is an item refused at once? -/
noncomputable def inv (x : List GC) (s : St) : Bool := !cvalid_0 (nrm x) || s.en || cmotion_0 (xi x 0) && s.mo && !(xi x 2 == s.la0 && (xi x 3 == s.la1 && xi x 4 == s.la2))
/-- What a valid item leaves behind in any case. -/
noncomputable def mvd (x : List GC) (s : St) : St := { s with en := xi x 0 == 14, mo := cmotion_0 (xi x 0) || s.mo, la0 := bif cmotion_0 (xi x 0) then xi x 5 else s.la0, la1 := bif cmotion_0 (xi x 0) then xi x 6 else s.la1, la2 := bif cmotion_0 (xi x 0) then xi x 7 else s.la2 }

/-- The ends of an item's offset: the error, the near end, the far one. -/
noncomputable def nE (l x : List GC) : Int := oends_4 (flat_0 (xi l 8) (xi x 2) (xi x 3) (xi x 4)) (flat_1 (xi l 8) (xi x 2) (xi x 3) (xi x 4)) (flat_0 (xi l 8) (xi x 5) (xi x 6) (xi x 7)) (flat_1 (xi l 8) (xi x 5) (xi x 6) (xi x 7)) (bif xi x 0 == 3 then flat_0 (xi l 8) (xi x 9) (xi x 10) (xi x 11) else 0) (bif xi x 0 == 3 then flat_1 (xi l 8) (xi x 9) (xi x 10) (xi x 11) else 0) (bif xi x 0 == 3 then xi x 12 else 0) (IntKind.i64.wrap (xi l 16 * xi l 17))
noncomputable def n0 (l x : List GC) : Int := oends_0 (flat_0 (xi l 8) (xi x 2) (xi x 3) (xi x 4)) (flat_1 (xi l 8) (xi x 2) (xi x 3) (xi x 4)) (flat_0 (xi l 8) (xi x 5) (xi x 6) (xi x 7)) (flat_1 (xi l 8) (xi x 5) (xi x 6) (xi x 7)) (bif xi x 0 == 3 then flat_0 (xi l 8) (xi x 9) (xi x 10) (xi x 11) else 0) (bif xi x 0 == 3 then flat_1 (xi l 8) (xi x 9) (xi x 10) (xi x 11) else 0) (bif xi x 0 == 3 then xi x 12 else 0) (IntKind.i64.wrap (xi l 16 * xi l 17))
noncomputable def n1 (l x : List GC) : Int := oends_1 (flat_0 (xi l 8) (xi x 2) (xi x 3) (xi x 4)) (flat_1 (xi l 8) (xi x 2) (xi x 3) (xi x 4)) (flat_0 (xi l 8) (xi x 5) (xi x 6) (xi x 7)) (flat_1 (xi l 8) (xi x 5) (xi x 6) (xi x 7)) (bif xi x 0 == 3 then flat_0 (xi l 8) (xi x 9) (xi x 10) (xi x 11) else 0) (bif xi x 0 == 3 then flat_1 (xi l 8) (xi x 9) (xi x 10) (xi x 11) else 0) (bif xi x 0 == 3 then xi x 12 else 0) (IntKind.i64.wrap (xi l 16 * xi l 17))
noncomputable def f0 (l x : List GC) : Int := oends_2 (flat_0 (xi l 8) (xi x 2) (xi x 3) (xi x 4)) (flat_1 (xi l 8) (xi x 2) (xi x 3) (xi x 4)) (flat_0 (xi l 8) (xi x 5) (xi x 6) (xi x 7)) (flat_1 (xi l 8) (xi x 5) (xi x 6) (xi x 7)) (bif xi x 0 == 3 then flat_0 (xi l 8) (xi x 9) (xi x 10) (xi x 11) else 0) (bif xi x 0 == 3 then flat_1 (xi l 8) (xi x 9) (xi x 10) (xi x 11) else 0) (bif xi x 0 == 3 then xi x 12 else 0) (IntKind.i64.wrap (xi l 16 * xi l 17))
noncomputable def f1 (l x : List GC) : Int := oends_3 (flat_0 (xi l 8) (xi x 2) (xi x 3) (xi x 4)) (flat_1 (xi l 8) (xi x 2) (xi x 3) (xi x 4)) (flat_0 (xi l 8) (xi x 5) (xi x 6) (xi x 7)) (flat_1 (xi l 8) (xi x 5) (xi x 6) (xi x 7)) (bif xi x 0 == 3 then flat_0 (xi l 8) (xi x 9) (xi x 10) (xi x 11) else 0) (bif xi x 0 == 3 then flat_1 (xi l 8) (xi x 9) (xi x 10) (xi x 11) else 0) (bif xi x 0 == 3 then xi x 12 else 0) (IntKind.i64.wrap (xi l 16 * xi l 17))
/-- Where an item's offset leaves that of the one before. -/
noncomputable def trE (l y x : List GC) : Int := trim_2 (flat_0 (xi l 8) (xi y 2) (xi y 3) (xi y 4)) (flat_1 (xi l 8) (xi y 2) (xi y 3) (xi y 4)) (flat_0 (xi l 8) (xi y 5) (xi y 6) (xi y 7)) (flat_1 (xi l 8) (xi y 5) (xi y 6) (xi y 7)) (bif xi y 0 == 3 then flat_0 (xi l 8) (xi y 9) (xi y 10) (xi y 11) else 0) (bif xi y 0 == 3 then flat_1 (xi l 8) (xi y 9) (xi y 10) (xi y 11) else 0) (bif xi y 0 == 3 then xi y 12 else 0) (xi y 0 == 3 && xb y 13) (flat_0 (xi l 8) (xi x 2) (xi x 3) (xi x 4)) (flat_1 (xi l 8) (xi x 2) (xi x 3) (xi x 4)) (flat_0 (xi l 8) (xi x 5) (xi x 6) (xi x 7)) (flat_1 (xi l 8) (xi x 5) (xi x 6) (xi x 7)) (bif xi x 0 == 3 then flat_0 (xi l 8) (xi x 9) (xi x 10) (xi x 11) else 0) (bif xi x 0 == 3 then flat_1 (xi l 8) (xi x 9) (xi x 10) (xi x 11) else 0) (bif xi x 0 == 3 then xi x 12 else 0) (xi x 0 == 3 && xb x 13) (IntKind.i64.wrap (xi l 16 * xi l 17))
noncomputable def tr0 (l y x : List GC) : Int := trim_0 (flat_0 (xi l 8) (xi y 2) (xi y 3) (xi y 4)) (flat_1 (xi l 8) (xi y 2) (xi y 3) (xi y 4)) (flat_0 (xi l 8) (xi y 5) (xi y 6) (xi y 7)) (flat_1 (xi l 8) (xi y 5) (xi y 6) (xi y 7)) (bif xi y 0 == 3 then flat_0 (xi l 8) (xi y 9) (xi y 10) (xi y 11) else 0) (bif xi y 0 == 3 then flat_1 (xi l 8) (xi y 9) (xi y 10) (xi y 11) else 0) (bif xi y 0 == 3 then xi y 12 else 0) (xi y 0 == 3 && xb y 13) (flat_0 (xi l 8) (xi x 2) (xi x 3) (xi x 4)) (flat_1 (xi l 8) (xi x 2) (xi x 3) (xi x 4)) (flat_0 (xi l 8) (xi x 5) (xi x 6) (xi x 7)) (flat_1 (xi l 8) (xi x 5) (xi x 6) (xi x 7)) (bif xi x 0 == 3 then flat_0 (xi l 8) (xi x 9) (xi x 10) (xi x 11) else 0) (bif xi x 0 == 3 then flat_1 (xi l 8) (xi x 9) (xi x 10) (xi x 11) else 0) (bif xi x 0 == 3 then xi x 12 else 0) (xi x 0 == 3 && xb x 13) (IntKind.i64.wrap (xi l 16 * xi l 17))
noncomputable def tr1 (l y x : List GC) : Int := trim_1 (flat_0 (xi l 8) (xi y 2) (xi y 3) (xi y 4)) (flat_1 (xi l 8) (xi y 2) (xi y 3) (xi y 4)) (flat_0 (xi l 8) (xi y 5) (xi y 6) (xi y 7)) (flat_1 (xi l 8) (xi y 5) (xi y 6) (xi y 7)) (bif xi y 0 == 3 then flat_0 (xi l 8) (xi y 9) (xi y 10) (xi y 11) else 0) (bif xi y 0 == 3 then flat_1 (xi l 8) (xi y 9) (xi y 10) (xi y 11) else 0) (bif xi y 0 == 3 then xi y 12 else 0) (xi y 0 == 3 && xb y 13) (flat_0 (xi l 8) (xi x 2) (xi x 3) (xi x 4)) (flat_1 (xi l 8) (xi x 2) (xi x 3) (xi x 4)) (flat_0 (xi l 8) (xi x 5) (xi x 6) (xi x 7)) (flat_1 (xi l 8) (xi x 5) (xi x 6) (xi x 7)) (bif xi x 0 == 3 then flat_0 (xi l 8) (xi x 9) (xi x 10) (xi x 11) else 0) (bif xi x 0 == 3 then flat_1 (xi l 8) (xi x 9) (xi x 10) (xi x 11) else 0) (bif xi x 0 == 3 then xi x 12 else 0) (xi x 0 == 3 && xb x 13) (IntKind.i64.wrap (xi l 16 * xi l 17))
/-- The corner's kind. -/
noncomputable def kd (l y x : List GC) : Int := bif IntKind.i64.wrap (xi l 16 * xi l 17) == 0 then 0 else ocorner_0 (atang_0 (xi y 0) (xi y 2) (xi y 3) (xi y 4) (xi y 5) (xi y 6) (xi y 7) (xi y 8) (xi y 9) (xi y 10) (xi y 11) (xi y 12) true) (atang_1 (xi y 0) (xi y 2) (xi y 3) (xi y 4) (xi y 5) (xi y 6) (xi y 7) (xi y 8) (xi y 9) (xi y 10) (xi y 11) (xi y 12) true) (atang_0 (xi x 0) (xi x 2) (xi x 3) (xi x 4) (xi x 5) (xi x 6) (xi x 7) (xi x 8) (xi x 9) (xi x 10) (xi x 11) (xi x 12) false) (atang_1 (xi x 0) (xi x 2) (xi x 3) (xi x 4) (xi x 5) (xi x 6) (xi x 7) (xi x 8) (xi x 9) (xi x 10) (xi x 11) (xi x 12) false) (xi l 16)
/-- The last element's offset, up to a point. -/
noncomputable def shE (u w : Int) (tm : Bool) (s : St) : Int := shift_0 u w tm (nrm s.l) (nrm s.y) s.a0 s.a1 s.tr
noncomputable def shO (u w : Int) (tm : Bool) (s : St) : List (List Int) := shift_47 u w tm (nrm s.l) (nrm s.y) s.a0 s.a1 s.tr []
/-- Does a motion stay in its place in the plane, or is it none? -/
noncomputable def still (x l : List GC) : Bool := !cmotion_0 (xi x 0) || !(xb x 13 || !(flat_0 (xi l 8) (xi x 2) (xi x 3) (xi x 4) == flat_0 (xi l 8) (xi x 5) (xi x 6) (xi x 7) && flat_1 (xi l 8) (xi x 2) (xi x 3) (xi x 4) == flat_1 (xi l 8) (xi x 5) (xi x 6) (xi x 7)))
noncomputable def odd (x l : List GC) : Bool := cmotion_0 (xi x 0) && (xi x 8 != xi l 8 || xi x 16 != xi l 16 || xi x 17 != xi l 17)
noncomputable def three (x : List GC) : Bool := xi x 0 == 1 || xi x 0 == 11 || xi x 0 == 14
theorem cond_16 {c : Bool} (h : (bif c then (16 : Int) else 0) = 0) : c = false := by
  cases c
  · rfl
  · cases h
theorem shift_at (u w : Int) (tm : Bool) (l y : List GC) (a0 a1 : Int) (tr : Bool) (h : shift_0 u w tm l y a0 a1 tr = 0) : shift_45 u w tm l y a0 a1 tr = u ∧ shift_46 u w tm l y a0 a1 tr = w := by
  unfold shift_0 at h
  unfold shift_45 shift_46
  generalize (xi y 0 == 2) = b1 at h ⊢
  generalize ((tm || tr) && decide (shift_s0 u w l y a0 a1 ≤ 0)) = b2 at h ⊢
  generalize ((tm || tr) && !xb y 13 && !within_0 u w tm (nrm l) (nrm y) a0 a1 tr) = b3 at h ⊢
  cases b1 <;> cases b2 <;> cases b3 <;> first
    | exact ⟨rfl, rfl⟩
    | exact absurd h (by show ¬ (16 : Int) = 0; decide)
    | (simp only [cond_true, cond_false] at h ⊢; rw [cond_16 h]; exact ⟨rfl, rfl⟩)
theorem push_plain (x : List GC) (s : St) (he : s.er = 0) (hl : nrm s.l = s.l) (hy : nrm s.y = s.y) (hc : s.cl = false) (hi : inv x s = false) (ho : s.op = false) (hm : (cmotion_0 (xi x 0) && xi x 16 != 0) = false) :
    pushS x s = mvd x s ∧ pushO x s = [toRow x] := by
  unfold inv at hi
  have e2 : (s.er == 0) = true := by rw [he]; rfl
  refine ⟨?_, ?_⟩
  · unfold pushS mvd
    simp only [take_0, take_1, take_2, take_3, take_4, take_5, take_6, take_7, take_8, take_9, take_10, take_11, take_12, take_13, take_14, take_15, take_16, take_17, take_18, take_19, take_20, take_21, take_22, take_23, take_24, take_25, take_26, take_27, take_28, take_29, take_30, take_31, take_32, take_33, take_34, take_35, take_36, take_37, take_38, take_39, take_40, take_41, take_42, take_43, take_44, take_45, take_46, take_47, take_48, take_49, take_50, take_51, take_52, take_53, take_54, take_55, take_s0, take_s1, push_0, push_1, push_2, push_3, push_4, push_5, push_6, push_7, push_8, push_9, push_10, push_11, push_12, push_13, push_14, push_15, push_16, push_17, push_18, push_19, push_20, push_21, push_22, push_23, push_24, push_25, push_26, push_27, push_28, push_29, push_30, push_31, push_32, push_33, push_34, push_35, push_36, push_37, push_38, push_39, push_40, push_41, push_42, push_43, push_44, push_45, push_46, push_47, push_48, push_49, push_50, push_51, push_52, push_53, push_54, push_55, push_56, nrm_nrm, nx0, nx1, nx2, nx3, nx4, nx5, nx6, nx7, nx8, nx9, nx10, nx11, nx12, nx13, nx14, nx15, nx16, nx17, nx18, nx19, nx20, nx21, e2, hc, hi, cond_true, cond_false, Bool.not_false, Bool.not_true, Bool.true_and, Bool.false_and, Bool.and_false, Bool.and_true, Bool.or_false, Bool.false_or, beq_self_eq_true, bne_self_eq_false, ho, hm]
    simp only [he]
    try rw [← hl]
    try rw [← hy]
    all_goals rfl
  · unfold pushO
    simp only [take_0, take_54, take_s0, take_s1, push_1, settled_45, nrm_nrm, nx0, nx1, nx2, nx3, nx4, nx5, nx6, nx7, nx8, nx9, nx10, nx11, nx12, nx13, nx14, nx15, nx16, nx17, nx18, nx19, nx20, nx21, e2, hc, hi, cond_true, cond_false, Bool.not_false, Bool.not_true, Bool.true_and, Bool.false_and, Bool.and_false, Bool.and_true, Bool.or_false, Bool.false_or, beq_self_eq_true, bne_self_eq_false, ho, hm]
    all_goals rfl
theorem push_begin (x : List GC) (s : St) (he : s.er = 0) (hl : nrm s.l = s.l) (hy : nrm s.y = s.y) (hc : s.cl = false) (hi : inv x s = false) (ho : s.op = false) (hm : (cmotion_0 (xi x 0) && xi x 16 != 0) = true) (hd : leads_0 (nrm x) (xi x 8) (xi x 17) = true) :
    pushS x s = { mvd x s with l := nrm x, y := zeroG, a0 := 0, a1 := 0, tr := false, op := true, C := [] } ∧ pushO x s = [] := by
  unfold inv at hi
  have e2 : (s.er == 0) = true := by rw [he]; rfl
  refine ⟨?_, ?_⟩
  · unfold pushS mvd
    simp only [begin_0, begin_1, begin_2, begin_3, begin_4, begin_5, begin_6, begin_7, begin_8, begin_9, begin_10, begin_11, begin_12, begin_13, begin_14, begin_15, begin_16, begin_17, begin_18, begin_19, begin_20, begin_21, begin_22, begin_23, begin_24, begin_25, begin_26, begin_27, begin_28, begin_29, begin_30, begin_31, begin_32, begin_33, begin_34, begin_35, begin_36, begin_37, begin_38, begin_39, begin_40, begin_41, begin_42, begin_43, begin_44, begin_45, begin_47, begin_48, begin_49, take_0, take_1, take_2, take_3, take_4, take_5, take_6, take_7, take_8, take_9, take_10, take_11, take_12, take_13, take_14, take_15, take_16, take_17, take_18, take_19, take_20, take_21, take_22, take_23, take_24, take_25, take_26, take_27, take_28, take_29, take_30, take_31, take_32, take_33, take_34, take_35, take_36, take_37, take_38, take_39, take_40, take_41, take_42, take_43, take_44, take_45, take_46, take_47, take_48, take_49, take_50, take_51, take_52, take_53, take_54, take_55, take_s0, take_s1, push_0, push_1, push_2, push_3, push_4, push_5, push_6, push_7, push_8, push_9, push_10, push_11, push_12, push_13, push_14, push_15, push_16, push_17, push_18, push_19, push_20, push_21, push_22, push_23, push_24, push_25, push_26, push_27, push_28, push_29, push_30, push_31, push_32, push_33, push_34, push_35, push_36, push_37, push_38, push_39, push_40, push_41, push_42, push_43, push_44, push_45, push_46, push_47, push_48, push_49, push_50, push_51, push_52, push_53, push_54, push_55, push_56, nrm_nrm, nx0, nx1, nx2, nx3, nx4, nx5, nx6, nx7, nx8, nx9, nx10, nx11, nx12, nx13, nx14, nx15, nx16, nx17, nx18, nx19, nx20, nx21, e2, hc, hi, cond_true, cond_false, Bool.not_false, Bool.not_true, Bool.true_and, Bool.false_and, Bool.and_false, Bool.and_true, Bool.or_false, Bool.false_or, beq_self_eq_true, bne_self_eq_false, ho, hm, hd]
    simp only [he]
    try rw [← hl]
    try rw [← hy]
    all_goals rfl
  · unfold pushO
    simp only [begin_0, take_0, take_54, take_s0, take_s1, push_1, settled_45, nrm_nrm, nx0, nx1, nx2, nx3, nx4, nx5, nx6, nx7, nx8, nx9, nx10, nx11, nx12, nx13, nx14, nx15, nx16, nx17, nx18, nx19, nx20, nx21, e2, hc, hi, cond_true, cond_false, Bool.not_false, Bool.not_true, Bool.true_and, Bool.false_and, Bool.and_false, Bool.and_true, Bool.or_false, Bool.false_or, beq_self_eq_true, bne_self_eq_false, ho, hm, hd]
    all_goals rfl
theorem push_carry (x : List GC) (s : St) (he : s.er = 0) (hl : nrm s.l = s.l) (hy : nrm s.y = s.y) (hc : s.cl = false) (hi : inv x s = false) (ho : s.op = true) (hm : (cmotion_0 (xi x 0) && xi x 16 == 0) = false) (h3 : three x = false) (hd : odd x s.l = false) (hs : still x s.l = true) (hn : (Int.ofNat s.C.length == 8) = false) :
    pushS x s = { mvd x s with C := s.C ++ [toRow x] } ∧ pushO x s = [] := by
  unfold inv at hi
  have e2 : (s.er == 0) = true := by rw [he]; rfl
  unfold three at h3
  unfold odd at hd
  unfold still at hs
  refine ⟨?_, ?_⟩
  · unfold pushS mvd
    simp only [inner_0, inner_23, inner_24, inner_25, inner_26, inner_27, inner_28, inner_29, inner_30, inner_31, inner_32, inner_33, inner_34, inner_35, inner_36, inner_37, inner_38, inner_39, inner_40, inner_41, inner_42, inner_43, inner_44, inner_45, inner_46, inner_47, inner_48, inner_49, inner_s0, inner_s1, inner_s2, inner_s3, take_0, take_1, take_2, take_3, take_4, take_5, take_6, take_7, take_8, take_9, take_10, take_11, take_12, take_13, take_14, take_15, take_16, take_17, take_18, take_19, take_20, take_21, take_22, take_23, take_24, take_25, take_26, take_27, take_28, take_29, take_30, take_31, take_32, take_33, take_34, take_35, take_36, take_37, take_38, take_39, take_40, take_41, take_42, take_43, take_44, take_45, take_46, take_47, take_48, take_49, take_50, take_51, take_52, take_53, take_54, take_55, take_s0, take_s1, push_0, push_1, push_2, push_3, push_4, push_5, push_6, push_7, push_8, push_9, push_10, push_11, push_12, push_13, push_14, push_15, push_16, push_17, push_18, push_19, push_20, push_21, push_22, push_23, push_24, push_25, push_26, push_27, push_28, push_29, push_30, push_31, push_32, push_33, push_34, push_35, push_36, push_37, push_38, push_39, push_40, push_41, push_42, push_43, push_44, push_45, push_46, push_47, push_48, push_49, push_50, push_51, push_52, push_53, push_54, push_55, push_56, v9_c3, v9_c4, v9_c5, v9_c6, v9_c0, v9_c1, v9_c2, v10_c1, nrm_nrm, nx0, nx1, nx2, nx3, nx4, nx5, nx6, nx7, nx8, nx9, nx10, nx11, nx12, nx13, nx14, nx15, nx16, nx17, nx18, nx19, nx20, nx21, e2, hc, hi, cond_true, cond_false, Bool.not_false, Bool.not_true, Bool.true_and, Bool.false_and, Bool.and_false, Bool.and_true, Bool.or_false, Bool.false_or, beq_self_eq_true, bne_self_eq_false, ho, hm, h3, hd, hs, hn]
    simp only [he]
    try rw [← hl]
    try rw [← hy]
    all_goals rfl
  · unfold pushO
    simp only [inner_0, inner_48, inner_s0, inner_s1, inner_s2, inner_s3, take_0, take_54, take_s0, take_s1, push_1, v9_c3, v9_c4, v9_c5, v9_c6, v9_c0, v9_c1, v9_c2, v10_c1, settled_45, nrm_nrm, nx0, nx1, nx2, nx3, nx4, nx5, nx6, nx7, nx8, nx9, nx10, nx11, nx12, nx13, nx14, nx15, nx16, nx17, nx18, nx19, nx20, nx21, e2, hc, hi, cond_true, cond_false, Bool.not_false, Bool.not_true, Bool.true_and, Bool.false_and, Bool.and_false, Bool.and_true, Bool.or_false, Bool.false_or, beq_self_eq_true, bne_self_eq_false, ho, hm, h3, hd, hs, hn]
    all_goals rfl
theorem push_enter (x : List GC) (s : St) (he : s.er = 0) (hl : nrm s.l = s.l) (hy : nrm s.y = s.y) (hc : s.cl = false) (hi : inv x s = false) (ho : s.op = true) (hm : (cmotion_0 (xi x 0) && xi x 16 == 0) = false) (h3 : three x = false) (hd : odd x s.l = false) (hs : still x s.l = false) (h0 : (xi s.y 0 == 0) = true) (hE : nE s.l x = 0) :
    pushS x s = { mvd x s with y := nrm x, a0 := n0 s.l x, a1 := n1 s.l x, C := [] } ∧ pushO x s = release_44 (nrm s.l) (n0 s.l x) (n1 s.l x) s.C (line_46 (nrm s.l) (n0 s.l x) (n1 s.l x) (flat_2 (xi s.l 8) (xi s.l 2) (xi s.l 3) (xi s.l 4)) (flat_2 (xi s.l 8) (xi s.l 2) (xi s.l 3) (xi s.l 4)) true (nrm s.l) (flat_0 (xi s.l 8) (xi s.l 2) (xi s.l 3) (xi s.l 4)) (flat_1 (xi s.l 8) (xi s.l 2) (xi s.l 3) (xi s.l 4)) []) := by
  unfold inv at hi
  have e2 : (s.er == 0) = true := by rw [he]; rfl
  unfold three at h3
  unfold odd at hd
  unfold still at hs
  unfold nE at hE
  refine ⟨?_, ?_⟩
  · unfold pushS mvd
    simp only [enter_s0, enter_0, enter_23, enter_24, enter_25, enter_26, enter_27, enter_28, enter_29, enter_30, enter_31, enter_32, enter_33, enter_34, enter_35, enter_36, enter_37, enter_38, enter_39, enter_40, enter_41, enter_42, enter_43, enter_44, enter_s1, enter_s2, enter_s3, enter_45, enter_46, enter_s4, enter_s5, enter_47, enter_48, inner_0, inner_23, inner_24, inner_25, inner_26, inner_27, inner_28, inner_29, inner_30, inner_31, inner_32, inner_33, inner_34, inner_35, inner_36, inner_37, inner_38, inner_39, inner_40, inner_41, inner_42, inner_43, inner_44, inner_45, inner_46, inner_47, inner_48, inner_49, inner_s0, inner_s1, inner_s2, inner_s3, take_0, take_1, take_2, take_3, take_4, take_5, take_6, take_7, take_8, take_9, take_10, take_11, take_12, take_13, take_14, take_15, take_16, take_17, take_18, take_19, take_20, take_21, take_22, take_23, take_24, take_25, take_26, take_27, take_28, take_29, take_30, take_31, take_32, take_33, take_34, take_35, take_36, take_37, take_38, take_39, take_40, take_41, take_42, take_43, take_44, take_45, take_46, take_47, take_48, take_49, take_50, take_51, take_52, take_53, take_54, take_55, take_s0, take_s1, push_0, push_1, push_2, push_3, push_4, push_5, push_6, push_7, push_8, push_9, push_10, push_11, push_12, push_13, push_14, push_15, push_16, push_17, push_18, push_19, push_20, push_21, push_22, push_23, push_24, push_25, push_26, push_27, push_28, push_29, push_30, push_31, push_32, push_33, push_34, push_35, push_36, push_37, push_38, push_39, push_40, push_41, push_42, push_43, push_44, push_45, push_46, push_47, push_48, push_49, push_50, push_51, push_52, push_53, push_54, push_55, push_56, v9_c3, v9_c4, v9_c5, v9_c6, v9_c0, v9_c1, v9_c2, v10_c1, nrm_nrm, nx0, nx1, nx2, nx3, nx4, nx5, nx6, nx7, nx8, nx9, nx10, nx11, nx12, nx13, nx14, nx15, nx16, nx17, nx18, nx19, nx20, nx21, e2, hc, hi, cond_true, cond_false, Bool.not_false, Bool.not_true, Bool.true_and, Bool.false_and, Bool.and_false, Bool.and_true, Bool.or_false, Bool.false_or, beq_self_eq_true, bne_self_eq_false, ho, hm, h3, hd, hs, h0, hE]
    simp only [he]
    try rw [← hl]
    try rw [← hy]
    all_goals kernel_rfl
  · unfold pushO
    simp only [enter_s0, enter_0, enter_s1, enter_s2, enter_s3, enter_s4, enter_s5, enter_47, inner_0, inner_48, inner_s0, inner_s1, inner_s2, inner_s3, take_0, take_54, take_s0, take_s1, push_1, v9_c3, v9_c4, v9_c5, v9_c6, v9_c0, v9_c1, v9_c2, v10_c1, settled_45, nrm_nrm, nx0, nx1, nx2, nx3, nx4, nx5, nx6, nx7, nx8, nx9, nx10, nx11, nx12, nx13, nx14, nx15, nx16, nx17, nx18, nx19, nx20, nx21, e2, hc, hi, cond_true, cond_false, Bool.not_false, Bool.not_true, Bool.true_and, Bool.false_and, Bool.and_false, Bool.and_true, Bool.or_false, Bool.false_or, beq_self_eq_true, bne_self_eq_false, ho, hm, h3, hd, hs, h0, hE]
    all_goals kernel_rfl
theorem push_inside (x : List GC) (s : St) (he : s.er = 0) (hl : nrm s.l = s.l) (hy : nrm s.y = s.y) (hc : s.cl = false) (hi : inv x s = false) (ho : s.op = true) (hm : (cmotion_0 (xi x 0) && xi x 16 == 0) = false) (h3 : three x = false) (hd : odd x s.l = false) (hs : still x s.l = false) (h0 : (xi s.y 0 == 0) = false) (hk : (kd s.l s.y x == 2) = true) (hE : trE s.l s.y x = 0) (hS : shE (tr0 s.l s.y x) (tr1 s.l s.y x) true s = 0) :
    pushS x s = { mvd x s with y := nrm x, a0 := tr0 s.l s.y x, a1 := tr1 s.l s.y x, tr := true, C := [] } ∧ pushO x s = release_44 (nrm s.l) (tr0 s.l s.y x) (tr1 s.l s.y x) s.C (shO (tr0 s.l s.y x) (tr1 s.l s.y x) true s) := by
  unfold inv at hi
  have e2 : (s.er == 0) = true := by rw [he]; rfl
  unfold three at h3
  unfold odd at hd
  unfold still at hs
  unfold kd at hk
  unfold trE at hE
  unfold shE at hS
  obtain ⟨hs1, hs2⟩ := shift_at _ _ _ _ _ _ _ _ hS
  unfold tr0 tr1 at hS hs1 hs2
  refine ⟨?_, ?_⟩
  · unfold pushS mvd
    simp only [turn_s0, turn_s1, turn_s2, turn_s3, turn_s4, turn_s5, turn_s8, turn_s9, turn_s10, turn_s11, turn_s12, turn_0, turn_23, turn_24, turn_25, turn_26, turn_27, turn_28, turn_29, turn_30, turn_31, turn_32, turn_33, turn_34, turn_35, turn_36, turn_37, turn_38, turn_39, turn_40, turn_41, turn_42, turn_43, turn_44, turn_s13, turn_s14, turn_s15, turn_s16, turn_s17, turn_45, turn_s18, turn_46, turn_47, turn_s19, turn_48, turn_49, inner_0, inner_23, inner_24, inner_25, inner_26, inner_27, inner_28, inner_29, inner_30, inner_31, inner_32, inner_33, inner_34, inner_35, inner_36, inner_37, inner_38, inner_39, inner_40, inner_41, inner_42, inner_43, inner_44, inner_45, inner_46, inner_47, inner_48, inner_49, inner_s0, inner_s1, inner_s2, inner_s3, take_0, take_1, take_2, take_3, take_4, take_5, take_6, take_7, take_8, take_9, take_10, take_11, take_12, take_13, take_14, take_15, take_16, take_17, take_18, take_19, take_20, take_21, take_22, take_23, take_24, take_25, take_26, take_27, take_28, take_29, take_30, take_31, take_32, take_33, take_34, take_35, take_36, take_37, take_38, take_39, take_40, take_41, take_42, take_43, take_44, take_45, take_46, take_47, take_48, take_49, take_50, take_51, take_52, take_53, take_54, take_55, take_s0, take_s1, push_0, push_1, push_2, push_3, push_4, push_5, push_6, push_7, push_8, push_9, push_10, push_11, push_12, push_13, push_14, push_15, push_16, push_17, push_18, push_19, push_20, push_21, push_22, push_23, push_24, push_25, push_26, push_27, push_28, push_29, push_30, push_31, push_32, push_33, push_34, push_35, push_36, push_37, push_38, push_39, push_40, push_41, push_42, push_43, push_44, push_45, push_46, push_47, push_48, push_49, push_50, push_51, push_52, push_53, push_54, push_55, push_56, v9_c3, v9_c4, v9_c5, v9_c6, v9_c0, v9_c1, v9_c2, v10_c1, nrm_nrm, nx0, nx1, nx2, nx3, nx4, nx5, nx6, nx7, nx8, nx9, nx10, nx11, nx12, nx13, nx14, nx15, nx16, nx17, nx18, nx19, nx20, nx21, e2, hc, hi, cond_true, cond_false, Bool.not_false, Bool.not_true, Bool.true_and, Bool.false_and, Bool.and_false, Bool.and_true, Bool.or_false, Bool.false_or, beq_self_eq_true, bne_self_eq_false, ho, hm, h3, hd, hs, h0, hk, hE, hS, hs1, hs2]
    simp only [he]
    try rw [← hl]
    try rw [← hy]
    all_goals kernel_rfl
  · unfold pushO
    simp only [turn_s0, turn_s1, turn_s2, turn_s3, turn_s4, turn_s5, turn_s8, turn_s9, turn_s10, turn_s11, turn_s12, turn_0, turn_s13, turn_s14, turn_s15, turn_s16, turn_s17, turn_s18, turn_s19, turn_48, inner_0, inner_48, inner_s0, inner_s1, inner_s2, inner_s3, take_0, take_54, take_s0, take_s1, push_1, v9_c3, v9_c4, v9_c5, v9_c6, v9_c0, v9_c1, v9_c2, v10_c1, settled_45, nrm_nrm, nx0, nx1, nx2, nx3, nx4, nx5, nx6, nx7, nx8, nx9, nx10, nx11, nx12, nx13, nx14, nx15, nx16, nx17, nx18, nx19, nx20, nx21, e2, hc, hi, cond_true, cond_false, Bool.not_false, Bool.not_true, Bool.true_and, Bool.false_and, Bool.and_false, Bool.and_true, Bool.or_false, Bool.false_or, beq_self_eq_true, bne_self_eq_false, ho, hm, h3, hd, hs, h0, hk, hE, hS, hs1, hs2]
    all_goals kernel_rfl
theorem push_outside (x : List GC) (s : St) (he : s.er = 0) (hl : nrm s.l = s.l) (hy : nrm s.y = s.y) (hc : s.cl = false) (hi : inv x s = false) (ho : s.op = true) (hm : (cmotion_0 (xi x 0) && xi x 16 == 0) = false) (h3 : three x = false) (hd : odd x s.l = false) (hs : still x s.l = false) (h0 : (xi s.y 0 == 0) = false) (hk : (kd s.l s.y x == 2) = false) (hE : nE s.l s.y = 0) (hF : nE s.l x = 0) (hS : shE (f0 s.l s.y) (f1 s.l s.y) false s = 0) :
    pushS x s = { mvd x s with y := nrm x, a0 := n0 s.l x, a1 := n1 s.l x, tr := false, C := [] } ∧ pushO x s = join_46 (nrm x) (n0 s.l x) (n1 s.l x) (kd s.l s.y x == 1) (nrm s.l) (f0 s.l s.y) (f1 s.l s.y) (release_44 (nrm s.l) (f0 s.l s.y) (f1 s.l s.y) s.C (shO (f0 s.l s.y) (f1 s.l s.y) false s)) := by
  unfold inv at hi
  have e2 : (s.er == 0) = true := by rw [he]; rfl
  unfold three at h3
  unfold odd at hd
  unfold still at hs
  unfold kd at hk
  unfold nE at hE
  unfold nE at hF
  unfold shE at hS
  obtain ⟨hs1, hs2⟩ := shift_at _ _ _ _ _ _ _ _ hS
  unfold f0 f1 at hS hs1 hs2
  refine ⟨?_, ?_⟩
  · unfold pushS mvd
    simp only [turn_s0, turn_s1, turn_s2, turn_s3, turn_s4, turn_s5, turn_s8, turn_s9, turn_s10, turn_s11, turn_s12, turn_0, turn_23, turn_24, turn_25, turn_26, turn_27, turn_28, turn_29, turn_30, turn_31, turn_32, turn_33, turn_34, turn_35, turn_36, turn_37, turn_38, turn_39, turn_40, turn_41, turn_42, turn_43, turn_44, turn_s13, turn_s14, turn_s15, turn_s16, turn_s17, turn_45, turn_s18, turn_46, turn_47, turn_s19, turn_48, turn_49, inner_0, inner_23, inner_24, inner_25, inner_26, inner_27, inner_28, inner_29, inner_30, inner_31, inner_32, inner_33, inner_34, inner_35, inner_36, inner_37, inner_38, inner_39, inner_40, inner_41, inner_42, inner_43, inner_44, inner_45, inner_46, inner_47, inner_48, inner_49, inner_s0, inner_s1, inner_s2, inner_s3, take_0, take_1, take_2, take_3, take_4, take_5, take_6, take_7, take_8, take_9, take_10, take_11, take_12, take_13, take_14, take_15, take_16, take_17, take_18, take_19, take_20, take_21, take_22, take_23, take_24, take_25, take_26, take_27, take_28, take_29, take_30, take_31, take_32, take_33, take_34, take_35, take_36, take_37, take_38, take_39, take_40, take_41, take_42, take_43, take_44, take_45, take_46, take_47, take_48, take_49, take_50, take_51, take_52, take_53, take_54, take_55, take_s0, take_s1, push_0, push_1, push_2, push_3, push_4, push_5, push_6, push_7, push_8, push_9, push_10, push_11, push_12, push_13, push_14, push_15, push_16, push_17, push_18, push_19, push_20, push_21, push_22, push_23, push_24, push_25, push_26, push_27, push_28, push_29, push_30, push_31, push_32, push_33, push_34, push_35, push_36, push_37, push_38, push_39, push_40, push_41, push_42, push_43, push_44, push_45, push_46, push_47, push_48, push_49, push_50, push_51, push_52, push_53, push_54, push_55, push_56, v9_c3, v9_c4, v9_c5, v9_c6, v9_c0, v9_c1, v9_c2, v10_c1, nrm_nrm, nx0, nx1, nx2, nx3, nx4, nx5, nx6, nx7, nx8, nx9, nx10, nx11, nx12, nx13, nx14, nx15, nx16, nx17, nx18, nx19, nx20, nx21, e2, hc, hi, cond_true, cond_false, Bool.not_false, Bool.not_true, Bool.true_and, Bool.false_and, Bool.and_false, Bool.and_true, Bool.or_false, Bool.false_or, beq_self_eq_true, bne_self_eq_false, ho, hm, h3, hd, hs, h0, hk, hE, hF, hS, hs1, hs2]
    simp only [he]
    try rw [← hl]
    try rw [← hy]
    all_goals kernel_rfl
  · unfold pushO
    simp only [turn_s0, turn_s1, turn_s2, turn_s3, turn_s4, turn_s5, turn_s8, turn_s9, turn_s10, turn_s11, turn_s12, turn_0, turn_s13, turn_s14, turn_s15, turn_s16, turn_s17, turn_s18, turn_s19, turn_48, inner_0, inner_48, inner_s0, inner_s1, inner_s2, inner_s3, take_0, take_54, take_s0, take_s1, push_1, v9_c3, v9_c4, v9_c5, v9_c6, v9_c0, v9_c1, v9_c2, v10_c1, settled_45, nrm_nrm, nx0, nx1, nx2, nx3, nx4, nx5, nx6, nx7, nx8, nx9, nx10, nx11, nx12, nx13, nx14, nx15, nx16, nx17, nx18, nx19, nx20, nx21, e2, hc, hi, cond_true, cond_false, Bool.not_false, Bool.not_true, Bool.true_and, Bool.false_and, Bool.and_false, Bool.and_true, Bool.or_false, Bool.false_or, beq_self_eq_true, bne_self_eq_false, ho, hm, h3, hd, hs, h0, hk, hE, hF, hS, hs1, hs2]
    all_goals kernel_rfl
theorem push_finish (x : List GC) (s : St) (he : s.er = 0) (hl : nrm s.l = s.l) (hy : nrm s.y = s.y) (hc : s.cl = false) (hi : inv x s = false) (ho : s.op = true) (hm : (cmotion_0 (xi x 0) && xi x 16 == 0) = true) (hd : (!leads_0 (nrm x) (xi s.l 8) (xi s.l 17) || xi s.y 0 == 0) = false) (hE : nE s.l s.y = 0) (hS : shE (f0 s.l s.y) (f1 s.l s.y) false s = 0) :
    pushS x s = { mvd x s with l := zeroG, y := zeroG, a0 := 0, a1 := 0, tr := false, op := false, C := [] } ∧ pushO x s = line_46 (nrm x) (flat_0 (xi s.l 8) (xi x 5) (xi x 6) (xi x 7)) (flat_1 (xi s.l 8) (xi x 5) (xi x 6) (xi x 7)) (flat_2 (xi s.l 8) (xi x 5) (xi x 6) (xi x 7)) (flat_2 (xi s.l 8) (xi x 5) (xi x 6) (xi x 7)) true (nrm s.l) (f0 s.l s.y) (f1 s.l s.y) (release_44 (nrm s.l) (f0 s.l s.y) (f1 s.l s.y) s.C (shO (f0 s.l s.y) (f1 s.l s.y) false s)) := by
  unfold inv at hi
  have e2 : (s.er == 0) = true := by rw [he]; rfl
  unfold nE at hE
  unfold shE at hS
  obtain ⟨hs1, hs2⟩ := shift_at _ _ _ _ _ _ _ _ hS
  unfold f0 f1 at hS hs1 hs2
  refine ⟨?_, ?_⟩
  · unfold pushS mvd
    simp only [finish_s0, finish_s1, finish_s2, finish_s3, finish_s4, finish_0, finish_1, finish_2, finish_3, finish_4, finish_5, finish_6, finish_7, finish_8, finish_9, finish_10, finish_11, finish_12, finish_13, finish_14, finish_15, finish_16, finish_17, finish_18, finish_19, finish_20, finish_21, finish_22, finish_23, finish_24, finish_25, finish_26, finish_27, finish_28, finish_29, finish_30, finish_31, finish_32, finish_33, finish_34, finish_35, finish_36, finish_37, finish_38, finish_39, finish_40, finish_41, finish_42, finish_43, finish_44, finish_s5, finish_s6, finish_45, finish_46, finish_47, finish_48, finish_49, finish_50, take_0, take_1, take_2, take_3, take_4, take_5, take_6, take_7, take_8, take_9, take_10, take_11, take_12, take_13, take_14, take_15, take_16, take_17, take_18, take_19, take_20, take_21, take_22, take_23, take_24, take_25, take_26, take_27, take_28, take_29, take_30, take_31, take_32, take_33, take_34, take_35, take_36, take_37, take_38, take_39, take_40, take_41, take_42, take_43, take_44, take_45, take_46, take_47, take_48, take_49, take_50, take_51, take_52, take_53, take_54, take_55, take_s0, take_s1, push_0, push_1, push_2, push_3, push_4, push_5, push_6, push_7, push_8, push_9, push_10, push_11, push_12, push_13, push_14, push_15, push_16, push_17, push_18, push_19, push_20, push_21, push_22, push_23, push_24, push_25, push_26, push_27, push_28, push_29, push_30, push_31, push_32, push_33, push_34, push_35, push_36, push_37, push_38, push_39, push_40, push_41, push_42, push_43, push_44, push_45, push_46, push_47, push_48, push_49, push_50, push_51, push_52, push_53, push_54, push_55, push_56, v9_c3, v9_c4, v9_c5, v9_c6, v9_c0, v9_c1, v9_c2, v10_c1, nrm_nrm, nx0, nx1, nx2, nx3, nx4, nx5, nx6, nx7, nx8, nx9, nx10, nx11, nx12, nx13, nx14, nx15, nx16, nx17, nx18, nx19, nx20, nx21, e2, hc, hi, cond_true, cond_false, Bool.not_false, Bool.not_true, Bool.true_and, Bool.false_and, Bool.and_false, Bool.and_true, Bool.or_false, Bool.false_or, beq_self_eq_true, bne_self_eq_false, ho, hm, hd, hE, hS, hs1, hs2]
    simp only [he]
    try rw [← hl]
    try rw [← hy]
    all_goals kernel_rfl
  · unfold pushO
    simp only [finish_s0, finish_s1, finish_s2, finish_s3, finish_s4, finish_0, finish_s5, finish_s6, finish_49, take_0, take_54, take_s0, take_s1, push_1, v9_c3, v9_c4, v9_c5, v9_c6, v9_c0, v9_c1, v9_c2, v10_c1, settled_45, nrm_nrm, nx0, nx1, nx2, nx3, nx4, nx5, nx6, nx7, nx8, nx9, nx10, nx11, nx12, nx13, nx14, nx15, nx16, nx17, nx18, nx19, nx20, nx21, e2, hc, hi, cond_true, cond_false, Bool.not_false, Bool.not_true, Bool.true_and, Bool.false_and, Bool.and_false, Bool.and_true, Bool.or_false, Bool.false_or, beq_self_eq_true, bne_self_eq_false, ho, hm, hd, hE, hS, hs1, hs2]
    all_goals kernel_rfl
end Go.Proofs.Ytmbfbhimdkjkoaa
namespace Go.Proofs.Ytmbfbhimdkjkoaa
open Go.SX Go.RowKit
/-- The error of a filter that has none, for an item. -/
noncomputable def errS (x : List GC) (s : St) : Int :=
  bif s.cl then 13 else bif inv x s then 1 else
  bif !s.op && cmotion_0 (xi x 0) && xi x 16 != 0 then (bif !leads_0 (nrm x) (xi x 8) (xi x 17) then 14 else 0)
  else bif !s.op then 0
  else bif cmotion_0 (xi x 0) && xi x 16 == 0 then
    (bif !leads_0 (nrm x) (xi s.l 8) (xi s.l 17) || xi s.y 0 == 0 then 14 else
      bif nE s.l s.y == 0 then (bif shE (f0 s.l s.y) (f1 s.l s.y) false s != 0 then shE (f0 s.l s.y) (f1 s.l s.y) false s else 0) else (bif nE s.l s.y != 0 then nE s.l s.y else 0))
  else bif three x then 13 else bif odd x s.l then 13
  else bif still x s.l then (bif Int.ofNat s.C.length == 8 then 10 else 0)
  else bif xi s.y 0 == 0 then (bif nE s.l x != 0 then nE s.l x else 0)
  else bif kd s.l s.y x == 2 then
    (bif trE s.l s.y x == 0 then (bif shE (tr0 s.l s.y x) (tr1 s.l s.y x) true s != 0 then shE (tr0 s.l s.y x) (tr1 s.l s.y x) true s else 0) else (bif trE s.l s.y x != 0 then trE s.l s.y x else 0))
  else (bif nE s.l s.y != 0 then nE s.l s.y else
    bif nE s.l x == 0 then (bif shE (f0 s.l s.y) (f1 s.l s.y) false s != 0 then shE (f0 s.l s.y) (f1 s.l s.y) false s else 0) else (bif nE s.l x != 0 then nE s.l x else 0))
theorem pushE_spec (x : List GC) (s : St) (he : s.er = 0) : pushE x s = errS x s := by
  unfold pushE
  rw [push_0_eq]
  unfold push_55
  rw [he, beq_self_eq_true, cond_true]
  kernel_rfl
theorem cond_ne {c : Bool} {a b : Int} (ha : a ≠ 0) (h : (bif c then a else b) = 0) : c = false ∧ b = 0 := by
  cases c
  · exact ⟨rfl, h⟩
  · exact absurd h ha
theorem id_ne {a : Int} (h : (bif a != 0 then a else 0) = 0) : a = 0 := by
  cases ha : (a != 0)
  · simpa using ha
  · rw [ha] at h; exact h
theorem two_ne {a b : Int} (h : (bif a == 0 then (bif b != 0 then b else 0) else (bif a != 0 then a else 0)) = 0) : a = 0 ∧ b = 0 := by
  cases ha : (a == 0)
  · rw [ha] at h
    have := id_ne h
    rw [this] at ha; cases ha
  · rw [ha] at h
    exact ⟨by simpa using ha, id_ne h⟩
/-- The item that is not refused. -/
theorem push_cases (x : List GC) (s : St) (he : s.er = 0) (h : pushE x s = 0) : s.cl = false ∧ inv x s = false ∧
    ((s.op = false ∧ (cmotion_0 (xi x 0) && xi x 16 != 0) = false) ∨
     (s.op = false ∧ (cmotion_0 (xi x 0) && xi x 16 != 0) = true ∧ leads_0 (nrm x) (xi x 8) (xi x 17) = true) ∨
     (s.op = true ∧ (cmotion_0 (xi x 0) && xi x 16 == 0) = true ∧ (!leads_0 (nrm x) (xi s.l 8) (xi s.l 17) || xi s.y 0 == 0) = false ∧ nE s.l s.y = 0 ∧ shE (f0 s.l s.y) (f1 s.l s.y) false s = 0) ∨
     (s.op = true ∧ (cmotion_0 (xi x 0) && xi x 16 == 0) = false ∧ three x = false ∧ odd x s.l = false ∧
       ((still x s.l = true ∧ (Int.ofNat s.C.length == 8) = false) ∨
        (still x s.l = false ∧ (xi s.y 0 == 0) = true ∧ nE s.l x = 0) ∨
        (still x s.l = false ∧ (xi s.y 0 == 0) = false ∧ (kd s.l s.y x == 2) = true ∧ trE s.l s.y x = 0 ∧ shE (tr0 s.l s.y x) (tr1 s.l s.y x) true s = 0) ∨
        (still x s.l = false ∧ (xi s.y 0 == 0) = false ∧ (kd s.l s.y x == 2) = false ∧ nE s.l s.y = 0 ∧ nE s.l x = 0 ∧ shE (f0 s.l s.y) (f1 s.l s.y) false s = 0)))) := by
  rw [pushE_spec x s he] at h
  unfold errS at h
  obtain ⟨h1, h⟩ := cond_ne (by decide) h
  obtain ⟨h2, h⟩ := cond_ne (by decide) h
  refine ⟨h1, h2, ?_⟩
  cases ho : s.op
  · rw [ho] at h
    simp only [Bool.not_false, Bool.true_and, cond_true] at h
    cases hm : (cmotion_0 (xi x 0) && xi x 16 != 0)
    · exact .inl ⟨rfl, rfl⟩
    · rw [hm, cond_true] at h
      obtain ⟨h3, _⟩ := cond_ne (by decide) h
      exact .inr (.inl ⟨rfl, rfl, by simpa using h3⟩)
  · rw [ho] at h
    simp only [Bool.not_true, Bool.false_and, cond_false] at h
    cases hm : (cmotion_0 (xi x 0) && xi x 16 == 0)
    · rw [hm, cond_false] at h
      obtain ⟨h3, h⟩ := cond_ne (by decide) h
      obtain ⟨h4, h⟩ := cond_ne (by decide) h
      refine .inr (.inr (.inr ⟨rfl, rfl, h3, h4, ?_⟩))
      cases hs : still x s.l
      · rw [hs, cond_false] at h
        cases h0 : (xi s.y 0 == 0)
        · rw [h0, cond_false] at h
          cases hk : (kd s.l s.y x == 2)
          · rw [hk, cond_false] at h
            have hn : nE s.l s.y = 0 := by
              cases hn : (nE s.l s.y != 0)
              · simpa using hn
              · rw [hn, cond_true] at h; exact h
            rw [hn, bne_self_eq_false, cond_false] at h
            obtain ⟨h5, h6⟩ := two_ne h
            exact .inr (.inr (.inr ⟨rfl, rfl, rfl, hn, h5, h6⟩))
          · rw [hk, cond_true] at h
            obtain ⟨h5, h6⟩ := two_ne h
            exact .inr (.inr (.inl ⟨rfl, rfl, rfl, h5, h6⟩))
        · rw [h0, cond_true] at h
          exact .inr (.inl ⟨rfl, rfl, id_ne h⟩)
      · rw [hs, cond_true] at h
        obtain ⟨h5, _⟩ := cond_ne (by decide) h
        exact .inl ⟨rfl, h5⟩
    · rw [hm, cond_true] at h
      obtain ⟨h3, h⟩ := cond_ne (by decide) h
      obtain ⟨h5, h6⟩ := two_ne h
      exact .inr (.inr (.inl ⟨rfl, rfl, h3, h5, h6⟩))
end Go.Proofs.Ytmbfbhimdkjkoaa
namespace Go.Proofs.Ytmbfbhimdkjkoaa
open Go.SX Go.RowKit
/-- The filter behind a list, and what it has settled. -/
noncomputable def runS : List (List Int) → St → St
  | [], s => s
  | r :: l, s => runS l (pushS (ofRow r) s)
noncomputable def runO : List (List Int) → St → List (List Int)
  | [], _ => []
  | r :: l, s => pushO (ofRow r) s ++ runO l (pushS (ofRow r) s)
/-- No item is refused. -/
noncomputable def runOk : List (List Int) → St → Prop
  | [], _ => True
  | r :: l, s => pushE (ofRow r) s = 0 ∧ runOk l (pushS (ofRow r) s)
theorem drop_cons {L : List (List Int)} {i : Nat} (h : i < L.length) : L.drop i = L.getD i [] :: L.drop (i + 1) := by
  rw [List.drop_eq_getElem_cons h]
  simp [List.getD, List.getElem?_eq_getElem h]
theorem apN_run (L : List (List Int)) : ∀ (k : Nat) (a : AS), a.i + k = L.length → (apN L k a).bad = false →
    runOk (L.drop a.i) a.s ∧ (apN L k a).s = runS (L.drop a.i) a.s ∧ (apN L k a).R = a.R ++ runO (L.drop a.i) a.s
  | 0, a, h, _ => by
    have e : L.drop a.i = [] := List.drop_eq_nil_of_le (by omega)
    rw [e]
    exact ⟨trivial, rfl, (List.append_nil _).symm⟩
  | k + 1, a, h, hb => by
    unfold apN at hb ⊢
    cases he : (pushE (ofRow (L.getD a.i [])) a.s != 0)
    · rw [he, cond_false] at hb
      rw [cond_false, drop_cons (by omega)]
      obtain ⟨h1, h2, h3⟩ := apN_run L k _ (by show a.i + 1 + k = _; omega) hb
      exact ⟨⟨by simpa using he, h1⟩, h2, by rw [h3]; show (a.R ++ _) ++ _ = _; rw [List.append_assoc]; rfl⟩
    · rw [he, cond_true] at hb; cases hb
/-- What Apply returns of a list that is accepted. -/
theorem ap_ok {L : List (List Int)} (h : apE L = 0) : runOk L St0 ∧ (runS L St0).op = false ∧ (runS L St0).er = 0 ∧ apO L = runO L St0 ∧ apI L = Int.ofNat L.length := by
  unfold apE at h
  cases hb : (apT L).bad
  · rw [hb, cond_false] at h
    have hc : apC L = 0 := id_ne h
    obtain ⟨h1, h2, h3⟩ := apN_run L (L.length - 0) ⟨0, St0, []⟩ (by show 0 + (L.length - 0) = _; omega) hb
    have h2' : (apT L).s = runS L St0 := h2
    have h3' : (apT L).R = runO L St0 := h3
    have hc' := hc
    unfold apC close_0 at hc'
    rw [oitem_3_id] at hc'
    obtain ⟨h4, h5⟩ := cond_ne (by decide) hc'
    rw [h5] at h4
    simp only [beq_self_eq_true, Bool.true_and, Bool.or_eq_false_iff] at h4
    refine ⟨h1, by rw [← h2']; exact h4.2, by rw [← h2']; exact h5, ?_, ?_⟩
    · unfold apO
      rw [hb, hc, bne_self_eq_false, cond_false, cond_false, h3']
      have : close_46 (apT L).s.op (apT L).s.cl (apT L).s.er [] = [] := by unfold close_46 settled_45; cases (bif (apT L).s.er == 0 && ((apT L).s.cl || (apT L).s.op) then (13 : Int) else (apT L).s.er) != 0 <;> rfl
      rw [this, List.append_nil]
    · unfold apI
      rw [hb, hc]; rfl
  · exfalso
    rw [hb, cond_true] at h
    have : ∀ (k : Nat) (a : AS), (apN L k a).bad = true → (apN L k a).e ≠ 0 := by
      intro k
      induction k with
      | zero => intro a h; cases h
      | succ k ih =>
        intro a h
        unfold apN at h ⊢
        cases he : (pushE (ofRow (L.getD a.i [])) a.s != 0)
        · rw [he] at h; exact ih _ h
        · rw [cond_true]; simpa using he
    exact this _ _ hb h
end Go.Proofs.Ytmbfbhimdkjkoaa
namespace Go.Proofs.Ytmbfbhimdkjkoaa
open Go.SX Go.RowKit
noncomputable def sqr (n : Int) : Int := fr 63 n 63
theorem sqr_law {n : Int} (h0 : 0 ≤ n) (h1 : n < 9223372036854775808) : 0 ≤ sqr n ∧ sqr n * sqr n ≤ n ∧ n < (sqr n + 1) * (sqr n + 1) ∧ sqr n ≤ 3037000499 := by
  obtain ⟨a, b, c, d⟩ := fr_all (T := 63) h0 (show n < 2 ^ 63 * 2 ^ 63 from by have : (2 : Int) ^ 63 * 2 ^ 63 = 85070591730234615865843651857942052864 := rfl; omega)
  have : fr 63 n 63 ≤ 3037000499 := by
    rcases Int.lt_or_le 3037000499 (fr 63 n 63) with h | h
    · have := Int.mul_le_mul (show (3037000500 : Int) ≤ fr 63 n 63 by omega) (show (3037000500 : Int) ≤ fr 63 n 63 by omega) (by omega) a
      omega
    · exact h
  exact ⟨a, b, c, this⟩
theorem floorRoot_sqr {n : Int} (h0 : 0 ≤ n) (h1 : n < 9223372036854775808) : floorRoot_0 0 n = sqr n := by
  obtain ⟨a, b, c, d⟩ := sqr_law h0 h1
  obtain ⟨x, y, z, w⟩ := fl_law (a := 0) (b := n) ⟨by omega, by omega⟩ ⟨h0, by omega⟩
  rw [Int.zero_mul, Int.zero_add] at y z
  exact root_one x a y z b c
theorem sub0 {x y : Int} (hx : u64 x) (hy : u64 y) (h : y ≤ x) : sub64v x y 0 = x - y ∧ sub64b x y 0 = 0 := by
  obtain ⟨i, rfl⟩ := Int.eq_ofNat_of_zero_le hx.1
  obtain ⟨j, rfl⟩ := Int.eq_ofNat_of_zero_le hy.1
  unfold sub64v sub64b
  have e : (((i : Int).toNat + 18446744073709551616 - (j : Int).toNat - (0 : Int).toNat) % 18446744073709551616 : Nat) = i - j := by
    simp only [Int.toNat_natCast]
    have : (0 : Int).toNat = 0 := rfl
    omega
  have e2 : ¬ ((i : Int).toNat < (j : Int).toNat + (0 : Int).toNat) := by
    simp only [Int.toNat_natCast]
    have : (0 : Int).toNat = 0 := rfl
    omega
  rw [e, if_neg e2]
  constructor
  · omega
  · rfl
/-- The double of the absolute value, rounded down. -/
noncomputable def tw (p n : Int) : Int := fr 64 (4 * (p * p) / n) 64
/-- The absolute value, rounded to the nearest one; a half up. -/
noncomputable def ovq (p n : Int) (neg : Bool) : Int :=
  if tw p n % 2 = 1 ∧ (neg = false ∨ tw p n * tw p n * n ≠ 4 * (p * p)) then tw p n / 2 + 1 else tw p n / 2
theorem tw_law {p n : Int} (hp : 0 ≤ p ∧ p ≤ 4611686018427387904) (hn : 1 ≤ n ∧ n ≤ 4611686018427387904) : 0 ≤ tw p n ∧ tw p n * tw p n * n ≤ 4 * (p * p) ∧ 4 * (p * p) < (tw p n + 1) * (tw p n + 1) * n ∧ tw p n ≤ 9223372036854775808 := by
  have hq := prod_lt 4611686018427387904 4611686018427387904 (x := p) (y := p) hp hp (by omega)
  have hd : 0 ≤ 4 * (p * p) / n := Int.ediv_nonneg (by omega) (by omega)
  have hd2 := Int.ediv_le_self n (show 0 ≤ 4 * (p * p) by omega)
  have e : (2 : Int) ^ 64 * 2 ^ 64 = 340282366920938463463374607431768211456 := rfl
  obtain ⟨x, y, z, w⟩ := fr_all (T := 64) (x := 4 * (p * p) / n) hd (by omega)
  have h1 := (Int.le_ediv_iff_mul_le (show 0 < n by omega)).1 y
  have h2 : 4 * (p * p) < (tw p n + 1) * (tw p n + 1) * n := by
    rcases Int.lt_or_le (4 * (p * p)) ((tw p n + 1) * (tw p n + 1) * n) with g | g
    · exact g
    · have := (Int.le_ediv_iff_mul_le (show 0 < n by omega)).2 g
      have z' : 4 * (p * p) / n < (tw p n + 1) * (tw p n + 1) := z
      omega
  refine ⟨x, h1, h2, ?_⟩
  rcases Int.lt_or_le (tw p n) 9223372036854775809 with g | g
  · omega
  · exfalso
    have g2 := Int.mul_le_mul g g (by omega) x
    have y' : tw p n * tw p n ≤ 4 * (p * p) / n := y
    omega
theorem wOver_law {a b n : Int} (ha : isI a) (hb : isI b) (la : wsize_0 a ≤ 2147483648) (lb : wsize_0 b ≤ 2147483648) (hn : 1 ≤ n ∧ n ≤ 4611686018427387904) :
    wOver_0 a b n 2 = (if wsign_0 a b < 0 then -ovq (wsize_0 a * wsize_0 b) n true else ovq (wsize_0 a * wsize_0 b) n false) ∧ wOver_1 a b n 2 = true := by
  have sa := wsize_rng ha
  have sb := wsize_rng hb
  obtain ⟨p0, p1⟩ := prod_lt 2147483648 2147483648 (x := wsize_0 a) (y := wsize_0 b) ⟨sa.1, la⟩ ⟨sb.1, lb⟩ (by omega)
  have hc : (decide (wsize_0 a > 2147483648) || decide (wsize_0 b > 2147483648) || decide (n < 1) || decide (n > 4611686018427387904) || !((2 : Int) == 0 || (2 : Int) == 1 || (2 : Int) == 2)) = false := by
    rw [decide_eq_false (by omega), decide_eq_false (by omega), decide_eq_false (by omega), decide_eq_false (by omega)]; rfl
  have ew : IntKind.u64.wrap n = n := wrU (by omega) (by omega)
  have e0 : wOver_s0 a b = 2 * (wsize_0 a * wsize_0 b) := by
    unfold wOver_s0
    rw [wrU (x := wsize_0 a * wsize_0 b) (by omega) (by omega), wrU (by omega) (by omega)]
  generalize hP : wsize_0 a * wsize_0 b = P at *
  have us : u64 (wOver_s0 a b) := by rw [e0]; exact ⟨by omega, by omega⟩
  have hh := m0_u64 us us
  have hl := m1_u64 (wOver_s0 a b) (wOver_s0 a b)
  have ehl : mul64_0 (wOver_s0 a b) (wOver_s0 a b) * 18446744073709551616 + mul64_1 (wOver_s0 a b) (wOver_s0 a b) = 4 * (P * P) := by
    rw [mul64_hi _ _ us us, mul64_lo, e0]
    have : 2 * P * (2 * P) = 4 * (P * P) := by grind
    rw [this]; omega
  obtain ⟨q1, q2, q3, q4⟩ := quot_law hh hl (c := n) (by omega) (by omega)
  rw [ehl] at q3 q4
  have eT : wOver_s2 a b n = tw P n := by
    unfold wOver_s2 wOver_s1
    rw [ew]
    show fr 64 _ 64 = _
    rw [q3]; rfl
  obtain ⟨t0, t1, t2, t3⟩ := tw_law (p := P) (n := n) ⟨p0, by omega⟩ hn
  have uT : u64 (tw P n) := ⟨t0, by omega⟩
  have dm := Int.mul_ediv_add_emod (4 * (P * P)) n
  have m3 := Int.emod_nonneg (4 * (P * P)) (show n ≠ 0 by omega)
  -- is there a rest?
  have e4 : wOver_s4 a b n = decide (tw P n * tw P n * n ≠ 4 * (P * P)) := by
    unfold wOver_s4 wOver_s1
    rw [ew, eT, q4, mul64_hi _ _ uT uT, mul64_lo]
    have hT : (tw P n * tw P n / 18446744073709551616 == div64_0 0 (mul64_0 (wOver_s0 a b) (wOver_s0 a b)) n && tw P n * tw P n % 18446744073709551616 == div64_0 (div64_1 0 (mul64_0 (wOver_s0 a b) (wOver_s0 a b)) n) (mul64_1 (wOver_s0 a b) (wOver_s0 a b)) n) = decide (tw P n * tw P n = 4 * (P * P) / n) := by
      rw [← q3]
      generalize tw P n * tw P n = z at *
      generalize div64_0 0 (mul64_0 (wOver_s0 a b) (wOver_s0 a b)) n = u at *
      generalize div64_0 (div64_1 0 (mul64_0 (wOver_s0 a b) (wOver_s0 a b)) n) (mul64_1 (wOver_s0 a b) (wOver_s0 a b)) n = v at *
      rw [Bool.eq_iff_iff]
      simp only [Bool.and_eq_true, beq_iff_eq, decide_eq_true_eq]
      omega
    rw [hT]
    have hle : tw P n * tw P n ≤ 4 * (P * P) / n := (Int.le_ediv_iff_mul_le (show 0 < n by omega)).2 t1
    have hcm : n * (4 * (P * P) / n) = 4 * (P * P) / n * n := Int.mul_comm _ _
    rw [hcm] at dm
    rw [Bool.eq_iff_iff]
    simp only [Bool.or_eq_true, Bool.not_eq_true', decide_eq_true_eq, decide_eq_false_iff_not]
    constructor
    · rintro (g | g)
      · have := Int.mul_le_mul_of_nonneg_right hle (show 0 ≤ n by omega)
        omega
      · have := Int.mul_le_mul_of_nonneg_right (show tw P n * tw P n + 1 ≤ 4 * (P * P) / n by omega) (show 0 ≤ n by omega)
        rw [Int.add_mul] at this
        omega
    · intro g
      by_cases g2 : tw P n * tw P n = 4 * (P * P) / n
      · left
        rw [g2] at g
        omega
      · exact .inr g2
  have e3 : wOver_s3 a b n = decide (tw P n % 2 = 1) := by
    unfold wOver_s3
    rw [eT, Int.tmod_eq_emod_of_nonneg t0]
    rfl
  have ehalf : IntKind.u64.wrap ((tw P n).tdiv 2) = tw P n / 2 := by
    rw [Int.tdiv_eq_ediv_of_nonneg t0, wrU (by omega) (by omega)]
  unfold wOver_0 wOver_1
  rw [hc, cond_false, cond_false, eT, ehalf, e3, e4, wrU (x := tw P n / 2 + 1) (by omega) (by omega)]
  have e5 : wOver_s5 a b = decide (wsign_0 a b < 0) := rfl
  rw [e5]
  have key : ∀ ng : Bool, (bif grows_0 2 (bif decide (tw P n % 2 = 1) then bif decide (tw P n * tw P n * n ≠ 4 * (P * P)) then 1 else 0 else -1) (decide (tw P n * tw P n * n ≠ 4 * (P * P)) || decide (tw P n % 2 = 1)) ng then tw P n / 2 + 1 else tw P n / 2) = ovq P n ng := by
    intro ng
    unfold ovq grows_0
    by_cases g1 : tw P n % 2 = 1
    · by_cases g2 : tw P n * tw P n * n = 4 * (P * P)
      · cases ng <;> simp [g1, g2]
      · cases ng <;> simp [g1, g2]
    · simp [g1]
  have hq : ∀ ng, 0 ≤ ovq P n ng ∧ ovq P n ng ≤ 4611686018427387905 := fun ng => by
    unfold ovq
    split <;> omega
  rw [key]
  by_cases hs : wsign_0 a b < 0
  · rw [decide_eq_true hs, if_pos hs]
    unfold signed_0 signed_1
    have := hq true
    rw [decide_eq_true (show ovq P n true ≤ 9223372036854775808 by omega)]
    simp only [Bool.and_self, cond_true, Bool.true_or, and_true]
    by_cases hz : ovq P n true = 0
    · rw [hz]; rfl
    · rw [wrU_mod]
      have : (0 - ovq P n true) % 18446744073709551616 = 18446744073709551616 - ovq P n true := by omega
      rw [this]
      unfold IntKind.wrap
      simp only [IntKind.bits, IntKind.signed]
      simp
      omega
  · rw [decide_eq_false hs, if_neg hs]
    unfold signed_0 signed_1
    have := hq false
    rw [decide_eq_true (show ovq P n false < 9223372036854775808 by omega)]
    simp only [Bool.false_and, cond_false, Bool.not_false, Bool.and_self, cond_true, Bool.false_or, and_true]
    rw [wrI (by omega) (by omega)]
theorem wsize_le {a : Int} (h : bd 2147483648 a) : wsize_0 a ≤ 2147483648 := by
  rw [wsize_eq a ⟨by omega, by omega⟩]
  split <;> omega
theorem over_bad (a b n : Int) (hn : n < 1) : wOver_0 a b n 2 = 0 := by
  have hc : (decide (wsize_0 a > 2147483648) || decide (wsize_0 b > 2147483648) || decide (n < 1) || decide (n > 4611686018427387904) || !((2 : Int) == 0 || (2 : Int) == 1 || (2 : Int) == 2)) = true := by
    rw [decide_eq_true hn]; simp
  unfold wOver_0
  rw [hc, cond_true]
theorem over_zero (a b : Int) : wOver_0 a b 0 2 = 0 := over_bad a b 0 (by omega)
theorem sqm {x y n : Int} (h0 : 0 ≤ x) (h : x ≤ y) (hn : 0 ≤ n) : x * x * n ≤ y * y * n :=
  Int.mul_le_mul_of_nonneg_right (Int.mul_le_mul h h h0 (by omega)) hn
theorem ovq_law {p n : Int} (ng : Bool) (hp : 0 ≤ p ∧ p ≤ 4611686018427387904) (hn : 1 ≤ n ∧ n ≤ 4611686018427387904) :
    0 ≤ ovq p n ng ∧ (1 ≤ ovq p n ng → (2 * ovq p n ng - 1) * (2 * ovq p n ng - 1) * n ≤ 4 * (p * p)) ∧ 4 * (p * p) ≤ (2 * ovq p n ng + 1) * (2 * ovq p n ng + 1) * n := by
  obtain ⟨t0, t1, t2, t3⟩ := tw_law hp hn
  unfold ovq
  generalize tw p n = t at *
  by_cases h1 : t % 2 = 1
  · by_cases h2 : ng = false ∨ t * t * n ≠ 4 * (p * p)
    · rw [if_pos ⟨h1, h2⟩]
      have e1 : 2 * (t / 2 + 1) - 1 = t := by omega
      have e2 : 2 * (t / 2 + 1) + 1 = t + 2 := by omega
      rw [e1, e2]
      exact ⟨by omega, fun _ => t1, by have := sqm (x := t + 1) (y := t + 2) (n := n) (by omega) (by omega) (by omega); omega⟩
    · rw [if_neg (fun h => h2 h.2)]
      have e1 : 2 * (t / 2) - 1 = t - 2 := by omega
      have e2 : 2 * (t / 2) + 1 = t := by omega
      rw [e1, e2]
      have h3 : t * t * n = 4 * (p * p) := by
        by_cases h : t * t * n = 4 * (p * p)
        · exact h
        · exact absurd (.inr h) h2
      exact ⟨by omega, fun _ => by have := sqm (x := t - 2) (y := t) (n := n) (by omega) (by omega) (by omega); omega, by omega⟩
  · rw [if_neg (fun h => h1 h.1)]
    have e1 : 2 * (t / 2) - 1 = t - 1 := by omega
    have e2 : 2 * (t / 2) + 1 = t + 1 := by omega
    rw [e1, e2]
    exact ⟨by omega, fun _ => by have := sqm (x := t - 1) (y := t) (n := n) (by omega) (by omega) (by omega); omega, by omega⟩
/-- Down or up at a half: by at most one. -/
theorem ovq_diff (p n : Int) : ovq p n true ≤ ovq p n false ∧ ovq p n false ≤ ovq p n true + 1 := by
  unfold ovq
  by_cases h1 : tw p n % 2 = 1
  · rw [if_pos (c := tw p n % 2 = 1 ∧ (false = false ∨ _)) ⟨h1, .inl rfl⟩]
    split <;> omega
  · rw [if_neg (fun h => h1 h.1), if_neg (fun h => h1 h.1)]
    omega
theorem abs_ex (x : Int) : ∃ p : Int, 0 ≤ p ∧ (x = p ∨ x = -p) ∧ (0 ≤ x → p = x) ∧ p * p = x * x := by
  by_cases h : x < 0
  · exact ⟨-x, by omega, by omega, by omega, Int.neg_mul_neg _ _⟩
  · exact ⟨x, by omega, by omega, by omega, rfl⟩
/-- Over, by its absolute value. -/
theorem over_val {a g N : Int} (ha : bd 4194304 a) (hg : bd 4194304 g) (hN : 1 ≤ N ∧ N ≤ 4611686018427387904) :
    ∃ P : Int, (0 ≤ P ∧ P ≤ 17592186044416) ∧ P * P = (a * g) * (a * g) ∧ (0 ≤ a * g → wOver_0 a g N 2 = ovq P N false) ∧ (a * g < 0 → wOver_0 a g N 2 = -ovq P N true) ∧ wOver_0 a (-g) N 2 = (if a * g > 0 then -ovq P N true else ovq P N false) := by
  have hl := (wOver_law (a := a) (b := g) (n := N) ⟨by omega, by omega⟩ ⟨by omega, by omega⟩ (wsize_le (by omega)) (wsize_le (by omega)) hN).1
  have hl' := (wOver_law (a := a) (b := -g) (n := N) ⟨by omega, by omega⟩ ⟨by omega, by omega⟩ (wsize_le (by omega)) (wsize_le (by omega)) hN).1
  obtain ⟨p, p0, p1, p2, p3⟩ := abs_ex a
  obtain ⟨q, q0, q1, q2, q3⟩ := abs_ex g
  have sa : wsize_0 a = p := by
    rw [wsize_eq a ⟨by omega, by omega⟩]; split <;> omega
  have sg : wsize_0 g = q := by
    rw [wsize_eq g ⟨by omega, by omega⟩]; split <;> omega
  have sg' : wsize_0 (-g) = q := by
    rw [wsize_eq (-g) ⟨by omega, by omega⟩]; split <;> omega
  rw [sa, sg] at hl
  rw [sa, sg'] at hl'
  have hpq := prod_lt 4194304 4194304 (x := p) (y := q) ⟨p0, by omega⟩ ⟨q0, by omega⟩ (by omega)
  have hs := wsign_or a g
  have hs' := wsign_or a (-g)
  rw [Int.mul_neg] at hs'
  refine ⟨p * q, ⟨hpq.1, by omega⟩, ?_, ?_, ?_, ?_⟩
  · have e : p * q * (p * q) = p * p * (q * q) := by grind
    rw [e, p3, q3]; grind
  · intro h
    rw [hl, if_neg (by rcases hs with ⟨h1, h2⟩ | ⟨h1, h2, h3⟩ | ⟨h1, h2, h3⟩ <;> omega)]
  · intro h
    rw [hl, if_pos (by rcases hs with ⟨h1, h2⟩ | ⟨h1, h2, h3⟩ | ⟨h1, h2, h3⟩ <;> omega)]
  · rw [hl']
    by_cases h : a * g > 0
    · rw [if_pos h, if_pos (by rcases hs' with ⟨h1, h2⟩ | ⟨h1, h2, h3⟩ | ⟨h1, h2, h3⟩ <;> omega)]
    · rw [if_neg h, if_neg (by rcases hs' with ⟨h1, h2⟩ | ⟨h1, h2, h3⟩ | ⟨h1, h2, h3⟩ <;> omega)]
theorem over_abs {a g N : Int} (ha : bd 4194304 a) (hg : bd 4194304 g) (hN : 1 ≤ N ∧ N ≤ 4611686018427387904) :
    ∃ U : Int, 0 ≤ U ∧ (0 ≤ a * g → wOver_0 a g N 2 = U) ∧ (a * g < 0 → wOver_0 a g N 2 = -U) ∧ (1 ≤ U → (2 * U - 1) * (2 * U - 1) * N ≤ 4 * ((a * g) * (a * g))) ∧ 4 * ((a * g) * (a * g)) ≤ (2 * U + 1) * (2 * U + 1) * N := by
  obtain ⟨P, h0, h1, h2, h3, _⟩ := over_val ha hg hN
  rw [← h1]
  by_cases h : 0 ≤ a * g
  · obtain ⟨o1, o2, o3⟩ := ovq_law false (p := P) (n := N) ⟨h0.1, by omega⟩ hN
    exact ⟨_, o1, fun _ => h2 h, fun h' => by omega, o2, o3⟩
  · obtain ⟨o1, o2, o3⟩ := ovq_law true (p := P) (n := N) ⟨h0.1, by omega⟩ hN
    exact ⟨_, o1, fun h' => by omega, fun _ => h3 (by omega), o2, o3⟩
/-- One way and the other way: by at most one. -/
theorem over_opp {a g N : Int} (ha : bd 4194304 a) (hg : bd 4194304 g) (hN : 1 ≤ N ∧ N ≤ 4611686018427387904) : 0 ≤ wOver_0 a g N 2 + wOver_0 a (-g) N 2 ∧ wOver_0 a g N 2 + wOver_0 a (-g) N 2 ≤ 1 := by
  obtain ⟨P, h0, h1, h2, h3, h4⟩ := over_val ha hg hN
  obtain ⟨d1, d2⟩ := ovq_diff P N
  rw [h4]
  by_cases h : 0 < a * g
  · rw [h2 (by omega), if_pos h]; omega
  · rw [if_neg h]
    by_cases h' : a * g = 0
    · rw [h'] at h1
      have hP : P = 0 := by
        rcases Int.lt_or_le 0 P with g | g
        · have := Int.mul_pos g g; omega
        · omega
      have hz : tw 0 N = 0 := by
        obtain ⟨t0, t1, _, _⟩ := tw_law (p := 0) (n := N) ⟨by omega, by omega⟩ hN
        rcases Int.lt_or_le 0 (tw 0 N) with g | g
        · have := Int.mul_pos (Int.mul_pos g g) (show 0 < N by omega); omega
        · omega
      rw [h2 (by omega), hP]
      unfold ovq
      rw [hz, if_neg (fun h => by have := h.1; omega)]
      omega
    · rw [h3 (by omega)]; omega
theorem over_ineq {p q U W g N : Int} (hp : 0 ≤ p) (hq : 0 ≤ q) (hU : 0 ≤ U) (hW : 0 ≤ W) (hN : 0 < N) (h1 : 1 ≤ U → (2 * U - 1) * (2 * U - 1) * N ≤ 4 * ((p * g) * (p * g))) (h2 : 4 * ((q * g) * (q * g)) ≤ (2 * W + 1) * (2 * W + 1) * N) :
    q * (2 * U - 1) ≤ p * (2 * W + 1) := by
  have hY : 0 ≤ p * (2 * W + 1) := Int.mul_nonneg hp (by omega)
  by_cases hU0 : U = 0
  · subst hU0
    have : q * (2 * 0 - 1) = -q := by omega
    omega
  · rcases Int.lt_or_le (p * (2 * W + 1)) (q * (2 * U - 1)) with h | h
    · exfalso
      have s1 := Int.mul_self_lt_mul_self hY h
      have s2 := Int.mul_lt_mul_of_pos_right s1 hN
      have e1 : q * (2 * U - 1) * (q * (2 * U - 1)) * N = q * q * ((2 * U - 1) * (2 * U - 1) * N) := by grind
      have e2 : p * (2 * W + 1) * (p * (2 * W + 1)) * N = p * p * ((2 * W + 1) * (2 * W + 1) * N) := by grind
      have q0 : 0 ≤ q * q := Int.mul_nonneg hq hq
      have p0 : 0 ≤ p * p := Int.mul_nonneg hp hp
      have m1 := Int.mul_le_mul_of_nonneg_left (h1 (by omega)) q0
      have m2 := Int.mul_le_mul_of_nonneg_left h2 p0
      have e3 : q * q * (4 * ((p * g) * (p * g))) = p * p * (4 * ((q * g) * (q * g))) := by grind
      omega
    · exact h
theorem sq_nn1 (x : Int) : 0 ≤ x * x := by
  have := sq_nn x 0
  rw [Int.mul_zero, Int.add_zero] at this
  exact this
theorem sq_mul {p x g : Int} (h : p * p = x * x) : (p * g) * (p * g) = (x * g) * (x * g) := by
  have e1 : (p * g) * (p * g) = p * p * (g * g) := by grind
  have e2 : (x * g) * (x * g) = x * x * (g * g) := by grind
  rw [e1, e2, h]
theorem over_bd {a g N m : Int} (hm : 0 ≤ m) (hm2 : m ≤ 4194304) (ha : bd 4194304 a) (hg : bd m g) (hN : 1 ≤ N ∧ N ≤ 4611686018427387904) (haN : a * a ≤ N) : bd m (wOver_0 a g N 2) := by
  obtain ⟨U, U0, u1, u2, U1, U2⟩ := over_abs ha (show bd 4194304 g by omega) hN
  have hU : U ≤ m := by
    rcases Int.lt_or_le m U with h | h
    · exfalso
      have h1 := U1 (by omega)
      have k1 := sqm (x := 2 * m + 1) (y := 2 * U - 1) (n := N) (by omega) (by omega) (by omega)
      have k2 : (a * g) * (a * g) = a * a * (g * g) := by grind
      have k3 := mul_bd hg hg hm hm
      have k4 := Int.mul_le_mul_of_nonneg_right haN (sq_nn1 g)
      have k5 := Int.mul_le_mul_of_nonneg_left k3.2 (show 0 ≤ N by omega)
      have k6 : (2 * m + 1) * (2 * m + 1) * N = 4 * (N * (m * m)) + 4 * (m * N) + N := by grind
      have k7 := Int.mul_nonneg hm (show 0 ≤ N by omega)
      omega
    · exact h
  by_cases h : 0 ≤ a * g
  · rw [u1 h]; omega
  · rw [u2 (by omega)]; omega
theorem nrm_ok {p0 p1 t0 t1 r : Int} (h0 : t0 ≠ 0 ∨ t1 ≠ 0) (h1 : bd 4194304 t0) (h2 : bd 4194304 t1) (h3 : bd 1048576 p0) (h4 : bd 1048576 p1) (h5 : bd 32768 r) : (t0 == 0 && t1 == 0 || !oin_0 t0 4194304 || !oin_0 t1 4194304 || !oin_0 p0 1048576 || !oin_0 p1 1048576 || !oin_0 r 32768) = false := by
  rw [(oin_iff (by omega) (by omega)).2 h1, (oin_iff (by omega) (by omega)).2 h2, (oin_iff (by omega) (by omega)).2 h3, (oin_iff (by omega) (by omega)).2 h4, (oin_iff (by omega) (by omega)).2 h5]
  have : (t0 == 0 && t1 == 0) = false := by
    rw [Bool.and_eq_false_iff, beq_eq_false_iff_ne, beq_eq_false_iff_ne]; exact h0
  rw [this]; rfl
/-- A normal's point. -/
theorem normal_val {p0 p1 t0 t1 r : Int} (h0 : t0 ≠ 0 ∨ t1 ≠ 0) (h1 : bd 4194304 t0) (h2 : bd 4194304 t1) (h3 : bd 1048576 p0) (h4 : bd 1048576 p1) (h5 : bd 32768 r) :
    onormal_0 p0 p1 t0 t1 r = p0 + wOver_0 (-t1) r (t0 * t0 + t1 * t1) 2 ∧ onormal_1 p0 p1 t0 t1 r = p1 + wOver_0 t0 r (t0 * t0 + t1 * t1) 2 ∧ onormal_2 p0 p1 t0 t1 r = true ∧ bd 32768 (wOver_0 (-t1) r (t0 * t0 + t1 * t1) 2) ∧ bd 32768 (wOver_0 t0 r (t0 * t0 + t1 * t1) 2) ∧ 1 ≤ t0 * t0 + t1 * t1 ∧ t0 * t0 + t1 * t1 ≤ 35184372088832 := by
  have hn := sq_pos h0
  have m1 := mul_bd h1 h1 (by omega) (by omega)
  have m2 := mul_bd h2 h2 (by omega) (by omega)
  have n1 := sq_nn1 t0
  have n2 := sq_nn1 t1
  have b1 : bd 32768 (wOver_0 (-t1) r (t0 * t0 + t1 * t1) 2) := over_bd (by omega) (by omega) (by omega) h5 (by omega) (by rw [Int.neg_mul_neg]; omega)
  have b2 : bd 32768 (wOver_0 t0 r (t0 * t0 + t1 * t1) 2) := over_bd (by omega) (by omega) (by omega) h5 (by omega) (by omega)
  have ev : vinner_0 t0 t1 t0 t1 = t0 * t0 + t1 * t1 := vinner_eq (by omega) (by omega) (by omega) (by omega)
  have ew : IntKind.i64.wrap (0 - t1) = -t1 := by rw [wrI (by omega) (by omega)]; omega
  unfold onormal_0 onormal_1 onormal_2
  rw [nrm_ok h0 h1 h2 h3 h4 h5, ev, ew, cond_false, cond_false, addpt_eq (by omega) (by omega), addpt_eq (by omega) (by omega)]
  exact ⟨rfl, rfl, rfl, b1, b2, by omega, by omega⟩
end Go.Proofs.Ytmbfbhimdkjkoaa
namespace Go.Proofs.Ytmbfbhimdkjkoaa
open Go.SX Go.RowKit
theorem four_ok {a b c d : Bool} (h : (bif !a then (3 : Int) else bif !b then 3 else bif !c then 3 else bif !d then 3 else 0) = 0) : a = true ∧ b = true ∧ c = true ∧ d = true := by
  cases a <;> cases b <;> cases c <;> cases d <;> first | exact ⟨rfl, rfl, rfl, rfl⟩ | exact absurd h (by decide)
theorem ends_ok (e0 e1 e2 e3 e4 e5 e6 r : Int) (h : oends_4 e0 e1 e2 e3 e4 e5 e6 r = 0) :
    oends_0 e0 e1 e2 e3 e4 e5 e6 r = oends_s1 e0 e1 e2 e3 e4 e5 e6 r ∧ oends_1 e0 e1 e2 e3 e4 e5 e6 r = oends_s3 e0 e1 e2 e3 e4 e5 e6 r ∧
    oends_2 e0 e1 e2 e3 e4 e5 e6 r = oends_s5 e0 e1 e2 e3 e4 e5 e6 r ∧ oends_3 e0 e1 e2 e3 e4 e5 e6 r = oends_s7 e0 e1 e2 e3 e4 e5 e6 r ∧
    oin_0 (oends_s1 e0 e1 e2 e3 e4 e5 e6 r) 1048576 = true ∧ oin_0 (oends_s3 e0 e1 e2 e3 e4 e5 e6 r) 1048576 = true ∧ oin_0 (oends_s5 e0 e1 e2 e3 e4 e5 e6 r) 1048576 = true ∧ oin_0 (oends_s7 e0 e1 e2 e3 e4 e5 e6 r) 1048576 = true := by
  have key : oends_s9 e0 e1 e2 e3 e4 e5 e6 r = 0 → oends_s2 e0 e1 e2 e3 e4 e5 e6 r = oends_s1 e0 e1 e2 e3 e4 e5 e6 r ∧ oends_s4 e0 e1 e2 e3 e4 e5 e6 r = oends_s3 e0 e1 e2 e3 e4 e5 e6 r ∧
      oends_s6 e0 e1 e2 e3 e4 e5 e6 r = oends_s5 e0 e1 e2 e3 e4 e5 e6 r ∧ oends_s8 e0 e1 e2 e3 e4 e5 e6 r = oends_s7 e0 e1 e2 e3 e4 e5 e6 r ∧
      oin_0 (oends_s1 e0 e1 e2 e3 e4 e5 e6 r) 1048576 = true ∧ oin_0 (oends_s3 e0 e1 e2 e3 e4 e5 e6 r) 1048576 = true ∧ oin_0 (oends_s5 e0 e1 e2 e3 e4 e5 e6 r) 1048576 = true ∧ oin_0 (oends_s7 e0 e1 e2 e3 e4 e5 e6 r) 1048576 = true := by
    intro h
    obtain ⟨h1, h2, h3, h4⟩ := four_ok (show (bif !oin_0 (oends_s1 e0 e1 e2 e3 e4 e5 e6 r) 1048576 then (3 : Int) else bif !oin_0 (oends_s3 e0 e1 e2 e3 e4 e5 e6 r) 1048576 then 3 else bif !oin_0 (oends_s5 e0 e1 e2 e3 e4 e5 e6 r) 1048576 then 3 else bif !oin_0 (oends_s7 e0 e1 e2 e3 e4 e5 e6 r) 1048576 then 3 else 0) = 0 from h)
    have e (a : Int) : (bif !oin_0 (oends_s1 e0 e1 e2 e3 e4 e5 e6 r) 1048576 then (0 : Int) else bif !oin_0 (oends_s3 e0 e1 e2 e3 e4 e5 e6 r) 1048576 then 0 else bif !oin_0 (oends_s5 e0 e1 e2 e3 e4 e5 e6 r) 1048576 then 0 else bif !oin_0 (oends_s7 e0 e1 e2 e3 e4 e5 e6 r) 1048576 then 0 else a) = a := by rw [h1, h2, h3, h4]; rfl
    exact ⟨e _, e _, e _, e _, h1, h2, h3, h4⟩
  unfold oends_4 at h
  unfold oends_0 oends_1 oends_2 oends_3
  generalize (e6 != 0 && oinward_0 e6 r) = b1 at h ⊢
  generalize decide (vinner_0 (minus_0 e0 e4) (minus_0 e1 e5) (minus_0 e0 e4) (minus_0 e1 e5) < IntKind.i64.wrap (oends_s0 r * oends_s0 r)) = b2 at h ⊢
  generalize decide (vinner_0 (minus_0 e2 e4) (minus_0 e3 e5) (minus_0 e2 e4) (minus_0 e3 e5) < IntKind.i64.wrap (oends_s0 r * oends_s0 r)) = b3 at h ⊢
  cases b1
  · exact key h
  · cases b2
    · cases b3
      · exact key h
      · exact absurd h (by show ¬ (16 : Int) = 0; decide)
    · exact absurd h (by show ¬ (16 : Int) = 0; decide)
theorem oin_bd {n m : Int} (hm : 0 ≤ m) (hm2 : m ≤ 1000000000) : oin_0 n m = true ↔ bd m n := by
  unfold oin_0
  rw [wrI (by omega) (by omega)]
  simp only [Bool.and_eq_true, decide_eq_true_eq]
  omega
/-- A straight piece's directions. -/
theorem line_ends {x y u v r : Int} (hx : bd 1048576 x) (hy : bd 1048576 y) (hu : bd 1048576 u) (hv : bd 1048576 v) :
    oends_s1 x y u v 0 0 0 r = onormal_0 x y (u - x) (v - y) r ∧ oends_s3 x y u v 0 0 0 r = onormal_1 x y (u - x) (v - y) r ∧
    oends_s5 x y u v 0 0 0 r = onormal_0 u v (u - x) (v - y) r ∧ oends_s7 x y u v 0 0 0 r = onormal_1 u v (u - x) (v - y) r := by
  have e0 : IntKind.i64.wrap (u - x) = u - x := wrI (by omega) (by omega)
  have e1 : IntKind.i64.wrap (v - y) = v - y := wrI (by omega) (by omega)
  have a0 : ∀ b, atang_0 (oitem_0 0) x y 0 u v 0 17 (oitem_1 0 0) (oitem_1 0 0) 0 (oitem_3 0) b = u - x := fun b => by show IntKind.i64.wrap (u - x) = _; exact e0
  have a1 : ∀ b, atang_1 (oitem_0 0) x y 0 u v 0 17 (oitem_1 0 0) (oitem_1 0 0) 0 (oitem_3 0) b = v - y := fun b => by show IntKind.i64.wrap (v - y) = _; exact e1
  unfold oends_s1 oends_s3 oends_s5 oends_s7
  rw [a0, a1, a0, a1]
  exact ⟨rfl, rfl, rfl, rfl⟩
/-- An arc's directions: t is the spoke turned. -/
theorem arc_ends {x y u v c d e r : Int} (he : e = 1 ∨ e = -1) (hx : bd 1048576 x) (hy : bd 1048576 y) (hu : bd 1048576 u) (hv : bd 1048576 v) (hc : bd 1048576 c) (hd : bd 1048576 d) :
    oends_s1 x y u v c d e r = onormal_0 x y (-(y - d) * e) ((x - c) * e) r ∧ oends_s3 x y u v c d e r = onormal_1 x y (-(y - d) * e) ((x - c) * e) r ∧
    oends_s5 x y u v c d e r = onormal_0 u v (-(v - d) * e) ((u - c) * e) r ∧ oends_s7 x y u v c d e r = onormal_1 u v (-(v - d) * e) ((u - c) * e) r := by
  have w : ∀ {a : Int}, bd 4000000 a → IntKind.i64.wrap a = a := fun h => wrI (by omega) (by omega)
  have i0 : oitem_0 e = 3 := by rcases he with rfl | rfl <;> rfl
  have i1 : oitem_1 c e = c := by rcases he with rfl | rfl <;> rfl
  have i2 : oitem_1 d e = d := by rcases he with rfl | rfl <;> rfl
  have i3 : oitem_3 e = e := oitem_3_id e
  have s0 : ∀ {p q : Int}, bd 1048576 p → bd 1048576 q → aspokes_0 p q 0 17 c d 0 = p - c := fun hp hq => by
    rename_i p q
    show IntKind.i64.wrap (p - c) = _
    exact w (by omega)
  have s1 : ∀ {p q : Int}, bd 1048576 p → bd 1048576 q → aspokes_1 p q 0 17 c d 0 = q - d := fun hp hq => by
    rename_i p q
    show IntKind.i64.wrap (q - d) = _
    exact w (by omega)
  have n : ∀ {a : Int}, bd 3000000 a → IntKind.i64.wrap (0 - a) = -a := fun h => by rw [w (by omega)]; omega
  have t0 : ∀ b, atang_0 3 x y 0 u v 0 17 c d 0 e b = bif b then -(v - d) * e else -(y - d) * e := fun b => by
    unfold atang_0 atang_s0
    rw [s1 hu hv, s1 hx hy]
    rcases he with rfl | rfl <;> cases b <;> simp only [cond_true, cond_false, bne_self_eq_false] <;> first | (rw [show decide ((1 : Int) < 0) = false from rfl, cond_false, n (by omega)]; omega) | (rw [show decide ((-1 : Int) < 0) = true from rfl, cond_true]; omega)
  have t1 : ∀ b, atang_1 3 x y 0 u v 0 17 c d 0 e b = bif b then (u - c) * e else (x - c) * e := fun b => by
    unfold atang_1 atang_s1
    rw [s0 hu hv, s0 hx hy]
    rcases he with rfl | rfl <;> cases b <;> simp only [cond_true, cond_false, bne_self_eq_false] <;> first | (rw [show decide ((1 : Int) < 0) = false from rfl, cond_false]; omega) | (rw [show decide ((-1 : Int) < 0) = true from rfl, cond_true, n (by omega)]; omega)
  unfold oends_s1 oends_s3 oends_s5 oends_s7
  rw [i0, i1, i2, i3, t0, t1, t0, t1]
  exact ⟨rfl, rfl, rfl, rfl⟩
theorem norm0 {p0 p1 t0 t1 : Int} (h0 : t0 ≠ 0 ∨ t1 ≠ 0) (h1 : bd 4194304 t0) (h2 : bd 4194304 t1) (h3 : bd 1048576 p0) (h4 : bd 1048576 p1) : onormal_0 p0 p1 t0 t1 0 = p0 ∧ onormal_1 p0 p1 t0 t1 0 = p1 := by
  obtain ⟨a, b, _, _, _, h5, h6⟩ := normal_val (r := 0) h0 h1 h2 h3 h4 (by omega)
  have q0 := mul_bd (m := 4194304) (n := 4194304) h1 h1 (by omega) (by omega)
  have z0 : bd 0 (wOver_0 (-t1) 0 (t0 * t0 + t1 * t1) 2) := over_bd (by omega) (by omega) (by omega) (by omega) ⟨h5, by omega⟩ (by
    have := sq_nn1 t0
    have e : -t1 * -t1 = t1 * t1 := by grind
    rw [e]; omega)
  have z1 : bd 0 (wOver_0 t0 0 (t0 * t0 + t1 * t1) 2) := over_bd (by omega) (by omega) (by omega) (by omega) ⟨h5, by omega⟩ (by have := sq_nn1 t1; omega)
  rw [a, b]
  omega
end Go.Proofs.Ytmbfbhimdkjkoaa
namespace Go.Proofs.Ytmbfbhimdkjkoaa
open Go.SX Go.RowKit
theorem v_isI (a b c d : Int) : isI (vinner_0 a b c d) := wrap_isI _
theorem ediv_of {a m q r : Int} (hm : 0 < m) (h0 : 0 ≤ r) (h1 : r < m) (e : r + m * q = a) : a / m = q := ((Int.ediv_emod_unique hm).2 ⟨e, h0, h1⟩).1
theorem signed_f {x : Int} (h0 : 0 ≤ x) (h1 : x ≤ 4611686018427387904) : signed_0 x false = x := by
  unfold signed_0
  rw [decide_eq_true (show x < 9223372036854775808 by omega)]
  simp only [Bool.false_and, cond_false, Bool.not_false, Bool.and_self, cond_true]
  rw [wrI (by omega) (by omega)]
theorem signed_t {x : Int} (h0 : 0 ≤ x) (h1 : x ≤ 4611686018427387904) : signed_0 x true = -x := by
  unfold signed_0
  rw [decide_eq_true (show x ≤ 9223372036854775808 by omega)]
  simp only [Bool.and_self, cond_true]
  by_cases hz : x = 0
  · rw [hz]; rfl
  · rw [wrU_mod]
    have : (0 - x) % 18446744073709551616 = 18446744073709551616 - x := by omega
    rw [this]
    unfold IntKind.wrap
    simp only [IntKind.bits, IntKind.signed]
    simp
    omega
theorem grows_near (more : Int) (some ng : Bool) : grows_0 2 more some ng = (decide (more > 0) || more == 0 && !ng) := rfl
/-- A product by a quotient, rounded to the nearest one. -/
theorem md_law {d k n : Int} (hd : bd n d) (hk : 0 ≤ k ∧ k ≤ n) (hn : 1 ≤ n ∧ n ≤ 4194304) : muldiv_0 d k n 2 = (2 * d * k + n) / (2 * n) := by
  obtain ⟨p, p0, p1, pa, _⟩ := abs_ex d
  have sd : wsize_0 d = p := by rw [wsize_eq d ⟨by omega, by omega⟩]; split <;> omega
  have sk : wsize_0 k = k := by rw [wsize_eq k ⟨by omega, by omega⟩, if_neg (by omega)]
  have sn : wsize_0 n = n := by rw [wsize_eq n ⟨by omega, by omega⟩, if_neg (by omega)]
  have hP := prod_lt 4194304 4194304 (x := p) (y := k) ⟨p0, by omega⟩ ⟨hk.1, by omega⟩ (by omega)
  have e0 : mul64_0 p k = 0 := by rw [mul64_hi _ _ ⟨by omega, by omega⟩ ⟨by omega, by omega⟩]; omega
  have e1 : mul64_1 p k = p * k := by rw [mul64_lo]; omega
  have hs := wsign_or d k
  have hdk : d * k = p * k ∨ d * k = -(p * k) := by
    rcases p1 with rfl | rfl
    · exact .inl rfl
    · right; rw [Int.neg_mul]
  have hdk0 : 0 ≤ d → d * k = p * k := fun h => by rw [pa h]
  have e2 : 2 * d * k = 2 * (d * k) := Int.mul_assoc _ _ _
  have hneg : d < 0 → d * k = -(p * k) := fun h => by
    have : d = -p := by omega
    rw [this, Int.neg_mul]
  rw [e2]
  generalize d * k = D at *
  generalize p * k = P at *
  obtain ⟨f0, f1⟩ := div64_law (a := 0) (b := P) (c := n) (by omega) (by omega) (by omega) (by omega) (by omega)
  rw [show (0 : Int) * 18446744073709551616 + P = P by omega] at f0 f1
  have dm := Int.mul_ediv_add_emod P n
  have m0 := Int.emod_nonneg P (show n ≠ 0 by omega)
  have m1 := Int.emod_lt_of_pos P (show 0 < n by omega)
  have q0 := Int.ediv_nonneg hP.1 (show 0 ≤ n by omega)
  have q1 := Int.ediv_le_self n hP.1
  unfold muldiv_0 muldiv_s0 muldiv_s1 muldiv_s2
  rw [sd, sk, sn, e0, e1, f0, f1, grows_near]
  generalize P / n = q at *
  generalize P % n = m at *
  have g1 : (n == 0 || !((2 : Int) == 0 || (2 : Int) == 1 || (2 : Int) == 2)) = false := by
    rw [show (n == 0) = false by simp; omega]; rfl
  have g2 : decide ((0 : Int) ≥ n) = false := decide_eq_false (by omega)
  have g3 : (!decide (wsign_0 d k < 0) == decide (n < 0) && wsign_0 d k != 0) = decide (wsign_0 d k < 0) := by
    rw [decide_eq_false (show ¬ n < 0 by omega)]
    rcases hs with ⟨h1, _⟩ | ⟨h1, _⟩ | ⟨h1, _⟩ <;> rw [h1] <;> rfl
  have g4 : IntKind.u64.wrap (n - m) = n - m := wrU (by omega) (by omega)
  have g5 : IntKind.u64.wrap (q + 1) = q + 1 := wrU (by omega) (by omega)
  have g6 : (q + 1 == 0) = false := by simp; omega
  rw [g1, g2, g3, g4, g5, g6]
  simp only [cond_false]
  have nq : n * q = P - m := by omega
  have hmq : ∀ x : Int, 2 * n * x = 2 * (n * x) := fun x => Int.mul_assoc _ _ _
  have nq1 : n * (q + 1) = P - m + n := by rw [Int.mul_add, Int.mul_one]; omega
  have nqn : n * -q = -(P - m) := by rw [Int.mul_neg, nq]
  have nqn1 : n * -(q + 1) = -(P - m + n) := by rw [Int.mul_neg, nq1]
  -- does it grow?
  have hmore : ∀ ng : Bool, (decide ((bif decide (m > n - m) then (1 : Int) else bif decide (m < n - m) then -1 else 0) > 0) || (bif decide (m > n - m) then (1 : Int) else bif decide (m < n - m) then -1 else 0) == 0 && !ng) = (decide (2 * m > n) || decide (2 * m = n) && !ng) := fun ng => by
    by_cases h1 : m > n - m
    · rw [decide_eq_true h1, decide_eq_true (show 2 * m > n by omega)]; rfl
    · rw [decide_eq_false h1, decide_eq_false (show ¬ 2 * m > n by omega)]
      by_cases h2 : m < n - m
      · rw [decide_eq_true h2, decide_eq_false (show ¬ 2 * m = n by omega)]; rfl
      · rw [decide_eq_false h2, decide_eq_true (show 2 * m = n by omega)]; rfl
  rw [hmore]
  by_cases hsg : wsign_0 d k < 0
  · rw [decide_eq_true hsg]
    have hD : D = -P := by rcases hs with ⟨h1, h2⟩ | ⟨h1, h2, _⟩ | ⟨h1, h2, _⟩ <;> rcases hdk with h | h <;> omega
    by_cases h1 : 2 * m > n
    · rw [decide_eq_true h1]
      simp only [Bool.true_or, cond_true]
      rw [signed_t (by omega) (by omega)]
      exact (ediv_of (r := 3 * n - 2 * m) (by omega) (by omega) (by omega) (by rw [hmq, nqn1]; omega)).symm
    · rw [decide_eq_false h1]
      simp only [Bool.not_true, Bool.and_false, Bool.or_self, cond_false]
      rw [signed_t (by omega) (by omega)]
      exact (ediv_of (r := n - 2 * m) (by omega) (by omega) (by omega) (by rw [hmq, nqn]; omega)).symm
  · rw [decide_eq_false hsg]
    have hD : D = P := by
      rcases hs with ⟨h1, h2⟩ | ⟨h1, h2, _⟩ | ⟨h1, h2, _⟩
      · rcases hdk with h | h <;> omega
      · rcases hdk with h | h <;> omega
      · exfalso; omega
    by_cases h1 : 2 * m > n
    · rw [decide_eq_true h1]
      simp only [Bool.true_or, cond_true]
      rw [signed_f (by omega) (by omega)]
      exact (ediv_of (r := 2 * m - n) (by omega) (by omega) (by omega) (by rw [hmq, nq1]; omega)).symm
    · rw [decide_eq_false h1]
      by_cases h2 : 2 * m = n
      · rw [decide_eq_true h2]
        simp only [Bool.not_false, Bool.and_self, Bool.or_true, cond_true]
        rw [signed_f (by omega) (by omega)]
        exact (ediv_of (r := 2 * m - n) (by omega) (by omega) (by omega) (by rw [hmq, nq1]; omega)).symm
      · rw [decide_eq_false h2]
        simp only [Bool.false_and, Bool.or_self, cond_false]
        rw [signed_f (by omega) (by omega)]
        exact (ediv_of (r := 2 * m + n) (by omega) (by omega) (by omega) (by rw [hmq, nq]; omega)).symm
theorem mid_bd {d k n : Int} (hd : bd n d) (hk : 0 ≤ k ∧ k ≤ n) (hn : 1 ≤ n ∧ n ≤ 4194304) : bd (n + 1) ((2 * d * k + n) / (2 * n)) ∧ bd 35184380477440 (2 * d * k + n) := by
  have e2 : 2 * d * k = 2 * (d * k) := Int.mul_assoc _ _ _
  have h1 := mul_bd hd (show bd n k by omega) (by omega) (by omega)
  have h2 := prod_lt 4194304 4194304 (x := n) (y := n) ⟨by omega, hn.2⟩ ⟨by omega, hn.2⟩ (by omega)
  have e3 : (n + 1) * (2 * n) = 2 * (n * n) + 2 * n := by grind
  have e4 : (-(n + 1)) * (2 * n) = -(2 * (n * n) + 2 * n) := by rw [Int.neg_mul, e3]
  rw [e2]
  refine ⟨⟨?_, ?_⟩, by omega⟩
  · exact (Int.le_ediv_iff_mul_le (show 0 < 2 * n by omega)).2 (by rw [e4]; omega)
  · have : (2 * (d * k) + n) / (2 * n) < n + 1 + 1 := (Int.ediv_lt_iff_lt_mul (show 0 < 2 * n by omega)).2 (by
      have e5 : (n + 1 + 1) * (2 * n) = 2 * (n * n) + 4 * n := by grind
      rw [e5]; omega)
    omega
/-- The points between two are the same. -/
theorem pt_same {l h k n : Int} (hl : bd 1048576 l) (hd : bd n (h - l)) (hk : 0 ≤ k ∧ k ≤ n) (hn : 1 ≤ n ∧ n ≤ 4194304) : True ∧ addpt_0 l (muldiv_0 (h - l) k n 2) = l + (2 * (h - l) * k + n) / (2 * n) := by
  obtain ⟨b1, b2⟩ := mid_bd hd hk hn
  have e2 : 2 * (h - l) * k = 2 * ((h - l) * k) := Int.mul_assoc _ _ _
  rw [md_law hd hk hn, addpt_eq (by omega) (by omega)]
  exact ⟨trivial, rfl⟩
theorem bs_hit {P : Int → Bool} : ∀ (f : Nat) (a b : Int), P b = true → P (bs P f a b) = true
  | 0, _, _, h => h
  | f + 1, a, b, h => by
    unfold bs
    cases decide (b - a > 1)
    · exact h
    · rw [cond_true]
      cases hm : P ((a + b).tdiv 2)
      · exact bs_hit f _ b h
      · exact bs_hit f a _ hm
/-- A threshold is found. -/
theorem bs_thr {P : Int → Bool} {t n : Int} (hP : ∀ k, 0 ≤ k → k ≤ n → P k = decide (t ≤ k)) : ∀ (f : Nat) (a b : Int), 0 ≤ a → a < t → t ≤ b → b ≤ n → (b - a).toNat ≤ f → bs P f a b = t
  | 0, a, b, h0, h1, h2, h3, h4 => by show b = t; omega
  | f + 1, a, b, h0, h1, h2, h3, h4 => by
    unfold bs
    by_cases g : b - a > 1
    · obtain ⟨m1, m2⟩ := mid_lt h0 g
      rw [decide_eq_true g, cond_true, hP _ (by omega) (by omega)]
      by_cases h5 : t ≤ (a + b).tdiv 2
      · rw [decide_eq_true h5, cond_true]
        exact bs_thr hP f a _ h0 h1 h5 (by omega) (by omega)
      · rw [decide_eq_false h5, cond_false]
        exact bs_thr hP f _ b (by omega) (by omega) h2 h3 (by omega)
    · rw [decide_eq_false g, cond_false]; omega
/-! ### Searches on arcs -/
noncomputable def found_n_ (l0 l1 h0 h1 : Int) : Int :=
  if 0 - (h1 - l1) > (if h1 - l1 > (if 0 - (h0 - l0) > h0 - l0 then 0 - (h0 - l0) else h0 - l0) then h1 - l1 else (if 0 - (h0 - l0) > h0 - l0 then 0 - (h0 - l0) else h0 - l0)) then 0 - (h1 - l1) else (if h1 - l1 > (if 0 - (h0 - l0) > h0 - l0 then 0 - (h0 - l0) else h0 - l0) then h1 - l1 else (if 0 - (h0 - l0) > h0 - l0 then 0 - (h0 - l0) else h0 - l0))
theorem found_n {l0 l1 h0 h1 : Int} (b0 : bd 1048576 l0) (b1 : bd 1048576 l1) (b2 : bd 1048576 h0) (b3 : bd 1048576 h1) : straight_s2 l0 l1 h0 h1 = found_n_ l0 l1 h0 h1 ∧ 0 ≤ found_n_ l0 l1 h0 h1 ∧ found_n_ l0 l1 h0 h1 ≤ 2097152 ∧ bd (found_n_ l0 l1 h0 h1) (h0 - l0) ∧ bd (found_n_ l0 l1 h0 h1) (h1 - l1) := by
  have d0 : minus_0 h0 l0 = h0 - l0 := minus_eq (by omega) (by omega)
  have d1 : minus_0 h1 l1 = h1 - l1 := minus_eq (by omega) (by omega)
  unfold straight_s2 straight_s1 straight_s0 found_n_
  rw [d0, d1, wrI (x := 0 - (h0 - l0)) (by omega) (by omega), wrI (x := 0 - (h1 - l1)) (by omega) (by omega)]
  refine ⟨rfl, ?_⟩
  repeat' split
  all_goals omega
theorem le_of_sq {a b : Int} (hb : 0 ≤ b) (h : a * a ≤ b * b) : a ≤ b := by
  rcases Int.lt_or_le b a with g | g
  · have := Int.mul_self_lt_mul_self hb g; omega
  · exact g
theorem sq_le {a b : Int} (ha : 0 ≤ a) (h : a ≤ b) : a * a ≤ b * b := Int.mul_le_mul h h ha (by omega)
/-- Clear of a straight piece. -/
theorem clear_line {f0 f1 f2 f3 y0 y1 r : Int} (f4 f5 : Int) (h0 : bd 1000000 f0) (h1 : bd 1000000 f1) (h2 : bd 1000000 f2) (h3 : bd 1000000 f3) (g0 : bd 1100000 y0) (g1 : bd 1100000 y1) (hr : bd 40000 r) :
    oclear_0 f0 f1 f2 f3 f4 f5 0 y0 y1 r = decide ((0 ≤ r ∧ 0 ≤ (f2 - f0) * (y1 - f1) - (f3 - f1) * (y0 - f0) ∨ r < 0 ∧ (f2 - f0) * (y1 - f1) - (f3 - f1) * (y0 - f0) ≤ 0) ∧ r * r * ((f2 - f0) * (f2 - f0) + (f3 - f1) * (f3 - f1)) ≤ ((f2 - f0) * (y1 - f1) - (f3 - f1) * (y0 - f0)) * ((f2 - f0) * (y1 - f1) - (f3 - f1) * (y0 - f0))) := by
  have d0 : minus_0 f2 f0 = f2 - f0 := minus_eq (by omega) (by omega)
  have d1 : minus_0 f3 f1 = f3 - f1 := minus_eq (by omega) (by omega)
  have d2 : minus_0 y0 f0 = y0 - f0 := minus_eq (by omega) (by omega)
  have d3 : minus_0 y1 f1 = y1 - f1 := minus_eq (by omega) (by omega)
  have hx : vcross_0 (f2 - f0) (f3 - f1) (y0 - f0) (y1 - f1) = (f2 - f0) * (y1 - f1) - (f3 - f1) * (y0 - f0) := vcross_eq (by omega) (by omega) (by omega) (by omega)
  have hv : vinner_0 (f2 - f0) (f3 - f1) (f2 - f0) (f3 - f1) = (f2 - f0) * (f2 - f0) + (f3 - f1) * (f3 - f1) := vinner_eq (by omega) (by omega) (by omega) (by omega)
  have hrr : IntKind.i64.wrap (r * r) = r * r := by
    have := mul_bd hr hr (by omega) (by omega)
    exact wrI (by omega) (by omega)
  have hxI : isI (vcross_0 (f2 - f0) (f3 - f1) (y0 - f0) (y1 - f1)) := wrap_isI _
  have z : ((0 : Int) == 0) = true := rfl
  unfold oclear_0 oclear_s0
  rw [z, cond_true, d0, d1, d2, d3, wcmp_eq _ _ _ _ hxI hxI (wrap_isI _) (v_isI _ _ _ _), hrr, hv, hx]
  rw [show decide (cmpI (((f2 - f0) * (y1 - f1) - (f3 - f1) * (y0 - f0)) * ((f2 - f0) * (y1 - f1) - (f3 - f1) * (y0 - f0))) (r * r * ((f2 - f0) * (f2 - f0) + (f3 - f1) * (f3 - f1))) ≥ 0) = decide (r * r * ((f2 - f0) * (f2 - f0) + (f3 - f1) * (f3 - f1)) ≤ ((f2 - f0) * (y1 - f1) - (f3 - f1) * (y0 - f0)) * ((f2 - f0) * (y1 - f1) - (f3 - f1) * (y0 - f0))) from cmpI_ge _ _]
  rw [Bool.eq_iff_iff]
  simp only [Bool.and_eq_true, Bool.or_eq_true, decide_eq_true_eq, ge_iff_le]
def unit2 (a b : Int) : Prop := (a = 1 ∧ b = 0) ∨ (a = 0 ∧ b = 1) ∨ (a = -1 ∧ b = 0) ∨ (a = 0 ∧ b = -1)
theorem sq_le_of {x y : Int} (hy : 0 ≤ y) (h : x * x ≤ y * y) : x ≤ y := le_of_sq hy h
theorem over_pm {n R z : Int} (hz : z = 1 ∨ z = -1) (hn : 1 ≤ n ∧ n ≤ 9000) (hR : bd 2000 R) : wOver_0 (n * z) R (n * n) 2 = z * R := by
  have hnn := prod_lt 9000 9000 (x := n) (y := n) (by omega) (by omega) (by omega)
  have hn2 : 1 ≤ n * n := Int.mul_le_mul hn.1 hn.1 (by omega) (by omega)
  obtain ⟨U, U0, u1, u2, U1, U2⟩ := over_abs (a := n * z) (g := R) (N := n * n) (by rcases hz with rfl | rfl <;> omega) (by omega) ⟨hn2, by omega⟩
  have e : n * z * R * (n * z * R) = R * R * (n * n) := by rcases hz with rfl | rfl <;> grind
  rw [e] at U1 U2
  obtain ⟨k, k0, k1, k2, k3⟩ := abs_ex R
  have hk : U = k := by
    rw [← k3] at U1 U2
    have dv : ∀ {x y : Int}, x * (n * n) ≤ y * (n * n) → x ≤ y := fun {x y} h => Int.le_of_mul_le_mul_right h (by omega)
    have a1 : 2 * k ≤ 2 * U + 1 := by
      refine le_of_sq (by omega) (dv ?_)
      have : 2 * k * (2 * k) * (n * n) = 4 * (k * k * (n * n)) := by grind
      omega
    have a2 : U ≤ k := by
      by_cases h : 1 ≤ U
      · have := le_of_sq (a := 2 * U - 1) (b := 2 * k) (by omega) (dv (by
          have : 2 * k * (2 * k) * (n * n) = 4 * (k * k * (n * n)) := by grind
          have := U1 h
          omega))
        omega
      · omega
    omega
  rw [hk] at u1 u2
  have hs : n * z * R = n * (z * R) := Int.mul_assoc _ _ _
  rw [hs] at u1 u2
  rcases Int.lt_or_le (z * R) 0 with h | h
  · rw [u2 (Int.mul_neg_of_pos_of_neg (by omega) h)]
    rcases hz with rfl | rfl <;> omega
  · rw [u1 (Int.mul_nonneg (by omega) h)]
    rcases hz with rfl | rfl <;> omega
theorem over_null {R N : Int} (hN : 1 ≤ N ∧ N ≤ 4611686018427387904) (hR : bd 2000 R) : wOver_0 0 R N 2 = 0 := by
  obtain ⟨U, U0, u1, u2, U1, U2⟩ := over_abs (a := 0) (g := R) (N := N) (by omega) (by omega) hN
  rw [Int.zero_mul] at u1 U1
  rw [u1 (by omega)]
  by_cases h : 1 ≤ U
  · have h1 := U1 h
    have h2 := sqm (x := 1) (y := 2 * U - 1) (n := N) (by omega) (by omega) (by omega)
    omega
  · omega
theorem nrm_unit {p0 p1 a b n R : Int} (hab : unit2 a b) (hn : 1 ≤ n ∧ n ≤ 9000) (hR : bd 2000 R) (h0 : bd 200000 p0) (h1 : bd 200000 p1) : onormal_0 p0 p1 (n * a) (n * b) R = p0 - b * R ∧ onormal_1 p0 p1 (n * a) (n * b) R = p1 + a * R := by
  have hnn := prod_lt 9000 9000 (x := n) (y := n) (by omega) (by omega) (by omega)
  have hn2 : 1 ≤ n * n := Int.mul_le_mul hn.1 hn.1 (by omega) (by omega)
  have oz : ∀ N, N = n * n → wOver_0 0 R N 2 = 0 := fun N h => by rw [h]; exact over_null ⟨hn2, by omega⟩ hR
  have op : ∀ x N, x = n → N = n * n → wOver_0 x R N 2 = R := fun x N hx h => by
    have := over_pm (z := 1) (.inl rfl) hn hR
    rw [Int.mul_one, Int.one_mul] at this
    rw [h, hx]; exact this
  have om : ∀ x N, x = -n → N = n * n → wOver_0 x R N 2 = -R := fun x N hx h => by
    have := over_pm (z := -1) (.inr rfl) hn hR
    rw [show n * -1 = -n by omega, show (-1 : Int) * R = -R by omega] at this
    rw [h, hx]; exact this
  obtain ⟨v1, v2, _⟩ := normal_val (p0 := p0) (p1 := p1) (t0 := n * a) (t1 := n * b) (r := R) (by rcases hab with ⟨rfl, rfl⟩ | ⟨rfl, rfl⟩ | ⟨rfl, rfl⟩ | ⟨rfl, rfl⟩ <;> omega) (by rcases hab with ⟨rfl, rfl⟩ | ⟨rfl, rfl⟩ | ⟨rfl, rfl⟩ | ⟨rfl, rfl⟩ <;> omega) (by rcases hab with ⟨rfl, rfl⟩ | ⟨rfl, rfl⟩ | ⟨rfl, rfl⟩ | ⟨rfl, rfl⟩ <;> omega) (by omega) (by omega) (by omega)
  have hN : n * a * (n * a) + n * b * (n * b) = n * n := by rcases hab with ⟨rfl, rfl⟩ | ⟨rfl, rfl⟩ | ⟨rfl, rfl⟩ | ⟨rfl, rfl⟩ <;> grind
  rw [hN] at v1 v2
  rw [v1, v2]
  rcases hab with ⟨rfl, rfl⟩ | ⟨rfl, rfl⟩ | ⟨rfl, rfl⟩ | ⟨rfl, rfl⟩
  · rw [show -(n * 0) = (0 : Int) by omega, oz _ rfl, op _ _ (by omega) rfl]; omega
  · rw [om _ _ (by omega) rfl, show n * 0 = (0 : Int) by omega, oz _ rfl]; omega
  · rw [show -(n * 0) = (0 : Int) by omega, oz _ rfl, om _ _ (by omega) rfl]; omega
  · rw [op _ _ (by omega) rfl, show n * 0 = (0 : Int) by omega, oz _ rfl]; omega
theorem unit_ends {e0 e1 e2 e3 a b n R : Int} (hab : unit2 a b) (hn : 1 ≤ n ∧ n ≤ 9000) (hR : bd 2000 R) (h0 : bd 150000 e0) (h1 : bd 150000 e1) (h2 : e2 = e0 + n * a) (h3 : e3 = e1 + n * b) :
    oends_4 e0 e1 e2 e3 0 0 0 R = 0 ∧ oends_0 e0 e1 e2 e3 0 0 0 R = e0 - b * R ∧ oends_1 e0 e1 e2 e3 0 0 0 R = e1 + a * R ∧ oends_2 e0 e1 e2 e3 0 0 0 R = e2 - b * R ∧ oends_3 e0 e1 e2 e3 0 0 0 R = e3 + a * R := by
  have b2 : bd 160000 e2 := by rcases hab with ⟨rfl, rfl⟩ | ⟨rfl, rfl⟩ | ⟨rfl, rfl⟩ | ⟨rfl, rfl⟩ <;> omega
  have b3 : bd 160000 e3 := by rcases hab with ⟨rfl, rfl⟩ | ⟨rfl, rfl⟩ | ⟨rfl, rfl⟩ | ⟨rfl, rfl⟩ <;> omega
  have ba : bd 2000 (a * R) := by rcases hab with ⟨rfl, rfl⟩ | ⟨rfl, rfl⟩ | ⟨rfl, rfl⟩ | ⟨rfl, rfl⟩ <;> omega
  have bb : bd 2000 (b * R) := by rcases hab with ⟨rfl, rfl⟩ | ⟨rfl, rfl⟩ | ⟨rfl, rfl⟩ | ⟨rfl, rfl⟩ <;> omega
  obtain ⟨p0, p1⟩ := nrm_unit (p0 := e0) (p1 := e1) hab hn hR (by omega) (by omega)
  obtain ⟨p2, p3⟩ := nrm_unit (p0 := e2) (p1 := e3) hab hn hR (by omega) (by omega)
  obtain ⟨s1, s3, s5, s7⟩ := line_ends (x := e0) (y := e1) (u := e2) (v := e3) (r := R) (by omega) (by omega) (by omega) (by omega)
  rw [show e2 - e0 = n * a by omega, show e3 - e1 = n * b by omega] at s1 s3 s5 s7
  rw [p0] at s1
  rw [p1] at s3
  rw [p2] at s5
  rw [p3] at s7
  have q : ∀ {x : Int}, bd 1048576 x → oin_0 x 1048576 = true := fun h => (oin_iff (by omega) (by omega)).2 h
  have z : oends_4 e0 e1 e2 e3 0 0 0 R = 0 := by
    show (bif !oin_0 (oends_s1 e0 e1 e2 e3 0 0 0 R) 1048576 then (3 : Int) else bif !oin_0 (oends_s3 e0 e1 e2 e3 0 0 0 R) 1048576 then 3 else bif !oin_0 (oends_s5 e0 e1 e2 e3 0 0 0 R) 1048576 then 3 else bif !oin_0 (oends_s7 e0 e1 e2 e3 0 0 0 R) 1048576 then 3 else 0) = 0
    rw [s1, s3, s5, s7, q (by omega), q (by omega), q (by omega), q (by omega)]
    rfl
  obtain ⟨n0, n1, n2, n3, _⟩ := ends_ok _ _ _ _ _ _ _ _ z
  exact ⟨z, by rw [n0, s1], by rw [n1, s3], by rw [n2, s5], by rw [n3, s7]⟩
theorem sq_iff {r k : Int} (hr : 0 ≤ r) (hk : 0 ≤ k) {N : Int} (hN : 0 < N) : r * r * N ≤ k * k * N ↔ r ≤ k := by
  constructor
  · intro h
    exact le_of_sq hk (Int.le_of_mul_le_mul_right h hN)
  · intro h
    exact Int.mul_le_mul_of_nonneg_right (sq_le hr h) (by omega)
/-- A point beside the first piece. -/
theorem right_clear {P0 P1 J0 J1 a b s n r R k y0 y1 : Int} (hab : unit2 a b) (hs : s = 1 ∨ s = -1) (hn : 1 ≤ n ∧ n ≤ 9000) (hr : 1 ≤ r ∧ r ≤ 2000) (hR : R = s * r) (h0 : bd 100000 P0) (h1 : bd 100000 P1) (hJ0 : J0 = P0 + n * a) (hJ1 : J1 = P1 + n * b) (hk : 0 ≤ k ∧ k ≤ 9000) (hy0 : y0 = J0 - r * a + k * (-(s * b))) (hy1 : y1 = J1 - r * b + k * (s * a)) :
    oclear_0 P0 P1 J0 J1 0 0 0 y0 y1 R = decide (r ≤ k) := by
  have hnn : 0 < n * n := Int.mul_pos (by omega) (by omega)
  have q := sq_iff (r := r) (k := k) (by omega) hk.1 hnn
  have hnk := Int.mul_nonneg (show 0 ≤ n by omega) hk.1
  have d0 : J0 - P0 = n * a := by omega
  have d1 : J1 - P1 = n * b := by omega
  have bJ0 : bd 1000000 J0 := by rcases hab with ⟨rfl, rfl⟩ | ⟨rfl, rfl⟩ | ⟨rfl, rfl⟩ | ⟨rfl, rfl⟩ <;> omega
  have bJ1 : bd 1000000 J1 := by rcases hab with ⟨rfl, rfl⟩ | ⟨rfl, rfl⟩ | ⟨rfl, rfl⟩ | ⟨rfl, rfl⟩ <;> omega
  have by0 : bd 1100000 y0 := by rcases hab with ⟨rfl, rfl⟩ | ⟨rfl, rfl⟩ | ⟨rfl, rfl⟩ | ⟨rfl, rfl⟩ <;> rcases hs with rfl | rfl <;> omega
  have by1 : bd 1100000 y1 := by rcases hab with ⟨rfl, rfl⟩ | ⟨rfl, rfl⟩ | ⟨rfl, rfl⟩ | ⟨rfl, rfl⟩ <;> rcases hs with rfl | rfl <;> omega
  have bR : bd 40000 R := by rcases hs with rfl | rfl <;> omega
  rw [clear_line 0 0 (by omega) (by omega) bJ0 bJ1 by0 by1 bR, d0, d1]
  have eN : n * a * (n * a) + n * b * (n * b) = n * n := by rcases hab with ⟨rfl, rfl⟩ | ⟨rfl, rfl⟩ | ⟨rfl, rfl⟩ | ⟨rfl, rfl⟩ <;> grind
  have f0 : y0 - P0 = (n - r) * a - k * (s * b) := by rw [hy0, hJ0]; grind
  have f1 : y1 - P1 = (n - r) * b + k * (s * a) := by rw [hy1, hJ1]; grind
  have eX : n * a * (y1 - P1) - n * b * (y0 - P0) = s * (n * k) := by
    rw [f0, f1]
    rcases hab with ⟨rfl, rfl⟩ | ⟨rfl, rfl⟩ | ⟨rfl, rfl⟩ | ⟨rfl, rfl⟩ <;> grind
  rw [eN, eX]
  have eRR : R * R = r * r := by rw [hR]; rcases hs with rfl | rfl <;> grind
  have eXX : s * (n * k) * (s * (n * k)) = k * k * (n * n) := by rcases hs with rfl | rfl <;> grind
  rw [eRR, eXX]
  have sg : (0 ≤ R ∧ 0 ≤ s * (n * k) ∨ R < 0 ∧ s * (n * k) ≤ 0) := by
    generalize n * k = x at *
    rcases hs with rfl | rfl <;> omega
  rw [decide_eq_decide]
  exact ⟨fun h => q.1 h.2, fun h => ⟨sg, q.2 h⟩⟩
/-- What is found on the second piece. -/
theorem right_found {P0 P1 J0 J1 a b s n m r R : Int} (hab : unit2 a b) (hs : s = 1 ∨ s = -1) (hn : 1 ≤ n ∧ n ≤ 9000) (hr : 1 ≤ r ∧ r ≤ 2000) (hm : r < m ∧ m ≤ 9000) (hR : R = s * r) (h0 : bd 100000 P0) (h1 : bd 100000 P1) (hJ0 : J0 = P0 + n * a) (hJ1 : J1 = P1 + n * b) :
    straight_0 (J0 - r * a) (J1 - r * b) (J0 - r * a + m * (-(s * b))) (J1 - r * b + m * (s * a)) P0 P1 J0 J1 0 0 0 false R = J0 - r * a + r * (-(s * b)) ∧ straight_1 (J0 - r * a) (J1 - r * b) (J0 - r * a + m * (-(s * b))) (J1 - r * b + m * (s * a)) P0 P1 J0 J1 0 0 0 false R = J1 - r * b + r * (s * a) := by
  have b0 : bd 1048576 (J0 - r * a) := by rcases hab with ⟨rfl, rfl⟩ | ⟨rfl, rfl⟩ | ⟨rfl, rfl⟩ | ⟨rfl, rfl⟩ <;> omega
  have b1 : bd 1048576 (J1 - r * b) := by rcases hab with ⟨rfl, rfl⟩ | ⟨rfl, rfl⟩ | ⟨rfl, rfl⟩ | ⟨rfl, rfl⟩ <;> omega
  have b2 : bd 1048576 (J0 - r * a + m * (-(s * b))) := by rcases hab with ⟨rfl, rfl⟩ | ⟨rfl, rfl⟩ | ⟨rfl, rfl⟩ | ⟨rfl, rfl⟩ <;> rcases hs with rfl | rfl <;> omega
  have b3 : bd 1048576 (J1 - r * b + m * (s * a)) := by rcases hab with ⟨rfl, rfl⟩ | ⟨rfl, rfl⟩ | ⟨rfl, rfl⟩ | ⟨rfl, rfl⟩ <;> rcases hs with rfl | rfl <;> omega
  obtain ⟨en, n0, n1, n2, n3⟩ := found_n b0 b1 b2 b3
  have nv : found_n_ (J0 - r * a) (J1 - r * b) (J0 - r * a + m * (-(s * b))) (J1 - r * b + m * (s * a)) = m := by
    clear n0 n1 n2 n3 en
    unfold found_n_
    generalize J0 - r * a = x
    generalize J1 - r * b = y
    rw [show x + m * (-(s * b)) - x = m * (-(s * b)) by omega, show y + m * (s * a) - y = m * (s * a) by omega]
    rcases hab with ⟨rfl, rfl⟩ | ⟨rfl, rfl⟩ | ⟨rfl, rfl⟩ | ⟨rfl, rfl⟩ <;> rcases hs with rfl | rfl <;> (repeat' split) <;> omega
  rw [nv] at en n2 n3
  have hc : ∀ k, 0 ≤ k → k ≤ m → stP (J0 - r * a) (J1 - r * b) (J0 - r * a + m * (-(s * b)) - (J0 - r * a)) (J1 - r * b + m * (s * a) - (J1 - r * b)) m P0 P1 J0 J1 0 0 0 R k = decide (r ≤ k) ∧ addpt_0 (J0 - r * a) (muldiv_0 (J0 - r * a + m * (-(s * b)) - (J0 - r * a)) k m 2) = J0 - r * a + k * (-(s * b)) ∧ addpt_0 (J1 - r * b) (muldiv_0 (J1 - r * b + m * (s * a) - (J1 - r * b)) k m 2) = J1 - r * b + k * (s * a) := fun k k0 k1 => by
    have ev : ∀ z x : Int, (2 * (x + m * z - x) * k + m) / (2 * m) = k * z := fun z x => ediv_of (r := m) (by omega) (by omega) (by omega) (by rw [show x + m * z - x = m * z by omega]; grind)
    have g0 := (pt_same b0 n2 ⟨k0, k1⟩ (by omega)).2
    have g1 := (pt_same b1 n3 ⟨k0, k1⟩ (by omega)).2
    rw [ev] at g0 g1
    refine ⟨?_, g0, g1⟩
    unfold stP
    rw [g0, g1]
    exact right_clear hab hs hn hr hR h0 h1 hJ0 hJ1 ⟨k0, by omega⟩ rfl rfl
  have fv : (stF (J0 - r * a) (J1 - r * b) (J0 - r * a + m * (-(s * b)) - (J0 - r * a)) (J1 - r * b + m * (s * a) - (J1 - r * b)) m P0 P1 J0 J1 0 0 0 false R).fin (bs0 m) = r := by
    show bs _ (m - 0).toNat 0 m = r
    exact bs_thr (fun k h1 h2 => (hc k h1 h2).1) _ 0 m (by omega) (by omega) (by omega) (by omega) (by omega)
  have d0 : minus_0 (J0 - r * a + m * (-(s * b))) (J0 - r * a) = J0 - r * a + m * (-(s * b)) - (J0 - r * a) := minus_eq (by omega) (by omega)
  have d1 : minus_0 (J1 - r * b + m * (s * a)) (J1 - r * b) = J1 - r * b + m * (s * a) - (J1 - r * b) := minus_eq (by omega) (by omega)
  unfold straight_0 straight_1
  rw [en, d0, d1, fv]
  obtain ⟨_, g0, g1⟩ := hc r (by omega) (by omega)
  exact ⟨g0, g1⟩
/-- The trimming at a right angle. -/
theorem right_trim {P0 P1 J0 J1 T0 T1 a b s n m r R : Int} (hab : unit2 a b) (hs : s = 1 ∨ s = -1) (hr : 1 ≤ r ∧ r ≤ 2000) (hn : r < n ∧ n ≤ 9000) (hm : r < m ∧ m ≤ 9000) (hR : R = s * r) (h0 : bd 100000 P0) (h1 : bd 100000 P1) (hJ0 : J0 = P0 + n * a) (hJ1 : J1 = P1 + n * b) (hT0 : T0 = J0 + m * (-(s * b))) (hT1 : T1 = J1 + m * (s * a)) :
    trim_2 P0 P1 J0 J1 0 0 0 false J0 J1 T0 T1 0 0 0 false R = 0 ∧ trim_0 P0 P1 J0 J1 0 0 0 false J0 J1 T0 T1 0 0 0 false R = J0 - r * a + r * (-(s * b)) ∧ trim_1 P0 P1 J0 J1 0 0 0 false J0 J1 T0 T1 0 0 0 false R = J1 - r * b + r * (s * a) := by
  have bR : bd 2000 R := by rcases hs with rfl | rfl <;> omega
  have bJ0 : bd 110000 J0 := by rcases hab with ⟨rfl, rfl⟩ | ⟨rfl, rfl⟩ | ⟨rfl, rfl⟩ | ⟨rfl, rfl⟩ <;> omega
  have bJ1 : bd 110000 J1 := by rcases hab with ⟨rfl, rfl⟩ | ⟨rfl, rfl⟩ | ⟨rfl, rfl⟩ | ⟨rfl, rfl⟩ <;> omega
  have hcd : unit2 (-(s * b)) (s * a) := by unfold unit2 at *; rcases hs with rfl | rfl <;> omega
  obtain ⟨x4, x0, x1, x2, x3⟩ := unit_ends (R := R) hab (show 1 ≤ n ∧ n ≤ 9000 by omega) bR (by omega) (by omega) hJ0 hJ1
  obtain ⟨y4, y0, y1, y2, y3⟩ := unit_ends (R := R) hcd (show 1 ≤ m ∧ m ≤ 9000 by omega) bR (by omega) (by omega) hT0 hT1
  have ea : s * a * R = r * a := by rw [hR]; rcases hs with rfl | rfl <;> grind
  have eb : -(s * b) * R = -(r * b) := by rw [hR]; rcases hs with rfl | rfl <;> grind
  rw [ea] at y0 y2
  rw [eb] at y1 y3
  have q1 : J1 + -(r * b) = J1 - r * b := by omega
  have q2 : T0 - r * a = J0 - r * a + m * (-(s * b)) := by omega
  have q3 : T1 + -(r * b) = J1 - r * b + m * (s * a) := by omega
  rw [q1] at y1
  rw [q2] at y2
  rw [q3] at y3
  obtain ⟨f0, f1⟩ := right_found hab hs (show 1 ≤ n ∧ n ≤ 9000 by omega) hr hm hR h0 h1 hJ0 hJ1
  have s0 : trim_s0 P0 P1 J0 J1 0 0 0 false J0 J1 T0 T1 0 0 0 false R = J0 - r * a + r * (-(s * b)) := by
    show straight_0 (oends_0 J0 J1 T0 T1 0 0 0 R) (oends_1 J0 J1 T0 T1 0 0 0 R) (oends_2 J0 J1 T0 T1 0 0 0 R) (oends_3 J0 J1 T0 T1 0 0 0 R) P0 P1 J0 J1 0 0 0 false R = _
    rw [y0, y1, y2, y3]; exact f0
  have s1 : trim_s1 P0 P1 J0 J1 0 0 0 false J0 J1 T0 T1 0 0 0 false R = J1 - r * b + r * (s * a) := by
    show straight_1 (oends_0 J0 J1 T0 T1 0 0 0 R) (oends_1 J0 J1 T0 T1 0 0 0 R) (oends_2 J0 J1 T0 T1 0 0 0 R) (oends_3 J0 J1 T0 T1 0 0 0 R) P0 P1 J0 J1 0 0 0 false R = _
    rw [y0, y1, y2, y3]; exact f1
  have hc : oclear_0 P0 P1 J0 J1 0 0 0 (oends_2 J0 J1 T0 T1 0 0 0 R) (oends_3 J0 J1 T0 T1 0 0 0 R) R = true := by
    rw [y2, y3, right_clear hab hs (show 1 ≤ n ∧ n ≤ 9000 by omega) hr hR h0 h1 hJ0 hJ1 (show 0 ≤ m ∧ m ≤ 9000 by omega) rfl rfl]
    exact decide_eq_true (by omega)
  have c0 : bd 120000 (J0 - r * a + r * (-(s * b))) := by rcases hab with ⟨rfl, rfl⟩ | ⟨rfl, rfl⟩ | ⟨rfl, rfl⟩ | ⟨rfl, rfl⟩ <;> rcases hs with rfl | rfl <;> omega
  have c1 : bd 120000 (J1 - r * b + r * (s * a)) := by rcases hab with ⟨rfl, rfl⟩ | ⟨rfl, rfl⟩ | ⟨rfl, rfl⟩ | ⟨rfl, rfl⟩ <;> rcases hs with rfl | rfl <;> omega
  have q : ∀ {x : Int}, bd 1048576 x → oin_0 x 1048576 = true := fun h => (oin_iff (by omega) (by omega)).2 h
  have ha : ahead_0 P0 P1 J0 J1 0 0 0 false (J0 - r * a + r * (-(s * b))) (J1 - r * b + r * (s * a)) (P0 - b * R) (P1 + a * R) = true := by
    have e1 : b * R = r * (s * b) := by rw [hR]; grind
    have e2 : a * R = r * (s * a) := by rw [hR]; grind
    have bb : bd 2000 (b * R) := by rcases hab with ⟨rfl, rfl⟩ | ⟨rfl, rfl⟩ | ⟨rfl, rfl⟩ | ⟨rfl, rfl⟩ <;> omega
    have ba : bd 2000 (a * R) := by rcases hab with ⟨rfl, rfl⟩ | ⟨rfl, rfl⟩ | ⟨rfl, rfl⟩ | ⟨rfl, rfl⟩ <;> omega
    show decide (vinner_0 (minus_0 (J0 - r * a + r * (-(s * b))) (P0 - b * R)) (minus_0 (J1 - r * b + r * (s * a)) (P1 + a * R)) (minus_0 J0 P0) (minus_0 J1 P1) > 0) = true
    rw [minus_eq (a := J0 - r * a + r * (-(s * b))) (by omega) (by omega), minus_eq (a := J1 - r * b + r * (s * a)) (by omega) (by omega), minus_eq (a := J0) (by omega) (by omega), minus_eq (a := J1) (by omega) (by omega), vinner_eq (by omega) (by omega) (by omega) (by omega)]
    have g0 : J0 - r * a + r * (-(s * b)) - (P0 - b * R) = (n - r) * a := by rw [hJ0, e1]; grind
    have g1 : J1 - r * b + r * (s * a) - (P1 + a * R) = (n - r) * b := by rw [hJ1, e2]; grind
    rw [g0, g1, show J0 - P0 = n * a by omega, show J1 - P1 = n * b by omega]
    have hp := Int.mul_pos (show 0 < n - r by omega) (show 0 < n by omega)
    have : (n - r) * a * (n * a) + (n - r) * b * (n * b) = (n - r) * n := by rcases hab with ⟨rfl, rfl⟩ | ⟨rfl, rfl⟩ | ⟨rfl, rfl⟩ | ⟨rfl, rfl⟩ <;> grind
    rw [this]
    exact decide_eq_true hp
  unfold trim_2 trim_0 trim_1
  rw [x4, y4, hc, s0, s1, x0, x1, ha, q (by omega), q (by omega)]
  exact ⟨rfl, rfl, rfl⟩
end Go.Proofs.Ytmbfbhimdkjkoaa
namespace Go.Proofs.Ytmbfbhimdkjkoaa
open Go.SX Go.RowKit
/-- What stands between the lead-in and the lead-out. -/
inductive Mid (sd ra : Int) : List Int → Prop where
  | out (n : Int) : Mid sd ra (itO n)
  | line (x y z u v w fe : Int) (h : fe = 30000 ∨ fe = 60000) : Mid sd ra (itL x y z u v w fe sd ra)
  | arc (x y z u v w c d e dir : Int) : Mid sd ra (itA x y z u v w c d e dir 60000 sd ra)
theorem conStep_mid (L : List (List Int)) (sd ra sz : Int) (s : CS) : ∃ r, Mid sd ra r ∧ (conStep L sd ra sz s).R = s.R ++ [r] := by
  unfold conStep
  cases next_0 10 s.a L == 0
  · cases next_0 10 s.a L == 1
    · cases (bif next_0 10 s.a L == 2 then next_0 10 s.a L == 2 else next_0 10 s.a L == 3)
      · exact ⟨_, .line _ _ _ _ _ _ _ (.inr rfl), rfl⟩
      · exact ⟨_, .arc _ _ _ _ _ _ _ _ _ _, rfl⟩
    · exact ⟨_, .line _ _ _ _ _ _ _ (.inl rfl), rfl⟩
  · exact ⟨_, .out _, rfl⟩
theorem conN_mid (L : List (List Int)) (sd ra sz : Int) : ∀ (k : Nat) (s : CS), ∃ l, (∀ r ∈ l, Mid sd ra r) ∧ (conN L sd ra sz k s).R = s.R ++ l
  | 0, s => ⟨[], fun _ h => (by cases h), (List.append_nil _).symm⟩
  | k + 1, s => by
    obtain ⟨r, h1, h2⟩ := conStep_mid L sd ra sz s
    obtain ⟨l, h3, h4⟩ := conN_mid L sd ra sz k (conStep L sd ra sz s)
    refine ⟨r :: l, fun q hq => ?_, ?_⟩
    · rcases List.mem_cons.1 hq with rfl | hq
      · exact h1
      · exact h3 q hq
    · show (conN L sd ra sz k (conStep L sd ra sz s)).R = _
      rw [h4, h2, List.append_assoc]; rfl
theorem cSd_pm (a : Int) (L : List (List Int)) : cSd a L = 1 ∨ cSd a L = -1 := by
  have h := next_0_range 2 a L (by omega) (by omega)
  unfold cSd
  rcases (show next_0 2 a L = 0 ∨ next_0 2 a L = 1 by omega) with e | e <;> rw [e]
  · exact .inl (by decide)
  · exact .inr (by decide)
theorem contL_shape (a : Int) (L : List (List Int)) : ∃ x y z u v w mids p q r p' q' r', (∀ m ∈ mids, Mid (cSd a L) (cRa a L) m) ∧
    contL a L = itL x y z u v w 60000 (cSd a L) (cRa a L) :: (mids ++ [itM p q r p' q' r']) := by
  obtain ⟨l, h1, h2⟩ := conN_mid L (cSd a L) (cRa a L) (cSz a L) (cS a L).k (cS a L)
  obtain ⟨x, y, z, u, v, w, e1⟩ : ∃ x y z u v w, (cS a L).R = [itL x y z u v w 60000 (cSd a L) (cRa a L)] := ⟨_, _, _, _, _, _, rfl⟩
  obtain ⟨p, q, r, p', q', r', e2⟩ : ∃ p q r p' q' r', contL a L = (cT a L).R ++ [itM p q r p' q' r'] := ⟨_, _, _, _, _, _, rfl⟩
  refine ⟨x, y, z, u, v, w, l, p, q, r, p', q', r', h1, ?_⟩
  have e3 : (cT a L).R = (cS a L).R ++ l := h2
  rw [e2, e3, e1]
  rfl
/-- Does an item differ from one without compensation? -/
noncomputable def diffR (p q : List Int) : Bool := !(p.getD 0 0 == q.getD 0 0 && (p.getD 1 0 == q.getD 1 0 && (p.getD 2 0 == q.getD 2 0 && (p.getD 3 0 == q.getD 3 0 && (p.getD 4 0 == q.getD 4 0 && (p.getD 5 0 == q.getD 5 0 && (p.getD 6 0 == q.getD 6 0 && (p.getD 7 0 == q.getD 7 0 && ((p.getD 8 0 == bif q.getD 0 0 == 2 then 0 else q.getD 8 0) && (p.getD 9 0 == q.getD 9 0 && (p.getD 10 0 == q.getD 10 0 && (p.getD 11 0 == q.getD 11 0 && (p.getD 12 0 == q.getD 12 0 && (((p.getD 13 0 != 0) == (q.getD 13 0 != 0)) && (p.getD 14 0 == q.getD 14 0 && (((p.getD 15 0 != 0) == (q.getD 15 0 != 0)) && (p.getD 16 0 == 0 && (p.getD 17 0 == q.getD 17 0 && (p.getD 18 0 == q.getD 18 0 && (p.getD 19 0 == q.getD 19 0 && (p.getD 20 0 == q.getD 20 0 && ((p.getD 21 0 != 0) == (q.getD 21 0 != 0)))))))))))))))))))))))
noncomputable def zl (r : List Int) : Bool := r.getD 2 0 == r.getD 5 0 && (r.getD 3 0 == r.getD 6 0 && r.getD 4 0 == r.getD 7 0)
/-! ### Valid items -/
theorem bcond {c b : Bool} (h : (bif c then false else b) = true) : c = false ∧ b = true := by
  cases c
  · exact ⟨rfl, h⟩
  · cases h
theorem cvalid_motion {x : List GC} (hv : cvalid_0 x = true) (hm : cmotion_0 (xi x 0) = true) :
    vwithin_0 (xi x 2) (xi x 3) (xi x 4) = true ∧ vwithin_0 (xi x 5) (xi x 6) (xi x 7) = true ∧ (decide (xi x 1 < 0) || decide (xi x 1 ≥ 2000)) = false ∧
    (bif xi x 0 == 3 then bif acheck_0 (xi x 0) (xi x 2) (xi x 3) (xi x 4) (xi x 5) (xi x 6) (xi x 7) (xi x 8) (xi x 9) (xi x 10) (xi x 11) (xi x 12) (xb x 13) != 0 then false else cvalid_s1 x
      else bif !(xi x 9 == 0 && (xi x 10 == 0 && xi x 11 == 0)) || xi x 12 != 0 || xb x 13 then false else cvalid_s1 x) = true := by
  unfold cvalid_0 at hv
  obtain ⟨h0, hv⟩ := bcond hv
  rw [hm, cond_true] at hv
  obtain ⟨h1, h2⟩ := bcond hv
  simp only [Bool.or_eq_false_iff, Bool.not_eq_false'] at h1
  exact ⟨h1.1.1.1.1, h1.1.1.1.2, h0, h2⟩
theorem vwithin_bd {a b c : Int} (h : vwithin_0 a b c = true) : bd 1048576 a ∧ bd 1048576 b ∧ bd 1048576 c := by
  unfold vwithin_0 at h
  simp only [Bool.and_eq_true, decide_eq_true_eq] at h
  omega
theorem acheck_zero {x y z u v w c d e dir : Int} (h : acheck_0 3 x y z u v w 17 c d e dir false = 0) :
    bd 1048576 x ∧ bd 1048576 y ∧ bd 1048576 u ∧ bd 1048576 v ∧ bd 1048576 c ∧ bd 1048576 d ∧ (dir = 1 ∨ dir = -1) ∧ z = e ∧
    64 ≤ (x - c) * (x - c) + (y - d) * (y - d) ∧ 64 ≤ (u - c) * (u - c) + (v - d) * (v - d) ∧ ¬ (x = u ∧ y = v) := by
  unfold acheck_0 at h
  obtain ⟨h1, h⟩ := cond_ne (by decide) h
  obtain ⟨h2, _⟩ := cond_ne (by decide) h
  simp only [Bool.or_eq_false_iff, Bool.not_eq_false', bne_eq_false_iff_eq, Bool.and_eq_false_iff, bne_self_eq_false] at h1
  obtain ⟨⟨⟨⟨⟨⟨_, _⟩, h3⟩, h4⟩, h5⟩, h6⟩, h7⟩ := h1
  have f := vwithin_bd h3
  have t := vwithin_bd h4
  have g := vwithin_bd h5
  have w0 : ∀ {a : Int}, bd 4000000 a → IntKind.i64.wrap a = a := fun h => wrI (by omega) (by omega)
  have a0 : aspokes_0 x y z 17 c d e = x - c := by show IntKind.i64.wrap (x - c) = _; exact w0 (by omega)
  have a1 : aspokes_1 x y z 17 c d e = y - d := by show IntKind.i64.wrap (y - d) = _; exact w0 (by omega)
  have b0 : aspokes_0 u v w 17 c d e = u - c := by show IntKind.i64.wrap (u - c) = _; exact w0 (by omega)
  have b1 : aspokes_1 u v w 17 c d e = v - d := by show IntKind.i64.wrap (v - d) = _; exact w0 (by omega)
  rw [a0, a1, b0, b1] at h2
  rw [vinner_eq (by omega) (by omega) (by omega) (by omega), vinner_eq (by omega) (by omega) (by omega) (by omega)] at h2
  simp only [Bool.or_eq_false_iff, decide_eq_false_iff_not, Bool.false_and, Bool.not_false, Bool.true_and] at h2
  obtain ⟨⟨⟨⟨h8, h9⟩, _⟩, _⟩, h10⟩ := h2
  refine ⟨f.1, f.2.1, t.1, t.2.1, g.1, g.2.1, by omega, h7, by omega, by omega, fun ⟨e1, e2⟩ => ?_⟩
  subst e1; subst e2
  unfold aligned_0 at h10
  rw [vcross_eq (by omega) (by omega) (by omega) (by omega), vinner_eq (by omega) (by omega) (by omega) (by omega)] at h10
  have e : (x - c) * (y - d) - (y - d) * (x - c) = 0 := by grind
  rw [e] at h10
  simp at h10
  omega
end Go.Proofs.Ytmbfbhimdkjkoaa
namespace Go.Proofs.Ytmbfbhimdkjkoaa
open Go.SX Go.RowKit
theorem ofL (x y z u v w fe sd ra : Int) : ofRow (itL x y z u v w fe sd ra) = [.i 2, .i 0, .i x, .i y, .i z, .i u, .i v, .i w, .i 17, .i 0, .i 0, .i 0, .i 0, .b false, .i fe, .b false, .i sd, .i ra, .i 0, .i 0, .i 0, .b false] := by kernel_rfl
theorem ofA (x y z u v w c d e dir fe sd ra : Int) : ofRow (itA x y z u v w c d e dir fe sd ra) = [.i 3, .i 0, .i x, .i y, .i z, .i u, .i v, .i w, .i 17, .i c, .i d, .i e, .i dir, .b false, .i fe, .b false, .i sd, .i ra, .i 0, .i 0, .i 0, .b false] := by kernel_rfl
theorem nrm_of (r : List Int) : nrm (ofRow r) = ofRow r := by kernel_rfl
theorem toO (n : Int) : toRow (ofRow (itO n)) = itO n := by kernel_rfl
theorem toL (x y z u v w fe sd ra : Int) : toRow (ofRow (itL x y z u v w fe sd ra)) = itL x y z u v w fe sd ra := by kernel_rfl
theorem toA (x y z u v w c d e dir fe sd ra : Int) : toRow (ofRow (itA x y z u v w c d e dir fe sd ra)) = itA x y z u v w c d e dir fe sd ra := by kernel_rfl
/-- The corners' kind and the ends where the radius is 0. -/
theorem kd0 {l y x : List GC} (h : xi l 17 = 0) : (kd l y x == 2) = false ∧ (kd l y x == 1) = false := by
  unfold kd
  rw [h, Int.mul_zero]
  exact ⟨rfl, rfl⟩
/-- A line that moves in the plane. -/
structure LineOk (x y u v : Int) : Prop where
  a : bd 1048576 x
  b : bd 1048576 y
  c : bd 1048576 u
  d : bd 1048576 v
  ne : ¬ (x = u ∧ y = v)
theorem nE_line (l : List GC) (h8 : xi l 8 = 17) (x y z u v w fe sd ra : Int) : nE l (ofRow (itL x y z u v w fe sd ra)) = oends_4 x y u v 0 0 0 (IntKind.i64.wrap (xi l 16 * xi l 17)) ∧
    n0 l (ofRow (itL x y z u v w fe sd ra)) = oends_0 x y u v 0 0 0 (IntKind.i64.wrap (xi l 16 * xi l 17)) ∧ n1 l (ofRow (itL x y z u v w fe sd ra)) = oends_1 x y u v 0 0 0 (IntKind.i64.wrap (xi l 16 * xi l 17)) ∧
    f0 l (ofRow (itL x y z u v w fe sd ra)) = oends_2 x y u v 0 0 0 (IntKind.i64.wrap (xi l 16 * xi l 17)) ∧ f1 l (ofRow (itL x y z u v w fe sd ra)) = oends_3 x y u v 0 0 0 (IntKind.i64.wrap (xi l 16 * xi l 17)) := by
  unfold nE n0 n1 f0 f1
  rw [h8]
  exact ⟨by kernel_rfl, by kernel_rfl, by kernel_rfl, by kernel_rfl, by kernel_rfl⟩
theorem nE_arc (l : List GC) (h8 : xi l 8 = 17) (x y z u v w c d e dir fe sd ra : Int) : nE l (ofRow (itA x y z u v w c d e dir fe sd ra)) = oends_4 x y u v c d dir (IntKind.i64.wrap (xi l 16 * xi l 17)) ∧
    n0 l (ofRow (itA x y z u v w c d e dir fe sd ra)) = oends_0 x y u v c d dir (IntKind.i64.wrap (xi l 16 * xi l 17)) ∧ n1 l (ofRow (itA x y z u v w c d e dir fe sd ra)) = oends_1 x y u v c d dir (IntKind.i64.wrap (xi l 16 * xi l 17)) ∧
    f0 l (ofRow (itA x y z u v w c d e dir fe sd ra)) = oends_2 x y u v c d dir (IntKind.i64.wrap (xi l 16 * xi l 17)) ∧ f1 l (ofRow (itA x y z u v w c d e dir fe sd ra)) = oends_3 x y u v c d dir (IntKind.i64.wrap (xi l 16 * xi l 17)) := by
  unfold nE n0 n1 f0 f1
  rw [h8]
  exact ⟨by kernel_rfl, by kernel_rfl, by kernel_rfl, by kernel_rfl, by kernel_rfl⟩
theorem line0 {l : List GC} (h8 : xi l 8 = 17) (h17 : xi l 17 = 0) {x y z u v w fe sd ra : Int} (hk : LineOk x y u v) (hE : nE l (ofRow (itL x y z u v w fe sd ra)) = 0) :
    n0 l (ofRow (itL x y z u v w fe sd ra)) = x ∧ n1 l (ofRow (itL x y z u v w fe sd ra)) = y ∧ f0 l (ofRow (itL x y z u v w fe sd ra)) = u ∧ f1 l (ofRow (itL x y z u v w fe sd ra)) = v := by
  obtain ⟨e4, e0, e1, e2, e3⟩ := nE_line l h8 x y z u v w fe sd ra
  obtain ⟨ha, hb, hc, hd, ne⟩ := hk
  have hr : IntKind.i64.wrap (xi l 16 * xi l 17) = 0 := by rw [h17, Int.mul_zero]; rfl
  rw [hr] at e0 e1 e2 e3 e4
  rw [e4] at hE
  obtain ⟨o0, o1, o2, o3, _⟩ := ends_ok _ _ _ _ _ _ _ _ hE
  obtain ⟨s0, s1, s2, s3⟩ := line_ends (r := 0) ha hb hc hd
  have q := norm0 (p0 := x) (p1 := y) (t0 := u - x) (t1 := v - y) (by omega) (by omega) (by omega) ha hb
  have q' := norm0 (p0 := u) (p1 := v) (t0 := u - x) (t1 := v - y) (by omega) (by omega) (by omega) hc hd
  rw [e0, e1, e2, e3, o0, o1, o2, o3, s0, s1, s2, s3]
  exact ⟨q.1, q.2, q'.1, q'.2⟩
structure ArcOk (x y u v c d dir : Int) : Prop where
  bx : bd 1048576 x
  yb : bd 1048576 y
  ub : bd 1048576 u
  vb : bd 1048576 v
  cb : bd 1048576 c
  db : bd 1048576 d
  dir : dir = 1 ∨ dir = -1
  s : 64 ≤ (x - c) * (x - c) + (y - d) * (y - d)
  t : 64 ≤ (u - c) * (u - c) + (v - d) * (v - d)
  ne : ¬ (x = u ∧ y = v)
theorem nz_of {a b : Int} (h : 64 ≤ a * a + b * b) : a ≠ 0 ∨ b ≠ 0 := by
  by_cases ha : a = 0
  · by_cases hb : b = 0
    · rw [ha, hb] at h; omega
    · exact .inr hb
  · exact .inl ha
theorem arc0 {l : List GC} (h8 : xi l 8 = 17) (h17 : xi l 17 = 0) {x y z u v w c d e dir fe sd ra : Int} (hk : ArcOk x y u v c d dir) (hE : nE l (ofRow (itA x y z u v w c d e dir fe sd ra)) = 0) :
    n0 l (ofRow (itA x y z u v w c d e dir fe sd ra)) = x ∧ n1 l (ofRow (itA x y z u v w c d e dir fe sd ra)) = y ∧ f0 l (ofRow (itA x y z u v w c d e dir fe sd ra)) = u ∧ f1 l (ofRow (itA x y z u v w c d e dir fe sd ra)) = v := by
  obtain ⟨e4, e0, e1, e2, e3⟩ := nE_arc l h8 x y z u v w c d e dir fe sd ra
  obtain ⟨hx, hy, hu, hv, hc, hd, hdir, hs, ht, ne⟩ := hk
  have hr : IntKind.i64.wrap (xi l 16 * xi l 17) = 0 := by rw [h17, Int.mul_zero]; rfl
  rw [hr] at e0 e1 e2 e3 e4
  rw [e4] at hE
  obtain ⟨o0, o1, o2, o3, _⟩ := ends_ok _ _ _ _ _ _ _ _ hE
  obtain ⟨s0, s1, s2, s3⟩ := arc_ends (r := 0) hdir hx hy hu hv hc hd
  have n1 := nz_of hs
  have n2 := nz_of ht
  have q := norm0 (p0 := x) (p1 := y) (t0 := -(y - d) * dir) (t1 := (x - c) * dir) (by rcases hdir with rfl | rfl <;> omega) (by rcases hdir with rfl | rfl <;> omega) (by rcases hdir with rfl | rfl <;> omega) hx hy
  have q' := norm0 (p0 := u) (p1 := v) (t0 := -(v - d) * dir) (t1 := (u - c) * dir) (by rcases hdir with rfl | rfl <;> omega) (by rcases hdir with rfl | rfl <;> omega) (by rcases hdir with rfl | rfl <;> omega) hu hv
  rw [e0, e1, e2, e3, o0, o1, o2, o3, s0, s1, s2, s3]
  exact ⟨q.1, q.2, q'.1, q'.2⟩
end Go.Proofs.Ytmbfbhimdkjkoaa
namespace Go.Proofs.Ytmbfbhimdkjkoaa
open Go.SX Go.RowKit
inductive All2 (M : List Int → List Int → Prop) : List (List Int) → List (List Int) → Prop where
  | nil : All2 M [] []
  | cons {p q a b} : M p q → All2 M a b → All2 M (p :: a) (q :: b)
theorem All2.append {M : List Int → List Int → Prop} : ∀ {a b c d : List (List Int)}, All2 M a b → All2 M c d → All2 M (a ++ c) (b ++ d)
  | _, _, _, _, .nil, h => h
  | _, _, _, _, .cons h1 h2, h => .cons h1 (All2.append h2 h)
noncomputable def Mt (p q : List Int) : Prop := diffR p q = false
noncomputable def keepR (r : List Int) : Bool := !(r.getD 0 0 == 2 && zl r)
noncomputable def outL (x y z u v w fe : Int) : List Int := [2, 0, x, y, z, u, v, w, 0, 0, 0, 0, 0, 0, fe, 0, 0, 0, 0, 0, 0, 0]
noncomputable def outA (x y z u v w c d e dir fe : Int) : List Int := [3, 0, x, y, z, u, v, w, 17, c, d, e, dir, 0, fe, 0, 0, 0, 0, 0, 0, 0]
theorem mt_line (x y z u v w fe sd : Int) : Mt (outL x y z u v w fe) (itL x y z u v w fe sd 0) := by
  unfold Mt diffR outL itL
  simp
theorem mt_lineM (x y z u v w : Int) : Mt (outL x y z u v w 60000) (itM x y z u v w) := by
  unfold Mt diffR outL itM
  simp
theorem mt_arc (x y z u v w c d e dir fe sd : Int) : Mt (outA x y z u v w c d e dir fe) (itA x y z u v w c d e dir fe sd 0) := by
  unfold Mt diffR outA itA
  simp
theorem mt_out (n : Int) : Mt (itO n) (itO n) := by
  unfold Mt diffR itO
  simp
/-- What is carried. -/
inductive Car (sd q0 q1 : Int) : List Int → Prop where
  | out (n : Int) : Car sd q0 q1 (itO n)
  | line (z w fe : Int) : Car sd q0 q1 (itL q0 q1 z q0 q1 w fe sd 0)
theorem line46_L (l : List GC) (h8 : xi l 8 = 17) (x y z u v w fe sd ra a0 a1 b0 b1 lo hi : Int) (al : Bool) (O : List (List Int)) :
    line_46 (ofRow (itL x y z u v w fe sd ra)) b0 b1 lo hi al l a0 a1 O = bif al || !(a0 == b0 && (a1 == b1 && lo == hi)) then O ++ [outL a0 a1 lo b0 b1 hi fe] else O := by
  unfold line_46
  rw [h8]
  kernel_rfl
theorem rel_all (l : List GC) (h8 : xi l 8 = 17) (sd q0 q1 : Int) : ∀ (C O : List (List Int)), (∀ r ∈ C, Car sd q0 q1 r) → ∃ P, relL l q0 q1 O C = O ++ P ∧ All2 Mt P (C.filter keepR)
  | [], O, _ => ⟨[], (List.append_nil _).symm, .nil⟩
  | r :: C, O, h => by
    have hr := h r (List.mem_cons_self ..)
    have hC := fun q hq => h q (List.mem_cons_of_mem _ hq)
    show ∃ P, relL l q0 q1 (relS l q0 q1 O r) C = O ++ P ∧ _
    cases hr with
    | out n =>
      obtain ⟨P, h1, h2⟩ := rel_all l h8 sd q0 q1 C (relS l q0 q1 O (itO n)) hC
      have e : relS l q0 q1 O (itO n) = O ++ [itO n] := by kernel_rfl
      refine ⟨itO n :: P, by rw [h1, e, List.append_assoc]; rfl, ?_⟩
      have k : keepR (itO n) = true := by kernel_rfl
      rw [List.filter_cons, k, if_pos rfl]
      exact .cons (mt_out n) h2
    | line z w fe =>
      obtain ⟨P, h1, h2⟩ := rel_all l h8 sd q0 q1 C (relS l q0 q1 O (itL q0 q1 z q0 q1 w fe sd 0)) hC
      have e : relS l q0 q1 O (itL q0 q1 z q0 q1 w fe sd 0) = line_46 (ofRow (itL q0 q1 z q0 q1 w fe sd 0)) q0 q1 (flat_2 (xi l 8) q0 q1 z) (flat_2 (xi l 8) q0 q1 w) false (nrm l) q0 q1 O := by kernel_rfl
      have z0 : ∀ c, flat_2 17 q0 q1 c = c := fun c => by kernel_rfl
      rw [line46_L (nrm l) (by rw [nx8]; exact h8), h8, z0, z0, Bool.false_or] at e
      rw [e] at h1 ⊢
      have hz : zl (itL q0 q1 z q0 q1 w fe sd 0) = (q0 == q0 && (q1 == q1 && z == w)) := by kernel_rfl
      have hk : keepR (itL q0 q1 z q0 q1 w fe sd 0) = !(q0 == q0 && (q1 == q1 && z == w)) := by
        have : keepR (itL q0 q1 z q0 q1 w fe sd 0) = !(true && zl (itL q0 q1 z q0 q1 w fe sd 0)) := by kernel_rfl
        rw [this, Bool.true_and, hz]
      rw [List.filter_cons, hk]
      cases hc : (q0 == q0 && (q1 == q1 && z == w))
      · rw [hc] at h1
        refine ⟨outL q0 q1 z q0 q1 w fe :: P, ?_, .cons (mt_line ..) h2⟩
        rw [Bool.not_false, cond_true] at h1 ⊢
        rw [h1, List.append_assoc]; rfl
      · rw [hc] at h1
        exact ⟨P, h1, h2⟩
theorem release_all (l : List GC) (h8 : xi l 8 = 17) (sd q0 q1 : Int) (C O : List (List Int)) (h : ∀ r ∈ C, Car sd q0 q1 r) : ∃ P, release_44 (nrm l) q0 q1 C O = O ++ P ∧ All2 Mt P (C.filter keepR) := by
  unfold release_44
  exact rel_all _ (by rw [nx8, nx8]; exact h8) sd q0 q1 C O h
/-- The element that is not settled. -/
inductive Ele (sd q0 q1 : Int) : List Int → Int → Int → Prop where
  | line (x y z w fe : Int) : LineOk x y q0 q1 → Ele sd q0 q1 (itL x y z q0 q1 w fe sd 0) x y
  | arc (x y z w c d e dir fe : Int) : ArcOk x y q0 q1 c d dir → Ele sd q0 q1 (itA x y z q0 q1 w c d e dir fe sd 0) x y
theorem shift_line (s : St) (u w : Int) (h2 : (xi s.y 0 == 2) = true) : shO u w false s = bif (false || s.tr) && decide (shift_s0 u w (nrm s.l) (nrm s.y) s.a0 s.a1 ≤ 0) then [] else line_46 (nrm s.y) u w (flat_2 (xi s.l 8) (xi s.y 2) (xi s.y 3) (xi s.y 4)) (flat_2 (xi s.l 8) (xi s.y 5) (xi s.y 6) (xi s.y 7)) false (nrm s.l) s.a0 s.a1 [] := by
  unfold shO shift_47
  simp only [nrm_nrm, nx0, nx2, nx3, nx4, nx5, nx6, nx7, nx8]
  rw [h2, cond_true]
/-- The last element's offset, at the radius 0. -/
theorem shift0 {sd q0 q1 f g : Int} {r : List Int} (s : St) (h8 : xi s.l 8 = 17) (htr : s.tr = false) (hy : s.y = ofRow r) (ha : s.a0 = f) (hb : s.a1 = g) (he : Ele sd q0 q1 r f g) (hS : shE q0 q1 false s = 0) :
    ∃ o, shO q0 q1 false s = [o] ∧ Mt o r := by
  cases he with
  | line x y z w fe hk =>
    have e2 : (xi s.y 0 == 2) = true := by rw [hy]; kernel_rfl
    rw [shift_line s q0 q1 e2, htr, hy, h8, ha, hb]
    rw [nrm_of, line46_L (nrm s.l) (by rw [nx8]; exact h8)]
    have hne : (f == q0 && (g == q1 && z == w)) = false := by
      cases h : (f == q0 && (g == q1 && z == w))
      · rfl
      · simp only [Bool.and_eq_true, beq_iff_eq] at h
        exact absurd ⟨h.1, h.2.1⟩ hk.ne
    have z0 : flat_2 17 (xi (ofRow (itL f g z q0 q1 w fe sd 0)) 2) (xi (ofRow (itL f g z q0 q1 w fe sd 0)) 3) (xi (ofRow (itL f g z q0 q1 w fe sd 0)) 4) = z := by kernel_rfl
    have z1 : flat_2 17 (xi (ofRow (itL f g z q0 q1 w fe sd 0)) 5) (xi (ofRow (itL f g z q0 q1 w fe sd 0)) 6) (xi (ofRow (itL f g z q0 q1 w fe sd 0)) 7) = w := by kernel_rfl
    rw [z0, z1, hne]
    exact ⟨_, rfl, mt_line ..⟩
  | arc x y z w c d e dir fe hk =>
    unfold shE shift_0 at hS
    unfold shO shift_47
    have e2 : (xi (nrm s.y) 0 == 2) = false := by rw [hy]; kernel_rfl
    rw [e2, cond_false, htr] at hS ⊢
    rw [Bool.false_or, Bool.false_and, Bool.false_and, cond_false] at hS ⊢
    have hc := cond_16 hS
    unfold shift_s1
    rw [hc, cond_false]
    refine ⟨_, rfl, ?_⟩
    have e8 : xi (nrm s.l) 8 = 17 := by rw [nx8]; exact h8
    rw [e8, hy, ha, hb]
    exact (show Mt (outA f g z q0 q1 w c d e dir fe) _ from mt_arc ..)
end Go.Proofs.Ytmbfbhimdkjkoaa
namespace Go.Proofs.Ytmbfbhimdkjkoaa
open Go.SX Go.RowKit
theorem join_same (x l : List GC) (h8 : xi l 8 = 17) (u w : Int) (O : List (List Int)) : join_46 x u w false l u w O = O := by
  unfold join_46
  rw [Bool.false_and, Bool.false_and, Bool.false_and, cond_false]
  have := line46_L (nrm l) (by rw [nx8]; exact h8) 0 0 0 0 0 0 0 0 0 u w u w (flat_2 (xi l 8) (xi x 2) (xi x 3) (xi x 4)) (flat_2 (xi l 8) (xi x 2) (xi x 3) (xi x 4)) false O
  have e : ∀ y : List GC, line_46 y u w (flat_2 (xi l 8) (xi x 2) (xi x 3) (xi x 4)) (flat_2 (xi l 8) (xi x 2) (xi x 3) (xi x 4)) false (nrm l) u w O = O := fun y => by
    unfold line_46
    simp
  exact e _
structure I0 (lead : List Int) (sd : Int) (s : St) (R D : List (List Int)) : Prop where
  er : s.er = 0
  cl : s.cl = false
  op : s.op = true
  mo : s.mo = true
  tr : s.tr = false
  l : s.l = ofRow lead
  ld : ∃ x y z u v, lead = itL x y z u v z 60000 sd 0
  y : nrm s.y = s.y
  c : ∀ r ∈ s.C, Car sd s.la0 s.la1 r
  p : (s.y = zeroG ∧ R = [] ∧ D = s.C ∧ ∃ x y z, lead = itL x y z s.la0 s.la1 z 60000 sd 0) ∨
      ∃ r D', Ele sd s.la0 s.la1 r s.a0 s.a1 ∧ s.y = ofRow r ∧ All2 Mt R (lead :: D'.filter keepR) ∧ D = D' ++ r :: s.C
theorem ele_kind {sd q0 q1 f g : Int} {r : List Int} (h : Ele sd q0 q1 r f g) : (xi (ofRow r) 0 == 0) = false := by cases h <;> kernel_rfl
theorem ele_keep {sd q0 q1 f g : Int} {r : List Int} (h : Ele sd q0 q1 r f g) : keepR r = true := by
  cases h with
  | line x y z w fe hk =>
    have e : keepR (itL f g z q0 q1 w fe sd 0) = !(true && (f == q0 && (g == q1 && z == w))) := by kernel_rfl
    rw [e]
    cases h : (f == q0 && (g == q1 && z == w))
    · rfl
    · simp only [Bool.and_eq_true, beq_iff_eq] at h
      exact absurd ⟨h.1, h.2.1⟩ hk.ne
  | arc x y z w c d e dir fe hk => kernel_rfl
theorem ele_ends {sd q0 q1 f g : Int} {r : List Int} {l : List GC} (h8 : xi l 8 = 17) (h17 : xi l 17 = 0) (h : Ele sd q0 q1 r f g) (hE : nE l (ofRow r) = 0) : n0 l (ofRow r) = f ∧ n1 l (ofRow r) = g ∧ f0 l (ofRow r) = q0 ∧ f1 l (ofRow r) = q1 := by
  cases h with
  | line x y z w fe hk => exact line0 h8 h17 hk hE
  | arc x y z w c d e dir fe hk => exact arc0 h8 h17 hk hE
/-- A motion that moves in the plane is taken. -/
theorem step_ele {lead : List Int} {sd : Int} {s : St} {R D : List (List Int)} (h : I0 lead sd s R D) {r : List Int} {q0 q1 : Int} (hs0 : sd ≠ 0)
    (hi : inv (ofRow r) s = false) (hm : (cmotion_0 (xi (ofRow r) 0) && xi (ofRow r) 16 == 0) = false) (h3 : three (ofRow r) = false) (hd : odd (ofRow r) s.l = false) (hst : still (ofRow r) s.l = false)
    (hE : Ele sd q0 q1 r s.la0 s.la1) (hcm : cmotion_0 (xi (ofRow r) 0) = true) (hq0 : xi (ofRow r) 5 = q0) (hq1 : xi (ofRow r) 6 = q1)
    (hc : ((xi s.y 0 == 0) = true ∧ nE s.l (ofRow r) = 0) ∨ ((xi s.y 0 == 0) = false ∧ (kd s.l s.y (ofRow r) == 2) = true ∧ trE s.l s.y (ofRow r) = 0 ∧ shE (tr0 s.l s.y (ofRow r)) (tr1 s.l s.y (ofRow r)) true s = 0) ∨
      ((xi s.y 0 == 0) = false ∧ (kd s.l s.y (ofRow r) == 2) = false ∧ nE s.l s.y = 0 ∧ nE s.l (ofRow r) = 0 ∧ shE (f0 s.l s.y) (f1 s.l s.y) false s = 0)) :
    I0 lead sd (pushS (ofRow r) s) (R ++ pushO (ofRow r) s) (D ++ [r]) := by
  obtain ⟨er, cl, op, mo, tr, hl, ⟨lx, ly, lz, lu, lv, rfl⟩, hy, hC, hp⟩ := h
  have h8 : xi s.l 8 = 17 := by rw [hl]; kernel_rfl
  have h17 : xi s.l 17 = 0 := by rw [hl]; kernel_rfl
  have hln : nrm s.l = s.l := by rw [hl, nrm_of]
  have hk := kd0 (l := s.l) (y := s.y) (x := ofRow r) h17
  have hxn : nrm (ofRow r) = ofRow r := nrm_of r
  have m0 : (mvd (ofRow r) s).la0 = q0 := by show (bif _ then _ else _) = _; rw [hcm, cond_true, hq0]
  have m1 : (mvd (ofRow r) s).la1 = q1 := by show (bif _ then _ else _) = _; rw [hcm, cond_true, hq1]
  have m2 : (mvd (ofRow r) s).mo = true := by show (_ || _) = _; rw [hcm]; rfl
  rcases hc with ⟨h0, hN⟩ | ⟨_, h5, _⟩ | ⟨h0, h5, hN, hN', hS⟩
  · rcases hp with ⟨y0, rfl, rfl, x, y, z, hld⟩ | ⟨r', D', e1, e2, _⟩
    · obtain ⟨e1, e2⟩ := push_enter (ofRow r) s er hln hy cl hi op hm h3 hd hst h0 hN
      obtain ⟨a0, a1, _, _⟩ := ele_ends h8 h17 hE hN
      rw [a0, a1] at e1 e2
      have hl46 : line_46 (nrm s.l) s.la0 s.la1 (flat_2 (xi s.l 8) (xi s.l 2) (xi s.l 3) (xi s.l 4)) (flat_2 (xi s.l 8) (xi s.l 2) (xi s.l 3) (xi s.l 4)) true (nrm s.l) (flat_0 (xi s.l 8) (xi s.l 2) (xi s.l 3) (xi s.l 4)) (flat_1 (xi s.l 8) (xi s.l 2) (xi s.l 3) (xi s.l 4)) [] = [outL x y z s.la0 s.la1 z 60000] := by
        rw [hl, hld]
        exact (line46_L (nrm (ofRow (itL x y z s.la0 s.la1 z 60000 sd 0))) (by kernel_rfl) x y z s.la0 s.la1 z 60000 sd 0 x y s.la0 s.la1 z z true [] :)
      obtain ⟨P, r1, r2⟩ := release_all s.l h8 sd s.la0 s.la1 s.C [outL x y z s.la0 s.la1 z 60000] hC
      rw [hl46, r1] at e2
      rw [e1, e2, hxn]
      refine ⟨er, cl, op, m2, tr, hl, ⟨_, _, _, _, _, rfl⟩, hxn, fun _ h => (by cases h), .inr ⟨r, s.C, ?_, rfl, ?_, rfl⟩⟩
      · show Ele sd (mvd (ofRow r) s).la0 (mvd (ofRow r) s).la1 r s.la0 s.la1
        rw [m0, m1]; exact hE
      · rw [hld]
        exact .cons (mt_line ..) r2
    · rw [e2, ele_kind e1] at h0; cases h0
  · rw [hk.1] at h5; cases h5
  · rcases hp with ⟨y0, _⟩ | ⟨r', D', e1, e2, e3, rfl⟩
    · rw [y0] at h0; cases h0
    · obtain ⟨o1, o2⟩ := push_outside (ofRow r) s er hln hy cl hi op hm h3 hd hst h0 h5 hN hN' hS
      obtain ⟨a0, a1, _, _⟩ := ele_ends h8 h17 hE hN'
      obtain ⟨_, _, b0, b1⟩ := ele_ends h8 h17 e1 (by rw [← e2]; exact hN)
      rw [← e2] at b0 b1
      rw [b0, b1] at hS o2
      rw [a0, a1] at o1 o2
      obtain ⟨o, s1, s2⟩ := shift0 s h8 tr e2 rfl rfl e1 hS
      obtain ⟨P, r1, r2⟩ := release_all s.l h8 sd s.la0 s.la1 s.C [o] hC
      rw [hk.2, join_same _ _ (by rw [nx8]; exact h8), s1, r1] at o2
      rw [o1, o2, hxn]
      refine ⟨er, cl, op, m2, rfl, hl, ⟨_, _, _, _, _, rfl⟩, hxn, fun _ h => (by cases h), .inr ⟨r, D' ++ r' :: s.C, ?_, rfl, ?_, rfl⟩⟩
      · show Ele sd (mvd (ofRow r) s).la0 (mvd (ofRow r) s).la1 r s.la0 s.la1
        rw [m0, m1]; exact hE
      · rw [List.filter_append, List.filter_cons, ele_keep e1, if_pos rfl]
        exact e3.append (.cons s2 r2)
/-- What is carried on. -/
theorem step_car {lead : List Int} {sd : Int} {s : St} {R D : List (List Int)} (h : I0 lead sd s R D) {r : List Int}
    (hi : inv (ofRow r) s = false) (hm : (cmotion_0 (xi (ofRow r) 0) && xi (ofRow r) 16 == 0) = false) (h3 : three (ofRow r) = false) (hd : odd (ofRow r) s.l = false) (hst : still (ofRow r) s.l = true) (hn : (Int.ofNat s.C.length == 8) = false)
    (hR : toRow (ofRow r) = r) (hE : Car sd s.la0 s.la1 r) (hq0 : (mvd (ofRow r) s).la0 = s.la0) (hq1 : (mvd (ofRow r) s).la1 = s.la1) : I0 lead sd (pushS (ofRow r) s) (R ++ pushO (ofRow r) s) (D ++ [r]) := by
  obtain ⟨er, cl, op, mo, tr, hl, ⟨lx, ly, lz, lu, lv, rfl⟩, hy, hC, hp⟩ := h
  have hln : nrm s.l = s.l := by rw [hl, nrm_of]
  obtain ⟨e1, e2⟩ := push_carry (ofRow r) s er hln hy cl hi op hm h3 hd hst hn
  rw [e1, e2, hR, List.append_nil]
  refine ⟨er, cl, op, ?_, tr, hl, ⟨_, _, _, _, _, rfl⟩, hy, fun q hq => ?_, ?_⟩
  · show (_ || s.mo) = true
    rw [mo, Bool.or_true]
  · show Car sd (mvd (ofRow r) s).la0 (mvd (ofRow r) s).la1 q
    rw [hq0, hq1]
    rcases List.mem_append.1 hq with hq | hq
    · exact hC q hq
    · rw [List.mem_singleton.1 hq]; exact hE
  · rcases hp with ⟨y0, rfl, rfl, x, y, z, hld⟩ | ⟨r', D', g1, g2, g3, rfl⟩
    · exact .inl ⟨y0, rfl, rfl, x, y, z, by show itL _ _ _ _ _ _ _ _ _ = itL x y z (mvd (ofRow r) s).la0 (mvd (ofRow r) s).la1 z 60000 sd 0; rw [hq0, hq1]; exact hld⟩
    · exact .inr ⟨r', D', by show Ele sd (mvd (ofRow r) s).la0 (mvd (ofRow r) s).la1 r' s.a0 s.a1; rw [hq0, hq1]; exact g1, g2, g3, by rw [List.append_assoc]; rfl⟩
end Go.Proofs.Ytmbfbhimdkjkoaa
namespace Go.Proofs.Ytmbfbhimdkjkoaa
open Go.SX Go.RowKit
theorem vwithin_of {a b c : Int} (ha : bd 1048576 a) (hb : bd 1048576 b) (hc : bd 1048576 c) : vwithin_0 a b c = true := by
  unfold vwithin_0
  simp only [Bool.and_eq_true, decide_eq_true_eq]
  omega
theorem cvalid_line {x y u v sd r : Int} (hs : sd = 1 ∨ sd = -1) (hr : 0 ≤ r ∧ r ≤ 32768) (hx : bd 1048576 x) (hy : bd 1048576 y) (hu : bd 1048576 u) (hv : bd 1048576 v) : cvalid_0 (nrm (ofRow (itL x y 0 u v 0 60000 sd r))) = true := by
  have e : cvalid_0 (nrm (ofRow (itL x y 0 u v 0 60000 sd r))) = (bif (!vwithin_0 x y 0 || !vwithin_0 u v 0 || false || false || !(bif sd == 0 then r == 0 && false else (true && true && (sd == 1 || sd == -1) && decide (r ≥ 0) && decide (r ≤ 32768)))) then false else true) := by kernel_rfl
  rw [e, vwithin_of hx hy (by omega), vwithin_of hu hv (by omega), show decide (r ≥ 0) = true from decide_eq_true (by omega), show decide (r ≤ 32768) = true from decide_eq_true (by omega)]
  rcases hs with rfl | rfl <;> rfl
theorem cvalid_last {x y u v : Int} (hx : bd 1048576 x) (hy : bd 1048576 y) (hu : bd 1048576 u) (hv : bd 1048576 v) : cvalid_0 (nrm (ofRow (itM x y 0 u v 0))) = true := by
  have e : cvalid_0 (nrm (ofRow (itM x y 0 u v 0))) = (bif (!vwithin_0 x y 0 || !vwithin_0 u v 0 || false || false || !true) then false else true) := by kernel_rfl
  rw [e, vwithin_of hx hy (by omega), vwithin_of hu hv (by omega)]
  rfl
theorem inv_of {x : List GC} {s : St} (hv : cvalid_0 (nrm x) = true) (he : s.en = false) (h0 : xi x 2 = s.la0) (h1 : xi x 3 = s.la1) (h2 : xi x 4 = s.la2) : inv x s = false := by
  unfold inv
  rw [hv, he, h0, h1, h2]
  simp
/-- A filter on its way along a side. -/
structure SqI (lx ly lu lv sd r : Int) (s : St) (P0 P1 J0 J1 A0 A1 : Int) (tr : Bool) : Prop where
  er : s.er = 0
  cl : s.cl = false
  en : s.en = false
  op : s.op = true
  l : s.l = ofRow (itL lx ly 0 lu lv 0 60000 sd r)
  y : s.y = ofRow (itL P0 P1 0 J0 J1 0 60000 sd r)
  a0 : s.a0 = A0
  a1 : s.a1 = A1
  tr : s.tr = tr
  c : s.C = []
  l0 : s.la0 = J0
  l1 : s.la1 = J1
  l2 : s.la2 = 0
section
variable {lx ly lu lv sd r P0 P1 J0 J1 A0 A1 T0 T1 : Int} {s : St} {tr : Bool}
theorem sq_pre (h : SqI lx ly lu lv sd r s P0 P1 J0 J1 A0 A1 tr) (hs : sd = 1 ∨ sd = -1) (hr : 0 ≤ r ∧ r ≤ 32768) (hJ0 : bd 1048576 J0) (hJ1 : bd 1048576 J1) (hT0 : bd 1048576 T0) (hT1 : bd 1048576 T1) (hne : ¬ (J0 = T0 ∧ J1 = T1)) :
    inv (ofRow (itL J0 J1 0 T0 T1 0 60000 sd r)) s = false ∧ (cmotion_0 (xi (ofRow (itL J0 J1 0 T0 T1 0 60000 sd r)) 0) && xi (ofRow (itL J0 J1 0 T0 T1 0 60000 sd r)) 16 == 0) = false ∧ three (ofRow (itL J0 J1 0 T0 T1 0 60000 sd r)) = false ∧
    odd (ofRow (itL J0 J1 0 T0 T1 0 60000 sd r)) s.l = false ∧ still (ofRow (itL J0 J1 0 T0 T1 0 60000 sd r)) s.l = false := by
  refine ⟨inv_of (cvalid_line hs hr hJ0 hJ1 hT0 hT1) h.en h.l0.symm h.l1.symm h.l2.symm, ?_, by kernel_rfl, ?_, ?_⟩
  · have e : (cmotion_0 (xi (ofRow (itL J0 J1 0 T0 T1 0 60000 sd r)) 0) && xi (ofRow (itL J0 J1 0 T0 T1 0 60000 sd r)) 16 == 0) = (true && sd == 0) := by kernel_rfl
    rw [e]; rcases hs with rfl | rfl <;> rfl
  · rw [h.l]
    have e : odd (ofRow (itL J0 J1 0 T0 T1 0 60000 sd r)) (ofRow (itL lx ly 0 lu lv 0 60000 sd r)) = (true && (false || sd != sd || r != r)) := by kernel_rfl
    rw [e]; simp
  · rw [h.l]
    have e : still (ofRow (itL J0 J1 0 T0 T1 0 60000 sd r)) (ofRow (itL lx ly 0 lu lv 0 60000 sd r)) = (!true || !(false || !(J0 == T0 && J1 == T1))) := by kernel_rfl
    rw [e]
    cases hc : (J0 == T0 && J1 == T1)
    · rfl
    · simp only [Bool.and_eq_true, beq_iff_eq] at hc
      exact absurd hc hne
/-- The radius with its sign. -/
theorem sq_R (hs : sd = 1 ∨ sd = -1) (hr : 0 ≤ r ∧ r ≤ 32768) : IntKind.i64.wrap (xi (ofRow (itL lx ly 0 lu lv 0 60000 sd r)) 16 * xi (ofRow (itL lx ly 0 lu lv 0 60000 sd r)) 17) = sd * r := by
  show IntKind.i64.wrap (sd * r) = sd * r
  rcases hs with rfl | rfl <;> exact wrI (by omega) (by omega)
/-- What a line settles. -/
theorem sq_shO (h : SqI lx ly lu lv sd r s P0 P1 J0 J1 A0 A1 tr) (u w : Int) (tm : Bool) (hE : shE u w tm s = 0) (hne : ¬ (A0 = u ∧ A1 = w)) : shO u w tm s = [outL A0 A1 0 u w 0 60000] := by
  unfold shE shift_0 at hE
  unfold shO shift_47
  rw [h.y, h.l, h.a0, h.a1, h.tr, nrm_of, nrm_of] at hE ⊢
  have e2 : (xi (ofRow (itL P0 P1 0 J0 J1 0 60000 sd r)) 0 == 2) = true := by kernel_rfl
  rw [e2, cond_true] at hE ⊢
  rw [cond_16 hE, cond_false, nrm_of, nrm_of, line46_L (ofRow (itL lx ly 0 lu lv 0 60000 sd r)) (by kernel_rfl)]
  have z0 : flat_2 (xi (ofRow (itL lx ly 0 lu lv 0 60000 sd r)) 8) (xi (ofRow (itL P0 P1 0 J0 J1 0 60000 sd r)) 2) (xi (ofRow (itL P0 P1 0 J0 J1 0 60000 sd r)) 3) (xi (ofRow (itL P0 P1 0 J0 J1 0 60000 sd r)) 4) = 0 := by kernel_rfl
  have z1 : flat_2 (xi (ofRow (itL lx ly 0 lu lv 0 60000 sd r)) 8) (xi (ofRow (itL P0 P1 0 J0 J1 0 60000 sd r)) 5) (xi (ofRow (itL P0 P1 0 J0 J1 0 60000 sd r)) 6) (xi (ofRow (itL P0 P1 0 J0 J1 0 60000 sd r)) 7) = 0 := by kernel_rfl
  rw [z0, z1]
  have e : (A0 == u && (A1 == w && (0 : Int) == 0)) = false := by
    cases hc : (A0 == u && (A1 == w && (0 : Int) == 0))
    · rfl
    · simp only [Bool.and_eq_true, beq_iff_eq] at hc
      exact absurd ⟨hc.1, hc.2.1⟩ hne
  rw [e]; rfl
/-- It goes on in the same direction. -/
theorem sq_shE (h : SqI lx ly lu lv sd r s P0 P1 J0 J1 A0 A1 tr) {u w : Int} (tm : Bool) (hP0 : bd 1048576 P0) (hP1 : bd 1048576 P1) (hJ0 : bd 1048576 J0) (hJ1 : bd 1048576 J1) (hA0 : bd 1048576 A0) (hA1 : bd 1048576 A1) (hu : bd 1048576 u) (hw : bd 1048576 w)
    (hp : 0 < (u - A0) * (J0 - P0) + (w - A1) * (J1 - P1)) : shE u w tm s = 0 := by
  unfold shE shift_0
  rw [h.y, h.l, h.a0, h.a1, h.tr, nrm_of, nrm_of]
  have e2 : (xi (ofRow (itL P0 P1 0 J0 J1 0 60000 sd r)) 0 == 2) = true := by kernel_rfl
  rw [e2, cond_true]
  have w0 : ∀ {a : Int}, bd 4000000 a → IntKind.i64.wrap a = a := fun h => wrI (by omega) (by omega)
  have e : shift_s0 u w (ofRow (itL lx ly 0 lu lv 0 60000 sd r)) (ofRow (itL P0 P1 0 J0 J1 0 60000 sd r)) A0 A1 = (u - A0) * (J0 - P0) + (w - A1) * (J1 - P1) := by
    have : shift_s0 u w (ofRow (itL lx ly 0 lu lv 0 60000 sd r)) (ofRow (itL P0 P1 0 J0 J1 0 60000 sd r)) A0 A1 = vinner_0 (IntKind.i64.wrap (u - A0)) (IntKind.i64.wrap (w - A1)) (IntKind.i64.wrap (J0 - P0)) (IntKind.i64.wrap (J1 - P1)) := by kernel_rfl
    rw [this, w0 (by omega), w0 (by omega), w0 (by omega), w0 (by omega), vinner_eq (by omega) (by omega) (by omega) (by omega)]
  rw [e, show decide ((u - A0) * (J0 - P0) + (w - A1) * (J1 - P1) ≤ 0) = false from decide_eq_false (by omega), Bool.and_false]
  rfl
end
end Go.Proofs.Ytmbfbhimdkjkoaa
namespace Go.Proofs.Ytmbfbhimdkjkoaa
open Go.SX Go.RowKit
noncomputable def outC (f0 f1 n0 n1 j0 j1 : Int) : List Int := [3, 0, f0, f1, 0, n0, n1, 0, 17, j0, j1, 0, 1, 0, 60000, 0, 0, 0, 0, 0, 0, 0]
theorem rel_nil (l : List GC) (a0 a1 : Int) (O : List (List Int)) : release_44 l a0 a1 [] O = O := rfl
section
variable {lx ly lu lv sd r P0 P1 J0 J1 A0 A1 T0 T1 a b n m : Int} {s : St} {tr : Bool}
theorem sq_kd (hs : sd = 1 ∨ sd = -1) (hr : 8 ≤ r ∧ r ≤ 900) (hab : unit2 a b) (hn : 1 ≤ n ∧ n ≤ 9000) (hm : 1 ≤ m ∧ m ≤ 9000) (h0 : bd 100000 P0) (h1 : bd 100000 P1) (hJ0 : J0 = P0 + n * a) (hJ1 : J1 = P1 + n * b) (hT0 : T0 = J0 - m * b) (hT1 : T1 = J1 + m * a) :
    kd (ofRow (itL lx ly 0 lu lv 0 60000 sd r)) (ofRow (itL P0 P1 0 J0 J1 0 60000 sd r)) (ofRow (itL J0 J1 0 T0 T1 0 60000 sd r)) = (bif sd == 1 then 2 else 1) := by
  have w0 : ∀ {a : Int}, bd 4000000 a → IntKind.i64.wrap a = a := fun h => wrI (by omega) (by omega)
  have bJ0 : bd 1000000 J0 := by rcases hab with ⟨rfl, rfl⟩ | ⟨rfl, rfl⟩ | ⟨rfl, rfl⟩ | ⟨rfl, rfl⟩ <;> omega
  have bJ1 : bd 1000000 J1 := by rcases hab with ⟨rfl, rfl⟩ | ⟨rfl, rfl⟩ | ⟨rfl, rfl⟩ | ⟨rfl, rfl⟩ <;> omega
  have bT0 : bd 1000000 T0 := by rcases hab with ⟨rfl, rfl⟩ | ⟨rfl, rfl⟩ | ⟨rfl, rfl⟩ | ⟨rfl, rfl⟩ <;> omega
  have bT1 : bd 1000000 T1 := by rcases hab with ⟨rfl, rfl⟩ | ⟨rfl, rfl⟩ | ⟨rfl, rfl⟩ | ⟨rfl, rfl⟩ <;> omega
  unfold kd
  rw [sq_R hs (by omega)]
  have e0 : atang_0 (xi (ofRow (itL P0 P1 0 J0 J1 0 60000 sd r)) 0) (xi (ofRow (itL P0 P1 0 J0 J1 0 60000 sd r)) 2) (xi (ofRow (itL P0 P1 0 J0 J1 0 60000 sd r)) 3) (xi (ofRow (itL P0 P1 0 J0 J1 0 60000 sd r)) 4) (xi (ofRow (itL P0 P1 0 J0 J1 0 60000 sd r)) 5) (xi (ofRow (itL P0 P1 0 J0 J1 0 60000 sd r)) 6) (xi (ofRow (itL P0 P1 0 J0 J1 0 60000 sd r)) 7) (xi (ofRow (itL P0 P1 0 J0 J1 0 60000 sd r)) 8) (xi (ofRow (itL P0 P1 0 J0 J1 0 60000 sd r)) 9) (xi (ofRow (itL P0 P1 0 J0 J1 0 60000 sd r)) 10) (xi (ofRow (itL P0 P1 0 J0 J1 0 60000 sd r)) 11) (xi (ofRow (itL P0 P1 0 J0 J1 0 60000 sd r)) 12) true = J0 - P0 := by
    show IntKind.i64.wrap (J0 - P0) = _
    exact w0 (by omega)
  have e1 : atang_1 (xi (ofRow (itL P0 P1 0 J0 J1 0 60000 sd r)) 0) (xi (ofRow (itL P0 P1 0 J0 J1 0 60000 sd r)) 2) (xi (ofRow (itL P0 P1 0 J0 J1 0 60000 sd r)) 3) (xi (ofRow (itL P0 P1 0 J0 J1 0 60000 sd r)) 4) (xi (ofRow (itL P0 P1 0 J0 J1 0 60000 sd r)) 5) (xi (ofRow (itL P0 P1 0 J0 J1 0 60000 sd r)) 6) (xi (ofRow (itL P0 P1 0 J0 J1 0 60000 sd r)) 7) (xi (ofRow (itL P0 P1 0 J0 J1 0 60000 sd r)) 8) (xi (ofRow (itL P0 P1 0 J0 J1 0 60000 sd r)) 9) (xi (ofRow (itL P0 P1 0 J0 J1 0 60000 sd r)) 10) (xi (ofRow (itL P0 P1 0 J0 J1 0 60000 sd r)) 11) (xi (ofRow (itL P0 P1 0 J0 J1 0 60000 sd r)) 12) true = J1 - P1 := by
    show IntKind.i64.wrap (J1 - P1) = _
    exact w0 (by omega)
  have e2 : atang_0 (xi (ofRow (itL J0 J1 0 T0 T1 0 60000 sd r)) 0) (xi (ofRow (itL J0 J1 0 T0 T1 0 60000 sd r)) 2) (xi (ofRow (itL J0 J1 0 T0 T1 0 60000 sd r)) 3) (xi (ofRow (itL J0 J1 0 T0 T1 0 60000 sd r)) 4) (xi (ofRow (itL J0 J1 0 T0 T1 0 60000 sd r)) 5) (xi (ofRow (itL J0 J1 0 T0 T1 0 60000 sd r)) 6) (xi (ofRow (itL J0 J1 0 T0 T1 0 60000 sd r)) 7) (xi (ofRow (itL J0 J1 0 T0 T1 0 60000 sd r)) 8) (xi (ofRow (itL J0 J1 0 T0 T1 0 60000 sd r)) 9) (xi (ofRow (itL J0 J1 0 T0 T1 0 60000 sd r)) 10) (xi (ofRow (itL J0 J1 0 T0 T1 0 60000 sd r)) 11) (xi (ofRow (itL J0 J1 0 T0 T1 0 60000 sd r)) 12) false = T0 - J0 := by
    show IntKind.i64.wrap (T0 - J0) = _
    exact w0 (by omega)
  have e3 : atang_1 (xi (ofRow (itL J0 J1 0 T0 T1 0 60000 sd r)) 0) (xi (ofRow (itL J0 J1 0 T0 T1 0 60000 sd r)) 2) (xi (ofRow (itL J0 J1 0 T0 T1 0 60000 sd r)) 3) (xi (ofRow (itL J0 J1 0 T0 T1 0 60000 sd r)) 4) (xi (ofRow (itL J0 J1 0 T0 T1 0 60000 sd r)) 5) (xi (ofRow (itL J0 J1 0 T0 T1 0 60000 sd r)) 6) (xi (ofRow (itL J0 J1 0 T0 T1 0 60000 sd r)) 7) (xi (ofRow (itL J0 J1 0 T0 T1 0 60000 sd r)) 8) (xi (ofRow (itL J0 J1 0 T0 T1 0 60000 sd r)) 9) (xi (ofRow (itL J0 J1 0 T0 T1 0 60000 sd r)) 10) (xi (ofRow (itL J0 J1 0 T0 T1 0 60000 sd r)) 11) (xi (ofRow (itL J0 J1 0 T0 T1 0 60000 sd r)) 12) false = T1 - J1 := by
    show IntKind.i64.wrap (T1 - J1) = _
    exact w0 (by omega)
  rw [e0, e1, e2, e3]
  have hnm := Int.mul_pos (show 0 < n by omega) (show 0 < m by omega)
  have hc : vcross_0 (J0 - P0) (J1 - P1) (T0 - J0) (T1 - J1) = n * m := by
    rw [vcross_eq (by omega) (by omega) (by omega) (by omega), show J0 - P0 = n * a by omega, show J1 - P1 = n * b by omega, show T0 - J0 = -(m * b) by omega, show T1 - J1 = m * a by omega]
    rcases hab with ⟨rfl, rfl⟩ | ⟨rfl, rfl⟩ | ⟨rfl, rfl⟩ | ⟨rfl, rfl⟩ <;> grind
  have hsr : (sd * r == 0) = false := by
    cases h : (sd * r == 0)
    · rfl
    · simp only [beq_iff_eq] at h
      rcases hs with rfl | rfl <;> omega
  rw [hsr, cond_false]
  unfold ocorner_0
  rw [hc, show (n * m == 0) = false from by simpa using (by omega : ¬ n * m = 0), Bool.false_and, cond_false, show decide (n * m > 0) = true from decide_eq_true (by omega), show decide (n * m < 0) = false from decide_eq_false (by omega)]
  show (bif true && decide (sd > 0) || false && decide (sd < 0) then (2 : Int) else 1) = _
  rcases hs with rfl | rfl <;> rfl
/-- A corner inside. -/
theorem sq_inside (h : SqI lx ly lu lv 1 r s P0 P1 J0 J1 A0 A1 tr) (hr : 8 ≤ r ∧ r ≤ 900) (hab : unit2 a b) (hn : r < n ∧ n ≤ 9000) (hm : r < m ∧ m ≤ 9000) (h0 : bd 100000 P0) (h1 : bd 100000 P1) (hJ0 : J0 = P0 + n * a) (hJ1 : J1 = P1 + n * b) (hT0 : T0 = J0 - m * b) (hT1 : T1 = J1 + m * a)
    (hA0 : bd 1048576 A0) (hA1 : bd 1048576 A1) (hp : 0 < (J0 - r * a - r * b - A0) * (n * a) + (J1 - r * b + r * a - A1) * (n * b)) :
    pushE (ofRow (itL J0 J1 0 T0 T1 0 60000 1 r)) s = 0 ∧ pushO (ofRow (itL J0 J1 0 T0 T1 0 60000 1 r)) s = [outL A0 A1 0 (J0 - r * a - r * b) (J1 - r * b + r * a) 0 60000] ∧
    SqI lx ly lu lv 1 r (pushS (ofRow (itL J0 J1 0 T0 T1 0 60000 1 r)) s) J0 J1 T0 T1 (J0 - r * a - r * b) (J1 - r * b + r * a) true := by
  have bJ0 : bd 200000 J0 := by rcases hab with ⟨rfl, rfl⟩ | ⟨rfl, rfl⟩ | ⟨rfl, rfl⟩ | ⟨rfl, rfl⟩ <;> omega
  have bJ1 : bd 200000 J1 := by rcases hab with ⟨rfl, rfl⟩ | ⟨rfl, rfl⟩ | ⟨rfl, rfl⟩ | ⟨rfl, rfl⟩ <;> omega
  have bT0 : bd 300000 T0 := by rcases hab with ⟨rfl, rfl⟩ | ⟨rfl, rfl⟩ | ⟨rfl, rfl⟩ | ⟨rfl, rfl⟩ <;> omega
  have bT1 : bd 300000 T1 := by rcases hab with ⟨rfl, rfl⟩ | ⟨rfl, rfl⟩ | ⟨rfl, rfl⟩ | ⟨rfl, rfl⟩ <;> omega
  have bU : bd 300000 (J0 - r * a - r * b) := by rcases hab with ⟨rfl, rfl⟩ | ⟨rfl, rfl⟩ | ⟨rfl, rfl⟩ | ⟨rfl, rfl⟩ <;> omega
  have bW : bd 300000 (J1 - r * b + r * a) := by rcases hab with ⟨rfl, rfl⟩ | ⟨rfl, rfl⟩ | ⟨rfl, rfl⟩ | ⟨rfl, rfl⟩ <;> omega
  have hne : ¬ (J0 = T0 ∧ J1 = T1) := by rcases hab with ⟨rfl, rfl⟩ | ⟨rfl, rfl⟩ | ⟨rfl, rfl⟩ | ⟨rfl, rfl⟩ <;> omega
  obtain ⟨hi, hmm, h3, hd, hst⟩ := sq_pre (T0 := T0) (T1 := T1) h (.inl rfl) (by omega) (by omega) (by omega) (by omega) (by omega) hne
  have hk : (kd s.l s.y (ofRow (itL J0 J1 0 T0 T1 0 60000 1 r)) == 2) = true := by
    rw [h.l, h.y, sq_kd (.inl rfl) hr hab (by omega) (by omega) h0 h1 hJ0 hJ1 hT0 hT1]; rfl
  obtain ⟨t2, t0, t1⟩ := right_trim (s := 1) (R := 1 * r) hab (.inl rfl) (by omega) hn hm rfl h0 h1 hJ0 hJ1 (show T0 = J0 + m * (-(1 * b)) by rw [hT0]; grind) (show T1 = J1 + m * (1 * a) by rw [hT1]; grind)
  have z0 : J0 - r * a + r * (-(1 * b)) = J0 - r * a - r * b := by grind
  have z1 : J1 - r * b + r * (1 * a) = J1 - r * b + r * a := by grind
  rw [z0] at t0
  rw [z1] at t1
  have hE : trE s.l s.y (ofRow (itL J0 J1 0 T0 T1 0 60000 1 r)) = 0 := by
    rw [h.l, h.y]
    unfold trE
    rw [sq_R (.inl rfl) (by omega)]
    exact t2
  have e0 : tr0 s.l s.y (ofRow (itL J0 J1 0 T0 T1 0 60000 1 r)) = J0 - r * a - r * b := by
    rw [h.l, h.y]
    unfold tr0
    rw [sq_R (.inl rfl) (by omega)]
    exact t0
  have e1 : tr1 s.l s.y (ofRow (itL J0 J1 0 T0 T1 0 60000 1 r)) = J1 - r * b + r * a := by
    rw [h.l, h.y]
    unfold tr1
    rw [sq_R (.inl rfl) (by omega)]
    exact t1
  have hp' : 0 < (J0 - r * a - r * b - A0) * (J0 - P0) + (J1 - r * b + r * a - A1) * (J1 - P1) := by
    rw [show J0 - P0 = n * a by omega, show J1 - P1 = n * b by omega]; exact hp
  have hS := sq_shE h (u := J0 - r * a - r * b) (w := J1 - r * b + r * a) true (by omega) (by omega) (by omega) (by omega) hA0 hA1 (by omega) (by omega) hp'
  have hAne : ¬ (A0 = J0 - r * a - r * b ∧ A1 = J1 - r * b + r * a) := fun ⟨q0, q1⟩ => by
    rw [← q0, ← q1] at hp
    simp at hp
  have hO := sq_shO h _ _ true hS hAne
  have y0 : (xi s.y 0 == 0) = false := by rw [h.y]; kernel_rfl
  have hln : nrm s.l = s.l := by rw [h.l, nrm_of]
  have hyn : nrm s.y = s.y := by rw [h.y, nrm_of]
  obtain ⟨q1, q2⟩ := push_inside (ofRow (itL J0 J1 0 T0 T1 0 60000 1 r)) s h.er hln hyn h.cl hi h.op hmm h3 hd hst y0 hk hE (by rw [e0, e1]; exact hS)
  rw [e0, e1] at q1 q2
  rw [h.c, rel_nil, hO] at q2
  refine ⟨?_, q2, ?_⟩
  · rw [pushE_spec _ _ h.er]
    unfold errS
    rw [h.cl, hi, h.op, hmm, h3, hd, hst, y0, hk, hE, e0, e1, hS]
    rfl
  · rw [q1, nrm_of]
    exact ⟨h.er, h.cl, by kernel_rfl, h.op, h.l, rfl, rfl, rfl, rfl, rfl, by kernel_rfl, by kernel_rfl, by kernel_rfl⟩
theorem sq_join (O : List (List Int)) (hr : 8 ≤ r ∧ r ≤ 900) (hab : unit2 a b) (bJ0 : bd 200000 J0) (bJ1 : bd 200000 J1) :
    join_46 (ofRow (itL J0 J1 0 T0 T1 0 60000 (-1) r)) (J0 + r * a) (J1 + r * b) ((1 : Int) == 1) (ofRow (itL lx ly 0 lu lv 0 60000 (-1) r)) (J0 + r * b) (J1 - r * a) O = O ++ [outC (J0 + r * b) (J1 - r * a) (J0 + r * a) (J1 + r * b) J0 J1] := by
  have w0 : ∀ {a : Int}, bd 4000000 a → IntKind.i64.wrap a = a := fun h => wrI (by omega) (by omega)
  have brb : bd 900 (r * b) := by rcases hab with ⟨rfl, rfl⟩ | ⟨rfl, rfl⟩ | ⟨rfl, rfl⟩ | ⟨rfl, rfl⟩ <;> omega
  have bra : bd 900 (r * a) := by rcases hab with ⟨rfl, rfl⟩ | ⟨rfl, rfl⟩ | ⟨rfl, rfl⟩ | ⟨rfl, rfl⟩ <;> omega
  have s0 : join_s0 (ofRow (itL J0 J1 0 T0 T1 0 60000 (-1) r)) (ofRow (itL lx ly 0 lu lv 0 60000 (-1) r)) (J0 + r * b) = r * b := by
    show IntKind.i64.wrap (J0 + r * b - J0) = _
    rw [w0 (by omega)]; omega
  have s1 : join_s1 (ofRow (itL J0 J1 0 T0 T1 0 60000 (-1) r)) (ofRow (itL lx ly 0 lu lv 0 60000 (-1) r)) (J1 - r * a) = -(r * a) := by
    show IntKind.i64.wrap (J1 - r * a - J1) = _
    rw [w0 (by omega)]; omega
  have s2 : join_s2 (ofRow (itL J0 J1 0 T0 T1 0 60000 (-1) r)) (J0 + r * a) (ofRow (itL lx ly 0 lu lv 0 60000 (-1) r)) = r * a := by
    show IntKind.i64.wrap (J0 + r * a - J0) = _
    rw [w0 (by omega)]; omega
  have s3 : join_s3 (ofRow (itL J0 J1 0 T0 T1 0 60000 (-1) r)) (J1 + r * b) (ofRow (itL lx ly 0 lu lv 0 60000 (-1) r)) = r * b := by
    show IntKind.i64.wrap (J1 + r * b - J1) = _
    rw [w0 (by omega)]; omega
  have rr : 64 ≤ r * r := Int.mul_le_mul (show 8 ≤ r by omega) (show 8 ≤ r by omega) (by omega) (by omega)
  have rr2 := mul_bd (m := 900) (n := 900) (x := r) (y := r) (by omega) (by omega) (by omega) (by omega)
  have s4 : join_s4 (ofRow (itL J0 J1 0 T0 T1 0 60000 (-1) r)) (J0 + r * a) (J1 + r * b) (ofRow (itL lx ly 0 lu lv 0 60000 (-1) r)) (J0 + r * b) (J1 - r * a) = r * r := by
    unfold join_s4
    rw [s0, s1, s2, s3, vcross_eq (by omega) (by omega) (by omega) (by omega)]
    have e : r * b * (r * b) - -(r * a) * (r * a) = r * r := by rcases hab with ⟨rfl, rfl⟩ | ⟨rfl, rfl⟩ | ⟨rfl, rfl⟩ | ⟨rfl, rfl⟩ <;> grind
    rw [e]
    show IntKind.i64.wrap (r * r * 1) = _
    rw [Int.mul_one]
    exact wrI (by omega) (by omega)
  have i1 : vinner_0 (r * b) (-(r * a)) (r * b) (-(r * a)) = r * r := by
    rw [vinner_eq (by omega) (by omega) (by omega) (by omega)]
    rcases hab with ⟨rfl, rfl⟩ | ⟨rfl, rfl⟩ | ⟨rfl, rfl⟩ | ⟨rfl, rfl⟩ <;> grind
  have i2 : vinner_0 (r * a) (r * b) (r * a) (r * b) = r * r := by
    rw [vinner_eq (by omega) (by omega) (by omega) (by omega)]
    rcases hab with ⟨rfl, rfl⟩ | ⟨rfl, rfl⟩ | ⟨rfl, rfl⟩ | ⟨rfl, rfl⟩ <;> grind
  unfold join_46
  rw [s0, s1, s2, s3, s4, i1, i2, show decide (r * r > 0) = true from decide_eq_true (by omega), show decide (r * r ≥ 64) = true from decide_eq_true (by omega)]

  rfl
/-- A corner outside. -/
theorem sq_outside (h : SqI lx ly lu lv (-1) r s P0 P1 J0 J1 A0 A1 false) (hr : 8 ≤ r ∧ r ≤ 900) (hab : unit2 a b) (hn : r < n ∧ n ≤ 9000) (hm : r < m ∧ m ≤ 9000) (h0 : bd 100000 P0) (h1 : bd 100000 P1) (hJ0 : J0 = P0 + n * a) (hJ1 : J1 = P1 + n * b) (hT0 : T0 = J0 - m * b) (hT1 : T1 = J1 + m * a)
    (hA0 : bd 1048576 A0) (hA1 : bd 1048576 A1) (hAne : ¬ (A0 = J0 + r * b ∧ A1 = J1 - r * a)) :
    pushE (ofRow (itL J0 J1 0 T0 T1 0 60000 (-1) r)) s = 0 ∧ pushO (ofRow (itL J0 J1 0 T0 T1 0 60000 (-1) r)) s = [outL A0 A1 0 (J0 + r * b) (J1 - r * a) 0 60000, outC (J0 + r * b) (J1 - r * a) (J0 + r * a) (J1 + r * b) J0 J1] ∧
    SqI lx ly lu lv (-1) r (pushS (ofRow (itL J0 J1 0 T0 T1 0 60000 (-1) r)) s) J0 J1 T0 T1 (J0 + r * a) (J1 + r * b) false := by
  have bJ0 : bd 200000 J0 := by rcases hab with ⟨rfl, rfl⟩ | ⟨rfl, rfl⟩ | ⟨rfl, rfl⟩ | ⟨rfl, rfl⟩ <;> omega
  have bJ1 : bd 200000 J1 := by rcases hab with ⟨rfl, rfl⟩ | ⟨rfl, rfl⟩ | ⟨rfl, rfl⟩ | ⟨rfl, rfl⟩ <;> omega
  have cJ0 : bd 150000 J0 := by rcases hab with ⟨rfl, rfl⟩ | ⟨rfl, rfl⟩ | ⟨rfl, rfl⟩ | ⟨rfl, rfl⟩ <;> omega
  have cJ1 : bd 150000 J1 := by rcases hab with ⟨rfl, rfl⟩ | ⟨rfl, rfl⟩ | ⟨rfl, rfl⟩ | ⟨rfl, rfl⟩ <;> omega
  have bT0 : bd 300000 T0 := by rcases hab with ⟨rfl, rfl⟩ | ⟨rfl, rfl⟩ | ⟨rfl, rfl⟩ | ⟨rfl, rfl⟩ <;> omega
  have bT1 : bd 300000 T1 := by rcases hab with ⟨rfl, rfl⟩ | ⟨rfl, rfl⟩ | ⟨rfl, rfl⟩ | ⟨rfl, rfl⟩ <;> omega
  have hne : ¬ (J0 = T0 ∧ J1 = T1) := by rcases hab with ⟨rfl, rfl⟩ | ⟨rfl, rfl⟩ | ⟨rfl, rfl⟩ | ⟨rfl, rfl⟩ <;> omega
  obtain ⟨hi, hmm, h3, hd, hst⟩ := sq_pre (T0 := T0) (T1 := T1) h (.inr rfl) (by omega) (by omega) (by omega) (by omega) (by omega) hne
  have hk1 : kd s.l s.y (ofRow (itL J0 J1 0 T0 T1 0 60000 (-1) r)) = 1 := by
    rw [h.l, h.y, sq_kd (.inr rfl) hr hab (by omega) (by omega) h0 h1 hJ0 hJ1 hT0 hT1]; rfl
  have hk : (kd s.l s.y (ofRow (itL J0 J1 0 T0 T1 0 60000 (-1) r)) == 2) = false := by rw [hk1]; rfl
  have hcd : unit2 (-b) a := by unfold unit2 at *; omega
  have bR : bd 2000 (-1 * r) := by omega
  obtain ⟨x4, _, _, x2, x3⟩ := unit_ends (R := -1 * r) hab (show 1 ≤ n ∧ n ≤ 9000 by omega) bR (by omega) (by omega) hJ0 hJ1
  obtain ⟨y4, y0', y1', _, _⟩ := unit_ends (R := -1 * r) hcd (show 1 ≤ m ∧ m ≤ 9000 by omega) bR cJ0 cJ1 (show T0 = J0 + m * (-b) by rw [hT0]; grind) hT1
  have l8 : xi (ofRow (itL lx ly 0 lu lv 0 60000 (-1) r)) 8 = 17 := by kernel_rfl
  obtain ⟨c4, _, _, c2, c3⟩ := nE_line (ofRow (itL lx ly 0 lu lv 0 60000 (-1) r)) l8 P0 P1 0 J0 J1 0 60000 (-1) r
  obtain ⟨d4, d0, d1, _, _⟩ := nE_line (ofRow (itL lx ly 0 lu lv 0 60000 (-1) r)) l8 J0 J1 0 T0 T1 0 60000 (-1) r
  rw [sq_R (.inr rfl) (by omega)] at c4 c2 c3 d4 d0 d1
  have hE : nE s.l s.y = 0 := by rw [h.l, h.y, c4]; exact x4
  have hF : nE s.l (ofRow (itL J0 J1 0 T0 T1 0 60000 (-1) r)) = 0 := by rw [h.l, d4]; exact y4
  have e0 : f0 s.l s.y = J0 + r * b := by rw [h.l, h.y, c2, x2]; grind
  have e1 : f1 s.l s.y = J1 - r * a := by rw [h.l, h.y, c3, x3]; grind
  have g0 : n0 s.l (ofRow (itL J0 J1 0 T0 T1 0 60000 (-1) r)) = J0 + r * a := by rw [h.l, d0, y0']; grind
  have g1 : n1 s.l (ofRow (itL J0 J1 0 T0 T1 0 60000 (-1) r)) = J1 + r * b := by rw [h.l, d1, y1']; grind
  have hS : shE (J0 + r * b) (J1 - r * a) false s = 0 := by
    unfold shE shift_0
    rw [h.y, h.l, h.a0, h.a1, h.tr, nrm_of, nrm_of]
    have e2 : (xi (ofRow (itL P0 P1 0 J0 J1 0 60000 (-1) r)) 0 == 2) = true := by kernel_rfl
    rw [e2, cond_true]
    rfl
  have hO := sq_shO h _ _ false hS hAne
  have y0 : (xi s.y 0 == 0) = false := by rw [h.y]; kernel_rfl
  have hln : nrm s.l = s.l := by rw [h.l, nrm_of]
  have hyn : nrm s.y = s.y := by rw [h.y, nrm_of]
  obtain ⟨q1, q2⟩ := push_outside (ofRow (itL J0 J1 0 T0 T1 0 60000 (-1) r)) s h.er hln hyn h.cl hi h.op hmm h3 hd hst y0 hk hE hF (by rw [e0, e1]; exact hS)
  rw [g0, g1] at q1 q2
  rw [e0, e1, h.c, rel_nil, hO, hk1, nrm_of] at q2
  rw [h.l, nrm_of, sq_join _ hr hab bJ0 bJ1] at q2
  refine ⟨?_, q2, ?_⟩
  · rw [pushE_spec _ _ h.er]
    unfold errS
    rw [h.cl, hi, h.op, hmm, h3, hd, hst, y0, hk, hE, hF, e0, e1, hS]
    rfl
  · rw [q1, nrm_of]
    exact ⟨h.er, h.cl, by kernel_rfl, h.op, h.l, rfl, rfl, rfl, rfl, rfl, by kernel_rfl, by kernel_rfl, by kernel_rfl⟩
end
end Go.Proofs.Ytmbfbhimdkjkoaa
namespace Go.Proofs.Ytmbfbhimdkjkoaa
open Go.SX Go.RowKit
theorem ap_run {L : List (List Int)} : ∀ (k : Nat) (a : AS), a.i + k = L.length → runOk (L.drop a.i) a.s → (apN L k a).bad = false ∧ (apN L k a).s = runS (L.drop a.i) a.s ∧ (apN L k a).R = a.R ++ runO (L.drop a.i) a.s
  | 0, a, h, _ => by
    have e : L.drop a.i = [] := List.drop_eq_nil_of_le (by omega)
    rw [e]
    exact ⟨rfl, rfl, (List.append_nil _).symm⟩
  | k + 1, a, h, ho => by
    rw [drop_cons (by omega)] at ho ⊢
    obtain ⟨h1, h2⟩ := ho
    unfold apN
    rw [show (pushE (ofRow (L.getD a.i [])) a.s != 0) = false from by rw [h1]; rfl, cond_false]
    obtain ⟨q1, q2, q3⟩ := ap_run k ⟨a.i + 1, pushS (ofRow (L.getD a.i [])) a.s, a.R ++ pushO (ofRow (L.getD a.i [])) a.s⟩ (by show a.i + 1 + k = _; omega) h2
    exact ⟨q1, q2, by rw [q3, List.append_assoc]; rfl⟩
/-- What Apply returns of a list that is accepted. -/
theorem ap_good {L : List (List Int)} (ho : runOk L St0) (h1 : (runS L St0).op = false) (h2 : (runS L St0).cl = false) (h3 : (runS L St0).er = 0) : apE L = 0 ∧ apO L = runO L St0 := by
  obtain ⟨q1, q2, q3⟩ := ap_run (L := L) (L.length - 0) ⟨0, St0, []⟩ (by show 0 + (L.length - 0) = _; omega) ho
  have q1' : (apT L).bad = false := q1
  have q2' : (apT L).s = runS L St0 := q2
  have q3' : (apT L).R = runO L St0 := q3
  have hc : apC L = 0 := by
    unfold apC close_0
    rw [q2', h1, h2, h3]; rfl
  unfold apE apO
  rw [q1', hc, q2', q3', h1, h2, h3]
  exact ⟨rfl, List.append_nil _⟩
section
variable {sd r x y n : Int}
/-- The lead-in. -/
theorem sq_begin (hs : sd = 1 ∨ sd = -1) (hr : 8 ≤ r ∧ r ≤ 900) (hx : bd 9000 x) (hy : bd 9000 y) :
    pushE (ofRow (itL x (y - 2 * r) 0 x y 0 60000 sd r)) St0 = 0 ∧ pushO (ofRow (itL x (y - 2 * r) 0 x y 0 60000 sd r)) St0 = [] ∧
    pushS (ofRow (itL x (y - 2 * r) 0 x y 0 60000 sd r)) St0 = { mvd (ofRow (itL x (y - 2 * r) 0 x y 0 60000 sd r)) St0 with l := ofRow (itL x (y - 2 * r) 0 x y 0 60000 sd r), y := zeroG, a0 := 0, a1 := 0, tr := false, op := true, C := [] } := by
  have hv := cvalid_line (x := x) (y := y - 2 * r) (u := x) (v := y) (r := r) hs (by omega) (by omega) (by omega) (by omega) (by omega)
  have hi : inv (ofRow (itL x (y - 2 * r) 0 x y 0 60000 sd r)) St0 = false := by
    unfold inv
    rw [hv]
    have : (cmotion_0 (xi (ofRow (itL x (y - 2 * r) 0 x y 0 60000 sd r)) 0) && St0.mo) = false := by kernel_rfl
    rw [this]; rfl
  have hm : (cmotion_0 (xi (ofRow (itL x (y - 2 * r) 0 x y 0 60000 sd r)) 0) && xi (ofRow (itL x (y - 2 * r) 0 x y 0 60000 sd r)) 16 != 0) = true := by
    have : (cmotion_0 (xi (ofRow (itL x (y - 2 * r) 0 x y 0 60000 sd r)) 0) && xi (ofRow (itL x (y - 2 * r) 0 x y 0 60000 sd r)) 16 != 0) = (true && sd != 0) := by kernel_rfl
    rw [this]; rcases hs with rfl | rfl <;> rfl
  have w0 : ∀ {a : Int}, bd 4000000 a → IntKind.i64.wrap a = a := fun h => wrI (by omega) (by omega)
  have rr := mul_bd (m := 900) (n := 900) (x := r) (y := r) (by omega) (by omega) (by omega) (by omega)
  have rr2 : 64 ≤ r * r := Int.mul_le_mul (show 8 ≤ r by omega) (show 8 ≤ r by omega) (by omega) (by omega)
  have hd : leads_0 (nrm (ofRow (itL x (y - 2 * r) 0 x y 0 60000 sd r))) (xi (ofRow (itL x (y - 2 * r) 0 x y 0 60000 sd r)) 8) (xi (ofRow (itL x (y - 2 * r) 0 x y 0 60000 sd r)) 17) = true := by
    have e : leads_0 (nrm (ofRow (itL x (y - 2 * r) 0 x y 0 60000 sd r))) (xi (ofRow (itL x (y - 2 * r) 0 x y 0 60000 sd r)) 8) (xi (ofRow (itL x (y - 2 * r) 0 x y 0 60000 sd r)) 17) = (true && true && decide (vinner_0 (IntKind.i64.wrap (x - x)) (IntKind.i64.wrap (y - (y - 2 * r))) (IntKind.i64.wrap (x - x)) (IntKind.i64.wrap (y - (y - 2 * r))) > 0) && decide (vinner_0 (IntKind.i64.wrap (x - x)) (IntKind.i64.wrap (y - (y - 2 * r))) (IntKind.i64.wrap (x - x)) (IntKind.i64.wrap (y - (y - 2 * r))) ≥ IntKind.i64.wrap (r * r))) := by kernel_rfl
    rw [e, w0 (a := x - x) (by omega), w0 (a := y - (y - 2 * r)) (by omega), wrI (x := r * r) (by omega) (by omega), vinner_eq (by omega) (by omega) (by omega) (by omega)]
    have e2 : (x - x) * (x - x) + (y - (y - 2 * r)) * (y - (y - 2 * r)) = 4 * (r * r) := by grind
    rw [e2]
    simp only [Bool.true_and, Bool.and_eq_true, decide_eq_true_eq]
    omega
  have hln : nrm St0.l = St0.l := by kernel_rfl
  obtain ⟨e1, e2⟩ := push_begin _ St0 rfl hln hln rfl hi rfl hm hd
  rw [nrm_of] at e1
  refine ⟨?_, e2, e1⟩
  rw [pushE_spec _ _ rfl]
  unfold errS
  rw [hi, show (!St0.op && cmotion_0 (xi (ofRow (itL x (y - 2 * r) 0 x y 0 60000 sd r)) 0) && xi (ofRow (itL x (y - 2 * r) 0 x y 0 60000 sd r)) 16 != 0) = true from hm, hd]
  rfl
/-- The first side. -/
theorem sq_enter (hs : sd = 1 ∨ sd = -1) (hr : 8 ≤ r ∧ r ≤ 900) (hx : bd 9000 x) (hy : bd 9000 y) (hn : r < n ∧ n ≤ 9000) {s : St} (e : s = { mvd (ofRow (itL x (y - 2 * r) 0 x y 0 60000 sd r)) St0 with l := ofRow (itL x (y - 2 * r) 0 x y 0 60000 sd r), y := zeroG, a0 := 0, a1 := 0, tr := false, op := true, C := [] }) :
    pushE (ofRow (itL x y 0 (x + n) y 0 60000 sd r)) s = 0 ∧ pushO (ofRow (itL x y 0 (x + n) y 0 60000 sd r)) s = [outL x (y - 2 * r) 0 x (y + sd * r) 0 60000] ∧
    SqI x (y - 2 * r) x y sd r (pushS (ofRow (itL x y 0 (x + n) y 0 60000 sd r)) s) x y (x + n) y x (y + sd * r) false := by
  have er : s.er = 0 := by rw [e]; rfl
  have cl : s.cl = false := by rw [e]; rfl
  have en : s.en = false := by rw [e]; kernel_rfl
  have op : s.op = true := by rw [e]
  have l : s.l = ofRow (itL x (y - 2 * r) 0 x y 0 60000 sd r) := by rw [e]
  have yz : s.y = zeroG := by rw [e]
  have l0 : s.la0 = x := by rw [e]; kernel_rfl
  have l1 : s.la1 = y := by rw [e]; kernel_rfl
  have l2 : s.la2 = 0 := by rw [e]; kernel_rfl
  have C : s.C = [] := by rw [e]
  have trf : s.tr = false := by rw [e]
  have hi : inv (ofRow (itL x y 0 (x + n) y 0 60000 sd r)) s = false := inv_of (cvalid_line hs (by omega) (by omega) (by omega) (by omega) (by omega)) en l0.symm l1.symm l2.symm
  have hm : (cmotion_0 (xi (ofRow (itL x y 0 (x + n) y 0 60000 sd r)) 0) && xi (ofRow (itL x y 0 (x + n) y 0 60000 sd r)) 16 == 0) = false := by
    have e : (cmotion_0 (xi (ofRow (itL x y 0 (x + n) y 0 60000 sd r)) 0) && xi (ofRow (itL x y 0 (x + n) y 0 60000 sd r)) 16 == 0) = (true && sd == 0) := by kernel_rfl
    rw [e]; rcases hs with rfl | rfl <;> rfl
  have h3 : three (ofRow (itL x y 0 (x + n) y 0 60000 sd r)) = false := by kernel_rfl
  have hd : odd (ofRow (itL x y 0 (x + n) y 0 60000 sd r)) s.l = false := by
    rw [l]
    have e : odd (ofRow (itL x y 0 (x + n) y 0 60000 sd r)) (ofRow (itL x (y - 2 * r) 0 x y 0 60000 sd r)) = (true && (false || sd != sd || r != r)) := by kernel_rfl
    rw [e]; simp
  have hst : still (ofRow (itL x y 0 (x + n) y 0 60000 sd r)) s.l = false := by
    rw [l]
    have e : still (ofRow (itL x y 0 (x + n) y 0 60000 sd r)) (ofRow (itL x (y - 2 * r) 0 x y 0 60000 sd r)) = (!true || !(false || !(x == x + n && y == y))) := by kernel_rfl
    rw [e, show (x == x + n) = false from by simp; omega]
    rfl
  have h0 : (xi s.y 0 == 0) = true := by rw [yz]; kernel_rfl
  have bR : bd 2000 (sd * r) := by rcases hs with rfl | rfl <;> omega
  have u0 : unit2 1 0 := .inl ⟨rfl, rfl⟩
  obtain ⟨y4, y0', y1', _, _⟩ := unit_ends (e0 := x) (e1 := y) (e2 := x + n) (e3 := y) (R := sd * r) u0 (show 1 ≤ n ∧ n ≤ 9000 by omega) bR (by omega) (by omega) (by omega) (by omega)
  have l8 : xi (ofRow (itL x (y - 2 * r) 0 x y 0 60000 sd r)) 8 = 17 := by kernel_rfl
  obtain ⟨d4, d0, d1, _, _⟩ := nE_line (ofRow (itL x (y - 2 * r) 0 x y 0 60000 sd r)) l8 x y 0 (x + n) y 0 60000 sd r
  rw [sq_R hs (by omega)] at d4 d0 d1
  have hE : nE s.l (ofRow (itL x y 0 (x + n) y 0 60000 sd r)) = 0 := by rw [l, d4]; exact y4
  have g0 : n0 s.l (ofRow (itL x y 0 (x + n) y 0 60000 sd r)) = x := by rw [l, d0, y0']; omega
  have g1 : n1 s.l (ofRow (itL x y 0 (x + n) y 0 60000 sd r)) = y + sd * r := by rw [l, d1, y1', Int.one_mul]
  have hln : nrm s.l = s.l := by rw [l, nrm_of]
  have hyn : nrm s.y = s.y := by rw [yz]; kernel_rfl
  obtain ⟨q1, q2⟩ := push_enter _ s er hln hyn cl hi op hm h3 hd hst h0 hE
  rw [g0, g1, nrm_of] at q1
  rw [g0, g1, C, rel_nil, l, nrm_of, line46_L _ l8] at q2
  refine ⟨?_, q2, ?_⟩
  · rw [pushE_spec _ _ er]
    unfold errS
    rw [cl, hi, op, hm, h3, hd, hst, h0, hE]
    rfl
  · rw [q1]
    exact ⟨er, cl, by kernel_rfl, op, l, rfl, rfl, rfl, trf, rfl, by kernel_rfl, by kernel_rfl, by kernel_rfl⟩
/-- The lead-out. -/
theorem sq_finish (hs : sd = 1 ∨ sd = -1) (hr : 8 ≤ r ∧ r ≤ 900) (hx : bd 9000 x) (hy : bd 9000 y) (hn : r < n ∧ n ≤ 9000) {s : St} {A0 A1 : Int} {tr : Bool} (h : SqI x (y - 2 * r) x y sd r s x (y + n) x y A0 A1 tr) (hA0 : bd 1048576 A0) (hA1 : bd 1048576 A1)
    (hA : ¬ (A0 = x + sd * r ∧ A1 = y)) (hp : tr = false ∨ 0 < (y - A1) * (-n)) :
    pushE (ofRow (itM x y 0 (x - 2 * r) y 0)) s = 0 ∧ pushO (ofRow (itM x y 0 (x - 2 * r) y 0)) s = [outL A0 A1 0 (x + sd * r) y 0 60000, outL (x + sd * r) y 0 (x - 2 * r) y 0 60000] ∧
    (pushS (ofRow (itM x y 0 (x - 2 * r) y 0)) s).op = false ∧ (pushS (ofRow (itM x y 0 (x - 2 * r) y 0)) s).cl = false ∧ (pushS (ofRow (itM x y 0 (x - 2 * r) y 0)) s).er = 0 := by
  have hi : inv (ofRow (itM x y 0 (x - 2 * r) y 0)) s = false := inv_of (cvalid_last (by omega) (by omega) (by omega) (by omega)) h.en h.l0.symm h.l1.symm h.l2.symm
  have hm : (cmotion_0 (xi (ofRow (itM x y 0 (x - 2 * r) y 0)) 0) && xi (ofRow (itM x y 0 (x - 2 * r) y 0)) 16 == 0) = true := by kernel_rfl
  have w0 : ∀ {a : Int}, bd 4000000 a → IntKind.i64.wrap a = a := fun h => wrI (by omega) (by omega)
  have rr := mul_bd (m := 900) (n := 900) (x := r) (y := r) (by omega) (by omega) (by omega) (by omega)
  have rr2 : 64 ≤ r * r := Int.mul_le_mul (show 8 ≤ r by omega) (show 8 ≤ r by omega) (by omega) (by omega)
  have hy0 : (xi s.y 0 == 0) = false := by rw [h.y]; kernel_rfl
  have hd : (!leads_0 (nrm (ofRow (itM x y 0 (x - 2 * r) y 0))) (xi s.l 8) (xi s.l 17) || xi s.y 0 == 0) = false := by
    rw [hy0, h.l]
    have e : leads_0 (nrm (ofRow (itM x y 0 (x - 2 * r) y 0))) (xi (ofRow (itL x (y - 2 * r) 0 x y 0 60000 sd r)) 8) (xi (ofRow (itL x (y - 2 * r) 0 x y 0 60000 sd r)) 17) = (true && true && decide (vinner_0 (IntKind.i64.wrap (x - 2 * r - x)) (IntKind.i64.wrap (y - y)) (IntKind.i64.wrap (x - 2 * r - x)) (IntKind.i64.wrap (y - y)) > 0) && decide (vinner_0 (IntKind.i64.wrap (x - 2 * r - x)) (IntKind.i64.wrap (y - y)) (IntKind.i64.wrap (x - 2 * r - x)) (IntKind.i64.wrap (y - y)) ≥ IntKind.i64.wrap (r * r))) := by kernel_rfl
    rw [e, w0 (a := x - 2 * r - x) (by omega), w0 (a := y - y) (by omega), wrI (x := r * r) (by omega) (by omega), vinner_eq (by omega) (by omega) (by omega) (by omega)]
    have e2 : (x - 2 * r - x) * (x - 2 * r - x) + (y - y) * (y - y) = 4 * (r * r) := by grind
    rw [e2, show decide (4 * (r * r) > 0) = true from decide_eq_true (by omega), show decide (4 * (r * r) ≥ r * r) = true from decide_eq_true (by omega)]
    rfl
  have bR : bd 2000 (sd * r) := by rcases hs with rfl | rfl <;> omega
  have u0 : unit2 0 (-1) := .inr (.inr (.inr ⟨rfl, rfl⟩))
  obtain ⟨y4, _, _, y2', y3'⟩ := unit_ends (e0 := x) (e1 := y + n) (e2 := x) (e3 := y) (R := sd * r) u0 (show 1 ≤ n ∧ n ≤ 9000 by omega) bR (by omega) (by omega) (by omega) (by omega)
  have l8 : xi (ofRow (itL x (y - 2 * r) 0 x y 0 60000 sd r)) 8 = 17 := by kernel_rfl
  obtain ⟨d4, _, _, d2, d3⟩ := nE_line (ofRow (itL x (y - 2 * r) 0 x y 0 60000 sd r)) l8 x (y + n) 0 x y 0 60000 sd r
  rw [sq_R hs (by omega)] at d4 d2 d3
  have hE : nE s.l s.y = 0 := by rw [h.l, h.y, d4]; exact y4
  have g0 : f0 s.l s.y = x + sd * r := by rw [h.l, h.y, d2, y2']; omega
  have g1 : f1 s.l s.y = y := by rw [h.l, h.y, d3, y3', Int.zero_mul]; omega
  have hS : shE (x + sd * r) y false s = 0 := by
    rcases hp with rfl | hp
    · unfold shE shift_0
      rw [h.y, h.l, h.a0, h.a1, h.tr, nrm_of, nrm_of]
      have e2 : (xi (ofRow (itL x (y + n) 0 x y 0 60000 sd r)) 0 == 2) = true := by kernel_rfl
      rw [e2, cond_true]
      rfl
    · refine sq_shE h false (by omega) (by omega) (by omega) (by omega) hA0 hA1 (by omega) (by omega) ?_
      have e : (x + sd * r - A0) * (x - x) + (y - A1) * (y - (y + n)) = (y - A1) * (-n) := by grind
      rw [e]; exact hp
  have hO := sq_shO h _ _ false hS hA
  have hln : nrm s.l = s.l := by rw [h.l, nrm_of]
  have hyn : nrm s.y = s.y := by rw [h.y, nrm_of]
  obtain ⟨q1, q2⟩ := push_finish _ s h.er hln hyn h.cl hi h.op hm hd hE (by rw [g0, g1]; exact hS)
  rw [g0, g1, h.c, rel_nil, hO, h.l, nrm_of, nrm_of, l8] at q2
  have hl46 : line_46 (ofRow (itM x y 0 (x - 2 * r) y 0)) (flat_0 17 (xi (ofRow (itM x y 0 (x - 2 * r) y 0)) 5) (xi (ofRow (itM x y 0 (x - 2 * r) y 0)) 6) (xi (ofRow (itM x y 0 (x - 2 * r) y 0)) 7)) (flat_1 17 (xi (ofRow (itM x y 0 (x - 2 * r) y 0)) 5) (xi (ofRow (itM x y 0 (x - 2 * r) y 0)) 6) (xi (ofRow (itM x y 0 (x - 2 * r) y 0)) 7)) (flat_2 17 (xi (ofRow (itM x y 0 (x - 2 * r) y 0)) 5) (xi (ofRow (itM x y 0 (x - 2 * r) y 0)) 6) (xi (ofRow (itM x y 0 (x - 2 * r) y 0)) 7)) (flat_2 17 (xi (ofRow (itM x y 0 (x - 2 * r) y 0)) 5) (xi (ofRow (itM x y 0 (x - 2 * r) y 0)) 6) (xi (ofRow (itM x y 0 (x - 2 * r) y 0)) 7)) true (ofRow (itL x (y - 2 * r) 0 x y 0 60000 sd r)) (x + sd * r) y [outL A0 A1 0 (x + sd * r) y 0 60000] = [outL A0 A1 0 (x + sd * r) y 0 60000, outL (x + sd * r) y 0 (x - 2 * r) y 0 60000] := by
    unfold line_46
    rw [l8]
    exact rfl
  rw [hl46] at q2
  refine ⟨?_, q2, ?_, ?_, ?_⟩
  · rw [pushE_spec _ _ h.er]
    unfold errS
    rw [h.cl, hi, h.op, hm, hd, hE, g0, g1, hS]
    rfl
  · rw [q1]
  · rw [q1]; exact h.cl
  · rw [q1]; exact h.er
end
end Go.Proofs.Ytmbfbhimdkjkoaa
namespace Go.Proofs.Ytmbfbhimdkjkoaa
open Go.SX Go.RowKit
/-- The square's contour. -/
noncomputable def sqX (sd r x y n : Int) : List (List Int) := [itL x (y - 2 * r) 0 x y 0 60000 sd r, itL x y 0 (x + n) y 0 60000 sd r, itL (x + n) y 0 (x + n) (y + n) 0 60000 sd r, itL (x + n) (y + n) 0 x (y + n) 0 60000 sd r, itL x (y + n) 0 x y 0 60000 sd r, itM x y 0 (x - 2 * r) y 0]
theorem SqI.at {lx ly lu lv sd r : Int} {s : St} {P0 P1 J0 J1 A0 A1 B0 B1 : Int} {tr : Bool} (h : SqI lx ly lu lv sd r s P0 P1 J0 J1 A0 A1 tr) (e0 : A0 = B0) (e1 : A1 = B1) : SqI lx ly lu lv sd r s P0 P1 J0 J1 B0 B1 tr := by
  subst e0; subst e1; exact h
section
variable {r x y n : Int}
theorem sq_in (hr : 8 ≤ r ∧ r ≤ 900) (hx : bd 9000 x) (hy : bd 9000 y) (hn : 2 * r + 2 ≤ n ∧ n ≤ 9000) : apE (sqX 1 r x y n) = 0 ∧
    apO (sqX 1 r x y n) = [outL x (y - 2 * r) 0 x (y + r) 0 60000, outL x (y + r) 0 (x + n - r) (y + r) 0 60000, outL (x + n - r) (y + r) 0 (x + n - r) (y + n - r) 0 60000, outL (x + n - r) (y + n - r) 0 (x + r) (y + n - r) 0 60000, outL (x + r) (y + n - r) 0 (x + r) y 0 60000, outL (x + r) y 0 (x - 2 * r) y 0 60000] := by
  obtain ⟨a1, a2, a3⟩ := sq_begin (sd := 1) (.inl rfl) hr hx hy
  obtain ⟨b1, b2, b3⟩ := sq_enter (n := n) (.inl rfl) hr hx hy (by omega) a3
  rw [show y + 1 * r = y + r by omega] at b2 b3
  have p1 := Int.mul_pos (show 0 < n - r by omega) (show 0 < n by omega)
  have p2 := Int.mul_pos (show 0 < n - 2 * r by omega) (show 0 < n by omega)
  obtain ⟨c1, c2, c3⟩ := sq_inside (n := n) (m := n) (a := 1) (b := 0) (T0 := x + n) (T1 := y + n) b3 hr (.inl ⟨rfl, rfl⟩) (by omega) (by omega) (by omega) (by omega) (by omega) (by omega) (by omega) (by omega) (by omega) (by omega)
    (by rw [show (x + n - r * 1 - r * 0 - x) * (n * 1) + (y - r * 0 + r * 1 - (y + r)) * (n * 0) = (n - r) * n by grind]; exact p1)
  rw [show x + n - r * 1 - r * 0 = x + n - r by omega, show y - r * 0 + r * 1 = y + r by omega] at c2
  have c3' := c3.at (B0 := x + n - r) (B1 := y + r) (by omega) (by omega)
  obtain ⟨d1, d2, d3⟩ := sq_inside (n := n) (m := n) (a := 0) (b := 1) (T0 := x) (T1 := y + n) c3' hr (.inr (.inl ⟨rfl, rfl⟩)) (by omega) (by omega) (by omega) (by omega) (by omega) (by omega) (by omega) (by omega) (by omega) (by omega)
    (by rw [show (x + n - r * 0 - r * 1 - (x + n - r)) * (n * 0) + (y + n - r * 1 + r * 0 - (y + r)) * (n * 1) = (n - 2 * r) * n by grind]; exact p2)
  rw [show x + n - r * 0 - r * 1 = x + n - r by omega, show y + n - r * 1 + r * 0 = y + n - r by omega] at d2
  have d3' := d3.at (B0 := x + n - r) (B1 := y + n - r) (by omega) (by omega)
  obtain ⟨e1, e2, e3⟩ := sq_inside (n := n) (m := n) (a := -1) (b := 0) (T0 := x) (T1 := y) d3' hr (.inr (.inr (.inl ⟨rfl, rfl⟩))) (by omega) (by omega) (by omega) (by omega) (by omega) (by omega) (by omega) (by omega) (by omega) (by omega)
    (by rw [show (x - r * -1 - r * 0 - (x + n - r)) * (n * -1) + (y + n - r * 0 + r * -1 - (y + n - r)) * (n * 0) = (n - 2 * r) * n by grind]; exact p2)
  rw [show x - r * -1 - r * 0 = x + r by omega, show y + n - r * 0 + r * -1 = y + n - r by omega] at e2
  have e3' := e3.at (B0 := x + r) (B1 := y + n - r) (by omega) (by omega)
  obtain ⟨f1, f2, f3, f4, f5⟩ := sq_finish (n := n) (.inl rfl) hr hx hy (by omega) e3' (by omega) (by omega) (by omega) (.inr (by rw [show (y - (y + n - r)) * -n = (n - r) * n by grind]; exact p1))
  rw [show x + 1 * r = x + r by omega] at f2
  obtain ⟨g1, g2⟩ := ap_good (L := sqX 1 r x y n) ⟨a1, b1, c1, d1, e1, f1, trivial⟩ f3 f4 f5
  refine ⟨g1, ?_⟩
  rw [g2]
  show pushO _ _ ++ (pushO _ _ ++ (pushO _ _ ++ (pushO _ _ ++ (pushO _ _ ++ (pushO _ _ ++ []))))) = _
  rw [a2, b2, c2, d2, e2, f2]
  rfl
theorem sq_out (hr : 8 ≤ r ∧ r ≤ 900) (hx : bd 9000 x) (hy : bd 9000 y) (hn : 2 * r + 2 ≤ n ∧ n ≤ 9000) : apE (sqX (-1) r x y n) = 0 ∧
    apO (sqX (-1) r x y n) = [outL x (y - 2 * r) 0 x (y - r) 0 60000, outL x (y - r) 0 (x + n) (y - r) 0 60000, outC (x + n) (y - r) (x + n + r) y (x + n) y, outL (x + n + r) y 0 (x + n + r) (y + n) 0 60000, outC (x + n + r) (y + n) (x + n) (y + n + r) (x + n) (y + n),
      outL (x + n) (y + n + r) 0 x (y + n + r) 0 60000, outC x (y + n + r) (x - r) (y + n) x (y + n), outL (x - r) (y + n) 0 (x - r) y 0 60000, outL (x - r) y 0 (x - 2 * r) y 0 60000] := by
  obtain ⟨a1, a2, a3⟩ := sq_begin (sd := -1) (.inr rfl) hr hx hy
  obtain ⟨b1, b2, b3⟩ := sq_enter (n := n) (.inr rfl) hr hx hy (by omega) a3
  rw [show y + -1 * r = y - r by omega] at b2 b3
  obtain ⟨c1, c2, c3⟩ := sq_outside (n := n) (m := n) (a := 1) (b := 0) (T0 := x + n) (T1 := y + n) b3 hr (.inl ⟨rfl, rfl⟩) (by omega) (by omega) (by omega) (by omega) (by omega) (by omega) (by omega) (by omega) (by omega) (by omega) (by omega)
  rw [show x + n + r * 0 = x + n by omega, show y - r * 1 = y - r by omega, show x + n + r * 1 = x + n + r by omega, show y + r * 0 = y by omega] at c2
  have c3' := c3.at (B0 := x + n + r) (B1 := y) (by omega) (by omega)
  obtain ⟨d1, d2, d3⟩ := sq_outside (n := n) (m := n) (a := 0) (b := 1) (T0 := x) (T1 := y + n) c3' hr (.inr (.inl ⟨rfl, rfl⟩)) (by omega) (by omega) (by omega) (by omega) (by omega) (by omega) (by omega) (by omega) (by omega) (by omega) (by omega)
  rw [show x + n + r * 1 = x + n + r by omega, show y + n - r * 0 = y + n by omega, show x + n + r * 0 = x + n by omega, show y + n + r * 1 = y + n + r by omega] at d2
  have d3' := d3.at (B0 := x + n) (B1 := y + n + r) (by omega) (by omega)
  obtain ⟨e1, e2, e3⟩ := sq_outside (n := n) (m := n) (a := -1) (b := 0) (T0 := x) (T1 := y) d3' hr (.inr (.inr (.inl ⟨rfl, rfl⟩))) (by omega) (by omega) (by omega) (by omega) (by omega) (by omega) (by omega) (by omega) (by omega) (by omega) (by omega)
  rw [show x + r * 0 = x by omega, show y + n - r * -1 = y + n + r by omega, show x + r * -1 = x - r by omega, show y + n + r * 0 = y + n by omega] at e2
  have e3' := e3.at (B0 := x - r) (B1 := y + n) (by omega) (by omega)
  obtain ⟨f1, f2, f3, f4, f5⟩ := sq_finish (n := n) (.inr rfl) hr hx hy (by omega) e3' (by omega) (by omega) (by omega) (.inl rfl)
  rw [show x + -1 * r = x - r by omega] at f2
  obtain ⟨g1, g2⟩ := ap_good (L := sqX (-1) r x y n) ⟨a1, b1, c1, d1, e1, f1, trivial⟩ f3 f4 f5
  refine ⟨g1, ?_⟩
  rw [g2]
  show pushO _ _ ++ (pushO _ _ ++ (pushO _ _ ++ (pushO _ _ ++ (pushO _ _ ++ (pushO _ _ ++ []))))) = _
  rw [a2, b2, c2, d2, e2, f2]
  rfl
end
end Go.Proofs.Ytmbfbhimdkjkoaa
namespace Go.Proofs.Ytmbfbhimdkjkoaa
open Go.SX Go.RowKit
noncomputable def qaB (A W : List (List Int)) (i : Nat) : Bool := (A.getD i []).getD 0 0 != 2 || !((A.getD i []).getD 5 0 == (W.getD i []).getD 0 0 && ((A.getD i []).getD 6 0 == (W.getD i []).getD 1 0 && (A.getD i []).getD 7 0 == (W.getD i []).getD 2 0))
noncomputable def qaN (A W : List (List Int)) : Nat → Nat → Bool
  | 0, _ => false
  | n + 1, i => bif qaB A W i then true else qaN A W n (i + 1)
noncomputable def qbB (A W : List (List Int)) (i : Nat) : Bool := (!((A.getD i []).getD 5 0 == (W.getD i []).getD 0 0 && ((A.getD i []).getD 6 0 == (W.getD i []).getD 1 0 && (A.getD i []).getD 7 0 == (W.getD i []).getD 2 0)) || !((A.getD i []).getD 0 0 == 3) == (Int.ofNat i == 2 || Int.ofNat i == 4 || Int.ofNat i == 6)) || (A.getD i []).getD 0 0 == 3 && ((A.getD i []).getD 12 0 != 1 || minus_0 ((A.getD i []).getD 7 0) ((A.getD i []).getD 11 0) != 0)
noncomputable def qbN (A W : List (List Int)) : Nat → Nat → Bool
  | 0, _ => false
  | n + 1, i => bif qbB A W i then true else qbN A W n (i + 1)
noncomputable def qaF (A W : List (List Int)) : Fam Nat Bool where
  k := 60
  E i := [(17, ent 1000000000 (.one (I (Int.ofNat i)))), (16, ent 2428 (.one (.wh 2425))), (13, ent 1351 (.one (.wh 1345)))]
  M _ := [(2425, .row false 30 3 (.lst 1000000001 [.int .i64, .int .i64, .int .i64] W)), rowI 1345 1344 A]
  out t := .ite t (.leaf .ret [(8, ent 2441 (.one (.bool (.c false))))] []) (.leaf (.exit 0) [] [])
  fin i := qaN A W (A.length - i) i
  next i _ := i + 1
  J i := i ≤ A.length ∧ A.length ≤ 1000 ∧ A.length = W.length
  μ i := A.length - i
noncomputable def qbF (A W : List (List Int)) : Fam Nat Bool where
  k := 60
  E i := [(19, ent 1000000000 (.one (I (Int.ofNat i)))), (18, ent 2564 (.one (.wh 2561))), (13, ent 1351 (.one (.wh 1345)))]
  M _ := [(2561, .row false 30 3 (.lst 1000000001 [.int .i64, .int .i64, .int .i64] W)), rowI 1345 1344 A]
  out t := .ite t (.leaf .ret [(8, ent 2577 (.one (.bool (.c false))))] []) (.leaf (.exit 2) [] [])
  fin i := qbN A W (A.length - i) i
  next i _ := i + 1
  J i := i ≤ A.length ∧ A.length ≤ 1000 ∧ A.length = W.length
  μ i := A.length - i
noncomputable def qa_s0 (A : List (List Int)) (i : Nat) : Prop :=
  decide (Int.ofNat i < Int.ofNat A.length) = true
noncomputable def qa_s1 (A : List (List Int)) (i : Nat) : Bool :=
  (A.getD (Int.ofNat i).toNat []).getD 0 0 != 2
noncomputable def qa_needs (A : List (List Int)) (W : List (List Int)) (i : Nat) : List Prop :=
  [qa_s0 A i →
     0 ≤ Int.ofNat i ∧
     (Int.ofNat i).toNat < A.length ∧
     (Int.ofNat i).toNat < A.length ∧
     (Int.ofNat i).toNat < A.length ∧
     (qa_s1 A i = false → 0 ≤ Int.ofNat i) ∧
     (qa_s1 A i = false → (Int.ofNat i).toNat < A.length) ∧
     (qa_s1 A i = false → (Int.ofNat i).toNat < A.length) ∧
     (qa_s1 A i = false → (Int.ofNat i).toNat < A.length) ∧
     (qa_s1 A i = false → 0 ≤ Int.ofNat i) ∧ (qa_s1 A i = false → (Int.ofNat i).toNat < W.length) ∧ (qa_s1 A i = false → (Int.ofNat i).toNat < W.length),
    qa_s0 A i →
     ((qa_s1 A i ||
     !((A.getD (Int.ofNat i).toNat []).getD 5 0 == (W.getD (Int.ofNat i).toNat []).getD 0 0 &&
     ((A.getD (Int.ofNat i).toNat []).getD 6 0 == (W.getD (Int.ofNat i).toNat []).getD 1 0 && (A.getD (Int.ofNat i).toNat []).getD 7 0 == (W.getD (Int.ofNat i).toNat []).getD 2 0))) =
     true →
     (qaF A W).fin i = false → False) ∧
     ((qa_s1 A i ||
     !((A.getD (Int.ofNat i).toNat []).getD 5 0 == (W.getD (Int.ofNat i).toNat []).getD 0 0 &&
     ((A.getD (Int.ofNat i).toNat []).getD 6 0 == (W.getD (Int.ofNat i).toNat []).getD 1 0 && (A.getD (Int.ofNat i).toNat []).getD 7 0 == (W.getD (Int.ofNat i).toNat []).getD 2 0))) =
     false →
     ((qaF A W).next i 1 ≤ A.length ∧ A.length ≤ 1000 ∧ A.length = W.length) ∧
     (qaF A W).μ ((qaF A W).next i 1) < (qaF A W).μ i ∧ (qaF A W).fin ((qaF A W).next i 1) = (qaF A W).fin i ∧ Int.ofNat ((qaF A W).next i 1) = IntKind.i64.wrap (Int.ofNat i + 1) ∧ W = W),
    decide (Int.ofNat i < Int.ofNat A.length) = false → (qaF A W).fin i = true → False]
theorem qa_round (A W : List (List Int)) (i : Nat) (hNeeds : ∀ pN ∈ (qa_needs A W i), pN) : RoundOk (roundC (qaF A W) (bodyOf Try.prog (sums K_awake) L_ap 4 0) 2436 i) :=
  RoundOk.of (ps := (qa_needs A W i)) (by kernel_rfl) (by kernel_rfl) hNeeds
theorem qa_rounds (A W : List (List Int)) : RoundsOk (qaF A W) (bodyOf Try.prog (sums K_awake) L_ap 4 0) 2436 := by
  intro i hJ
  obtain ⟨h1, h2, h3⟩ : i ≤ A.length ∧ A.length ≤ 1000 ∧ A.length = W.length := hJ
  have e6 : IntKind.i64.wrap (Int.ofNat i + 1) = Int.ofNat (i + 1) := wrI (by simp; omega) (by simp; omega)
  refine qa_round A W i ?_
  unfold qa_needs
  simp only [List.forall_mem_cons, List.not_mem_nil, false_implies, implies_true, and_true]
  have lt : qa_s0 A i → i < A.length := fun h => by unfold qa_s0 at h; simp at h; omega
  have step (h : i < A.length) : (qaF A W).fin i = bif qaB A W i then true else qaN A W (A.length - (i + 1)) (i + 1) := by
    show qaN A W (A.length - i) i = _
    have e : A.length - i = (A.length - (i + 1)) + 1 := by omega
    rw [e]; rfl
  have zz : 0 ≤ Int.ofNat i := Int.natCast_nonneg _
  refine ⟨fun h => ?_, fun h => ⟨fun hb hf => ?_, fun hb => ⟨⟨lt h, h2, h3⟩, ?_, ?_, e6.symm⟩⟩, fun h hf => ?_⟩
  · have a1 := lt h
    have a2 : i < W.length := by omega
    repeat' (first | exact zz | exact a1 | exact a2 | refine And.intro ?_ ?_ | intro _)
  · have hb' : qaB A W i = true := hb
    rw [step (lt h), hb'] at hf; cases hf
  · have := lt h
    show A.length - (i + 1) < A.length - i; omega
  · have hb' : qaB A W i = false := hb
    rw [step (lt h), hb']; rfl
  · have hi : i = A.length := by simp at h; omega
    have e : (qaF A W).fin i = false := by
      show qaN A W (A.length - i) i = _
      rw [hi, Nat.sub_self]; rfl
    rw [e] at hf; cases hf
noncomputable def qaLp : LoopS := fun env mem m => match SX.look mem 1345, SX.look mem 2425 with
  | some (.row _ _ _ (.lst _ _ A)), some (.row _ _ _ (.lit _ rows)) => (match encRows [.int .i64, .int .i64, .int .i64] rows with
    | some W => famS (qaF A W) 2436 (fun _ _ => some 0) env mem m
    | none => none)
  | _, _ => none
noncomputable def L_qa : FuncId → Nat → Option LoopS := addL L_ap 4 16 qaLp
theorem known_qaL : Known Try.prog (sums K_awake) L_qa := by
  refine known_addL 0 known_awake (by kernel_rfl) (codeOk_of fun env mem m x h => ?_)
  unfold qaLp at h
  have hlen : (loopList Try.prog 4).length = 2 := by kernel_rfl
  split at h
  · split at h
    · exact ⟨_, fam_ok (bodyOf_ok plainN known_awake (by omega)) (qa_rounds _ _), h⟩
    · cases h
  · cases h
noncomputable def qb_s0 (A : List (List Int)) (i : Nat) : Prop :=
  decide (Int.ofNat i < Int.ofNat A.length) = true
noncomputable def qb_s1 (A : List (List Int)) (W : List (List Int)) (i : Nat) : Bool :=
  !((A.getD (Int.ofNat i).toNat []).getD 5 0 == (W.getD (Int.ofNat i).toNat []).getD 0 0 &&
   ((A.getD (Int.ofNat i).toNat []).getD 6 0 == (W.getD (Int.ofNat i).toNat []).getD 1 0 && (A.getD (Int.ofNat i).toNat []).getD 7 0 == (W.getD (Int.ofNat i).toNat []).getD 2 0))
noncomputable def qb_s2 (A : List (List Int)) (i : Nat) : Bool :=
  (A.getD (Int.ofNat i).toNat []).getD 0 0 == 3
noncomputable def qb_s3 (A : List (List Int)) (W : List (List Int)) (i : Nat) : Bool :=
  qb_s1 A W i || !qb_s2 A i == (Int.ofNat i == 2 || Int.ofNat i == 4 || Int.ofNat i == 6)
noncomputable def qb_s4 (A : List (List Int)) (i : Nat) : Bool :=
  (A.getD (Int.ofNat i).toNat []).getD 12 0 != 1
noncomputable def qb_needs (A : List (List Int)) (W : List (List Int)) (i : Nat) : List Prop :=
  [qb_s0 A i →
     0 ≤ Int.ofNat i ∧
     (Int.ofNat i).toNat < A.length ∧
     (Int.ofNat i).toNat < A.length ∧
     (Int.ofNat i).toNat < A.length ∧
     0 ≤ Int.ofNat i ∧
     (Int.ofNat i).toNat < W.length ∧
     (Int.ofNat i).toNat < W.length ∧
     (qb_s1 A W i = false → 0 ≤ Int.ofNat i) ∧
     (qb_s1 A W i = false → (Int.ofNat i).toNat < A.length) ∧
     (qb_s1 A W i = false → (Int.ofNat i).toNat < A.length) ∧
     (qb_s1 A W i = false → (Int.ofNat i).toNat < A.length) ∧
     (qb_s3 A W i = false → 0 ≤ Int.ofNat i) ∧
     (qb_s3 A W i = false → (Int.ofNat i).toNat < A.length) ∧
     (qb_s3 A W i = false → (Int.ofNat i).toNat < A.length) ∧
     (qb_s3 A W i = false → (Int.ofNat i).toNat < A.length) ∧
     (qb_s2 A i = true → qb_s3 A W i = false → 0 ≤ Int.ofNat i) ∧
     (qb_s2 A i = true → qb_s3 A W i = false → (Int.ofNat i).toNat < A.length) ∧
     (qb_s2 A i = true → qb_s3 A W i = false → (Int.ofNat i).toNat < A.length) ∧
     (qb_s2 A i = true → qb_s3 A W i = false → (Int.ofNat i).toNat < A.length) ∧
     (qb_s4 A i = false → qb_s2 A i = true → qb_s3 A W i = false → 0 ≤ Int.ofNat i) ∧
     (qb_s4 A i = false → qb_s2 A i = true → qb_s3 A W i = false → (Int.ofNat i).toNat < A.length) ∧
     (qb_s4 A i = false → qb_s2 A i = true → qb_s3 A W i = false → (Int.ofNat i).toNat < A.length) ∧
     (qb_s4 A i = false → qb_s2 A i = true → qb_s3 A W i = false → (Int.ofNat i).toNat < A.length) ∧
     (qb_s4 A i = false → qb_s2 A i = true → qb_s3 A W i = false → 0 ≤ Int.ofNat i) ∧
     (qb_s4 A i = false → qb_s2 A i = true → qb_s3 A W i = false → (Int.ofNat i).toNat < A.length) ∧
     (qb_s4 A i = false → qb_s2 A i = true → qb_s3 A W i = false → (Int.ofNat i).toNat < A.length) ∧
     (qb_s4 A i = false → qb_s2 A i = true → qb_s3 A W i = false → (Int.ofNat i).toNat < A.length),
    qb_s0 A i →
     ((qb_s3 A W i || qb_s2 A i && (qb_s4 A i || minus_0 ((A.getD (Int.ofNat i).toNat []).getD 7 0) ((A.getD (Int.ofNat i).toNat []).getD 11 0) != 0)) = true → (qbF A W).fin i = false → False) ∧
     ((qb_s3 A W i || qb_s2 A i && (qb_s4 A i || minus_0 ((A.getD (Int.ofNat i).toNat []).getD 7 0) ((A.getD (Int.ofNat i).toNat []).getD 11 0) != 0)) = false →
     ((qbF A W).next i 1 ≤ A.length ∧ A.length ≤ 1000 ∧ A.length = W.length) ∧
     (qbF A W).μ ((qbF A W).next i 1) < (qbF A W).μ i ∧ (qbF A W).fin ((qbF A W).next i 1) = (qbF A W).fin i ∧ Int.ofNat ((qbF A W).next i 1) = IntKind.i64.wrap (Int.ofNat i + 1) ∧ W = W),
    decide (Int.ofNat i < Int.ofNat A.length) = false → (qbF A W).fin i = true → False]
theorem qb_round (A W : List (List Int)) (i : Nat) (hNeeds : ∀ pN ∈ (qb_needs A W i), pN) : RoundOk (roundC (qbF A W) (bodyOf Try.prog (sums K_awake) L_qa 4 1) 2572 i) :=
  RoundOk.of (ps := (qb_needs A W i)) (by kernel_rfl) (by kernel_rfl) hNeeds
theorem qb_rounds (A W : List (List Int)) : RoundsOk (qbF A W) (bodyOf Try.prog (sums K_awake) L_qa 4 1) 2572 := by
  intro i hJ
  obtain ⟨h1, h2, h3⟩ : i ≤ A.length ∧ A.length ≤ 1000 ∧ A.length = W.length := hJ
  have e6 : IntKind.i64.wrap (Int.ofNat i + 1) = Int.ofNat (i + 1) := wrI (by simp; omega) (by simp; omega)
  refine qb_round A W i ?_
  unfold qb_needs
  simp only [List.forall_mem_cons, List.not_mem_nil, false_implies, implies_true, and_true]
  have lt : qb_s0 A i → i < A.length := fun h => by unfold qb_s0 at h; simp at h; omega
  have step (h : i < A.length) : (qbF A W).fin i = bif qbB A W i then true else qbN A W (A.length - (i + 1)) (i + 1) := by
    show qbN A W (A.length - i) i = _
    have e : A.length - i = (A.length - (i + 1)) + 1 := by omega
    rw [e]; rfl
  have zz : 0 ≤ Int.ofNat i := Int.natCast_nonneg _
  refine ⟨fun h => ?_, fun h => ⟨fun hb hf => ?_, fun hb => ⟨⟨lt h, h2, h3⟩, ?_, ?_, e6.symm⟩⟩, fun h hf => ?_⟩
  · have a1 := lt h
    have a2 : i < W.length := by omega
    repeat' (first | exact zz | exact a1 | exact a2 | refine And.intro ?_ ?_ | intro _)
  · have hb' : qbB A W i = true := hb
    rw [step (lt h), hb'] at hf; cases hf
  · have := lt h
    show A.length - (i + 1) < A.length - i; omega
  · have hb' : qbB A W i = false := hb
    rw [step (lt h), hb']; rfl
  · have hi : i = A.length := by simp at h; omega
    have e : (qbF A W).fin i = false := by
      show qbN A W (A.length - i) i = _
      rw [hi, Nat.sub_self]; rfl
    rw [e] at hf; cases hf
noncomputable def qbLp : LoopS := fun env mem m => match SX.look mem 1345, SX.look mem 2561 with
  | some (.row _ _ _ (.lst _ _ A)), some (.row _ _ _ (.lit _ rows)) => (match encRows [.int .i64, .int .i64, .int .i64] rows with
    | some W => famS (qbF A W) 2572 (fun _ _ => some 0) env mem m
    | none => none)
  | _, _ => none
noncomputable def L_qb : FuncId → Nat → Option LoopS := addL L_qa 4 25 qbLp
theorem known_qbL : Known Try.prog (sums K_awake) L_qb := by
  refine known_addL 1 known_qaL (by kernel_rfl) (codeOk_of fun env mem m x h => ?_)
  unfold qbLp at h
  have hlen : (loopList Try.prog 4).length = 2 := by kernel_rfl
  split at h
  · split at h
    · exact ⟨_, fam_ok (bodyOf_ok plainN known_qaL (by omega)) (qb_rounds _ _), h⟩
    · cases h
  · cases h
/-- What the law's numbers are. -/
structure SqN (n r a b : Int) : Prop where
  R : 8 ≤ between_0 r 8 900 ∧ between_0 r 8 900 ≤ 900
  X : bd 9000 (between_0 a (-9000) 9000)
  Y : bd 9000 (between_0 b (-9000) 9000)
  e2 : IntKind.i64.wrap (2 * between_0 r 8 900) = 2 * between_0 r 8 900
  e3 : IntKind.i64.wrap (2 * between_0 r 8 900 + 2) = 2 * between_0 r 8 900 + 2
  N : 2 * between_0 r 8 900 + 2 ≤ between_0 n (2 * between_0 r 8 900 + 2) 9000 ∧ between_0 n (2 * between_0 r 8 900 + 2) 9000 ≤ 9000
theorem sqN (n r a b : Int) : SqN n r a b := by
  have hR := between_rng r 8 900 (by omega) (by omega) (by omega)
  have hX := between_rng a (-9000) 9000 (by omega) (by omega) (by omega)
  have hY := between_rng b (-9000) 9000 (by omega) (by omega) (by omega)
  have hN := between_rng n (2 * between_0 r 8 900 + 2) 9000 (by omega) (by omega) (by omega)
  exact ⟨hR, hX, hY, wrI (by omega) (by omega), wrI (by omega) (by omega), hN⟩
noncomputable def wantI (r x y n : Int) : List (List Int) := [[x, y + r, 0], [x + n - r, y + r, 0], [x + n - r, y + n - r, 0], [x + r, y + n - r, 0], [x + r, y, 0], [x - 2 * r, y, 0]]
noncomputable def wantO (r x y n : Int) : List (List Int) := [[x, y - r, 0], [x + n, y - r, 0], [x + n + r, y, 0], [x + n + r, y + n, 0], [x + n, y + n + r, 0], [x, y + n + r, 0], [x - r, y + n, 0], [x - r, y, 0], [x - 2 * r, y, 0]]
theorem qa_sq (r x y n : Int) : qaN [outL x (y - 2 * r) 0 x (y + r) 0 60000, outL x (y + r) 0 (x + n - r) (y + r) 0 60000, outL (x + n - r) (y + r) 0 (x + n - r) (y + n - r) 0 60000, outL (x + n - r) (y + n - r) 0 (x + r) (y + n - r) 0 60000, outL (x + r) (y + n - r) 0 (x + r) y 0 60000, outL (x + r) y 0 (x - 2 * r) y 0 60000] (wantI r x y n) 6 0 = false := by
  simp [qaN, qaB, outL, wantI, List.getD]
theorem qb_sq (r x y n : Int) : qbN [outL x (y - 2 * r) 0 x (y - r) 0 60000, outL x (y - r) 0 (x + n) (y - r) 0 60000, outC (x + n) (y - r) (x + n + r) y (x + n) y, outL (x + n + r) y 0 (x + n + r) (y + n) 0 60000, outC (x + n + r) (y + n) (x + n) (y + n + r) (x + n) (y + n),
      outL (x + n) (y + n + r) 0 x (y + n + r) 0 60000, outC x (y + n + r) (x - r) (y + n) x (y + n), outL (x - r) (y + n) 0 (x - r) y 0 60000, outL (x - r) y 0 (x - 2 * r) y 0 60000] (wantO r x y n) 9 0 = false := by
  have m : minus_0 0 0 = 0 := minus_self 0
  simp [qbN, qbB, outL, outC, wantO, List.getD, m]
noncomputable def lawS_tpl : Tpl := ⟨[.one (.int .i64), .one (.int .i64), .agg [.int .i64, .int .i64, .int .i64], .one (.bool)], [], 0⟩
noncomputable def lawS_s0 (r : Int) (i : Bool) : List Int :=
  (fun x => 0 :: x)
   ((fun x => (bif (bif i then 1 else -1) != 0 then 17 else 0) :: x)
   ((fun x => 0 :: x)
   ((fun x => 0 :: x)
   ((fun x => 0 :: x)
   ((fun x => 0 :: x)
   ((fun x => 0 :: x)
   ((fun x => 60000 :: x)
   ((fun x => 0 :: x)
   ((fun x => (bif i then 1 else -1) :: x) ((fun x => between_0 r 8 900 :: x) ((fun x => 0 :: x) ((fun x => 0 :: x) ((fun x => 0 :: x) ((fun x => 0 :: x) []))))))))))))))
noncomputable def lawS_s1 (r : Int) (b : Int) (i : Bool) : List Int :=
  (fun x => between_0 b (-9000) 9000 :: x) (lawS_s0 r i)
noncomputable def lawS_s2 (r : Int) (a : Int) (b : Int) (i : Bool) : List Int :=
  (fun x => 0 :: x) ((fun x => between_0 a (-9000) 9000 :: x) (lawS_s1 r b i))
noncomputable def lawS_s3 (n : Int) (r : Int) (b : Int) (i : Bool) : List Int :=
  (fun x => IntKind.i64.wrap (between_0 b (-9000) 9000 + between_0 n (IntKind.i64.wrap (IntKind.i64.wrap (2 * between_0 r 8 900) + 2)) 9000) :: x) (lawS_s0 r i)
noncomputable def lawS_s4 (n : Int) (r : Int) (a : Int) (b : Int) (i : Bool) : List (List Int) :=
  [(fun x => 2 :: x)
   ((fun x => 0 :: x) ((fun x => between_0 a (-9000) 9000 :: x) ((fun x => IntKind.i64.wrap (between_0 b (-9000) 9000 - IntKind.i64.wrap (2 * between_0 r 8 900)) :: x) (lawS_s2 r a b i)))),
   (fun x => 2 :: x)
   ((fun x => 0 :: x)
   ((fun x => between_0 a (-9000) 9000 :: x)
   ((fun x => between_0 b (-9000) 9000 :: x)
   ((fun x => 0 :: x) ((fun x => IntKind.i64.wrap (between_0 a (-9000) 9000 + between_0 n (IntKind.i64.wrap (IntKind.i64.wrap (2 * between_0 r 8 900) + 2)) 9000) :: x) (lawS_s1 r b i)))))),
   (fun x => 2 :: x)
   ((fun x => 0 :: x)
   ((fun x => IntKind.i64.wrap (between_0 a (-9000) 9000 + between_0 n (IntKind.i64.wrap (IntKind.i64.wrap (2 * between_0 r 8 900) + 2)) 9000) :: x)
   ((fun x => between_0 b (-9000) 9000 :: x)
   ((fun x => 0 :: x) ((fun x => IntKind.i64.wrap (between_0 a (-9000) 9000 + between_0 n (IntKind.i64.wrap (IntKind.i64.wrap (2 * between_0 r 8 900) + 2)) 9000) :: x) (lawS_s3 n r b i)))))),
   (fun x => 2 :: x)
   ((fun x => 0 :: x)
   ((fun x => IntKind.i64.wrap (between_0 a (-9000) 9000 + between_0 n (IntKind.i64.wrap (IntKind.i64.wrap (2 * between_0 r 8 900) + 2)) 9000) :: x)
   ((fun x => IntKind.i64.wrap (between_0 b (-9000) 9000 + between_0 n (IntKind.i64.wrap (IntKind.i64.wrap (2 * between_0 r 8 900) + 2)) 9000) :: x)
   ((fun x => 0 :: x) ((fun x => between_0 a (-9000) 9000 :: x) (lawS_s3 n r b i)))))),
   (fun x => 2 :: x)
   ((fun x => 0 :: x)
   ((fun x => between_0 a (-9000) 9000 :: x)
   ((fun x => IntKind.i64.wrap (between_0 b (-9000) 9000 + between_0 n (IntKind.i64.wrap (IntKind.i64.wrap (2 * between_0 r 8 900) + 2)) 9000) :: x) (lawS_s2 r a b i)))),
   (fun x => 2 :: x)
   ((fun x => 0 :: x)
   ((fun x => between_0 a (-9000) 9000 :: x)
   ((fun x => between_0 b (-9000) 9000 :: x)
   ((fun x => 0 :: x)
   ((fun x => IntKind.i64.wrap (between_0 a (-9000) 9000 - IntKind.i64.wrap (2 * between_0 r 8 900)) :: x)
   ((fun x => between_0 b (-9000) 9000 :: x)
   ((fun x => 0 :: x)
   ((fun x => 0 :: x)
   ((fun x => 0 :: x)
   ((fun x => 0 :: x)
   ((fun x => 0 :: x)
   ((fun x => 0 :: x)
   ((fun x => 0 :: x)
   ((fun x => 60000 :: x)
   ((fun x => 0 :: x) ((fun x => 0 :: x) ((fun x => 0 :: x) ((fun x => 0 :: x) ((fun x => 0 :: x) ((fun x => 0 :: x) ((fun x => 0 :: x) [])))))))))))))))))))))]
noncomputable def lawS_s5 (r : Int) (b : Int) : List Int :=
  (fun x => IntKind.i64.wrap (between_0 b (-9000) 9000 + between_0 r 8 900) :: x) ((fun x => 0 :: x) [])
noncomputable def lawS_s6 (n : Int) (r : Int) (b : Int) : List Int :=
  (fun x => IntKind.i64.wrap (IntKind.i64.wrap (between_0 b (-9000) 9000 + between_0 n (IntKind.i64.wrap (IntKind.i64.wrap (2 * between_0 r 8 900) + 2)) 9000) - between_0 r 8 900) :: x)
   ((fun x => 0 :: x) [])
noncomputable def lawS_s7 (b : Int) : List Int :=
  (fun x => between_0 b (-9000) 9000 :: x) ((fun x => 0 :: x) [])
noncomputable def lawS_s8 (r : Int) (a : Int) (b : Int) : List (List Int) :=
  [(fun x => IntKind.i64.wrap (between_0 a (-9000) 9000 - IntKind.i64.wrap (2 * between_0 r 8 900)) :: x) (lawS_s7 b)]
noncomputable def lawS_s9 (r : Int) (b : Int) : List Int :=
  (fun x => IntKind.i64.wrap (between_0 b (-9000) 9000 - between_0 r 8 900) :: x) ((fun x => 0 :: x) [])
noncomputable def lawS_s10 (n : Int) (r : Int) (b : Int) : List Int :=
  (fun x => IntKind.i64.wrap (between_0 b (-9000) 9000 + between_0 n (IntKind.i64.wrap (IntKind.i64.wrap (2 * between_0 r 8 900) + 2)) 9000) :: x) ((fun x => 0 :: x) [])
noncomputable def lawS_s11 (n : Int) (r : Int) (b : Int) : List Int :=
  (fun x => IntKind.i64.wrap (IntKind.i64.wrap (between_0 b (-9000) 9000 + between_0 n (IntKind.i64.wrap (IntKind.i64.wrap (2 * between_0 r 8 900) + 2)) 9000) + between_0 r 8 900) :: x)
   ((fun x => 0 :: x) [])
noncomputable def lawS_0 (n : Int) (r : Int) (a : Int) (b : Int) (i : Bool) : Bool :=
  bif false || apE (lawS_s4 n r a b i) != 0 then false
  else
   bif i then
   bif Int.ofNat (apO (lawS_s4 n r a b i)).length != 6 then false
   else
   !(qaF (apO (lawS_s4 n r a b i))
   ((fun x => between_0 a (-9000) 9000 :: x) (lawS_s5 r b) ::
   (fun x => IntKind.i64.wrap (IntKind.i64.wrap (between_0 a (-9000) 9000 + between_0 n (IntKind.i64.wrap (IntKind.i64.wrap (2 * between_0 r 8 900) + 2)) 9000) - between_0 r 8 900) :: x)
   (lawS_s5 r b) ::
   (fun x =>
   IntKind.i64.wrap (IntKind.i64.wrap (between_0 a (-9000) 9000 + between_0 n (IntKind.i64.wrap (IntKind.i64.wrap (2 * between_0 r 8 900) + 2)) 9000) - between_0 r 8 900) :: x)
   (lawS_s6 n r b) ::
   (fun x => IntKind.i64.wrap (between_0 a (-9000) 9000 + between_0 r 8 900) :: x) (lawS_s6 n r b) ::
   (fun x => IntKind.i64.wrap (between_0 a (-9000) 9000 + between_0 r 8 900) :: x) (lawS_s7 b) :: lawS_s8 r a b)).fin
   0
   else
   bif Int.ofNat (apO (lawS_s4 n r a b i)).length != 9 then false
   else
   !(qbF (apO (lawS_s4 n r a b i))
   ((fun x => between_0 a (-9000) 9000 :: x) (lawS_s9 r b) ::
   (fun x => IntKind.i64.wrap (between_0 a (-9000) 9000 + between_0 n (IntKind.i64.wrap (IntKind.i64.wrap (2 * between_0 r 8 900) + 2)) 9000) :: x) (lawS_s9 r b) ::
   (fun x =>
   IntKind.i64.wrap (IntKind.i64.wrap (between_0 a (-9000) 9000 + between_0 n (IntKind.i64.wrap (IntKind.i64.wrap (2 * between_0 r 8 900) + 2)) 9000) + between_0 r 8 900) :: x)
   (lawS_s7 b) ::
   (fun x =>
   IntKind.i64.wrap (IntKind.i64.wrap (between_0 a (-9000) 9000 + between_0 n (IntKind.i64.wrap (IntKind.i64.wrap (2 * between_0 r 8 900) + 2)) 9000) + between_0 r 8 900) :: x)
   (lawS_s10 n r b) ::
   (fun x => IntKind.i64.wrap (between_0 a (-9000) 9000 + between_0 n (IntKind.i64.wrap (IntKind.i64.wrap (2 * between_0 r 8 900) + 2)) 9000) :: x) (lawS_s11 n r b) ::
   (fun x => between_0 a (-9000) 9000 :: x) (lawS_s11 n r b) ::
   (fun x => IntKind.i64.wrap (between_0 a (-9000) 9000 - between_0 r 8 900) :: x) (lawS_s10 n r b) ::
   (fun x => IntKind.i64.wrap (between_0 a (-9000) 9000 - between_0 r 8 900) :: x) (lawS_s7 b) :: lawS_s8 r a b)).fin
   0
noncomputable def lawS_s12 (r : Int) : Int :=
  IntKind.i64.wrap (2 * between_0 r 8 900)
noncomputable def lawS_s13 (r : Int) (i : Bool) : List Int :=
  [0, bif (bif i then 1 else -1) != 0 then 17 else 0, 0, 0, 0, 0, 0, 60000, 0, bif i then 1 else -1, between_0 r 8 900, 0, 0, 0, 0]
noncomputable def lawS_s14 (r : Int) (b : Int) (i : Bool) : List Int :=
  between_0 b (-9000) 9000 :: lawS_s13 r i
noncomputable def lawS_s15 (r : Int) (a : Int) (b : Int) (i : Bool) : List Int :=
  0 :: between_0 a (-9000) 9000 :: lawS_s14 r b i
noncomputable def lawS_s16 (n : Int) (r : Int) : Int :=
  between_0 n (IntKind.i64.wrap (lawS_s12 r + 2)) 9000
noncomputable def lawS_s17 (n : Int) (r : Int) (a : Int) : Int :=
  IntKind.i64.wrap (between_0 a (-9000) 9000 + lawS_s16 n r)
noncomputable def lawS_s19 (n : Int) (r : Int) (a : Int) (b : Int) (i : Bool) : List (List Int) :=
  [2 :: 0 :: between_0 a (-9000) 9000 :: IntKind.i64.wrap (between_0 b (-9000) 9000 - lawS_s12 r) :: lawS_s15 r a b i,
   2 :: 0 :: between_0 a (-9000) 9000 :: between_0 b (-9000) 9000 :: 0 :: lawS_s17 n r a :: lawS_s14 r b i,
   2 :: 0 :: lawS_s17 n r a :: between_0 b (-9000) 9000 :: 0 :: lawS_s17 n r a :: lawS_s17 n r b :: lawS_s13 r i,
   2 :: 0 :: lawS_s17 n r a :: lawS_s17 n r b :: 0 :: between_0 a (-9000) 9000 :: lawS_s17 n r b :: lawS_s13 r i, 2 :: 0 :: between_0 a (-9000) 9000 :: lawS_s17 n r b :: lawS_s15 r a b i,
   [2, 0, between_0 a (-9000) 9000, between_0 b (-9000) 9000, 0, IntKind.i64.wrap (between_0 a (-9000) 9000 - lawS_s12 r), between_0 b (-9000) 9000, 0, 0, 0, 0, 0, 0, 0, 60000, 0, 0, 0, 0, 0, 0, 0]]
noncomputable def lawS_s20 (r : Int) (b : Int) : List Int :=
  [IntKind.i64.wrap (between_0 b (-9000) 9000 + between_0 r 8 900), 0]
noncomputable def lawS_s21 (n : Int) (r : Int) (b : Int) : List Int :=
  [IntKind.i64.wrap (lawS_s17 n r b - between_0 r 8 900), 0]
noncomputable def lawS_s22 (b : Int) : List Int :=
  [between_0 b (-9000) 9000, 0]
noncomputable def lawS_s23 (r : Int) (a : Int) (b : Int) : List (List Int) :=
  [IntKind.i64.wrap (between_0 a (-9000) 9000 - lawS_s12 r) :: lawS_s22 b]
noncomputable def lawS_s24 (n : Int) (r : Int) (a : Int) (b : Int) : List (List Int) :=
  (between_0 a (-9000) 9000 :: lawS_s20 r b) ::
   (IntKind.i64.wrap (lawS_s17 n r a - between_0 r 8 900) :: lawS_s20 r b) ::
   (IntKind.i64.wrap (lawS_s17 n r a - between_0 r 8 900) :: lawS_s21 n r b) ::
   (IntKind.i64.wrap (between_0 a (-9000) 9000 + between_0 r 8 900) :: lawS_s21 n r b) :: (IntKind.i64.wrap (between_0 a (-9000) 9000 + between_0 r 8 900) :: lawS_s22 b) :: lawS_s23 r a b
noncomputable def lawS_s25 (r : Int) (b : Int) : List Int :=
  [IntKind.i64.wrap (between_0 b (-9000) 9000 - between_0 r 8 900), 0]
noncomputable def lawS_s26 (n : Int) (r : Int) (b : Int) : List Int :=
  [IntKind.i64.wrap (lawS_s17 n r b + between_0 r 8 900), 0]
noncomputable def lawS_s27 (n : Int) (r : Int) (a : Int) (b : Int) : List (List Int) :=
  (between_0 a (-9000) 9000 :: lawS_s25 r b) ::
   (lawS_s17 n r a :: lawS_s25 r b) ::
   (IntKind.i64.wrap (lawS_s17 n r a + between_0 r 8 900) :: lawS_s22 b) ::
   [IntKind.i64.wrap (lawS_s17 n r a + between_0 r 8 900), lawS_s17 n r b, 0] ::
   (lawS_s17 n r a :: lawS_s26 n r b) ::
   (between_0 a (-9000) 9000 :: lawS_s26 n r b) ::
   [IntKind.i64.wrap (between_0 a (-9000) 9000 - between_0 r 8 900), lawS_s17 n r b, 0] :: (IntKind.i64.wrap (between_0 a (-9000) 9000 - between_0 r 8 900) :: lawS_s22 b) :: lawS_s23 r a b
noncomputable def lawS_needs (n : Int) (r : Int) (a : Int) (b : Int) (i : Bool) : List Prop :=
  [Int.ofNat 893 ≠ 0, IntKind.i64.wrap (IntKind.i64.wrap (9000 - IntKind.i64.wrap (lawS_s12 r + 2)) + 1) ≠ 0, Int.ofNat 18001 ≠ 0, Int.ofNat 18001 ≠ 0, (lawS_s19 n r a b i).length ≤ 1000,
   (false || apE (lawS_s19 n r a b i) != 0) = false →
   (i = true →
   (Int.ofNat (apO (lawS_s19 n r a b i)).length != 6) = false →
   (0 ≤ (apO (lawS_s19 n r a b i)).length ∧ (apO (lawS_s19 n r a b i)).length ≤ 1000 ∧ (apO (lawS_s19 n r a b i)).length = (lawS_s24 n r a b).length) ∧
   Int.ofNat 0 = 0 ∧ lawS_s24 n r a b = lawS_s24 n r a b) ∧
   (i = false →
   (Int.ofNat (apO (lawS_s19 n r a b i)).length != 9) = false →
   (0 ≤ (apO (lawS_s19 n r a b i)).length ∧ (apO (lawS_s19 n r a b i)).length ≤ 1000 ∧ (apO (lawS_s19 n r a b i)).length = (lawS_s27 n r a b).length) ∧
   Int.ofNat 0 = 0 ∧ lawS_s27 n r a b = lawS_s27 n r a b)]
theorem lawS_X {n r a b : Int} (i : Bool) (h : SqN n r a b) : lawS_s4 n r a b i = sqX (bif i then 1 else -1) (between_0 r 8 900) (between_0 a (-9000) 9000) (between_0 b (-9000) 9000) (between_0 n (2 * between_0 r 8 900 + 2) 9000) := by
  obtain ⟨hR, hX, hY, e2, e3, hN⟩ := h
  unfold lawS_s4 lawS_s3 lawS_s2 lawS_s1 lawS_s0
  rw [e2, e3]
  generalize between_0 r 8 900 = R at *
  generalize between_0 a (-9000) 9000 = X at *
  generalize between_0 b (-9000) 9000 = Y at *
  generalize between_0 n (2 * R + 2) 9000 = N at *
  rw [wrI (x := X + N) (by omega) (by omega), wrI (x := Y + N) (by omega) (by omega), wrI (x := Y - 2 * R) (by omega) (by omega), wrI (x := X - 2 * R) (by omega) (by omega)]
  cases i <;> rfl
theorem lawS_0_eq (n r a b : Int) (i : Bool) : (lawS_0 n r a b i) = true := by
  have h := sqN n r a b
  have hX := lawS_X i h
  obtain ⟨hR, hXb, hY, e2, e3, hN⟩ := h
  have hN' : 2 * between_0 r 8 900 + 2 ≤ between_0 n (2 * between_0 r 8 900 + 2) 9000 ∧ between_0 n (2 * between_0 r 8 900 + 2) 9000 ≤ 9000 := hN
  obtain ⟨a1, a2⟩ := sq_in hR hXb hY hN'
  obtain ⟨b1, b2⟩ := sq_out hR hXb hY hN'
  unfold lawS_0 lawS_s5 lawS_s6 lawS_s7 lawS_s8 lawS_s9 lawS_s10 lawS_s11 lawS_s7
  rw [hX, e2, e3]
  generalize between_0 r 8 900 = R at *
  generalize between_0 a (-9000) 9000 = X at *
  generalize between_0 b (-9000) 9000 = Y at *
  generalize between_0 n (2 * R + 2) 9000 = N at *
  rw [wrI (x := X + N) (by omega) (by omega), wrI (x := Y + N) (by omega) (by omega), wrI (x := X - 2 * R) (by omega) (by omega), wrI (x := Y + R) (by omega) (by omega), wrI (x := Y - R) (by omega) (by omega), wrI (x := X + N - R) (by omega) (by omega), wrI (x := Y + N - R) (by omega) (by omega), wrI (x := X + R) (by omega) (by omega), wrI (x := X - R) (by omega) (by omega), wrI (x := X + N + R) (by omega) (by omega), wrI (x := Y + N + R) (by omega) (by omega)]
  cases i
  · rw [show (bif false then (1 : Int) else -1) = -1 from rfl, b1, b2]
    have q := qb_sq R X Y N
    exact (congrArg (!·) q : (!qbN _ (wantO R X Y N) 9 0) = !false)
  · rw [show (bif true then (1 : Int) else -1) = 1 from rfl, a1, a2]
    have q := qa_sq R X Y N
    exact (congrArg (!·) q : (!qaN _ (wantI R X Y N) 6 0) = !false)
theorem lawS_need {n : Int} {r : Int} {a : Int} {b : Int} {i : Bool} : ∀ q ∈ (lawS_needs n r a b i), q := by
  unfold lawS_needs
  simp only [List.forall_mem_cons, List.not_mem_nil, false_implies, implies_true, and_true]
  have h := sqN n r a b
  have hX := lawS_X i h
  have hX' : lawS_s19 n r a b i = lawS_s4 n r a b i := by cases i <;> rfl
  obtain ⟨hR, hXb, hY, e2, e3, hN⟩ := h
  have e12 : lawS_s12 r = 2 * between_0 r 8 900 := e2
  obtain ⟨a1, a2⟩ := sq_in hR hXb hY hN
  obtain ⟨b1, b2⟩ := sq_out hR hXb hY hN
  refine ⟨by decide, ?_, by decide, by decide, (by show (6 : Nat) ≤ 1000; decide), fun _ => ⟨fun hi hl => ?_, fun hi hl => ?_⟩⟩
  · rw [e12, e3, wrI (x := 9000 - (2 * between_0 r 8 900 + 2)) (by omega) (by omega), wrI (by omega) (by omega)]; omega
  · subst hi
    rw [hX', hX, show (bif true then (1 : Int) else -1) = 1 from rfl, a2]
    exact ⟨⟨Nat.zero_le _, (by show (6 : Nat) ≤ 1000; decide), rfl⟩, rfl⟩
  · subst hi
    rw [hX', hX, show (bif false then (1 : Int) else -1) = -1 from rfl, b2]
    exact ⟨⟨Nat.zero_le _, (by show (9 : Nat) ≤ 1000; decide), rfl⟩, rfl⟩
set_option maxRecDepth 1000000 in
theorem lawS_runs (n r a b c : Int) (i : Bool) (hNeeds : ∀ pN ∈ (lawS_needs n r a b i), pN) : Runs (runF (sums K_awake) L_qb 4) (lawS_tpl.args [.i n, .i r, .i a, .i b, .i c, .b i]) (lawS_tpl.memo [.i n, .i r, .i a, .i b, .i c, .b i] []) lawS_tpl.n (SV.one (SC.bool (SB.v (lawS_0 n r a b i))))
    ([]) :=
  Runs.of1 (ps := (lawS_needs n r a b i)) (by kernel_rfl) hNeeds
noncomputable def lawS_out : List Pm → Lss → Option CRes
  | [.i n, .i r, .i a, .i b, .i c, .b i], [] => some ⟨SV.one (SC.bool (SB.v (lawS_0 n r a b i))),
    [],
    [], [], 2633⟩
  | _, _ => none
theorem lawS_ok : FOk Try.prog 4 (tplS lawS_tpl lawS_out) := by
  refine tplS_ok (runF_ok known_qbL 4) fun ps ls r hr hn _ => ?_
  unfold lawS_out at hr
  split at hr
  · cases hr; exact ⟨_, lawS_runs _ _ _ _ _ _ (fun p hp => lawS_need p hp), fun _ => by simp only [SV.den, SC.den, SB.val, lawS_0_eq]⟩
  · cases hr
noncomputable def K_lawS : List (Nat × Summ) := (4, tplS lawS_tpl lawS_out) :: K_awake
theorem known_lawS : Known Try.prog (sums K_lawS) L_qb := known_cons known_qbL lawS_ok
end Go.Proofs.Ytmbfbhimdkjkoaa
