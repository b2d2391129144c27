/-
  PAIRS of elements that are made; Clear and Ends, plain laws: the program's and the reference's are the same. Conditions: bounds.
-/
import Derived.Test.YtjlkecfkjcanaaaE1
import Derived.Test.YtjlkecfkjcanaaaD1
set_option linter.all false
namespace Go.Proofs.Ytjlkecfkjcanaaa
open Go.SX Go.RowKit
theorem pair_ep (L : List (List Int)) : EP (qa0 L) (qa1 L) (qa2 L) (qa3 L) (qa4 L) (qa5 L) (qa6 L) ∧ EP (qb0 L) (qb1 L) (qb2 L) (qb3 L) (qb4 L) (qb5 L) (qb6 L) ∧ bd 5000 (qr L) := by
  have hu := range_rng (-900) 900 (pair_s0 L) L (by omega) (by omega) (by omega)
  have hv := range_rng (-900) 900 (pair_s1 L) L (by omega) (by omega) (by omega)
  obtain ⟨m1, m2⟩ := element_mv (m := 900) (a := next_1 (next_1 (pair_s0 L) L) L) (u := range_0 (-900) 900 (pair_s0 L) L) (v := range_0 (-900) 900 (pair_s1 L) L) L (by omega) (by omega) (by omega) (by omega)
  refine ⟨?_, ?_, ?_⟩
  · exact element_ep (u := range_0 (-900) 900 (pair_s0 L) L) (v := range_0 (-900) 900 (pair_s1 L) L) (a := next_1 (next_1 (pair_s0 L) L) L) L (by omega) (by omega)
  · exact element_ep (u := element_2 (range_0 (-900) 900 (pair_s0 L) L) (next_1 (next_1 (pair_s0 L) L) L) L) (v := element_3 (range_0 (-900) 900 (pair_s1 L) L) (next_1 (next_1 (pair_s0 L) L) L) L) (a := element_8 (next_1 (next_1 (pair_s0 L) L) L) L) L (by omega) (by omega)
  · unfold qr pair_4
    have h1 := range_rng (-5000) 5000 (next_1 (next_1 0 L) L) L (by omega) (by omega) (by omega)
    have h2 := range_rng (-60) 60 0 L (by omega) (by omega) (by omega)
    cases next_0 4 (next_1 0 L) L == 0
    · rw [cond_false]; omega
    · rw [cond_true]; omega
abbrev dir1 (d : Int) : Prop := d = 0 ∨ d = 1 ∨ d = -1
theorem inward_same {d : Int} (hd : dir1 d) (r : Int) : oinward_0 d r = rinward_0 d r := by
  unfold oinward_0 rinward_0
  rcases hd with rfl | rfl | rfl <;> rfl
theorem abs_sq {r : Int} (hr : bd 1000000000 r) : oclear_s1 r = (if -r > r then -r else r) ∧ IntKind.i64.wrap (oclear_s1 r * oclear_s1 r) = IntKind.i64.wrap (r * r) ∧ IntKind.i64.wrap (IntKind.i64.wrap (4 * oclear_s1 r) * oclear_s1 r) = IntKind.i64.wrap (IntKind.i64.wrap (4 * r) * r) := by
  have e : oclear_s1 r = (if -r > r then -r else r) := by
    unfold oclear_s1
    rw [wrI (x := 0 - r) (by omega) (by omega), show 0 - r = -r by omega]
  refine ⟨e, ?_, ?_⟩
  · rw [e]; split
    · rw [Int.neg_mul_neg]
    · rfl
  · rw [e]; split
    · rw [wrI (x := 4 * -r) (by omega) (by omega), wrI (x := 4 * r) (by omega) (by omega)]
      have : 4 * -r * -r = 4 * r * r := by rw [Int.mul_neg 4 r, Int.neg_mul_neg]
      rw [this]
    · rfl
theorem cmpI_sw (x y : Int) : decide (cmpI x y ≤ 0) = decide (cmpI y x ≥ 0) := by
  rcases cmpI_cases x y with ⟨h1, h2⟩ | ⟨h1, h2⟩ | ⟨h1, h2⟩ <;> rcases cmpI_cases y x with ⟨h3, h4⟩ | ⟨h3, h4⟩ | ⟨h3, h4⟩ <;> rw [h2, h4] <;> first | rfl | (exfalso; omega)
theorem v_isI (a b c d : Int) : isI (vinner_0 a b c d) := wrap_isI _
theorem clear_same {e0 e1 e2 e3 e4 e5 e6 : Int} (y0 y1 : Int) {r : Int} (hd : dir1 e6) (hr : bd 1000000000 r) : oclear_0 e0 e1 e2 e3 e4 e5 e6 y0 y1 r = rclear_0 e0 e1 e2 e3 e4 e5 e6 y0 y1 r := by
  obtain ⟨_, q1, q2⟩ := abs_sq hr
  have re : ∀ {n m : Int}, isI n → reaches_0 n (oclear_s1 r) m = (decide (IntKind.i64.wrap (IntKind.i64.wrap (m - n) - IntKind.i64.wrap (r * r)) ≥ 0) && decide (rcmp_0 (IntKind.i64.wrap (IntKind.i64.wrap (m - n) - IntKind.i64.wrap (r * r))) (IntKind.i64.wrap (IntKind.i64.wrap (m - n) - IntKind.i64.wrap (r * r))) (IntKind.i64.wrap (IntKind.i64.wrap (4 * r) * r)) n ≥ 0)) := fun {n m} hn => by
    unfold reaches_0 reaches_s1 reaches_s0
    rw [q1, q2, wcmp_eq _ _ _ _ (wrap_isI _) hn (wrap_isI _) (wrap_isI _), rcmp_eq _ _ _ _ (wrap_isI _) (wrap_isI _) (wrap_isI _) hn, cmpI_sw]
  have sp : ∀ a b c : Int, rspoke_0 a b c true = minus_0 b c := fun _ _ _ => rfl
  unfold oclear_0 rclear_0
  cases h6 : e6 == 0
  · rw [cond_false, cond_false]
    unfold rclear_s3 rclear_s2 rclear_s1
    rw [inward_same hd]
    simp only [sp]
    cases rinward_0 e6 r
    · rw [cond_false, cond_false, cond_false, re (v_isI _ _ _ _)]
    · rw [cond_true, cond_true, cond_true, re (v_isI _ _ _ _)]
  · rw [cond_true, cond_true]
    have e : oclear_s0 e0 e1 e2 e3 y0 y1 r = rclear_s0 e0 e1 e2 e3 y0 y1 r := by
      unfold oclear_s0 rclear_s0
      have hx : isI (vcross_0 (minus_0 e2 e0) (minus_0 e3 e1) (minus_0 y0 e0) (minus_0 y1 e1)) := wrap_isI _
      rw [wcmp_eq _ _ _ _ hx hx (wrap_isI _) (v_isI _ _ _ _), rcmp_eq _ _ _ _ hx hx (wrap_isI _) (v_isI _ _ _ _)]
    rw [e]
/-! ### Ends -/
theorem tang_same {e0 e1 e2 e3 e4 e5 e6 : Int} (w : Bool) (hd : dir1 e6) (h0 : bd 1000000 e0) (h1 : bd 1000000 e1) (h2 : bd 1000000 e2) (h3 : bd 1000000 e3) (h4 : bd 1000000 e4) (h5 : bd 1000000 e5) :
    atang_0 (oitem_0 e6) e0 e1 0 e2 e3 0 17 (oitem_1 e4 e6) (oitem_1 e5 e6) 0 (oitem_3 e6) w = rtang_0 e0 e1 e2 e3 e5 e6 w ∧ atang_1 (oitem_0 e6) e0 e1 0 e2 e3 0 17 (oitem_1 e4 e6) (oitem_1 e5 e6) 0 (oitem_3 e6) w = rtang_1 e0 e1 e2 e3 e4 e6 w := by
  rcases hd with rfl | rfl | rfl
  · exact ⟨rfl, rfl⟩
  · have a0 : atang_0 (oitem_0 1) e0 e1 0 e2 e3 0 17 (oitem_1 e4 1) (oitem_1 e5 1) 0 (oitem_3 1) w = IntKind.i64.wrap (0 - (bif w then minus_0 e3 e5 else minus_0 e1 e5)) := rfl
    have a1 : atang_1 (oitem_0 1) e0 e1 0 e2 e3 0 17 (oitem_1 e4 1) (oitem_1 e5 1) 0 (oitem_3 1) w = (bif w then minus_0 e2 e4 else minus_0 e0 e4) := rfl
    have b0 : rtang_0 e0 e1 e2 e3 e5 1 w = IntKind.i64.wrap (IntKind.i64.wrap (0 - (bif w then minus_0 e3 e5 else minus_0 e1 e5)) * 1) := rfl
    have b1 : rtang_1 e0 e1 e2 e3 e4 1 w = IntKind.i64.wrap ((bif w then minus_0 e2 e4 else minus_0 e0 e4) * 1) := rfl
    rw [a0, a1, b0, b1]
    rw [minus_eq (a := e3) (by omega) (by omega), minus_eq (a := e1) (by omega) (by omega), minus_eq (a := e2) (by omega) (by omega), minus_eq (a := e0) (by omega) (by omega)]
    cases w
    · simp only [cond_false]
      rw [wrI (x := 0 - (e1 - e5)) (by omega) (by omega), wrI (by omega) (by omega), wrI (by omega) (by omega)]; omega
    · simp only [cond_true]
      rw [wrI (x := 0 - (e3 - e5)) (by omega) (by omega), wrI (by omega) (by omega), wrI (by omega) (by omega)]; omega
  · have a0 : atang_0 (oitem_0 (-1)) e0 e1 0 e2 e3 0 17 (oitem_1 e4 (-1)) (oitem_1 e5 (-1)) 0 (oitem_3 (-1)) w = (bif w then minus_0 e3 e5 else minus_0 e1 e5) := rfl
    have a1 : atang_1 (oitem_0 (-1)) e0 e1 0 e2 e3 0 17 (oitem_1 e4 (-1)) (oitem_1 e5 (-1)) 0 (oitem_3 (-1)) w = IntKind.i64.wrap (0 - (bif w then minus_0 e2 e4 else minus_0 e0 e4)) := rfl
    have b0 : rtang_0 e0 e1 e2 e3 e5 (-1) w = IntKind.i64.wrap (IntKind.i64.wrap (0 - (bif w then minus_0 e3 e5 else minus_0 e1 e5)) * -1) := rfl
    have b1 : rtang_1 e0 e1 e2 e3 e4 (-1) w = IntKind.i64.wrap ((bif w then minus_0 e2 e4 else minus_0 e0 e4) * -1) := rfl
    rw [a0, a1, b0, b1]
    rw [minus_eq (a := e3) (by omega) (by omega), minus_eq (a := e1) (by omega) (by omega), minus_eq (a := e2) (by omega) (by omega), minus_eq (a := e0) (by omega) (by omega)]
    cases w
    · simp only [cond_false]
      rw [wrI (x := 0 - (e1 - e5)) (by omega) (by omega), wrI (x := 0 - (e0 - e4)) (by omega) (by omega), wrI (by omega) (by omega), wrI (by omega) (by omega)]; omega
    · simp only [cond_true]
      rw [wrI (x := 0 - (e3 - e5)) (by omega) (by omega), wrI (x := 0 - (e2 - e4)) (by omega) (by omega), wrI (by omega) (by omega), wrI (by omega) (by omega)]; omega
theorem nest_same {α : Type} (a b c d : Bool) (z x : α) : (bif !a then z else bif !b then z else bif !c then z else bif !d then z else x) = (bif !(a && b) || !(c && d) then z else x) := by
  cases a <;> cases b <;> cases c <;> cases d <;> rfl
theorem or_same {α : Type} (a b : Bool) (z x : α) : (bif a then z else bif b then z else x) = (bif a || b then z else x) := by
  cases a <;> cases b <;> rfl
theorem ends_same {e0 e1 e2 e3 e4 e5 e6 : Int} (r : Int) (E : EP e0 e1 e2 e3 e4 e5 e6) :
    oends_0 e0 e1 e2 e3 e4 e5 e6 r = rends_0 e0 e1 e2 e3 e4 e5 e6 r ∧ oends_1 e0 e1 e2 e3 e4 e5 e6 r = rends_1 e0 e1 e2 e3 e4 e5 e6 r ∧ oends_2 e0 e1 e2 e3 e4 e5 e6 r = rends_2 e0 e1 e2 e3 e4 e5 e6 r ∧ oends_3 e0 e1 e2 e3 e4 e5 e6 r = rends_3 e0 e1 e2 e3 e4 e5 e6 r ∧ oends_4 e0 e1 e2 e3 e4 e5 e6 r = rends_4 e0 e1 e2 e3 e4 e5 e6 r := by
  obtain ⟨t0, t1⟩ := tang_same false E.dir E.c0 E.c1 E.c2 E.c3 E.c4 E.c5
  obtain ⟨t2, t3⟩ := tang_same true E.dir E.c0 E.c1 E.c2 E.c3 E.c4 E.c5
  have sp : ∀ a b c : Int, rspoke_0 a b c true = minus_0 b c := fun _ _ _ => rfl
  have sp' : ∀ a b c : Int, rspoke_0 a b c false = minus_0 a c := fun _ _ _ => rfl
  have hw : ∀ a b, rwithin_0 a b = (oin_0 a 1048576 && oin_0 b 1048576) := fun _ _ => rfl
  have hs : oends_s0 r = rends_s0 r := rfl
  have N0 : ∀ p0 p1 t0 t1 r, onormal_0 p0 p1 t0 t1 r = rnormal_0 p0 p1 t0 t1 r := fun p0 p1 t0 t1 r => (normal_same p0 p1 t0 t1 r).1
  have N1 : ∀ p0 p1 t0 t1 r, onormal_1 p0 p1 t0 t1 r = rnormal_1 p0 p1 t0 t1 r := fun p0 p1 t0 t1 r => (normal_same p0 p1 t0 t1 r).2.1
  refine ⟨?_, ?_, ?_, ?_, ?_⟩
  · unfold oends_0 rends_0 oends_s2 oends_s1 rends_s1
    simp only [or_same, Bool.not_and, Bool.or_assoc, inward_same E.dir, t0, t1, t2, t3, N0, N1, sp, sp', hw, hs]
  · unfold oends_1 rends_1 oends_s4 oends_s3 rends_s2
    simp only [or_same, Bool.not_and, Bool.or_assoc, inward_same E.dir, t0, t1, t2, t3, N0, N1, sp, sp', hw, hs]
  · unfold oends_2 rends_2 oends_s6 oends_s5 rends_s3
    simp only [or_same, Bool.not_and, Bool.or_assoc, inward_same E.dir, t0, t1, t2, t3, N0, N1, sp, sp', hw, hs]
  · unfold oends_3 rends_3 oends_s8 oends_s7 rends_s4
    simp only [or_same, Bool.not_and, Bool.or_assoc, inward_same E.dir, t0, t1, t2, t3, N0, N1, sp, sp', hw, hs]
  · unfold oends_4 rends_4 oends_s9 rends_s5
    simp only [or_same, Bool.not_and, Bool.or_assoc, inward_same E.dir, t0, t1, t2, t3, N0, N1, sp, sp', hw, hs]
end Go.Proofs.Ytjlkecfkjcanaaa
