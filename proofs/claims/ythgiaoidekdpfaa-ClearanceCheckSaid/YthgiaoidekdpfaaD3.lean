/-
  DISTANCES, plain laws: the program's and the reference's comparisons are the same. Conditions: bounds.
-/
import Derived.Test.YthgiaoidekdpfaaW11
set_option linter.all false
namespace Go.Proofs.Ythgiaoidekdpfaa
open Go.SX Go.RowKit
theorem vcI (a b c d : Int) : isI (vcross_0 a b c d) := wrap_isI _
theorem viI (a b c d : Int) : isI (vinner_0 a b c d) := wrap_isI _
theorem sub_b9 {x y : Int} (h1 : bd 10000000 x) (h2 : bd 10000000 y) : b9 (x - y) := ⟨by omega, by omega⟩
theorem bd_up {x : Int} (h : bd 1000000 x) : bd 10000000 x := ⟨by omega, by omega⟩
theorem minus_eq' {x y : Int} (h1 : bd 10000000 x) (h2 : bd 10000000 y) : minus_0 x y = x - y := minus_eq (by omega) (by omega)
theorem isI_ite {p : Prop} [Decidable p] {x y : Int} (hx : isI x) (hy : isI y) : isI (if p then x else y) := by split <;> assumption
/-- The difference of two distances: at least d. -/
theorem atleast_eq {m n : Int} (d : Int) (hm : isI m) (hn : isI n) : (!Cl (cdiff_0 m n d)) = atleast_0 m n d := by
  have hmn : isI (if n < m then n else m) := isI_ite hn hm
  have hk : isI (atleast_s0 m n d) := wrap_isI _
  have hq : isI (IntKind.i64.wrap (IntKind.i64.wrap (4 * d) * d)) := wrap_isI _
  have e : ccompare_s0 (if n < m then n else m) d (if n > m then n else m) = atleast_s0 m n d := rfl
  unfold cdiff_0 ccompare_0 atleast_0 atleast_s1 Cl
  rw [e, wcmp_eq _ _ _ _ hq hmn hk hk, rcmp_eq _ _ _ _ hk hk hq hmn]
  generalize IntKind.i64.wrap (IntKind.i64.wrap (4 * d) * d) * (if n < m then n else m) = X
  generalize hY : atleast_s0 m n d * atleast_s0 m n d = Y
  have w : ∀ x : Int, -1 ≤ x → x ≤ 1 → IntKind.i64.wrap (0 - x) = -x := fun x h1 h2 => by rw [wrI (by omega) (by omega)]; omega
  by_cases h : atleast_s0 m n d < 0
  · rw [decide_eq_true h, cond_true, w 1 (by omega) (by omega), decide_eq_false (show ¬ atleast_s0 m n d ≥ 0 by omega)]; rfl
  · rw [decide_eq_false h, cond_false, decide_eq_true (show atleast_s0 m n d ≥ 0 by omega)]
    rcases cmpI_cases X Y with ⟨h1, h2⟩ | ⟨h1, h2⟩ | ⟨h1, h2⟩ <;> rcases cmpI_cases Y X with ⟨h3, h4⟩ | ⟨h3, h4⟩ | ⟨h3, h4⟩ <;> first
      | (exfalso; omega)
      | (rw [h2, h4, w _ (by omega) (by omega)]; decide)
/-- At most d. -/
theorem atmost_eq {m n d : Int} (hm : isI m) (hn : isI n) (hm0 : 0 ≤ m) (hn0 : 0 ≤ n) (hd : bd 1000000 d) : (!Cg (cdiff_0 m n d)) = atmost_0 m n d := by
  have hmn : isI (if n < m then n else m) := isI_ite hn hm
  have hk : isI (atmost_s0 m n d) := wrap_isI _
  have hq : isI (IntKind.i64.wrap (IntKind.i64.wrap (4 * d) * d)) := wrap_isI _
  have e : ccompare_s0 (if n < m then n else m) d (if n > m then n else m) = atmost_s0 m n d := rfl
  have hX : 0 ≤ IntKind.i64.wrap (IntKind.i64.wrap (4 * d) * d) * (if n < m then n else m) := by
    refine Int.mul_nonneg ?_ (by split <;> assumption)
    have h1 := mul_bd (m := 4000000) (n := 1000000) (x := 4 * d) (y := d) (by omega) hd (by omega) (by omega)
    rw [wrI (x := 4 * d) (by omega) (by omega), wrI (by omega) (by omega)]
    have := sq_nn d 0
    have e : 4 * d * d = 4 * (d * d) := Int.mul_assoc _ _ _
    rw [e]
    omega
  unfold cdiff_0 ccompare_0 atmost_0 atmost_s1 Cg
  rw [e, wcmp_eq _ _ _ _ hq hmn hk hk, rcmp_eq _ _ _ _ hk hk hq hmn]
  generalize IntKind.i64.wrap (IntKind.i64.wrap (4 * d) * d) * (if n < m then n else m) = X at *
  have w : ∀ x : Int, -1 ≤ x → x ≤ 1 → IntKind.i64.wrap (0 - x) = -x := fun x h1 h2 => by rw [wrI (by omega) (by omega)]; omega
  by_cases h : atmost_s0 m n d < 0
  · rw [decide_eq_true h, cond_true, w 1 (by omega) (by omega), decide_eq_true (show atmost_s0 m n d ≤ 0 by omega)]; rfl
  · rw [decide_eq_false h, cond_false]
    by_cases h0 : atmost_s0 m n d ≤ 0
    · have : atmost_s0 m n d = 0 := by omega
      rw [decide_eq_true h0, this]
      rcases cmpI_cases X (0 * 0) with ⟨h1, h2⟩ | ⟨h1, h2⟩ | ⟨h1, h2⟩ <;> rw [h2] <;> first
        | (exfalso; omega)
        | (rw [w _ (by omega) (by omega), Bool.true_or]; decide)
    · rw [decide_eq_false h0]
      generalize atmost_s0 m n d * atmost_s0 m n d = Y
      rcases cmpI_cases X Y with ⟨h1, h2⟩ | ⟨h1, h2⟩ | ⟨h1, h2⟩ <;> rcases cmpI_cases Y X with ⟨h3, h4⟩ | ⟨h3, h4⟩ | ⟨h3, h4⟩ <;> first
        | (exfalso; omega)
        | (rw [h2, h4, w _ (by omega) (by omega)]; decide)
theorem spoke_f (a b c : Int) : spoke_0 a b c false = minus_0 a c := rfl
theorem spoke_t (a b c : Int) : spoke_0 a b c true = minus_0 b c := rfl
theorem arcs_0 (i2 i3 i9 i10 : Int) : arcspokes_0 i2 i3 0 17 i9 i10 0 = minus_0 i2 i9 := rfl
theorem arcs_1 (i2 i3 i9 i10 : Int) : arcspokes_1 i2 i3 0 17 i9 i10 0 = minus_0 i3 i10 := rfl
theorem insweep_full (a b c d e f g : Int) : insweep_0 a b c d e f g true = true := rfl
/-- Beside an element. -/
theorem beside_eq {a0 a1 a2 a3 a4 a5 a6 : Int} {a7 : Bool} {y z : Int} (E : EP a0 a1 a2 a3 a4 a5 a6) (hy : bd 10000000 y) (hz : bd 10000000 z) : beside_0 a0 a1 a2 a3 a4 a5 a6 a7 y z = (isB a0 a1 a2 a3 a4 a5 a6 a7 y z || isS a0 a1 a2 a3 a6 y z) := by
  obtain ⟨c0, c1, c2, c3, c4, c5, hd, s1, s2⟩ := E
  unfold beside_0 isB isS
  by_cases h6 : a6 = 0
  · rw [show (a6 == 0) = true by simpa using h6, show (a6 != 0) = false by simpa using h6]
    simp
  · have h6' : (a6 == 0) = false := by simpa using h6
    rw [h6', show (a6 != 0) = true by simpa using h6]
    simp only [cond_false, Bool.true_and, Bool.false_and, Bool.or_false]
    rw [spoke_f, spoke_f, spoke_t, spoke_t]
    have t1 := s1 h6
    have t2 := s2 h6
    clear s1 s2
    have m0 := minus_eq' (bd_up c0) (bd_up c4)
    have m1 := minus_eq' (bd_up c1) (bd_up c5)
    have m2 := minus_eq' (bd_up c2) (bd_up c4)
    have m3 := minus_eq' (bd_up c3) (bd_up c5)
    have m4 := minus_eq' hy (bd_up c4)
    have m5 := minus_eq' hz (bd_up c5)
    by_cases hp : y = a4 ∧ z = a5
    · obtain ⟨rfl, rfl⟩ := hp
      rw [minus_self, minus_self]
      simp
    · have hn : y - a4 ≠ 0 ∨ z - a5 ≠ 0 := by clear t1 t2 hd m0 m1 m2 m3 m4 m5; omega
      have e1 : (minus_0 y a4 == 0 && minus_0 z a5 == 0) = false := by
        rw [m4, m5]
        rcases hn with h | h <;> simp [h]
      have e2 : (y == a4 && z == a5) = false := by
        rcases (show y ≠ a4 ∨ z ≠ a5 by clear t1 t2 hd m0 m1 m2 m3 m4 m5 hn; omega) with h | h <;> simp [h]
      rw [e1, e2, Bool.false_or, Bool.false_or]
      unfold inside_0
      rw [arcs_0, arcs_1, arcs_0, arcs_1]
      cases a7
      · rw [Bool.false_or]
        rcases (show a6 = 1 ∨ a6 = -1 by clear t1 t2 m0 m1 m2 m3 m4 m5 hn; omega) with rfl | rfl
        · exact (sweep_ccw _ _ _ _ _ _).symm
        · show _ = contains_0 (minus_0 a2 a4) (minus_0 a3 a5) (minus_0 a0 a4) (minus_0 a1 a5) (minus_0 y a4) (minus_0 z a5)
          rw [m0, m1, m2, m3, m4, m5]
          exact (sweep_cw (sub_b9 (bd_up c0) (bd_up c4)) (sub_b9 (bd_up c1) (bd_up c5)) (sub_b9 (bd_up c2) (bd_up c4)) (sub_b9 (bd_up c3) (bd_up c5)) (sub_b9 hy (bd_up c4)) (sub_b9 hz (bd_up c5)) t1 t2 hn).symm
      · rfl
theorem notB_S {a0 a1 a2 a3 a4 a5 a6 : Int} {a7 : Bool} {y z : Int} : a6 ≠ 0 → isS a0 a1 a2 a3 a6 y z = false := fun h => by
  unfold isS
  rw [show (a6 == 0) = false by simpa using h]
  rfl
theorem notS_B {a0 a1 a2 a3 a4 a5 a6 : Int} {a7 : Bool} {y z : Int} : a6 = 0 → isB a0 a1 a2 a3 a4 a5 a6 a7 y z = false := fun h => by
  unfold isB
  rw [show (a6 != 0) = false by simpa using h]
  rfl
theorem vsq_nn {a b : Int} (ha : b9 a) (hb : b9 b) : 0 ≤ vinner_0 a b a b := by rw [vinner_eq ha hb ha hb]; exact sq_nn a b
theorem min_rw (x y : Int) : (if x < y then x else y) ≤ 4000000000000000000 ∨ True := .inr trivial
/-- FAR. -/
theorem far_eq {a0 a1 a2 a3 a4 a5 a6 : Int} {a7 : Bool} {y z d : Int} (E : EP a0 a1 a2 a3 a4 a5 a6) (hy : bd 10000000 y) (hz : bd 10000000 z) (hd : bd 1000000 d) : (!dstC Cl a0 a1 a2 a3 a4 a5 a6 a7 y z d) = rfar_0 a0 a1 a2 a3 a4 a5 a6 a7 y z d := by
  have hdd := mul_bd (m := 1000000) (n := 1000000) hd hd (by omega) (by omega)
  have w1 : IntKind.i64.wrap (d * d) = d * d := wrI (by omega) (by omega)
  have e4 : (!Cl (dv4 a0 a1 a2 a3 y z d)) = decide (rfar_s0 a0 a1 a2 a3 y z ≥ IntKind.i64.wrap (d * d)) := by
    unfold dv4 Cl
    have hm : isI (rfar_s0 a0 a1 a2 a3 y z) := isI_ite (wrap_isI _) (wrap_isI _)
    show (!decide (wcmp_0 (rfar_s0 a0 a1 a2 a3 y z) 1 d d < 0)) = _
    rw [wcmp_eq _ _ _ _ hm (by decide) ⟨by omega, by omega⟩ ⟨by omega, by omega⟩, Int.mul_one, w1]
    rcases cmpI_cases (rfar_s0 a0 a1 a2 a3 y z) (d * d) with ⟨h1, h2⟩ | ⟨h1, h2⟩ | ⟨h1, h2⟩ <;> rw [h2] <;> simp <;> omega
  have e3 : (!Cl (dv3 a0 a1 a2 a3 y z d)) = decide (rfar_s1 a0 a1 a2 a3 y z d ≥ 0) := by
    unfold dv3 Cl rfar_s1
    rw [wcmp_eq _ _ _ _ (vcI _ _ _ _) (vcI _ _ _ _) (wrap_isI _) (viI _ _ _ _), rcmp_eq _ _ _ _ (vcI _ _ _ _) (vcI _ _ _ _) (wrap_isI _) (viI _ _ _ _)]
    generalize cmpI _ _ = c
    by_cases h : c < 0
    · rw [decide_eq_true h, decide_eq_false (by omega)]; rfl
    · rw [decide_eq_false h, decide_eq_true (by omega)]; rfl
  unfold dstC rfar_0
  rw [beside_eq E hy hz]
  by_cases h6 : a6 = 0
  · rw [notS_B h6, show (a6 == 0) = true by simpa using h6]
    cases isS a0 a1 a2 a3 a6 y z
    · exact e4
    · exact e3
  · rw [notB_S (a4 := a4) (a5 := a5) (a7 := a7) h6, show (a6 == 0) = false by simpa using h6]
    cases isB a0 a1 a2 a3 a4 a5 a6 a7 y z
    · exact e4
    · rw [spoke_f, spoke_f, spoke_t, spoke_t, ← atleast_eq d (viI _ _ _ _) (viI _ _ _ _), ← atleast_eq d (viI _ _ _ _) (viI _ _ _ _)]
      show (!(bif !(Cl (dv1 a0 a1 a4 a5 y z d)) then Cl (dv2 a2 a3 a4 a5 y z d) else Cl (dv1 a0 a1 a4 a5 y z d))) = (!Cl (dv1 a0 a1 a4 a5 y z d) && !Cl (dv2 a2 a3 a4 a5 y z d))
      cases Cl (dv1 a0 a1 a4 a5 y z d) <;> cases Cl (dv2 a2 a3 a4 a5 y z d) <;> rfl
/-- NEAR. -/
theorem near_eq {a0 a1 a2 a3 a4 a5 a6 : Int} {a7 : Bool} {y z d : Int} (E : EP a0 a1 a2 a3 a4 a5 a6) (hy : bd 10000000 y) (hz : bd 10000000 z) (hd : bd 1000000 d) : (!dstC Cg a0 a1 a2 a3 a4 a5 a6 a7 y z d) = rnear_0 a0 a1 a2 a3 a4 a5 a6 a7 y z d := by
  have hdd := mul_bd (m := 1000000) (n := 1000000) hd hd (by omega) (by omega)
  have w1 : IntKind.i64.wrap (d * d) = d * d := wrI (by omega) (by omega)
  have e4 : (!Cg (dv4 a0 a1 a2 a3 y z d)) = decide (rnear_s0 a0 a1 a2 a3 y z ≤ IntKind.i64.wrap (d * d)) := by
    unfold dv4 Cg
    have hm : isI (rnear_s0 a0 a1 a2 a3 y z) := isI_ite (wrap_isI _) (wrap_isI _)
    show (!decide (wcmp_0 (rnear_s0 a0 a1 a2 a3 y z) 1 d d > 0)) = _
    rw [wcmp_eq _ _ _ _ hm (by decide) ⟨by omega, by omega⟩ ⟨by omega, by omega⟩, Int.mul_one, w1]
    rcases cmpI_cases (rnear_s0 a0 a1 a2 a3 y z) (d * d) with ⟨h1, h2⟩ | ⟨h1, h2⟩ | ⟨h1, h2⟩ <;> rw [h2] <;> simp <;> omega
  have e3 : (!Cg (dv3 a0 a1 a2 a3 y z d)) = decide (rnear_s1 a0 a1 a2 a3 y z d ≤ 0) := by
    unfold dv3 Cg rnear_s1
    rw [wcmp_eq _ _ _ _ (vcI _ _ _ _) (vcI _ _ _ _) (wrap_isI _) (viI _ _ _ _), rcmp_eq _ _ _ _ (vcI _ _ _ _) (vcI _ _ _ _) (wrap_isI _) (viI _ _ _ _)]
    generalize cmpI _ _ = c
    by_cases h : c > 0
    · rw [decide_eq_true h, decide_eq_false (by omega)]; rfl
    · rw [decide_eq_false h, decide_eq_true (by omega)]; rfl
  unfold dstC rnear_0
  rw [beside_eq E hy hz]
  by_cases h6 : a6 = 0
  · rw [notS_B h6, show (a6 == 0) = true by simpa using h6]
    cases isS a0 a1 a2 a3 a6 y z
    · exact e4
    · exact e3
  · rw [notB_S (a4 := a4) (a5 := a5) (a7 := a7) h6, show (a6 == 0) = false by simpa using h6]
    obtain ⟨c0, c1, c2, c3, c4, c5, _, _, _⟩ := E
    have m : ∀ {s t : Int}, bd 10000000 s → bd 10000000 t → b9 (minus_0 s t) := fun {s t} h1 h2 => by rw [minus_eq' h1 h2]; exact sub_b9 h1 h2
    cases isB a0 a1 a2 a3 a4 a5 a6 a7 y z
    · exact e4
    · rw [spoke_f, spoke_f, spoke_t, spoke_t, ← atmost_eq (viI _ _ _ _) (viI _ _ _ _) (vsq_nn (m hy (bd_up c4)) (m hz (bd_up c5))) (vsq_nn (m (bd_up c0) (bd_up c4)) (m (bd_up c1) (bd_up c5))) hd, ← atmost_eq (viI _ _ _ _) (viI _ _ _ _) (vsq_nn (m hy (bd_up c4)) (m hz (bd_up c5))) (vsq_nn (m (bd_up c2) (bd_up c4)) (m (bd_up c3) (bd_up c5))) hd]
      show (!(bif !(Cg (dv1 a0 a1 a4 a5 y z d)) then Cg (dv2 a2 a3 a4 a5 y z d) else Cg (dv1 a0 a1 a4 a5 y z d))) = (!Cg (dv1 a0 a1 a4 a5 y z d) && !Cg (dv2 a2 a3 a4 a5 y z d))
      cases Cg (dv1 a0 a1 a4 a5 y z d) <;> cases Cg (dv2 a2 a3 a4 a5 y z d) <;> rfl
end Go.Proofs.Ythgiaoidekdpfaa
