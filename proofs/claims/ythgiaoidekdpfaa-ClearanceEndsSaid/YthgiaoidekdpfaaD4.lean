/-
  DISTANCES, plain laws: what they are in whole numbers; they grow and shrink as they should. Conditions: bounds.
-/
import Derived.Test.YthgiaoidekdpfaaD3
set_option linter.all false
namespace Go.Proofs.Ythgiaoidekdpfaa
open Go.SX Go.RowKit
theorem cmpI_ge (x y : Int) : decide (cmpI x y ≥ 0) = decide (y ≤ x) := by
  rcases cmpI_cases x y with ⟨h1, h2⟩ | ⟨h1, h2⟩ | ⟨h1, h2⟩ <;> rw [h2] <;> simp <;> omega
theorem cmpI_le (x y : Int) : decide (cmpI x y ≤ 0) = decide (x ≤ y) := by
  rcases cmpI_cases x y with ⟨h1, h2⟩ | ⟨h1, h2⟩ | ⟨h1, h2⟩ <;> rw [h2] <;> simp <;> omega
/-- The greater less the smaller less the square. -/
noncomputable def kk (m n d : Int) : Int := (if n > m then n else m) - (if n < m then n else m) - d * d
noncomputable def mn (m n : Int) : Int := if n < m then n else m
abbrev sm (x : Int) : Prop := 0 ≤ x ∧ x ≤ 1000000000000000000
theorem mn_sm {m n : Int} (hm : sm m) (hn : sm n) : sm (mn m n) := by unfold mn; split <;> assumption
theorem dd_bd {d : Int} (hd : bd 1000000 d) : 0 ≤ d * d ∧ d * d ≤ 1000000000000 := by
  have h1 := mul_bd (m := 1000000) (n := 1000000) hd hd (by omega) (by omega)
  have h2 := sq_nn d 0
  omega
theorem s0_eq {m n d : Int} (hm : sm m) (hn : sm n) (hd : bd 1000000 d) : atleast_s0 m n d = kk m n d := by
  have h := dd_bd hd
  unfold atleast_s0 kk
  have e : IntKind.i64.wrap (d * d) = d * d := wrI (by omega) (by omega)
  rw [e]
  have h1 : 0 ≤ (if n > m then n else m) - (if n < m then n else m) ∧ (if n > m then n else m) - (if n < m then n else m) ≤ 1000000000000000000 := by
    split <;> split <;> omega
  rw [wrI (x := (if n > m then n else m) - (if n < m then n else m)) (by omega) (by omega), wrI (by omega) (by omega)]
theorem q_eq {d : Int} (hd : bd 1000000 d) : IntKind.i64.wrap (IntKind.i64.wrap (4 * d) * d) = 4 * (d * d) := by
  have h := dd_bd hd
  rw [wrI (x := 4 * d) (by omega) (by omega), Int.mul_assoc, wrI (by omega) (by omega)]
theorem al_eq {m n d : Int} (hm : sm m) (hn : sm n) (hd : bd 1000000 d) : atleast_0 m n d = (decide (0 ≤ kk m n d) && decide (4 * (d * d) * mn m n ≤ kk m n d * kk m n d)) := by
  have h := dd_bd hd
  have hk : isI (atleast_s0 m n d) := wrap_isI _
  have hmn := mn_sm hm hn
  unfold atleast_0 atleast_s1
  rw [rcmp_eq _ _ _ _ hk hk (wrap_isI _) (show isI (if n < m then n else m) from isI_ite ⟨by omega, by omega⟩ ⟨by omega, by omega⟩), cmpI_ge, s0_eq hm hn hd, q_eq hd]
  rfl
theorem am_eq {m n d : Int} (hm : sm m) (hn : sm n) (hd : bd 1000000 d) : atmost_0 m n d = (decide (kk m n d ≤ 0) || decide (kk m n d * kk m n d ≤ 4 * (d * d) * mn m n)) := by
  have h := dd_bd hd
  have hk : isI (atmost_s0 m n d) := wrap_isI _
  have hmn := mn_sm hm hn
  have e : atmost_s0 m n d = atleast_s0 m n d := rfl
  unfold atmost_0 atmost_s1
  rw [rcmp_eq _ _ _ _ hk hk (wrap_isI _) (show isI (if n < m then n else m) from isI_ite ⟨by omega, by omega⟩ ⟨by omega, by omega⟩), cmpI_le, e, s0_eq hm hn hd, q_eq hd]
  rfl
theorem kk_mono {m n c d : Int} (h0 : 0 ≤ c) (h : c ≤ d) : kk m n d ≤ kk m n c := by
  have := Int.mul_le_mul h h h0 (by omega)
  unfold kk
  omega
theorem sq_mono {x y : Int} (h0 : 0 ≤ x) (h : x ≤ y) : x * x ≤ y * y := Int.mul_le_mul h h h0 (by omega)
theorem al_mono {m n c d : Int} (hm : sm m) (hn : sm n) (h0 : 0 ≤ c) (h : c ≤ d) (hd : d ≤ 1000000) (H : atleast_0 m n d = true) : atleast_0 m n c = true := by
  rw [al_eq hm hn ⟨by omega, by omega⟩] at H ⊢
  simp only [Bool.and_eq_true, decide_eq_true_eq] at H ⊢
  have h1 := kk_mono (m := m) (n := n) h0 h
  have h2 := sq_mono H.1 h1
  have h3 := sq_mono h0 h
  have h4 := Int.mul_le_mul_of_nonneg_right (show 4 * (c * c) ≤ 4 * (d * d) by omega) (mn_sm hm hn).1
  exact ⟨by omega, by omega⟩
theorem am_mono {m n c d : Int} (hm : sm m) (hn : sm n) (h0 : 0 ≤ c) (h : c ≤ d) (hd : d ≤ 1000000) (H : atmost_0 m n c = true) : atmost_0 m n d = true := by
  rw [am_eq hm hn ⟨by omega, by omega⟩] at H ⊢
  simp only [Bool.or_eq_true, decide_eq_true_eq] at H ⊢
  have h1 := kk_mono (m := m) (n := n) h0 h
  by_cases h5 : kk m n d ≤ 0
  · exact .inl h5
  · right
    have h2 := sq_mono (show 0 ≤ kk m n d by omega) h1
    have h3 := sq_mono h0 h
    have h4 := Int.mul_le_mul_of_nonneg_right (show 4 * (c * c) ≤ 4 * (d * d) by omega) (mn_sm hm hn).1
    rcases H with H | H
    · omega
    · omega
theorem al_zero {m n : Int} (hm : sm m) (hn : sm n) : atleast_0 m n 0 = true := by
  rw [al_eq hm hn ⟨by omega, by omega⟩]
  have h := sq_nn (kk m n 0) 0
  simp only [Bool.and_eq_true, decide_eq_true_eq]
  refine ⟨?_, by omega⟩
  unfold kk
  split <;> split <;> omega
/-- The squares of the distances of a point from two points, and from the line between them. -/
structure QP (a0 a1 a2 a3 a4 a5 y z : Int) : Prop where
  m : sm (vinner_0 (minus_0 y a4) (minus_0 z a5) (minus_0 y a4) (minus_0 z a5))
  n : sm (vinner_0 (minus_0 a0 a4) (minus_0 a1 a5) (minus_0 a0 a4) (minus_0 a1 a5))
  n' : sm (vinner_0 (minus_0 a2 a4) (minus_0 a3 a5) (minus_0 a2 a4) (minus_0 a3 a5))
theorem sq_sm {x y : Int} (hx : bd 20000000 x) (hy : bd 20000000 y) : vinner_0 x y x y = x * x + y * y ∧ sm (x * x + y * y) := by
  have h1 := mul_bd hx hx (by omega) (by omega)
  have h2 := mul_bd hy hy (by omega) (by omega)
  have h3 := sq_nn x y
  exact ⟨vinner_eq (by omega) (by omega) (by omega) (by omega), by omega, by omega⟩
theorem pt_sq {x y u v : Int} (hx : bd 10000000 x) (hy : bd 10000000 y) (hu : bd 10000000 u) (hv : bd 10000000 v) : vinner_0 (minus_0 x u) (minus_0 y v) (minus_0 x u) (minus_0 y v) = (x - u) * (x - u) + (y - v) * (y - v) ∧ sm ((x - u) * (x - u) + (y - v) * (y - v)) := by
  rw [minus_eq' hx hu, minus_eq' hy hv]
  exact sq_sm (by omega) (by omega)
theorem qp {a0 a1 a2 a3 a4 a5 y z : Int} (h0 : bd 1000000 a0) (h1 : bd 1000000 a1) (h2 : bd 1000000 a2) (h3 : bd 1000000 a3) (h4 : bd 1000000 a4) (h5 : bd 1000000 a5) (hy : bd 10000000 y) (hz : bd 10000000 z) : QP a0 a1 a2 a3 a4 a5 y z := by
  refine ⟨?_, ?_, ?_⟩
  · rw [(pt_sq hy hz (bd_up h4) (bd_up h5)).1]; exact (pt_sq hy hz (bd_up h4) (bd_up h5)).2
  · rw [(pt_sq (bd_up h0) (bd_up h1) (bd_up h4) (bd_up h5)).1]; exact (pt_sq (bd_up h0) (bd_up h1) (bd_up h4) (bd_up h5)).2
  · rw [(pt_sq (bd_up h2) (bd_up h3) (bd_up h4) (bd_up h5)).1]; exact (pt_sq (bd_up h2) (bd_up h3) (bd_up h4) (bd_up h5)).2
/-- The square of the cross product, the square of the direction. -/
noncomputable def xx (a0 a1 a2 a3 y z : Int) : Int := vcross_0 (minus_0 a2 a0) (minus_0 a3 a1) (minus_0 y a0) (minus_0 z a1)
noncomputable def tt (a0 a1 a2 a3 : Int) : Int := vinner_0 (minus_0 a2 a0) (minus_0 a3 a1) (minus_0 a2 a0) (minus_0 a3 a1)
noncomputable def ii (a0 a1 a2 a3 y z : Int) : Int := vinner_0 (minus_0 y a0) (minus_0 z a1) (minus_0 a2 a0) (minus_0 a3 a1)
theorem far_s1 {a0 a1 a2 a3 y z d : Int} (hd : bd 1000000 d) : decide (rfar_s1 a0 a1 a2 a3 y z d ≥ 0) = decide (d * d * tt a0 a1 a2 a3 ≤ xx a0 a1 a2 a3 y z * xx a0 a1 a2 a3 y z) := by
  have h := dd_bd hd
  unfold rfar_s1
  rw [rcmp_eq _ _ _ _ (vcI _ _ _ _) (vcI _ _ _ _) (wrap_isI _) (viI _ _ _ _), cmpI_ge, wrI (x := d * d) (by omega) (by omega)]
  rfl
theorem near_s1 {a0 a1 a2 a3 y z d : Int} (hd : bd 1000000 d) : decide (rnear_s1 a0 a1 a2 a3 y z d ≤ 0) = decide (xx a0 a1 a2 a3 y z * xx a0 a1 a2 a3 y z ≤ d * d * tt a0 a1 a2 a3) := by
  have h := dd_bd hd
  unfold rnear_s1
  rw [rcmp_eq _ _ _ _ (vcI _ _ _ _) (vcI _ _ _ _) (wrap_isI _) (viI _ _ _ _), cmpI_le, wrI (x := d * d) (by omega) (by omega)]
  rfl
theorem w_dd {d : Int} (hd : bd 1000000 d) : IntKind.i64.wrap (d * d) = d * d := by have h := dd_bd hd; exact wrI (by omega) (by omega)
section
variable {a0 a1 a2 a3 a4 a5 a6 : Int} {a7 : Bool} {y z c d : Int} (E : EP a0 a1 a2 a3 a4 a5 a6) (hy : bd 10000000 y) (hz : bd 10000000 z)
include E hy hz
theorem tt_nn : 0 ≤ tt a0 a1 a2 a3 := by
  unfold tt
  have := pt_sq (bd_up E.c2) (bd_up E.c3) (bd_up E.c0) (bd_up E.c1)
  rw [this.1]
  exact this.2.1
theorem rfar_mono (h0 : 0 ≤ c) (h : c ≤ d) (hd : d ≤ 1000000) (H : rfar_0 a0 a1 a2 a3 a4 a5 a6 a7 y z d = true) : rfar_0 a0 a1 a2 a3 a4 a5 a6 a7 y z c = true := by
  have hd' : bd 1000000 d := ⟨by omega, by omega⟩
  have hc' : bd 1000000 c := ⟨by omega, by omega⟩
  have h3 := sq_mono h0 h
  obtain ⟨q1, q2, q3⟩ := qp E.c0 E.c1 E.c2 E.c3 E.c4 E.c5 hy hz
  unfold rfar_0 at H ⊢
  rw [w_dd hd', far_s1 hd'] at H
  rw [w_dd hc', far_s1 hc']
  revert H
  cases !beside_0 a0 a1 a2 a3 a4 a5 a6 a7 y z <;> cases a6 == 0 <;> simp only [cond_true, cond_false, Bool.and_eq_true, decide_eq_true_eq] <;> intro H
  · rw [spoke_f, spoke_f, spoke_t, spoke_t] at H ⊢
    exact ⟨al_mono q1 q2 h0 h hd H.1, al_mono q1 q3 h0 h hd H.2⟩
  · have := Int.mul_le_mul_of_nonneg_right h3 (tt_nn E hy hz)
    omega
  · omega
  · omega
theorem rnear_mono (h0 : 0 ≤ c) (h : c ≤ d) (hd : d ≤ 1000000) (H : rnear_0 a0 a1 a2 a3 a4 a5 a6 a7 y z c = true) : rnear_0 a0 a1 a2 a3 a4 a5 a6 a7 y z d = true := by
  have hd' : bd 1000000 d := ⟨by omega, by omega⟩
  have hc' : bd 1000000 c := ⟨by omega, by omega⟩
  have h3 := sq_mono h0 h
  obtain ⟨q1, q2, q3⟩ := qp E.c0 E.c1 E.c2 E.c3 E.c4 E.c5 hy hz
  unfold rnear_0 at H ⊢
  rw [w_dd hd', near_s1 hd']
  rw [w_dd hc', near_s1 hc'] at H
  revert H
  cases !beside_0 a0 a1 a2 a3 a4 a5 a6 a7 y z <;> cases a6 == 0 <;> simp only [cond_true, cond_false, Bool.and_eq_true, decide_eq_true_eq] <;> intro H
  · rw [spoke_f, spoke_f, spoke_t, spoke_t] at H ⊢
    exact ⟨am_mono q1 q2 h0 h hd H.1, am_mono q1 q3 h0 h hd H.2⟩
  · have := Int.mul_le_mul_of_nonneg_right h3 (tt_nn E hy hz)
    omega
  · omega
  · omega
theorem rfar_zero : rfar_0 a0 a1 a2 a3 a4 a5 a6 a7 y z 0 = true := by
  obtain ⟨q1, q2, q3⟩ := qp E.c0 E.c1 E.c2 E.c3 E.c4 E.c5 hy hz
  unfold rfar_0
  rw [w_dd (by decide), far_s1 (by decide)]
  have h1 := sq_nn (xx a0 a1 a2 a3 y z) 0
  cases !beside_0 a0 a1 a2 a3 a4 a5 a6 a7 y z <;> cases a6 == 0 <;> simp only [cond_true, cond_false, Bool.and_eq_true, decide_eq_true_eq]
  · rw [spoke_f, spoke_f, spoke_t, spoke_t]
    exact ⟨al_zero q1 q2, al_zero q1 q3⟩
  · omega
  · unfold rfar_s0
    rw [(pt_sq hy hz (bd_up E.c0) (bd_up E.c1)).1, (pt_sq hy hz (bd_up E.c2) (bd_up E.c3)).1]
    have := (pt_sq hy hz (bd_up E.c0) (bd_up E.c1)).2
    have := (pt_sq hy hz (bd_up E.c2) (bd_up E.c3)).2
    split <;> omega
  · unfold rfar_s0
    rw [(pt_sq hy hz (bd_up E.c0) (bd_up E.c1)).1, (pt_sq hy hz (bd_up E.c2) (bd_up E.c3)).1]
    have := (pt_sq hy hz (bd_up E.c0) (bd_up E.c1)).2
    have := (pt_sq hy hz (bd_up E.c2) (bd_up E.c3)).2
    split <;> omega
theorem far_or_near (h6 : a6 = 0) (hc : bd 1000000 c) : rfar_0 a0 a1 a2 a3 a4 a5 a6 a7 y z c = true ∨ rnear_0 a0 a1 a2 a3 a4 a5 a6 a7 y z c = true := by
  unfold rfar_0 rnear_0
  rw [w_dd hc, far_s1 hc, near_s1 hc, show (a6 == 0) = true by simpa using h6]
  have e : rnear_s0 a0 a1 a2 a3 y z = rfar_s0 a0 a1 a2 a3 y z := rfl
  rw [e]
  cases !beside_0 a0 a1 a2 a3 a4 a5 a6 a7 y z <;> simp only [cond_true, cond_false, decide_eq_true_eq] <;> omega
theorem not_both (h6 : a6 = 0) (h0 : 0 ≤ c) (h : c < d) (hd : d ≤ 1000000) : ¬ (rnear_0 a0 a1 a2 a3 a4 a5 a6 a7 y z c = true ∧ rfar_0 a0 a1 a2 a3 a4 a5 a6 a7 y z d = true) := by
  have hd' : bd 1000000 d := ⟨by omega, by omega⟩
  have hc' : bd 1000000 c := ⟨by omega, by omega⟩
  have h3 : c * c < d * d := Int.lt_of_le_of_lt (Int.mul_le_mul_of_nonneg_left (Int.le_of_lt h) h0) (Int.mul_lt_mul_of_pos_right h (by omega))
  unfold rfar_0 rnear_0
  rw [w_dd hc', w_dd hd', far_s1 hd', near_s1 hc', show (a6 == 0) = true by simpa using h6]
  have e : rnear_s0 a0 a1 a2 a3 y z = rfar_s0 a0 a1 a2 a3 y z := rfl
  rw [e]
  cases hb : beside_0 a0 a1 a2 a3 a4 a5 a6 a7 y z <;> simp only [cond_true, cond_false, Bool.not_true, Bool.not_false, decide_eq_true_eq]
  · omega
  · rintro ⟨h1, h2⟩
    have ht : 0 < tt a0 a1 a2 a3 := by
      rw [beside_eq E hy hz] at hb
      unfold isB isS at hb
      rw [show (a6 != 0) = false by simpa using h6, show (a6 == 0) = true by simpa using h6] at hb
      simp only [Bool.false_and, Bool.false_or, Bool.true_and, Bool.and_eq_true, decide_eq_true_eq] at hb
      unfold tt
      omega
    have := Int.mul_lt_mul_of_pos_right h3 ht
    omega
/-- A point is far or near; both hold for at most some distances; far points stay far for less. -/
theorem decides_law (h0 : 0 ≤ c) (h : c ≤ d) (hd : d ≤ 1000000) :
    (!(rfar_0 a0 a1 a2 a3 a4 a5 a6 a7 y z d && !rfar_0 a0 a1 a2 a3 a4 a5 a6 a7 y z c || rnear_0 a0 a1 a2 a3 a4 a5 a6 a7 y z c && !rnear_0 a0 a1 a2 a3 a4 a5 a6 a7 y z d || !rfar_0 a0 a1 a2 a3 a4 a5 a6 a7 y z 0)) = true ∧
    (a6 != 0 || (rfar_0 a0 a1 a2 a3 a4 a5 a6 a7 y z c || rnear_0 a0 a1 a2 a3 a4 a5 a6 a7 y z c) && (c == d || !(rnear_0 a0 a1 a2 a3 a4 a5 a6 a7 y z c && rfar_0 a0 a1 a2 a3 a4 a5 a6 a7 y z d))) = true := by
  have m1 := rfar_mono (a7 := a7) E hy hz h0 h hd
  have m2 := rnear_mono (a7 := a7) E hy hz h0 h hd
  have m3 := rfar_zero (a7 := a7) E hy hz
  have m4 := far_or_near (a7 := a7) (c := c) E hy hz
  have m5 := not_both (a7 := a7) (c := c) (d := d) E hy hz
  generalize rfar_0 a0 a1 a2 a3 a4 a5 a6 a7 y z d = b at *
  generalize rfar_0 a0 a1 a2 a3 a4 a5 a6 a7 y z c = a at *
  generalize rnear_0 a0 a1 a2 a3 a4 a5 a6 a7 y z d = v at *
  generalize rnear_0 a0 a1 a2 a3 a4 a5 a6 a7 y z c = u at *
  rw [m3]
  constructor
  · revert m1 m2; cases a <;> cases b <;> cases u <;> cases v <;> simp
  · by_cases h6 : a6 = 0
    · have m4' := m4 h6 ⟨by omega, by omega⟩
      rw [show (a6 != 0) = false by simpa using h6]
      by_cases h7 : c = d
      · rw [show (c == d) = true by simpa using h7]
        revert m4'; cases a <;> cases u <;> simp
      · have m5' := m5 h6 h0 (by omega) hd
        rw [show (c == d) = false by simpa using h7]
        revert m4' m5'; cases a <;> cases u <;> cases b <;> simp
    · rw [show (a6 != 0) = true by simpa using h6]; rfl
end
end Go.Proofs.Ythgiaoidekdpfaa
