/-
  ENDS of an element's offset, where there is no error. Conditions: none.
-/
import Derived.Test.YthgiaoidekdpfaaGreatO1
set_option linter.all false
namespace Go.Proofs.YthgiaoidekdpfaaGreat
open Go.SX Go.RowKit
theorem four_ok {a b c d : Bool} (h : (bif !a then (3 : Int) else bif !b then 3 else bif !c then 3 else bif !d then 3 else 0) = 0) : a = true ∧ b = true ∧ c = true ∧ d = true := by
  cases a <;> cases b <;> cases c <;> cases d <;> first | exact ⟨rfl, rfl, rfl, rfl⟩ | exact absurd h (by decide)
theorem ends_ok (e0 e1 e2 e3 e4 e5 e6 r : Int) (h : oends_4 e0 e1 e2 e3 e4 e5 e6 r = 0) :
    oends_0 e0 e1 e2 e3 e4 e5 e6 r = oends_s1 e0 e1 e2 e3 e4 e5 e6 r ∧ oends_1 e0 e1 e2 e3 e4 e5 e6 r = oends_s3 e0 e1 e2 e3 e4 e5 e6 r ∧
    oends_2 e0 e1 e2 e3 e4 e5 e6 r = oends_s5 e0 e1 e2 e3 e4 e5 e6 r ∧ oends_3 e0 e1 e2 e3 e4 e5 e6 r = oends_s7 e0 e1 e2 e3 e4 e5 e6 r ∧
    oin_0 (oends_s1 e0 e1 e2 e3 e4 e5 e6 r) 1048576 = true ∧ oin_0 (oends_s3 e0 e1 e2 e3 e4 e5 e6 r) 1048576 = true ∧ oin_0 (oends_s5 e0 e1 e2 e3 e4 e5 e6 r) 1048576 = true ∧ oin_0 (oends_s7 e0 e1 e2 e3 e4 e5 e6 r) 1048576 = true := by
  have key : oends_s9 e0 e1 e2 e3 e4 e5 e6 r = 0 → oends_s2 e0 e1 e2 e3 e4 e5 e6 r = oends_s1 e0 e1 e2 e3 e4 e5 e6 r ∧ oends_s4 e0 e1 e2 e3 e4 e5 e6 r = oends_s3 e0 e1 e2 e3 e4 e5 e6 r ∧
      oends_s6 e0 e1 e2 e3 e4 e5 e6 r = oends_s5 e0 e1 e2 e3 e4 e5 e6 r ∧ oends_s8 e0 e1 e2 e3 e4 e5 e6 r = oends_s7 e0 e1 e2 e3 e4 e5 e6 r ∧
      oin_0 (oends_s1 e0 e1 e2 e3 e4 e5 e6 r) 1048576 = true ∧ oin_0 (oends_s3 e0 e1 e2 e3 e4 e5 e6 r) 1048576 = true ∧ oin_0 (oends_s5 e0 e1 e2 e3 e4 e5 e6 r) 1048576 = true ∧ oin_0 (oends_s7 e0 e1 e2 e3 e4 e5 e6 r) 1048576 = true := by
    intro h
    obtain ⟨h1, h2, h3, h4⟩ := four_ok (show (bif !oin_0 (oends_s1 e0 e1 e2 e3 e4 e5 e6 r) 1048576 then (3 : Int) else bif !oin_0 (oends_s3 e0 e1 e2 e3 e4 e5 e6 r) 1048576 then 3 else bif !oin_0 (oends_s5 e0 e1 e2 e3 e4 e5 e6 r) 1048576 then 3 else bif !oin_0 (oends_s7 e0 e1 e2 e3 e4 e5 e6 r) 1048576 then 3 else 0) = 0 from h)
    have e (a : Int) : (bif !oin_0 (oends_s1 e0 e1 e2 e3 e4 e5 e6 r) 1048576 then (0 : Int) else bif !oin_0 (oends_s3 e0 e1 e2 e3 e4 e5 e6 r) 1048576 then 0 else bif !oin_0 (oends_s5 e0 e1 e2 e3 e4 e5 e6 r) 1048576 then 0 else bif !oin_0 (oends_s7 e0 e1 e2 e3 e4 e5 e6 r) 1048576 then 0 else a) = a := by rw [h1, h2, h3, h4]; rfl
    exact ⟨e _, e _, e _, e _, h1, h2, h3, h4⟩
  unfold oends_4 at h
  unfold oends_0 oends_1 oends_2 oends_3
  generalize (e6 != 0 && oinward_0 e6 r) = b1 at h ⊢
  generalize decide (vinner_0 (minus_0 e0 e4) (minus_0 e1 e5) (minus_0 e0 e4) (minus_0 e1 e5) < IntKind.i64.wrap (oends_s0 r * oends_s0 r)) = b2 at h ⊢
  generalize decide (vinner_0 (minus_0 e2 e4) (minus_0 e3 e5) (minus_0 e2 e4) (minus_0 e3 e5) < IntKind.i64.wrap (oends_s0 r * oends_s0 r)) = b3 at h ⊢
  cases b1
  · exact key h
  · cases b2
    · cases b3
      · exact key h
      · exact absurd h (by show ¬ (16 : Int) = 0; decide)
    · exact absurd h (by show ¬ (16 : Int) = 0; decide)
theorem oin_bd {n m : Int} (hm : 0 ≤ m) (hm2 : m ≤ 1000000000) : oin_0 n m = true ↔ bd m n := by
  unfold oin_0
  rw [wrI (by omega) (by omega)]
  simp only [Bool.and_eq_true, decide_eq_true_eq]
  omega
/-- A straight piece's directions. -/
theorem line_ends {x y u v r : Int} (hx : bd 1048576 x) (hy : bd 1048576 y) (hu : bd 1048576 u) (hv : bd 1048576 v) :
    oends_s1 x y u v 0 0 0 r = onormal_0 x y (u - x) (v - y) r ∧ oends_s3 x y u v 0 0 0 r = onormal_1 x y (u - x) (v - y) r ∧
    oends_s5 x y u v 0 0 0 r = onormal_0 u v (u - x) (v - y) r ∧ oends_s7 x y u v 0 0 0 r = onormal_1 u v (u - x) (v - y) r := by
  have e0 : IntKind.i64.wrap (u - x) = u - x := wrI (by omega) (by omega)
  have e1 : IntKind.i64.wrap (v - y) = v - y := wrI (by omega) (by omega)
  have a0 : ∀ b, atang_0 (oitem_0 0) x y 0 u v 0 17 (oitem_1 0 0) (oitem_1 0 0) 0 (oitem_3 0) b = u - x := fun b => by show IntKind.i64.wrap (u - x) = _; exact e0
  have a1 : ∀ b, atang_1 (oitem_0 0) x y 0 u v 0 17 (oitem_1 0 0) (oitem_1 0 0) 0 (oitem_3 0) b = v - y := fun b => by show IntKind.i64.wrap (v - y) = _; exact e1
  unfold oends_s1 oends_s3 oends_s5 oends_s7
  rw [a0, a1, a0, a1]
  exact ⟨rfl, rfl, rfl, rfl⟩
theorem norm0 {p0 p1 t0 t1 : Int} (h0 : t0 ≠ 0 ∨ t1 ≠ 0) (h1 : bd 4194304 t0) (h2 : bd 4194304 t1) (h3 : bd 1048576 p0) (h4 : bd 1048576 p1) : onormal_0 p0 p1 t0 t1 0 = p0 ∧ onormal_1 p0 p1 t0 t1 0 = p1 := by
  obtain ⟨a, b, _, _, _, h5, h6⟩ := normal_val (r := 0) h0 h1 h2 h3 h4 (by omega)
  have q0 := mul_bd (m := 4194304) (n := 4194304) h1 h1 (by omega) (by omega)
  have z0 : bd 0 (wOver_0 (-t1) 0 (t0 * t0 + t1 * t1) 2) := over_bd (by omega) (by omega) (by omega) (by omega) ⟨h5, by omega⟩ (by
    have := sq_nn1 t0
    have e : -t1 * -t1 = t1 * t1 := by grind
    rw [e]; omega)
  have z1 : bd 0 (wOver_0 t0 0 (t0 * t0 + t1 * t1) 2) := over_bd (by omega) (by omega) (by omega) (by omega) ⟨h5, by omega⟩ (by have := sq_nn1 t1; omega)
  rw [a, b]
  omega
end Go.Proofs.YthgiaoidekdpfaaGreat
