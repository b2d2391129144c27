/-
  ARCS, plain laws: Offset. Conditions: none.
-/
import Derived.Test.YtkggdhnliiagjaaV3
set_option linter.all false
namespace Go.Proofs.Ytkggdhnliiagjaa
open Go.SX Go.RowKit
abbrev co (x : Int) : Prop := -1048576 ≤ x ∧ x ≤ 1048576
theorem vw_iff {a b c : Int} : vwithin_0 a b c = true ↔ co a ∧ co b ∧ co c := by
  unfold vwithin_0
  simp only [Bool.and_eq_true, decide_eq_true_eq]
  omega
theorem vw_not {a b c : Int} : vwithin_0 a b c = false ↔ ¬ (co a ∧ co b ∧ co c) := by
  rw [← vw_iff]; simp
theorem rs_iff {a b c : Int} : rsmall_0 a b c = true ↔ bd 4194304 a ∧ bd 4194304 b ∧ bd 4194304 c := by
  unfold rsmall_0
  simp only [Bool.and_eq_true, decide_eq_true_eq]
  omega
theorem plane_or (p : Int) : p = 17 ∨ p = 18 ∨ p = 19 ∨ (p ≠ 17 ∧ p ≠ 18 ∧ p ≠ 19) := by omega
theorem f17 (a b c : Int) : flat_0 17 a b c = a ∧ flat_1 17 a b c = b ∧ flat_2 17 a b c = c := ⟨rfl, rfl, rfl⟩
theorem f18 (a b c : Int) : flat_0 18 a b c = c ∧ flat_1 18 a b c = a ∧ flat_2 18 a b c = b := ⟨rfl, rfl, rfl⟩
theorem f19 (a b c : Int) : flat_0 19 a b c = b ∧ flat_1 19 a b c = c ∧ flat_2 19 a b c = a := ⟨rfl, rfl, rfl⟩
theorem s17 (u w h : Int) : solid_0 17 u w h = u ∧ solid_1 17 u w h = w ∧ solid_2 17 u w h = h := ⟨rfl, rfl, rfl⟩
theorem s18 (u w h : Int) : solid_0 18 u w h = w ∧ solid_1 18 u w h = h ∧ solid_2 18 u w h = u := ⟨rfl, rfl, rfl⟩
theorem s19 (u w h : Int) : solid_0 19 u w h = h ∧ solid_1 19 u w h = u ∧ solid_2 19 u w h = w := ⟨rfl, rfl, rfl⟩
theorem no_plane {p : Int} (h : p ≠ 17 ∧ p ≠ 18 ∧ p ≠ 19) : flat_3 p = false ∧ rplane_0 p = false := by
  unfold flat_3 rplane_0
  simp [h.1, h.2.1, h.2.2]
theorem is_plane {p : Int} (h : p = 17 ∨ p = 18 ∨ p = 19) : flat_3 p = true ∧ rplane_0 p = true := by
  rcases h with rfl | rfl | rfl <;> exact ⟨rfl, rfl⟩
theorem plane_eq (p : Int) : rplane_0 p = flat_3 p := by
  unfold flat_3 rplane_0
  rw [Bool.or_assoc]
/-- The displaced point: which are accepted. x, y: in the plane; z: the height. -/
theorem off_core {a b i j : Int} (ha : co a) (hb : co b) :
    (decide (i < -2097152) || decide (i > 2097152) || decide (j < -2097152) || decide (j > 2097152)) = true → bd 4194304 i → bd 4194304 j → ¬ (co (IntKind.i64.wrap (a + i)) ∧ co (IntKind.i64.wrap (b + j))) := by
  intro h hi hj
  simp only [Bool.or_eq_true, decide_eq_true_eq] at h
  rw [wrI (x := a + i) (by omega) (by omega), wrI (x := b + j) (by omega) (by omega)]
  omega
theorem off_core2 {i j : Int} : (decide (i < -2097152) || decide (i > 2097152) || decide (j < -2097152) || decide (j > 2097152)) = false → bd 4194304 i ∧ bd 4194304 j := by
  intro h
  simp only [Bool.or_eq_false_iff, decide_eq_false_iff_not] at h
  omega
theorem wr_co {x : Int} (h : co x) : IntKind.i64.wrap x = x := wrI (by omega) (by omega)
theorem offset_same (p a b c i j k : Int) : aoffset_0 p a b c i j k = roffset_0 p a b c i j k ∧ aoffset_1 p a b c i j k = roffset_1 p a b c i j k ∧ aoffset_2 p a b c i j k = roffset_2 p a b c i j k ∧ aoffset_3 p a b c i j k = roffset_3 p a b c i j k := by
  unfold aoffset_0 aoffset_1 aoffset_2 aoffset_3 roffset_0 roffset_1 roffset_2 roffset_3 acenter_0 acenter_1 acenter_2 acenter_3
  rw [plane_eq]
  cases hv : vwithin_0 a b c
  · simp only [Bool.not_false, Bool.or_true, cond_true, and_self]
  · obtain ⟨ha, hb, hc⟩ := vw_iff.1 hv
    rcases plane_or p with rfl | rfl | rfl | hp
    · simp only [f17, s17, (is_plane (p := 17) (by omega)).1, Bool.not_true, Bool.or_self, cond_false, addpt_0]
      by_cases hk : k = 0
      · subst hk
        simp only [bne_self_eq_false, cond_false, Int.add_zero, wr_co hc]
        cases hr : (decide (i < -2097152) || decide (i > 2097152) || decide (j < -2097152) || decide (j > 2097152))
        · obtain ⟨h1, h2⟩ := off_core2 hr
          have hs : rsmall_0 i j 0 = true := rs_iff.2 ⟨h1, h2, by decide⟩
          simp only [hs, Bool.not_true, cond_false, and_self]
        · cases hs : rsmall_0 i j 0
          · simp only [Bool.not_false, cond_true, and_self]
          · obtain ⟨h1, h2, h3⟩ := rs_iff.1 hs
            have hw : vwithin_0 (IntKind.i64.wrap (a + i)) (IntKind.i64.wrap (b + j)) c = false := vw_not.2 fun g => off_core ha hb hr h1 h2 ⟨g.1, g.2.1⟩
            simp only [hw, Bool.not_true, Bool.not_false, cond_true, cond_false, and_self]
      · have : (k != 0) = true := by simpa using hk
        simp only [this, cond_true, and_self]
    · simp only [f18, s18, (is_plane (p := 18) (by omega)).1, Bool.not_true, Bool.or_self, cond_false, addpt_0]
      by_cases hk : j = 0
      · subst hk
        simp only [bne_self_eq_false, cond_false, Int.add_zero, wr_co hb]
        cases hr : (decide (k < -2097152) || decide (k > 2097152) || decide (i < -2097152) || decide (i > 2097152))
        · obtain ⟨h1, h2⟩ := off_core2 hr
          have hs : rsmall_0 i 0 k = true := rs_iff.2 ⟨h2, by decide, h1⟩
          simp only [hs, Bool.not_true, cond_false, and_self]
        · cases hs : rsmall_0 i 0 k
          · simp only [Bool.not_false, cond_true, and_self]
          · obtain ⟨h1, h2, h3⟩ := rs_iff.1 hs
            have hw : vwithin_0 (IntKind.i64.wrap (a + i)) b (IntKind.i64.wrap (c + k)) = false := vw_not.2 fun g => off_core hc ha hr h3 h1 ⟨g.2.2, g.1⟩
            simp only [hw, Bool.not_true, Bool.not_false, cond_true, cond_false, and_self]
      · have : (j != 0) = true := by simpa using hk
        simp only [this, cond_true, and_self]
    · simp only [f19, s19, (is_plane (p := 19) (by omega)).1, Bool.not_true, Bool.or_self, cond_false, addpt_0]
      by_cases hk : i = 0
      · subst hk
        simp only [bne_self_eq_false, cond_false, Int.add_zero, wr_co ha]
        cases hr : (decide (j < -2097152) || decide (j > 2097152) || decide (k < -2097152) || decide (k > 2097152))
        · obtain ⟨h1, h2⟩ := off_core2 hr
          have hs : rsmall_0 0 j k = true := rs_iff.2 ⟨by decide, h1, h2⟩
          simp only [hs, Bool.not_true, cond_false, and_self]
        · cases hs : rsmall_0 0 j k
          · simp only [Bool.not_false, cond_true, and_self]
          · obtain ⟨h1, h2, h3⟩ := rs_iff.1 hs
            have hw : vwithin_0 a (IntKind.i64.wrap (b + j)) (IntKind.i64.wrap (c + k)) = false := vw_not.2 fun g => off_core hb hc hr h2 h3 ⟨g.2.1, g.2.2⟩
            simp only [hw, Bool.not_true, Bool.not_false, cond_true, cond_false, and_self]
      · have : (i != 0) = true := by simpa using hk
        simp only [this, cond_true, and_self]
    · rw [(no_plane hp).1]
      simp only [Bool.not_false, Bool.true_or, cond_true, and_self]
end Go.Proofs.Ytkggdhnliiagjaa
