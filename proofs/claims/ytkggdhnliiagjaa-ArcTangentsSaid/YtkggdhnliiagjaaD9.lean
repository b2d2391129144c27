/-
  ITEMS that are made: those that are arcs. Conditions: bounds of the beginning.
-/
import Derived.Test.YtkggdhnliiagjaaG3
import Derived.Test.YtkggdhnliiagjaaD8
set_option linter.all false
namespace Go.Proofs.Ytkggdhnliiagjaa
open Go.SX Go.RowKit
theorem condS {α : Type} {b : Bool} (x y : α) (h : b = true) : (bif b then x else y) = x := by rw [h]; rfl
theorem condF {α : Type} {b : Bool} (x y : α) (h : b = false) : (bif b then x else y) = y := by rw [h]; rfl
theorem item_arc {x y z a : Int} {L : List (List Int)} (hx : bd 4000 x) (hy : bd 4000 y) (hz : bd 4000 z) (hk : item_0 a L = 3) :
    ∃ A0 A1 B0 B1 C0 C1 h k, ArcI (item_2 x a L) (item_2 y a L) (item_2 z a L) (item_5 x a L) (item_6 y a L) (item_7 z a L) (item_8 a L) (item_9 x a L) (item_10 y a L) (item_11 z a L) A0 A1 B0 B1 C0 C1 h k ∧ ArcG (item_8 a L) A0 A1 B0 B1 C0 C1 h k (item_12 a L) (item_13 a L) := by
  have c0 : (next_0 14 (next_1 a L) L == 0) = false := by
    cases h : (next_0 14 (next_1 a L) L == 0)
    · rfl
    · exfalso; unfold item_0 at hk; rw [h] at hk; cases hk
  have c1 : (bif item_s0 a L then item_s0 a L else bif item_s1 a L then item_s1 a L else bif item_s2 a L then item_s2 a L else next_0 14 (next_1 a L) L == 4) = false := by
    cases h : (bif item_s0 a L then item_s0 a L else bif item_s1 a L then item_s1 a L else bif item_s2 a L then item_s2 a L else next_0 14 (next_1 a L) L == 4)
    · rfl
    · exfalso; unfold item_0 at hk; rw [c0, h] at hk; cases hk
  have c2 : (bif item_s3 a L then item_s3 a L else next_0 14 (next_1 a L) L == 6) = true := by
    cases h : (bif item_s3 a L then item_s3 a L else next_0 14 (next_1 a L) L == 6)
    · exfalso
      unfold item_0 at hk
      rw [c0, c1, h] at hk
      simp only [cond_false] at hk
      generalize (next_0 14 (next_1 a L) L == 7) = b1 at hk
      generalize (next_0 14 (next_1 a L) L == 8) = b2 at hk
      generalize (next_0 14 (next_1 a L) L == 9) = b3 at hk
      generalize (next_0 14 (next_1 a L) L == 10) = b4 at hk
      generalize (next_0 14 (next_1 a L) L == 11) = b5 at hk
      generalize (next_0 14 (next_1 a L) L == 12) = b6 at hk
      generalize (next_0 3 (next_1 (next_1 a L) L) L).toNat.beq 0 = b7 at hk
      generalize (next_0 3 (next_1 (next_1 a L) L) L).toNat.beq 1 = b8 at hk
      revert hk b1 b2 b3 b4 b5 b6 b7 b8
      decide
    · rfl
  unfold item_2 item_5 item_6 item_7 item_8 item_9 item_10 item_11 item_12 item_13
  rw [c0, c1, c2]
  simp only [cond_false, cond_true, Bool.true_and]
  have I := arc_i (next_1 (next_1 a L) L) L
  have G := arc_g (next_1 (next_1 a L) L) L
  generalize next_1 (next_1 a L) L = b at *
  clear c0 c1 c2 hk
  obtain ⟨g1, g2, g3, g4, g5, g6, g7, g8, g9, gd, gf⟩ := G
  have e9 : range_0 17 19 b L = aP b L := rfl
  rw [e9] at I ⊢
  generalize aP b L = p at *
  generalize aA0 b L = A0 at *
  generalize aA1 b L = A1 at *
  generalize aB0 b L = B0 at *
  generalize aB1 b L = B1 at *
  generalize aC0 b L = C0 at *
  generalize aC1 b L = C1 at *
  obtain ⟨i1, i2, i3, i4, i5, i6⟩ := I
  rw [vw_iff] at i4 i5 i6
  have hh : bd 500 (aH b L) := range_rng _ _ _ _ (by omega) (by omega) (by omega)
  have kk : bd 500 (aK b L) := range_rng _ _ _ _ (by omega) (by omega) (by omega)
  generalize aH b L = h at *
  generalize aK b L = k at *
  generalize arc_0 b L = f0 at *
  generalize arc_1 b L = f1 at *
  generalize arc_2 b L = f2 at *
  generalize arc_3 b L = t0 at *
  generalize arc_4 b L = t1 at *
  generalize arc_5 b L = t2 at *
  generalize arc_6 b L = k0 at *
  generalize arc_7 b L = k1 at *
  generalize arc_8 b L = k2 at *
  have ad : ∀ {u v w : Int}, co u → co v → bd 4000 w → addpt_0 u (minus_0 w v) = u + (w - v) := fun {u v w} h1 h2 h3 => by
    rw [minus_eq (by omega) (by omega), addpt_eq (by omega) (by omega)]
  rw [ad i5.1 i4.1 hx, ad i5.2.1 i4.2.1 hy, ad i5.2.2 i4.2.2 hz, ad i6.1 i4.1 hx, ad i6.2.1 i4.2.1 hy, ad i6.2.2 i4.2.2 hz]
  rcases g1 with rfl | rfl | rfl
  · obtain ⟨a1, a2, a3⟩ := i1
    obtain ⟨b1, b2, b3⟩ := i2
    obtain ⟨d1, d2, d3⟩ := i3
    have a1' : f0 = C0 + A0 := a1
    have a2' : f1 = C1 + A1 := a2
    have a3' : f2 = h := a3
    have b1' : t0 = C0 + B0 := b1
    have b2' : t1 = C1 + B1 := b2
    have b3' : t2 = k := b3
    have d1' : k0 = C0 := d1
    have d2' : k1 = C1 := d2
    have d3' : k2 = h := d3
    refine ⟨A0, A1, B0, B1, x - A0, y - A1, z, k + (z - h), ⟨?_, ?_, ?_, ?_, ?_, ?_⟩, ⟨by omega, g2, g3, g4, g5, by omega, by omega, by omega, by omega, gd, gf⟩⟩
    · exact ⟨show x = _ by omega, show y = _ by omega, rfl⟩
    · exact ⟨show t0 + (x - f0) = _ by omega, show t1 + (y - f1) = _ by omega, show t2 + (z - f2) = _ by omega⟩
    · exact ⟨show k0 + (x - f0) = _ by omega, show k1 + (y - f1) = _ by omega, show k2 + (z - f2) = _ by omega⟩
    · rw [vw_iff]; omega
    · rw [vw_iff]; omega
    · rw [vw_iff]; omega
  · obtain ⟨a1, a2, a3⟩ := i1
    obtain ⟨b1, b2, b3⟩ := i2
    obtain ⟨d1, d2, d3⟩ := i3
    have a1' : f2 = C0 + A0 := a1
    have a2' : f0 = C1 + A1 := a2
    have a3' : f1 = h := a3
    have b1' : t2 = C0 + B0 := b1
    have b2' : t0 = C1 + B1 := b2
    have b3' : t1 = k := b3
    have d1' : k2 = C0 := d1
    have d2' : k0 = C1 := d2
    have d3' : k1 = h := d3
    refine ⟨A0, A1, B0, B1, z - A0, x - A1, y, k + (y - h), ⟨?_, ?_, ?_, ?_, ?_, ?_⟩, ⟨by omega, g2, g3, g4, g5, by omega, by omega, by omega, by omega, gd, gf⟩⟩
    · exact ⟨show z = _ by omega, show x = _ by omega, rfl⟩
    · exact ⟨show t2 + (z - f2) = _ by omega, show t0 + (x - f0) = _ by omega, show t1 + (y - f1) = _ by omega⟩
    · exact ⟨show k2 + (z - f2) = _ by omega, show k0 + (x - f0) = _ by omega, show k1 + (y - f1) = _ by omega⟩
    · rw [vw_iff]; omega
    · rw [vw_iff]; omega
    · rw [vw_iff]; omega
  · obtain ⟨a1, a2, a3⟩ := i1
    obtain ⟨b1, b2, b3⟩ := i2
    obtain ⟨d1, d2, d3⟩ := i3
    have a1' : f1 = C0 + A0 := a1
    have a2' : f2 = C1 + A1 := a2
    have a3' : f0 = h := a3
    have b1' : t1 = C0 + B0 := b1
    have b2' : t2 = C1 + B1 := b2
    have b3' : t0 = k := b3
    have d1' : k1 = C0 := d1
    have d2' : k2 = C1 := d2
    have d3' : k0 = h := d3
    refine ⟨A0, A1, B0, B1, y - A0, z - A1, x, k + (x - h), ⟨?_, ?_, ?_, ?_, ?_, ?_⟩, ⟨by omega, g2, g3, g4, g5, by omega, by omega, by omega, by omega, gd, gf⟩⟩
    · exact ⟨show y = _ by omega, show z = _ by omega, rfl⟩
    · exact ⟨show t1 + (y - f1) = _ by omega, show t2 + (z - f2) = _ by omega, show t0 + (x - f0) = _ by omega⟩
    · exact ⟨show k1 + (y - f1) = _ by omega, show k2 + (z - f2) = _ by omega, show k0 + (x - f0) = _ by omega⟩
    · rw [vw_iff]; omega
    · rw [vw_iff]; omega
    · rw [vw_iff]; omega
theorem item_same {x y z a : Int} {L : List (List Int)} (hx : bd 4000 x) (hy : bd 4000 y) (hz : bd 4000 z) :
    (∀ e, atang_0 (item_0 a L) (item_2 x a L) (item_2 y a L) (item_2 z a L) (item_5 x a L) (item_6 y a L) (item_7 z a L) (item_8 a L) (item_9 x a L) (item_10 y a L) (item_11 z a L) (item_12 a L) e = rtang_0 (item_0 a L) (item_2 x a L) (item_2 y a L) (item_2 z a L) (item_5 x a L) (item_6 y a L) (item_7 z a L) (item_8 a L) (item_9 x a L) (item_10 y a L) (item_11 z a L) (item_12 a L) e ∧ atang_1 (item_0 a L) (item_2 x a L) (item_2 y a L) (item_2 z a L) (item_5 x a L) (item_6 y a L) (item_7 z a L) (item_8 a L) (item_9 x a L) (item_10 y a L) (item_11 z a L) (item_12 a L) e = rtang_1 (item_0 a L) (item_2 x a L) (item_2 y a L) (item_2 z a L) (item_5 x a L) (item_6 y a L) (item_7 z a L) (item_8 a L) (item_9 x a L) (item_10 y a L) (item_11 z a L) (item_12 a L) e) ∧
    aext_0 (item_0 a L) (item_2 x a L) (item_2 y a L) (item_2 z a L) (item_5 x a L) (item_6 y a L) (item_7 z a L) (item_8 a L) (item_9 x a L) (item_10 y a L) (item_11 z a L) (item_12 a L) (item_13 a L) = rext_0 (item_0 a L) (item_2 x a L) (item_2 y a L) (item_2 z a L) (item_5 x a L) (item_6 y a L) (item_7 z a L) (item_8 a L) (item_9 x a L) (item_10 y a L) (item_11 z a L) (item_12 a L) (item_13 a L) ∧ aext_1 (item_0 a L) (item_2 x a L) (item_2 y a L) (item_2 z a L) (item_5 x a L) (item_6 y a L) (item_7 z a L) (item_8 a L) (item_9 x a L) (item_10 y a L) (item_11 z a L) (item_12 a L) (item_13 a L) = rext_1 (item_0 a L) (item_2 x a L) (item_2 y a L) (item_2 z a L) (item_5 x a L) (item_6 y a L) (item_7 z a L) (item_8 a L) (item_9 x a L) (item_10 y a L) (item_11 z a L) (item_12 a L) (item_13 a L) ∧ aext_2 (item_0 a L) (item_2 x a L) (item_2 y a L) (item_2 z a L) (item_5 x a L) (item_6 y a L) (item_7 z a L) (item_8 a L) (item_9 x a L) (item_10 y a L) (item_11 z a L) (item_12 a L) (item_13 a L) = rext_2 (item_0 a L) (item_2 x a L) (item_2 y a L) (item_2 z a L) (item_5 x a L) (item_6 y a L) (item_7 z a L) (item_8 a L) (item_9 x a L) (item_10 y a L) (item_11 z a L) (item_12 a L) (item_13 a L) ∧ aext_3 (item_0 a L) (item_2 x a L) (item_2 y a L) (item_2 z a L) (item_5 x a L) (item_6 y a L) (item_7 z a L) (item_8 a L) (item_9 x a L) (item_10 y a L) (item_11 z a L) (item_12 a L) (item_13 a L) = rext_3 (item_0 a L) (item_2 x a L) (item_2 y a L) (item_2 z a L) (item_5 x a L) (item_6 y a L) (item_7 z a L) (item_8 a L) (item_9 x a L) (item_10 y a L) (item_11 z a L) (item_12 a L) (item_13 a L) ∧ aext_4 (item_0 a L) (item_2 x a L) (item_2 y a L) (item_2 z a L) (item_5 x a L) (item_6 y a L) (item_7 z a L) (item_8 a L) (item_9 x a L) (item_10 y a L) (item_11 z a L) (item_12 a L) (item_13 a L) = rext_4 (item_0 a L) (item_2 x a L) (item_2 y a L) (item_2 z a L) (item_5 x a L) (item_6 y a L) (item_7 z a L) (item_8 a L) (item_9 x a L) (item_10 y a L) (item_11 z a L) (item_12 a L) (item_13 a L) ∧ aext_5 (item_0 a L) (item_2 x a L) (item_2 y a L) (item_2 z a L) (item_5 x a L) (item_6 y a L) (item_7 z a L) (item_8 a L) (item_9 x a L) (item_10 y a L) (item_11 z a L) (item_12 a L) (item_13 a L) = rext_5 (item_0 a L) (item_2 x a L) (item_2 y a L) (item_2 z a L) (item_5 x a L) (item_6 y a L) (item_7 z a L) (item_8 a L) (item_9 x a L) (item_10 y a L) (item_11 z a L) (item_12 a L) (item_13 a L) := by
  by_cases hk : item_0 a L = 3
  · obtain ⟨A0, A1, B0, B1, C0, C1, h, k, I, G⟩ := item_arc hx hy hz hk
    rw [hk]
    exact ⟨fun e => arc_tang I G e, arc_ext I G⟩
  · exact ⟨fun e => tang_other e hk, ext_other hk⟩
end Go.Proofs.Ytkggdhnliiagjaa
