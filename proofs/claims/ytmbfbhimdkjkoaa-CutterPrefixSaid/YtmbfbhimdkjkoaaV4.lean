/-
  OFFSETS: the searches on arcs. Conditions: none.
-/
import Derived.Test.YtmbfbhimdkjkoaaV3
set_option linter.all false
namespace Go.Proofs.Ytmbfbhimdkjkoaa
open Go.SX Go.RowKit
/-- A state of a search on an arc: how often, and the two points. -/
structure CvS where
  i : Nat
  a0 : Int
  a1 : Int
  b0 : Int
  b1 : Int
noncomputable def cvNear (s : CvS) : Bool := oin_0 (IntKind.i64.wrap (s.b0 - s.a0)) 1 && oin_0 (IntKind.i64.wrap (s.b1 - s.a1)) 1
noncomputable def oH0 (a0 a1 b0 b1 d z : Int) : Int := wOver_0 (ohalf_s1 a0 a1 b0 b1 d) z (vinner_0 (ohalf_s1 a0 a1 b0 b1 d) (ohalf_s2 a0 a1 b0 b1 d) (ohalf_s1 a0 a1 b0 b1 d) (ohalf_s2 a0 a1 b0 b1 d)) 2
noncomputable def oH1 (a0 a1 b0 b1 d z : Int) : Int := wOver_0 (ohalf_s2 a0 a1 b0 b1 d) z (vinner_0 (ohalf_s1 a0 a1 b0 b1 d) (ohalf_s2 a0 a1 b0 b1 d) (ohalf_s1 a0 a1 b0 b1 d) (ohalf_s2 a0 a1 b0 b1 d)) 2
noncomputable def cvM0 (d z : Int) (full : Bool) (s : CvS) : Int := bif !full || decide (Int.ofNat s.i > 0) then oH0 s.a0 s.a1 s.b0 s.b1 d z else IntKind.i64.wrap (0 - s.a0)
noncomputable def cvM1 (d z : Int) (full : Bool) (s : CvS) : Int := bif !full || decide (Int.ofNat s.i > 0) then oH1 s.a0 s.a1 s.b0 s.b1 d z else IntKind.i64.wrap (0 - s.a1)
noncomputable def cvN (P : Int → Int → Bool) (d z : Int) (full : Bool) (s : CvS) : CvS :=
  ⟨s.i + 1, bif P (cvM0 d z full s) (cvM1 d z full s) then s.a0 else cvM0 d z full s, bif P (cvM0 d z full s) (cvM1 d z full s) then s.a1 else cvM1 d z full s,
    bif P (cvM0 d z full s) (cvM1 d z full s) then cvM0 d z full s else s.b0, bif P (cvM0 d z full s) (cvM1 d z full s) then cvM1 d z full s else s.b1⟩
noncomputable def cv (P : Int → Int → Bool) (d z : Int) (full : Bool) : Nat → CvS → Int × Int
  | 0, s => (s.b0, s.b1)
  | f + 1, s => bif (!full || decide (Int.ofNat s.i > 0)) && cvNear s then (s.b0, s.b1) else cv P d z full f (cvN P d z full s)
noncomputable def cv0 (a0 a1 b0 b1 : Int) : CvS := ⟨0, a0, a1, b0, b1⟩
noncomputable def blkT (id t u : Nat) (x y : Int) : Nat × SX.Obj := (id, .blk 59 [(t, I x), (u, I y)])
noncomputable def crP (f4 f5 e0 e1 e2 e3 e4 e5 e6 r u w : Int) : Bool := oclear_0 e0 e1 e2 e3 e4 e5 e6 (addpt_0 f4 u) (addpt_0 f5 w) r
noncomputable def crM (f0 f1 f2 f3 f4 f5 f6 : Int) (f7 : Bool) (e0 e1 e2 e3 e4 e5 e6 : Int) (e7 : Bool) (r : Int) : Mem :=
  [blk0 30 31, blkE 12 13 f0 f1 f2 f3 f4 f5 f6 f7, (0, .clo [.one (.ptr 1 0), .one (.ptr 2 0)]), blkE 1 3 e0 e1 e2 e3 e4 e5 e6 e7, (2, .blk 3 [(11, I r)])]
noncomputable def crF (z : Int) (f0 f1 f2 f3 f4 f5 f6 : Int) (f7 : Bool) (e0 e1 e2 e3 e4 e5 e6 : Int) (e7 : Bool) (r : Int) : Fam CvS (Int × Int) where
  k := 60
  E s := [(44, ent 1000000000 (.one (I (Int.ofNat s.i)))), (15, ent 377 (.one (.ptr 374 0))), (14, ent 373 (.one (.ptr 370 0))), (12, ent 309 (.one (I z))), (10, ent 33 (.one (.ptr 30 0))), (5, ent 21 (.one (.ptr 12 0))), (4, ent 8 (.one (.clo 79 0)))]
  M s := blkT 374 1000000001 1000000002 s.b0 s.b1 :: blkT 370 1000000003 1000000004 s.a0 s.a1 :: crM f0 f1 f2 f3 f4 f5 f6 f7 e0 e1 e2 e3 e4 e5 e6 e7 r
  out t := .leaf (.exit 0) [(15, ent 377 (.one (.ptr 374 0))), (10, ent 33 (.one (.ptr 30 0))), (5, ent 21 (.one (.ptr 12 0)))] (blkT 374 386 387 t.1 t.2 :: crM f0 f1 f2 f3 f4 f5 f6 f7 e0 e1 e2 e3 e4 e5 e6 e7 r)
  fin s := cv (crP f4 f5 e0 e1 e2 e3 e4 e5 e6 r) f6 z f7 (24 - s.i) s
  next s _ := cvN (crP f4 f5 e0 e1 e2 e3 e4 e5 e6 r) f6 z f7 s
  J s := s.i ≤ 24 ∧ isI z
  μ s := 24 - s.i
noncomputable def cr_s0 (s : CvS) : Prop := decide (Int.ofNat s.i < 24) = true
noncomputable def cr_s1 (f7 : Bool) (s : CvS) : Prop := (!f7 || decide (Int.ofNat s.i > 0)) = true
noncomputable def cr_s2 (s : CvS) : Prop := (oin_0 (IntKind.i64.wrap (s.b0 - s.a0)) 1 && oin_0 (IntKind.i64.wrap (s.b1 - s.a1)) 1) = false
noncomputable def cr_s3 (z : Int) : Prop := -9223372036854775808 ≤ z ∧ z < 9223372036854775808
noncomputable def cr_s4 (z : Int) (f0 : Int) (f1 : Int) (f2 : Int) (f3 : Int) (f4 : Int) (f5 : Int) (f6 : Int) (f7 : Bool) (e0 : Int) (e1 : Int) (e2 : Int) (e3 : Int) (e4 : Int) (e5 : Int) (e6 : Int) (e7 : Bool) (r : Int) (s : CvS) : Prop := ((crF z f0 f1 f2 f3 f4 f5 f6 f7 e0 e1 e2 e3 e4 e5 e6 e7 r).fin s).fst = s.b0 ∧ ((crF z f0 f1 f2 f3 f4 f5 f6 f7 e0 e1 e2 e3 e4 e5 e6 e7 r).fin s).snd = s.b1
noncomputable def cr_s5 (f6 : Int) (s : CvS) : Int := vinner_0 (ohalf_s1 s.a0 s.a1 s.b0 s.b1 f6) (ohalf_s2 s.a0 s.a1 s.b0 s.b1 f6) (ohalf_s1 s.a0 s.a1 s.b0 s.b1 f6) (ohalf_s2 s.a0 s.a1 s.b0 s.b1 f6)
noncomputable def cr_s6 (z : Int) (f6 : Int) (s : CvS) : Int := wOver_0 (ohalf_s1 s.a0 s.a1 s.b0 s.b1 f6) z (cr_s5 f6 s) 2
noncomputable def cr_s7 (z : Int) (f6 : Int) (s : CvS) : Int := wOver_0 (ohalf_s2 s.a0 s.a1 s.b0 s.b1 f6) z (cr_s5 f6 s) 2
noncomputable def cr_needs (z : Int) (f0 : Int) (f1 : Int) (f2 : Int) (f3 : Int) (f4 : Int) (f5 : Int) (f6 : Int) (f7 : Bool) (e0 : Int) (e1 : Int) (e2 : Int) (e3 : Int) (e4 : Int) (e5 : Int) (e6 : Int) (e7 : Bool) (r : Int) (s : CvS) : List Prop := [cr_s0 s → cr_s1 f7 s → cr_s2 s → cr_s3 z, cr_s0 s → (cr_s1 f7 s → ((oin_0 (IntKind.i64.wrap (s.b0 - s.a0)) 1 && oin_0 (IntKind.i64.wrap (s.b1 - s.a1)) 1) = true → cr_s4 z f0 f1 f2 f3 f4 f5 f6 f7 e0
   e1 e2 e3 e4 e5 e6 e7 r s) ∧ (cr_s2 s → (((crF z f0 f1 f2 f3 f4 f5 f6 f7 e0 e1 e2 e3 e4 e5 e6 e7 r).next s 1).i ≤ 24 ∧ cr_s3 z) ∧ (crF z f0 f1 f2 f3 f4 f5 f6 f7 e0 e1 e2 e3 e4 e5 e6 e7 r).μ ((crF z f0
   f1 f2 f3 f4 f5 f6 f7 e0 e1 e2 e3 e4 e5 e6 e7 r).next s 1) < (crF z f0 f1 f2 f3 f4 f5 f6 f7 e0 e1 e2 e3 e4 e5 e6 e7 r).μ s ∧ (crF z f0 f1 f2 f3 f4 f5 f6 f7 e0 e1 e2 e3 e4 e5 e6 e7 r).fin ((crF z f0 f1
   f2 f3 f4 f5 f6 f7 e0 e1 e2 e3 e4 e5 e6 e7 r).next s 1) = (crF z f0 f1 f2 f3 f4 f5 f6 f7 e0 e1 e2 e3 e4 e5 e6 e7 r).fin s ∧ Int.ofNat ((crF z f0 f1 f2 f3 f4 f5 f6 f7 e0 e1 e2 e3 e4 e5 e6 e7 r).next s
   1).i = IntKind.i64.wrap (Int.ofNat s.i + 1) ∧ (((crF z f0 f1 f2 f3 f4 f5 f6 f7 e0 e1 e2 e3 e4 e5 e6 e7 r).next s 1).b0 = bif oclear_0 e0 e1 e2 e3 e4 e5 e6 (addpt_0 f4 (cr_s6 z f6 s)) (addpt_0 f5
   (cr_s7 z f6 s)) r then cr_s6 z f6 s else s.b0) ∧ (((crF z f0 f1 f2 f3 f4 f5 f6 f7 e0 e1 e2 e3 e4 e5 e6 e7 r).next s 1).b1 = bif oclear_0 e0 e1 e2 e3 e4 e5 e6 (addpt_0 f4 (cr_s6 z f6 s)) (addpt_0 f5
   (cr_s7 z f6 s)) r then cr_s7 z f6 s else s.b1) ∧ (((crF z f0 f1 f2 f3 f4 f5 f6 f7 e0 e1 e2 e3 e4 e5 e6 e7 r).next s 1).a0 = bif oclear_0 e0 e1 e2 e3 e4 e5 e6 (addpt_0 f4 (cr_s6 z f6 s)) (addpt_0 f5
   (cr_s7 z f6 s)) r then s.a0 else cr_s6 z f6 s) ∧ ((crF z f0 f1 f2 f3 f4 f5 f6 f7 e0 e1 e2 e3 e4 e5 e6 e7 r).next s 1).a1 = bif oclear_0 e0 e1 e2 e3 e4 e5 e6 (addpt_0 f4 (cr_s6 z f6 s)) (addpt_0 f5
   (cr_s7 z f6 s)) r then s.a1 else cr_s7 z f6 s)) ∧ ((!f7 || decide (Int.ofNat s.i > 0)) = false → (((crF z f0 f1 f2 f3 f4 f5 f6 f7 e0 e1 e2 e3 e4 e5 e6 e7 r).next s 2).i ≤ 24 ∧ cr_s3 z) ∧ (crF z f0 f1
   f2 f3 f4 f5 f6 f7 e0 e1 e2 e3 e4 e5 e6 e7 r).μ ((crF z f0 f1 f2 f3 f4 f5 f6 f7 e0 e1 e2 e3 e4 e5 e6 e7 r).next s 2) < (crF z f0 f1 f2 f3 f4 f5 f6 f7 e0 e1 e2 e3 e4 e5 e6 e7 r).μ s ∧ (crF z f0 f1 f2
   f3 f4 f5 f6 f7 e0 e1 e2 e3 e4 e5 e6 e7 r).fin ((crF z f0 f1 f2 f3 f4 f5 f6 f7 e0 e1 e2 e3 e4 e5 e6 e7 r).next s 2) = (crF z f0 f1 f2 f3 f4 f5 f6 f7 e0 e1 e2 e3 e4 e5 e6 e7 r).fin s ∧ Int.ofNat ((crF
   z f0 f1 f2 f3 f4 f5 f6 f7 e0 e1 e2 e3 e4 e5 e6 e7 r).next s 2).i = IntKind.i64.wrap (Int.ofNat s.i + 1) ∧ (((crF z f0 f1 f2 f3 f4 f5 f6 f7 e0 e1 e2 e3 e4 e5 e6 e7 r).next s 2).b0 = bif oclear_0 e0 e1
   e2 e3 e4 e5 e6 (addpt_0 f4 (IntKind.i64.wrap (0 - s.a0))) (addpt_0 f5 (IntKind.i64.wrap (0 - s.a1))) r then IntKind.i64.wrap (0 - s.a0) else s.b0) ∧ (((crF z f0 f1 f2 f3 f4 f5 f6 f7 e0 e1 e2 e3 e4 e5
   e6 e7 r).next s 2).b1 = bif oclear_0 e0 e1 e2 e3 e4 e5 e6 (addpt_0 f4 (IntKind.i64.wrap (0 - s.a0))) (addpt_0 f5 (IntKind.i64.wrap (0 - s.a1))) r then IntKind.i64.wrap (0 - s.a1) else s.b1) ∧ (((crF
   z f0 f1 f2 f3 f4 f5 f6 f7 e0 e1 e2 e3 e4 e5 e6 e7 r).next s 2).a0 = bif oclear_0 e0 e1 e2 e3 e4 e5 e6 (addpt_0 f4 (IntKind.i64.wrap (0 - s.a0))) (addpt_0 f5 (IntKind.i64.wrap (0 - s.a1))) r then s.a0
   else IntKind.i64.wrap (0 - s.a0)) ∧ ((crF z f0 f1 f2 f3 f4 f5 f6 f7 e0 e1 e2 e3 e4 e5 e6 e7 r).next s 2).a1 = bif oclear_0 e0 e1 e2 e3 e4 e5 e6 (addpt_0 f4 (IntKind.i64.wrap (0 - s.a0))) (addpt_0 f5
   (IntKind.i64.wrap (0 - s.a1))) r then s.a1 else IntKind.i64.wrap (0 - s.a1)), decide (Int.ofNat s.i < 24) = false → cr_s4 z f0 f1 f2 f3 f4 f5 f6 f7 e0 e1 e2 e3 e4 e5 e6 e7 r s]
theorem cr_round (z f0 f1 f2 f3 f4 f5 f6 : Int) (f7 : Bool) (e0 e1 e2 e3 e4 e5 e6 : Int) (e7 : Bool) (r : Int) (s : CvS) (hNeeds : ∀ pN ∈ (cr_needs z f0 f1 f2 f3 f4 f5 f6 f7 e0 e1 e2 e3 e4 e5 e6 e7 r s), pN) : RoundOk (roundC (crF z f0 f1 f2 f3 f4 f5 f6 f7 e0 e1 e2 e3 e4 e5 e6 e7 r) (bodyOf Try.prog (sums K_straight) L_st 82 0) 385 s) :=
  RoundOk.of (ps := (cr_needs z f0 f1 f2 f3 f4 f5 f6 f7 e0 e1 e2 e3 e4 e5 e6 e7 r s)) (by kernel_rfl) (by kernel_rfl) hNeeds
theorem cv_next (P : Int → Int → Bool) (d z : Int) (full : Bool) (s : CvS) (h : s.i < 24) : cv P d z full (24 - s.i) s = bif (!full || decide (Int.ofNat s.i > 0)) && cvNear s then (s.b0, s.b1) else cv P d z full (24 - (s.i + 1)) (cvN P d z full s) := by
  have e : 24 - s.i = (24 - (s.i + 1)) + 1 := by omega
  rw [e]; rfl
theorem cr_rounds (z f0 f1 f2 f3 f4 f5 f6 : Int) (f7 : Bool) (e0 e1 e2 e3 e4 e5 e6 : Int) (e7 : Bool) (r : Int) : RoundsOk (crF z f0 f1 f2 f3 f4 f5 f6 f7 e0 e1 e2 e3 e4 e5 e6 e7 r) (bodyOf Try.prog (sums K_straight) L_st 82 0) 385 := by
  intro s hJ
  obtain ⟨hi, hz⟩ : s.i ≤ 24 ∧ isI z := hJ
  refine cr_round z f0 f1 f2 f3 f4 f5 f6 f7 e0 e1 e2 e3 e4 e5 e6 e7 r s ?_
  unfold cr_needs
  intro p hp
  simp only [List.mem_cons, List.not_mem_nil, or_false] at hp
  have hw : IntKind.i64.wrap (Int.ofNat s.i + 1) = Int.ofNat (s.i + 1) := by
    rw [wrI (by simp; omega) (by simp; omega)]; rfl
  rcases hp with rfl | rfl | rfl
  · exact fun _ _ _ => hz
  · intro h0
    have hi' : s.i < 24 := by
      have h0 : decide (Int.ofNat s.i < 24) = true := h0
      simp at h0; omega
    have E1 := cv_next (crP f4 f5 e0 e1 e2 e3 e4 e5 e6 r) f6 z f7 s hi'
    refine ⟨fun g1 => ⟨fun g2 => ?_, fun g2 => ?_⟩, fun g1 => ?_⟩
    · have g1 : (!f7 || decide (Int.ofNat s.i > 0)) = true := g1
      have g2 : cvNear s = true := g2
      rw [g1, g2] at E1
      have e2 : (crF z f0 f1 f2 f3 f4 f5 f6 f7 e0 e1 e2 e3 e4 e5 e6 e7 r).fin s = (s.b0, s.b1) := E1
      unfold cr_s4
      rw [e2]
      exact ⟨rfl, rfl⟩
    · have g1 : (!f7 || decide (Int.ofNat s.i > 0)) = true := g1
      have g2 : cvNear s = false := g2
      rw [g1, g2] at E1
      have m0 : cvM0 f6 z f7 s = cr_s6 z f6 s := by unfold cvM0; rw [g1]; rfl
      have m1 : cvM1 f6 z f7 s = cr_s7 z f6 s := by unfold cvM1; rw [g1]; rfl
      refine ⟨⟨by show s.i + 1 ≤ 24; omega, hz⟩, ?_, E1.symm, hw.symm, ?_, ?_, ?_, ?_⟩
      · show 24 - (s.i + 1) < 24 - s.i; omega
      all_goals (rw [← m0, ← m1]; rfl)
    · have m0 : cvM0 f6 z f7 s = IntKind.i64.wrap (0 - s.a0) := by unfold cvM0; rw [g1]; rfl
      have m1 : cvM1 f6 z f7 s = IntKind.i64.wrap (0 - s.a1) := by unfold cvM1; rw [g1]; rfl
      rw [g1] at E1
      refine ⟨⟨by show s.i + 1 ≤ 24; omega, hz⟩, ?_, E1.symm, hw.symm, ?_, ?_, ?_, ?_⟩
      · show 24 - (s.i + 1) < 24 - s.i; omega
      all_goals (rw [← m0, ← m1]; rfl)
  · intro h
    have hi' : 24 - s.i = 0 := by
      simp at h; omega
    have e2 : (crF z f0 f1 f2 f3 f4 f5 f6 f7 e0 e1 e2 e3 e4 e5 e6 e7 r).fin s = (s.b0, s.b1) := by
      show cv _ _ _ _ (24 - s.i) s = _
      rw [hi']; rfl
    unfold cr_s4
    rw [e2]
    exact ⟨rfl, rfl⟩
noncomputable def crL : LoopS := fun env mem m => match eInt env 12, mInts mem 374, mInts mem 370, mElem mem 12, mElem mem 1, mInts mem 2 with
  | some z, some [b0, b1], some [a0, a1], some ([f0, f1, f2, f3, f4, f5, f6], f7), some ([e0, e1, e2, e3, e4, e5, e6], e7), some [r] => famS (crF z f0 f1 f2 f3 f4 f5 f6 f7 e0 e1 e2 e3 e4 e5 e6 e7 r) 385 (fun _ _ => some (cv0 a0 a1 b0 b1)) env mem m
  | _, _, _, _, _, _ => none
noncomputable def L_cr : FuncId → Nat → Option LoopS := addL L_st 82 6 crL
theorem known_crL : Known Try.prog (sums K_straight) L_cr := by
  refine known_addL 0 known_straight (by kernel_rfl) (codeOk_of fun env mem m x h => ?_)
  unfold crL at h
  have hlen : (loopList Try.prog 82).length = 1 := by kernel_rfl
  split at h
  · exact ⟨_, fam_ok (bodyOf_ok plainN known_straight (by omega)) (cr_rounds _ _ _ _ _ _ _ _ _ _ _ _ _ _ _ _ _ _), h⟩
  · cases h
noncomputable def curved_tpl : Tpl := ⟨[.agg [.int .i64, .int .i64, .int .i64, .int .i64, .int .i64, .int .i64, .int .i64, .bool], .agg [.int .i64, .int .i64], .agg [.int .i64, .int .i64], .one (.int .i64), .one (.clo 79 0)], [(0, .clo [.one (.ptr 1 0), .one (.ptr 2 0)]), (1, .blk 74 [(3, .int .i64), (4, .int .i64), (5, .int .i64), (6, .int .i64), (7, .int .i64), (8, .int .i64), (9, .int .i64), (10, .bool)]), (2, .blk 3 [(11, .int .i64)])], 12⟩
noncomputable def curved_0 (f0 : Int) (f1 : Int) (f2 : Int) (f3 : Int) (f4 : Int) (f5 : Int) (f6 : Int) (f7 : Bool) (l0 : Int) (l1 : Int) (h0 : Int) (h1 : Int) (rr : Int) (e0 : Int) (e1 : Int) (e2 : Int) (e3 : Int) (e4 : Int) (e5 : Int) (e6 : Int) (e7 : Bool) (r : Int) : Int := addpt_0 f4 ((crF (IntKind.i64.wrap (wSqrt_0 (vinner_0 (minus_0 f0 f4) (minus_0 f1 f5) (minus_0 f0 f4) (minus_0 f1 f5)) 2 - IntKind.i64.wrap (f6 * rr))) f0 f1 f2 f3 f4 f5 f6 f7 e0 e1 e2 e3 e4 e5 e6
   e7 r).fin (cv0 (minus_0 l0 f4) (minus_0 l1 f5) (minus_0 h0 f4) (minus_0 h1 f5))).fst
noncomputable def curved_1 (f0 : Int) (f1 : Int) (f2 : Int) (f3 : Int) (f4 : Int) (f5 : Int) (f6 : Int) (f7 : Bool) (l0 : Int) (l1 : Int) (h0 : Int) (h1 : Int) (rr : Int) (e0 : Int) (e1 : Int) (e2 : Int) (e3 : Int) (e4 : Int) (e5 : Int) (e6 : Int) (e7 : Bool) (r : Int) : Int := addpt_0 f5 ((crF (IntKind.i64.wrap (wSqrt_0 (vinner_0 (minus_0 f0 f4) (minus_0 f1 f5) (minus_0 f0 f4) (minus_0 f1 f5)) 2 - IntKind.i64.wrap (f6 * rr))) f0 f1 f2 f3 f4 f5 f6 f7 e0 e1 e2 e3 e4 e5 e6
   e7 r).fin (cv0 (minus_0 l0 f4) (minus_0 l1 f5) (minus_0 h0 f4) (minus_0 h1 f5))).snd
noncomputable def curved_s0 (f0 : Int) (f1 : Int) (f4 : Int) (f5 : Int) (f6 : Int) (rr : Int) : Int := IntKind.i64.wrap (wSqrt_0 (vinner_0 (minus_0 f0 f4) (minus_0 f1 f5) (minus_0 f0 f4) (minus_0 f1 f5)) 2 - IntKind.i64.wrap (f6 * rr))
noncomputable def curved_needs (f0 : Int) (f1 : Int) (f4 : Int) (f5 : Int) (f6 : Int) (l0 : Int) (l1 : Int) (h0 : Int) (h1 : Int) (rr : Int) : List Prop := [-9223372036854775808 ≤ vinner_0 (minus_0 f0 f4) (minus_0 f1 f5) (minus_0 f0 f4) (minus_0 f1 f5) ∧ vinner_0 (minus_0 f0 f4) (minus_0 f1 f5) (minus_0 f0 f4) (minus_0 f1 f5) < 9223372036854775808,
   (cv0 (minus_0 l0 f4) (minus_0 l1 f5) (minus_0 h0 f4) (minus_0 h1 f5)).i ≤ 24 ∧ -9223372036854775808 ≤ curved_s0 f0 f1 f4 f5 f6 rr ∧ curved_s0 f0 f1 f4 f5 f6 rr < 9223372036854775808, Int.ofNat (cv0
   (minus_0 l0 f4) (minus_0 l1 f5) (minus_0 h0 f4) (minus_0 h1 f5)).i = 0, (cv0 (minus_0 l0 f4) (minus_0 l1 f5) (minus_0 h0 f4) (minus_0 h1 f5)).b0 = minus_0 h0 f4, (cv0 (minus_0 l0 f4) (minus_0 l1 f5)
   (minus_0 h0 f4) (minus_0 h1 f5)).b1 = minus_0 h1 f5, (cv0 (minus_0 l0 f4) (minus_0 l1 f5) (minus_0 h0 f4) (minus_0 h1 f5)).a0 = minus_0 l0 f4, (cv0 (minus_0 l0 f4) (minus_0 l1 f5) (minus_0 h0 f4)
   (minus_0 h1 f5)).a1 = minus_0 l1 f5]
theorem curved_need {f0 : Int} {f1 : Int} {f4 : Int} {f5 : Int} {f6 : Int} {l0 : Int} {l1 : Int} {h0 : Int} {h1 : Int} {rr : Int} : ∀ q ∈ (curved_needs f0 f1 f4 f5 f6 l0 l1 h0 h1 rr), q := by
  unfold curved_needs
  simp only [List.forall_mem_cons, List.not_mem_nil, false_implies, implies_true, and_true]
  exact ⟨wrap_isI _, ⟨Nat.zero_le _, wrap_isI _⟩, rfl, rfl, rfl, rfl, rfl⟩
set_option maxRecDepth 1000000 in
theorem curved_runs (f0 f1 f2 f3 f4 f5 f6 : Int) (f7 : Bool) (l0 l1 h0 h1 rr e0 e1 e2 e3 e4 e5 e6 : Int) (e7 : Bool) (r : Int) (hNeeds : ∀ pN ∈ (curved_needs f0 f1 f4 f5 f6 l0 l1 h0 h1 rr), pN) : Runs (runF (sums K_straight) L_cr 82) (curved_tpl.args [.i f0, .i f1, .i f2, .i f3, .i f4, .i f5, .i f6, .b f7, .i l0, .i l1, .i h0, .i h1, .i rr, .i e0, .i e1, .i e2, .i e3, .i e4, .i e5, .i e6, .b e7, .i r]) (curved_tpl.memo [.i f0, .i f1, .i f2, .i f3, .i f4, .i f5, .i f6, .b f7, .i l0, .i l1, .i h0, .i h1, .i rr, .i e0, .i e1, .i e2, .i e3, .i e4, .i e5, .i e6, .b e7, .i r] []) curved_tpl.n (SV.agg [SC.int IntKind.i64 (SI.v (curved_0 f0 f1 f2 f3 f4 f5 f6 f7 l0 l1 h0 h1 rr e0 e1 e2 e3 e4 e5 e6 e7 r)), SC.int IntKind.i64 (SI.v (curved_1 f0 f1 f2 f3 f4 f5 f6 f7 l0 l1 h0 h1 rr e0 e1 e2 e3
   e4 e5 e6 e7 r))]) ([(0, Obj.clo [SV.one (SC.ptr 1 0), SV.one (SC.ptr 2 0)]), (1, Obj.blk 74 [(3, SC.int IntKind.i64 (SI.v e0)), (4, SC.int IntKind.i64 (SI.v e1)), (5, SC.int IntKind.i64 (SI.v e2)),
   (6, SC.int IntKind.i64 (SI.v e3)), (7, SC.int IntKind.i64 (SI.v e4)), (8, SC.int IntKind.i64 (SI.v e5)), (9, SC.int IntKind.i64 (SI.v e6)), (10, SC.bool (SB.v e7))]), (2, Obj.blk 3 [(11, SC.int IntKind.i64 (SI.v r))])]) :=
  Runs.of1 (ps := (curved_needs f0 f1 f4 f5 f6 l0 l1 h0 h1 rr)) (by kernel_rfl) hNeeds
noncomputable def curved_out : List Pm → Lss → Option CRes
  | [.i f0, .i f1, .i f2, .i f3, .i f4, .i f5, .i f6, .b f7, .i l0, .i l1, .i h0, .i h1, .i rr, .i e0, .i e1, .i e2, .i e3, .i e4, .i e5, .i e6, .b e7, .i r], [] => some ⟨SV.agg [SC.int IntKind.i64 (SI.v (curved_0 f0 f1 f2 f3 f4 f5 f6 f7 l0 l1 h0 h1 rr e0 e1 e2 e3 e4 e5 e6 e7 r)), SC.int IntKind.i64 (SI.v (curved_1 f0 f1 f2 f3 f4 f5 f6 f7 l0 l1 h0 h1 rr e0 e1 e2 e3
   e4 e5 e6 e7 r))], [(0, Obj.clo [SV.one (SC.ptr 1 0), SV.one (SC.ptr 2 0)]), (1, Obj.blk 74 [(3, SC.int IntKind.i64 (SI.v e0)), (4, SC.int IntKind.i64 (SI.v e1)), (5, SC.int IntKind.i64 (SI.v e2)),
   (6, SC.int IntKind.i64 (SI.v e3)), (7, SC.int IntKind.i64 (SI.v e4)), (8, SC.int IntKind.i64 (SI.v e5)), (9, SC.int IntKind.i64 (SI.v e6)), (10, SC.bool (SB.v e7))]), (2, Obj.blk 3 [(11, SC.int
   IntKind.i64 (SI.v r))])], [], [], 478⟩
  | _, _ => none
theorem curved_ok : FOk Try.prog 82 (tplS curved_tpl curved_out) := by
  refine tplS_ok (runF_ok known_crL 82) fun ps ls r hr hn _ => ?_
  unfold curved_out at hr
  split at hr
  · cases hr; exact ⟨_, curved_runs _ _ _ _ _ _ _ _ _ _ _ _ _ _ _ _ _ _ _ _ _ _ (fun p hp => curved_need p hp), fun _ => rfl⟩
  · cases hr
noncomputable def K_curved : List (Nat × Summ) := (82, tplS curved_tpl curved_out) :: K_straight
theorem known_curved : Known Try.prog (sums K_curved) L_cr := known_cons known_crL curved_ok
end Go.Proofs.Ytmbfbhimdkjkoaa
