/-
  OFFSETS: the reference's searches and Trim. Conditions: bounds.
-/
import Derived.Test.YtjlkecfkjcanaaaG1
import Derived.Test.YtjlkecfkjcanaaaD1
set_option linter.all false
namespace Go.Proofs.Ytjlkecfkjcanaaa
open Go.SX Go.RowKit
noncomputable def fdP (l0 l1 h0 h1 n e0 e1 e2 e3 e4 e5 e6 r k : Int) : Bool := rclear_0 e0 e1 e2 e3 e4 e5 e6 (rbetween_0 l0 h0 k n) (rbetween_0 l1 h1 k n) r
noncomputable def fdM (l0 l1 h0 h1 e0 e1 e2 e3 e4 e5 e6 : Int) (e7 : Bool) : Mem := [blk0 28 29, blkP 24 25 h0 h1, blkP 20 21 l0 l1, blkE 0 1 e0 e1 e2 e3 e4 e5 e6 e7]
noncomputable def fdF (l0 l1 h0 h1 n e0 e1 e2 e3 e4 e5 e6 : Int) (e7 : Bool) (r : Int) : Fam (Int × Int) Int where
  k := 60
  E s := [(13, ent 1000000000 (.one (I s.2))), (12, ent 1000000001 (.one (I s.1))), (11, ent 56 (.one (I n))), (10, ent 31 (.one (.ptr 28 0))), (8, ent 27 (.one (.ptr 24 0))), (7, ent 23 (.one (.ptr 20 0))), (5, ent 9 (.one (.ptr 0 0))), (4, ent 8 (.one (I r)))]
  M _ := fdM l0 l1 h0 h1 e0 e1 e2 e3 e4 e5 e6 e7
  out b := .leaf (.exit 0) [(13, ent 61 (.one (I b))), (11, ent 56 (.one (I n))), (10, ent 31 (.one (.ptr 28 0))), (8, ent 27 (.one (.ptr 24 0))), (7, ent 23 (.one (.ptr 20 0)))] (fdM l0 l1 h0 h1 e0 e1 e2 e3 e4 e5 e6 e7)
  fin s := bsF (fdP l0 l1 h0 h1 n e0 e1 e2 e3 e4 e5 e6 r) s
  next s _ := bsN (fdP l0 l1 h0 h1 n e0 e1 e2 e3 e4 e5 e6 r) s
  J s := 0 ≤ s.1 ∧ s.1 ≤ s.2 ∧ s.2 ≤ n ∧ n ≤ 1000000000000
  μ s := (s.2 - s.1).toNat
noncomputable def fd_s0 (s : Int × Int) : Prop :=
  decide (IntKind.i64.wrap (s.snd - s.fst) > 1) = true
noncomputable def fd_s1 (l0 : Int) (l1 : Int) (h0 : Int) (h1 : Int) (n : Int) (e0 : Int) (e1 : Int) (e2 : Int) (e3 : Int) (e4 : Int) (e5 : Int) (e6 : Int) (e7 : Bool) (r : Int) (s : Int × Int) : Int :=
  ((fdF l0 l1 h0 h1 n e0 e1 e2 e3 e4 e5 e6 e7 r).next s 0).fst
noncomputable def fd_s2 (l0 : Int) (l1 : Int) (h0 : Int) (h1 : Int) (n : Int) (e0 : Int) (e1 : Int) (e2 : Int) (e3 : Int) (e4 : Int) (e5 : Int) (e6 : Int) (e7 : Bool) (r : Int) (s : Int × Int) : Int :=
  ((fdF l0 l1 h0 h1 n e0 e1 e2 e3 e4 e5 e6 e7 r).next s 0).snd
noncomputable def fd_s3 (l0 : Int) (l1 : Int) (h0 : Int) (h1 : Int) (n : Int) (e0 : Int) (e1 : Int) (e2 : Int) (e3 : Int) (e4 : Int) (e5 : Int) (e6 : Int) (e7 : Bool) (r : Int) (s : Int × Int) : Int :=
  (fdF l0 l1 h0 h1 n e0 e1 e2 e3 e4 e5 e6 e7 r).fin s
noncomputable def fd_s4 (s : Int × Int) : Int :=
  IntKind.i64.wrap ((IntKind.i64.wrap (s.fst + s.snd)).tdiv 2)
noncomputable def fd_needs (l0 : Int) (l1 : Int) (h0 : Int) (h1 : Int) (n : Int) (e0 : Int) (e1 : Int) (e2 : Int) (e3 : Int) (e4 : Int) (e5 : Int) (e6 : Int) (e7 : Bool) (r : Int) (s : Int × Int) : List Prop :=
  [fd_s0 s → IntKind.i64.wrap (2 * n) ≠ 0,
    fd_s0 s →
      (0 ≤ fd_s1 l0 l1 h0 h1 n e0 e1 e2 e3 e4 e5 e6 e7 r s ∧
          fd_s1 l0 l1 h0 h1 n e0 e1 e2 e3 e4 e5 e6 e7 r s ≤ fd_s2 l0 l1 h0 h1 n e0 e1 e2 e3 e4 e5 e6 e7 r s ∧ fd_s2 l0 l1 h0 h1 n e0 e1 e2 e3 e4 e5 e6 e7 r s ≤ n ∧ n ≤ 1000000000000) ∧
        (fdF l0 l1 h0 h1 n e0 e1 e2 e3 e4 e5 e6 e7 r).μ ((fdF l0 l1 h0 h1 n e0 e1 e2 e3 e4 e5 e6 e7 r).next s 0) < (fdF l0 l1 h0 h1 n e0 e1 e2 e3 e4 e5 e6 e7 r).μ s ∧
          (fdF l0 l1 h0 h1 n e0 e1 e2 e3 e4 e5 e6 e7 r).fin ((fdF l0 l1 h0 h1 n e0 e1 e2 e3 e4 e5 e6 e7 r).next s 0) = fd_s3 l0 l1 h0 h1 n e0 e1 e2 e3 e4 e5 e6 e7 r s ∧
            (fd_s2 l0 l1 h0 h1 n e0 e1 e2 e3 e4 e5 e6 e7 r s = bif rclear_0 e0 e1 e2 e3 e4 e5 e6 (rbetween_0 l0 h0 (fd_s4 s) n) (rbetween_0 l1 h1 (fd_s4 s) n) r then fd_s4 s else s.snd) ∧
              fd_s1 l0 l1 h0 h1 n e0 e1 e2 e3 e4 e5 e6 e7 r s = bif rclear_0 e0 e1 e2 e3 e4 e5 e6 (rbetween_0 l0 h0 (fd_s4 s) n) (rbetween_0 l1 h1 (fd_s4 s) n) r then s.fst else fd_s4 s,
    decide (IntKind.i64.wrap (s.snd - s.fst) > 1) = false → fd_s3 l0 l1 h0 h1 n e0 e1 e2 e3 e4 e5 e6 e7 r s = s.snd]
theorem fd_round (l0 l1 h0 h1 n e0 e1 e2 e3 e4 e5 e6 : Int) (e7 : Bool) (r : Int) (s : Int × Int) (hNeeds : ∀ pN ∈ (fd_needs l0 l1 h0 h1 n e0 e1 e2 e3 e4 e5 e6 e7 r s), pN) : RoundOk (roundC (fdF l0 l1 h0 h1 n e0 e1 e2 e3 e4 e5 e6 e7 r) (bodyOf Try.prog (sums K_pair) L_cr 65 0) 60 s) :=
  RoundOk.of (ps := (fd_needs l0 l1 h0 h1 n e0 e1 e2 e3 e4 e5 e6 e7 r s)) (by kernel_rfl) (by kernel_rfl) hNeeds
theorem fd_rounds (l0 l1 h0 h1 n e0 e1 e2 e3 e4 e5 e6 : Int) (e7 : Bool) (r : Int) : RoundsOk (fdF l0 l1 h0 h1 n e0 e1 e2 e3 e4 e5 e6 e7 r) (bodyOf Try.prog (sums K_pair) L_cr 65 0) 60 := by
  intro s hJ
  obtain ⟨h0', h1', h2, h3⟩ : 0 ≤ s.1 ∧ s.1 ≤ s.2 ∧ s.2 ≤ n ∧ n ≤ 1000000000000 := hJ
  obtain ⟨w1, w2, w3⟩ := bs_mid h0' h1' (by omega)
  have hk : fd_s4 s = (s.1 + s.2).tdiv 2 := w2
  refine fd_round l0 l1 h0 h1 n e0 e1 e2 e3 e4 e5 e6 e7 r s ?_
  unfold fd_needs
  rw [hk]
  unfold fd_s0
  rw [w1]
  intro p hp
  simp only [List.mem_cons, List.not_mem_nil, or_false] at hp
  rcases hp with rfl | rfl | rfl
  · intro h
    have h : s.2 - s.1 > 1 := by simpa using h
    rw [wrI (by omega) (by omega)]
    omega
  · intro h
    have h : s.2 - s.1 > 1 := by simpa using h
    obtain ⟨b1, b2, b3, b4, b5⟩ := bsN_ok (P := fdP l0 l1 h0 h1 n e0 e1 e2 e3 e4 e5 e6 r) h0' h
    exact ⟨⟨b1, b2, Int.le_trans b3 h2, h3⟩, b4, b5, rfl, rfl⟩
  · intro h
    have h : ¬ s.2 - s.1 > 1 := by simpa using h
    show bsF _ (s.1, s.2) = s.2
    exact bsF_end h
noncomputable def fdL : LoopS := fun env mem m => match eInt env 13, eInt env 11, mInts mem 20, mInts mem 24, mElem mem 0, eInt env 4 with
  | some b, some n, some [l0, l1], some [h0, h1], some ([e0, e1, e2, e3, e4, e5, e6], e7), some r => famS (fdF l0 l1 h0 h1 n e0 e1 e2 e3 e4 e5 e6 e7 r) 60 (fun _ _ => some (bs0 b)) env mem m
  | _, _, _, _, _, _ => none
noncomputable def L_fd : FuncId → Nat → Option LoopS := addL L_cr 65 4 fdL
theorem known_fdL : Known Try.prog (sums K_pair) L_fd := by
  refine known_addL 0 known_pair (by kernel_rfl) (codeOk_of fun env mem m x h => ?_)
  unfold fdL at h
  have hlen : (loopList Try.prog 65).length = 2 := by kernel_rfl
  split at h
  · exact ⟨_, fam_ok (bodyOf_ok plainN known_pair (by omega)) (fd_rounds _ _ _ _ _ _ _ _ _ _ _ _ _ _), h⟩
  · cases h
noncomputable def rcM0 (d z : Int) (full : Bool) (s : CvS) : Int := bif full && Int.ofNat s.i == 0 then IntKind.i64.wrap (0 - s.a0) else rHalf_0 s.a0 s.a1 s.b0 s.b1 d z
noncomputable def rcM1 (d z : Int) (full : Bool) (s : CvS) : Int := bif full && Int.ofNat s.i == 0 then IntKind.i64.wrap (0 - s.a1) else rHalf_1 s.a0 s.a1 s.b0 s.b1 d z
noncomputable def rcN (P : Int → Int → Bool) (d z : Int) (full : Bool) (s : CvS) : CvS :=
  ⟨s.i + 1, bif P (rcM0 d z full s) (rcM1 d z full s) then s.a0 else rcM0 d z full s, bif P (rcM0 d z full s) (rcM1 d z full s) then s.a1 else rcM1 d z full s,
    bif P (rcM0 d z full s) (rcM1 d z full s) then rcM0 d z full s else s.b0, bif P (rcM0 d z full s) (rcM1 d z full s) then rcM1 d z full s else s.b1⟩
noncomputable def rcv (P : Int → Int → Bool) (d z : Int) (full : Bool) : Nat → CvS → Int × Int
  | 0, s => (s.b0, s.b1)
  | f + 1, s => bif rfar_0 s.a0 s.a1 s.b0 s.b1 || full && Int.ofNat s.i == 0 then rcv P d z full f (rcN P d z full s) else (s.b0, s.b1)
noncomputable def faP (f4 f5 e0 e1 e2 e3 e4 e5 e6 r u w : Int) : Bool := rclear_0 e0 e1 e2 e3 e4 e5 e6 (addpt_0 f4 u) (addpt_0 f5 w) r
noncomputable def faM (f0 f1 f2 f3 f4 f5 f6 : Int) (f7 : Bool) (e0 e1 e2 e3 e4 e5 e6 : Int) (e7 : Bool) : Mem := [blk0 28 29, blkE 10 11 f0 f1 f2 f3 f4 f5 f6 f7, blkE 0 1 e0 e1 e2 e3 e4 e5 e6 e7]
noncomputable def faF (z : Int) (f0 f1 f2 f3 f4 f5 f6 : Int) (f7 : Bool) (e0 e1 e2 e3 e4 e5 e6 : Int) (e7 : Bool) (r : Int) : Fam CvS (Int × Int) where
  k := 60
  E s := [(19, ent 1000000000 (.one (I (Int.ofNat s.i)))), (18, ent 1046 (.one (.ptr 1043 0))), (17, ent 1042 (.one (.ptr 1039 0))), (15, ent 978 (.one (I z))), (10, ent 31 (.one (.ptr 28 0))), (6, ent 19 (.one (.ptr 10 0))), (5, ent 9 (.one (.ptr 0 0))), (4, ent 8 (.one (I r)))]
  M s := blkT 1043 1000000001 1000000002 s.b0 s.b1 :: blkT 1039 1000000003 1000000004 s.a0 s.a1 :: faM f0 f1 f2 f3 f4 f5 f6 f7 e0 e1 e2 e3 e4 e5 e6 e7
  out t := .leaf (.exit 2) [(18, ent 1046 (.one (.ptr 1043 0))), (10, ent 31 (.one (.ptr 28 0))), (6, ent 19 (.one (.ptr 10 0)))] (blkT 1043 1055 1056 t.1 t.2 :: faM f0 f1 f2 f3 f4 f5 f6 f7 e0 e1 e2 e3 e4 e5 e6 e7)
  fin s := rcv (faP f4 f5 e0 e1 e2 e3 e4 e5 e6 r) f6 z f7 (24 - s.i) s
  next s _ := rcN (faP f4 f5 e0 e1 e2 e3 e4 e5 e6 r) f6 z f7 s
  J s := s.i ≤ 24 ∧ isI z
  μ s := 24 - s.i
noncomputable def fa_s0 (f7 : Bool) (s : CvS) : Prop :=
  (decide (Int.ofNat s.i < 24) && (rfar_0 s.a0 s.a1 s.b0 s.b1 || f7 && Int.ofNat s.i == 0)) = true
noncomputable def fa_s1 (z : Int) : Prop :=
  -9223372036854775808 ≤ z ∧ z < 9223372036854775808
noncomputable def fa_s2 (z : Int) (f6 : Int) (f7 : Bool) (s : CvS) : Int :=
  bif f7 && Int.ofNat s.i == 0 then IntKind.i64.wrap (0 - s.a0) else rHalf_0 s.a0 s.a1 s.b0 s.b1 f6 z
noncomputable def fa_s3 (z : Int) (f6 : Int) (f7 : Bool) (s : CvS) : Int :=
  bif f7 && Int.ofNat s.i == 0 then IntKind.i64.wrap (0 - s.a1) else rHalf_1 s.a0 s.a1 s.b0 s.b1 f6 z
noncomputable def fa_needs (z : Int) (f0 : Int) (f1 : Int) (f2 : Int) (f3 : Int) (f4 : Int) (f5 : Int) (f6 : Int) (f7 : Bool) (e0 : Int) (e1 : Int) (e2 : Int) (e3 : Int) (e4 : Int) (e5 : Int) (e6 : Int) (e7 : Bool) (r : Int) (s : CvS) : List Prop :=
  [fa_s0 f7 s → fa_s1 z,
    fa_s0 f7 s →
      (((faF z f0 f1 f2 f3 f4 f5 f6 f7 e0 e1 e2 e3 e4 e5 e6 e7 r).next s 0).i ≤ 24 ∧ fa_s1 z) ∧
        (faF z f0 f1 f2 f3 f4 f5 f6 f7 e0 e1 e2 e3 e4 e5 e6 e7 r).μ ((faF z f0 f1 f2 f3 f4 f5 f6 f7 e0 e1 e2 e3 e4 e5 e6 e7 r).next s 0) < (faF z f0 f1 f2 f3 f4 f5 f6 f7 e0 e1 e2 e3 e4 e5 e6 e7 r).μ s ∧
          (faF z f0 f1 f2 f3 f4 f5 f6 f7 e0 e1 e2 e3 e4 e5 e6 e7 r).fin ((faF z f0 f1 f2 f3 f4 f5 f6 f7 e0 e1 e2 e3 e4 e5 e6 e7 r).next s 0) =
              (faF z f0 f1 f2 f3 f4 f5 f6 f7 e0 e1 e2 e3 e4 e5 e6 e7 r).fin s ∧
            Int.ofNat ((faF z f0 f1 f2 f3 f4 f5 f6 f7 e0 e1 e2 e3 e4 e5 e6 e7 r).next s 0).i = IntKind.i64.wrap (Int.ofNat s.i + 1) ∧
              (((faF z f0 f1 f2 f3 f4 f5 f6 f7 e0 e1 e2 e3 e4 e5 e6 e7 r).next s 0).b0 =
                  bif rclear_0 e0 e1 e2 e3 e4 e5 e6 (addpt_0 f4 (fa_s2 z f6 f7 s)) (addpt_0 f5 (fa_s3 z f6 f7 s)) r then fa_s2 z f6 f7 s else s.b0) ∧
                (((faF z f0 f1 f2 f3 f4 f5 f6 f7 e0 e1 e2 e3 e4 e5 e6 e7 r).next s 0).b1 =
                    bif rclear_0 e0 e1 e2 e3 e4 e5 e6 (addpt_0 f4 (fa_s2 z f6 f7 s)) (addpt_0 f5 (fa_s3 z f6 f7 s)) r then fa_s3 z f6 f7 s else s.b1) ∧
                  (((faF z f0 f1 f2 f3 f4 f5 f6 f7 e0 e1 e2 e3 e4 e5 e6 e7 r).next s 0).a0 =
                      bif rclear_0 e0 e1 e2 e3 e4 e5 e6 (addpt_0 f4 (fa_s2 z f6 f7 s)) (addpt_0 f5 (fa_s3 z f6 f7 s)) r then s.a0 else fa_s2 z f6 f7 s) ∧
                    ((faF z f0 f1 f2 f3 f4 f5 f6 f7 e0 e1 e2 e3 e4 e5 e6 e7 r).next s 0).a1 =
                      bif rclear_0 e0 e1 e2 e3 e4 e5 e6 (addpt_0 f4 (fa_s2 z f6 f7 s)) (addpt_0 f5 (fa_s3 z f6 f7 s)) r then s.a1 else fa_s3 z f6 f7 s,
    (decide (Int.ofNat s.i < 24) && (rfar_0 s.a0 s.a1 s.b0 s.b1 || f7 && Int.ofNat s.i == 0)) = false →
      ((faF z f0 f1 f2 f3 f4 f5 f6 f7 e0 e1 e2 e3 e4 e5 e6 e7 r).fin s).fst = s.b0 ∧ ((faF z f0 f1 f2 f3 f4 f5 f6 f7 e0 e1 e2 e3 e4 e5 e6 e7 r).fin s).snd = s.b1]
theorem fa_round (z f0 f1 f2 f3 f4 f5 f6 : Int) (f7 : Bool) (e0 e1 e2 e3 e4 e5 e6 : Int) (e7 : Bool) (r : Int) (s : CvS) (hNeeds : ∀ pN ∈ (fa_needs z f0 f1 f2 f3 f4 f5 f6 f7 e0 e1 e2 e3 e4 e5 e6 e7 r s), pN) : RoundOk (roundC (faF z f0 f1 f2 f3 f4 f5 f6 f7 e0 e1 e2 e3 e4 e5 e6 e7 r) (bodyOf Try.prog (sums K_pair) L_fd 65 1) 1054 s) :=
  RoundOk.of (ps := (fa_needs z f0 f1 f2 f3 f4 f5 f6 f7 e0 e1 e2 e3 e4 e5 e6 e7 r s)) (by kernel_rfl) (by kernel_rfl) hNeeds
theorem rcv_next (P : Int → Int → Bool) (d z : Int) (full : Bool) (s : CvS) (h : s.i < 24) : rcv P d z full (24 - s.i) s = bif rfar_0 s.a0 s.a1 s.b0 s.b1 || full && Int.ofNat s.i == 0 then rcv P d z full (24 - (s.i + 1)) (rcN P d z full s) else (s.b0, s.b1) := by
  have e : 24 - s.i = (24 - (s.i + 1)) + 1 := by omega
  rw [e]; rfl
theorem fa_rounds (z f0 f1 f2 f3 f4 f5 f6 : Int) (f7 : Bool) (e0 e1 e2 e3 e4 e5 e6 : Int) (e7 : Bool) (r : Int) : RoundsOk (faF z f0 f1 f2 f3 f4 f5 f6 f7 e0 e1 e2 e3 e4 e5 e6 e7 r) (bodyOf Try.prog (sums K_pair) L_fd 65 1) 1054 := by
  intro s hJ
  obtain ⟨hi, hz⟩ : s.i ≤ 24 ∧ isI z := hJ
  refine fa_round z f0 f1 f2 f3 f4 f5 f6 f7 e0 e1 e2 e3 e4 e5 e6 e7 r s ?_
  unfold fa_needs
  intro p hp
  simp only [List.mem_cons, List.not_mem_nil, or_false] at hp
  have hw : IntKind.i64.wrap (Int.ofNat s.i + 1) = Int.ofNat (s.i + 1) := by
    rw [wrI (by simp; omega) (by simp; omega)]; rfl
  rcases hp with rfl | rfl | rfl
  · exact fun _ => hz
  · intro h0
    unfold fa_s0 at h0
    simp only [Bool.and_eq_true, decide_eq_true_eq] at h0
    obtain ⟨h1, h2⟩ := h0
    have hi' : s.i < 24 := by simp at h1; omega
    have E1 := rcv_next (faP f4 f5 e0 e1 e2 e3 e4 e5 e6 r) f6 z f7 s hi'
    rw [h2, cond_true] at E1
    refine ⟨⟨by show s.i + 1 ≤ 24; omega, hz⟩, ?_, E1.symm, hw.symm, rfl, rfl, rfl, rfl⟩
    show 24 - (s.i + 1) < 24 - s.i; omega
  · intro h
    have E2 : (faF z f0 f1 f2 f3 f4 f5 f6 f7 e0 e1 e2 e3 e4 e5 e6 e7 r).fin s = (s.b0, s.b1) := by
      show rcv _ _ _ _ (24 - s.i) s = _
      by_cases hi' : s.i < 24
      · have hd : decide (Int.ofNat s.i < 24) = true := by simp; omega
        rw [hd, Bool.true_and] at h
        rw [rcv_next _ _ _ _ _ hi', h]; rfl
      · have : 24 - s.i = 0 := by omega
        rw [this]; rfl
    rw [E2]
    exact ⟨rfl, rfl⟩
noncomputable def faL : LoopS := fun env mem m => match eInt env 15, mInts mem 1043, mInts mem 1039, mElem mem 10, mElem mem 0, eInt env 4 with
  | some z, some [b0, b1], some [a0, a1], some ([f0, f1, f2, f3, f4, f5, f6], f7), some ([e0, e1, e2, e3, e4, e5, e6], e7), some r => famS (faF z f0 f1 f2 f3 f4 f5 f6 f7 e0 e1 e2 e3 e4 e5 e6 e7 r) 1054 (fun _ _ => some (cv0 a0 a1 b0 b1)) env mem m
  | _, _, _, _, _, _ => none
noncomputable def L_fa : FuncId → Nat → Option LoopS := addL L_fd 65 16 faL
theorem known_faL : Known Try.prog (sums K_pair) L_fa := by
  refine known_addL 1 known_fdL (by kernel_rfl) (codeOk_of fun env mem m x h => ?_)
  unfold faL at h
  have hlen : (loopList Try.prog 65).length = 2 := by kernel_rfl
  split at h
  · exact ⟨_, fam_ok (bodyOf_ok plainN known_fdL (by omega)) (fa_rounds _ _ _ _ _ _ _ _ _ _ _ _ _ _ _ _ _ _), h⟩
  · cases h
noncomputable def found_n_ (l0 l1 h0 h1 : Int) : Int :=
  if 0 - (h1 - l1) > (if h1 - l1 > (if 0 - (h0 - l0) > h0 - l0 then 0 - (h0 - l0) else h0 - l0) then h1 - l1 else (if 0 - (h0 - l0) > h0 - l0 then 0 - (h0 - l0) else h0 - l0)) then 0 - (h1 - l1) else (if h1 - l1 > (if 0 - (h0 - l0) > h0 - l0 then 0 - (h0 - l0) else h0 - l0) then h1 - l1 else (if 0 - (h0 - l0) > h0 - l0 then 0 - (h0 - l0) else h0 - l0))
theorem found_n {l0 l1 h0 h1 : Int} (b0 : bd 1048576 l0) (b1 : bd 1048576 l1) (b2 : bd 1048576 h0) (b3 : bd 1048576 h1) : straight_s2 l0 l1 h0 h1 = found_n_ l0 l1 h0 h1 ∧ 0 ≤ found_n_ l0 l1 h0 h1 ∧ found_n_ l0 l1 h0 h1 ≤ 2097152 ∧ bd (found_n_ l0 l1 h0 h1) (h0 - l0) ∧ bd (found_n_ l0 l1 h0 h1) (h1 - l1) := by
  have d0 : minus_0 h0 l0 = h0 - l0 := minus_eq (by omega) (by omega)
  have d1 : minus_0 h1 l1 = h1 - l1 := minus_eq (by omega) (by omega)
  unfold straight_s2 straight_s1 straight_s0 found_n_
  rw [d0, d1, wrI (x := 0 - (h0 - l0)) (by omega) (by omega), wrI (x := 0 - (h1 - l1)) (by omega) (by omega)]
  refine ⟨rfl, ?_⟩
  repeat' split
  all_goals omega
noncomputable def found_tpl : Tpl := ⟨[.agg [.int .i64, .int .i64, .int .i64, .int .i64, .int .i64, .int .i64, .int .i64, .bool], .agg [.int .i64, .int .i64, .int .i64, .int .i64, .int .i64, .int .i64, .int .i64, .bool], .agg [.int .i64, .int .i64], .agg [.int .i64, .int .i64], .one (.int .i64)], [], 0⟩
noncomputable def found_s0 (l0 : Int) (h0 : Int) : Int :=
  if IntKind.i64.wrap (l0 - h0) > IntKind.i64.wrap (h0 - l0) then IntKind.i64.wrap (l0 - h0) else IntKind.i64.wrap (h0 - l0)
noncomputable def found_s1 (l0 : Int) (l1 : Int) (h0 : Int) (h1 : Int) : Int :=
  if IntKind.i64.wrap (h1 - l1) > found_s0 l0 h0 then IntKind.i64.wrap (h1 - l1) else found_s0 l0 h0
noncomputable def found_s2 (l0 : Int) (l1 : Int) (h0 : Int) (h1 : Int) : Int :=
  if IntKind.i64.wrap (l1 - h1) > found_s1 l0 l1 h0 h1 then IntKind.i64.wrap (l1 - h1) else found_s1 l0 l1 h0 h1
noncomputable def found_0 (e0 : Int) (e1 : Int) (e2 : Int) (e3 : Int) (e4 : Int) (e5 : Int) (e6 : Int) (e7 : Bool) (f0 : Int) (f1 : Int) (f2 : Int) (f3 : Int) (f4 : Int) (f5 : Int) (f6 : Int) (f7 : Bool) (l0 : Int) (l1 : Int) (h0 : Int) (h1 : Int) (r : Int) : Int :=
  bif f6 == 0 then
    bif found_s2 l0 l1 h0 h1 == 0 then h0 else rbetween_0 l0 h0 ((fdF l0 l1 h0 h1 (found_s2 l0 l1 h0 h1) e0 e1 e2 e3 e4 e5 e6 e7 r).fin (bs0 (found_s2 l0 l1 h0 h1))) (found_s2 l0 l1 h0 h1)
  else
    addpt_0 f4
      ((faF (IntKind.i64.wrap (rRoot_0 (vinner_0 (rspoke_0 f0 f2 f4 false) (rspoke_0 f1 f3 f5 false) (rspoke_0 f0 f2 f4 false) (rspoke_0 f1 f3 f5 false)) 1 2 - IntKind.i64.wrap (f6 * r))) f0 f1 f2 f3 f4
              f5 f6 f7 e0 e1 e2 e3 e4 e5 e6 e7 r).fin
          (cv0 (minus_0 l0 f4) (minus_0 l1 f5) (minus_0 h0 f4) (minus_0 h1 f5))).fst
noncomputable def found_1 (e0 : Int) (e1 : Int) (e2 : Int) (e3 : Int) (e4 : Int) (e5 : Int) (e6 : Int) (e7 : Bool) (f0 : Int) (f1 : Int) (f2 : Int) (f3 : Int) (f4 : Int) (f5 : Int) (f6 : Int) (f7 : Bool) (l0 : Int) (l1 : Int) (h0 : Int) (h1 : Int) (r : Int) : Int :=
  bif f6 == 0 then
    bif found_s2 l0 l1 h0 h1 == 0 then h1 else rbetween_0 l1 h1 ((fdF l0 l1 h0 h1 (found_s2 l0 l1 h0 h1) e0 e1 e2 e3 e4 e5 e6 e7 r).fin (bs0 (found_s2 l0 l1 h0 h1))) (found_s2 l0 l1 h0 h1)
  else
    addpt_0 f5
      ((faF (IntKind.i64.wrap (rRoot_0 (vinner_0 (rspoke_0 f0 f2 f4 false) (rspoke_0 f1 f3 f5 false) (rspoke_0 f0 f2 f4 false) (rspoke_0 f1 f3 f5 false)) 1 2 - IntKind.i64.wrap (f6 * r))) f0 f1 f2 f3 f4
              f5 f6 f7 e0 e1 e2 e3 e4 e5 e6 e7 r).fin
          (cv0 (minus_0 l0 f4) (minus_0 l1 f5) (minus_0 h0 f4) (minus_0 h1 f5))).snd
noncomputable def found_s3 (f0 : Int) (f1 : Int) (f2 : Int) (f3 : Int) (f4 : Int) (f5 : Int) (f6 : Int) (r : Int) : Int :=
  IntKind.i64.wrap (rRoot_0 (vinner_0 (rspoke_0 f0 f2 f4 false) (rspoke_0 f1 f3 f5 false) (rspoke_0 f0 f2 f4 false) (rspoke_0 f1 f3 f5 false)) 1 2 - IntKind.i64.wrap (f6 * r))
noncomputable def found_needs (f0 : Int) (f1 : Int) (f2 : Int) (f3 : Int) (f4 : Int) (f5 : Int) (f6 : Int) (l0 : Int) (l1 : Int) (h0 : Int) (h1 : Int) (r : Int) : List Prop :=
  [(f6 == 0) = true →
      (0 ≤ (bs0 (found_s2 l0 l1 h0 h1)).fst ∧
          (bs0 (found_s2 l0 l1 h0 h1)).fst ≤ (bs0 (found_s2 l0 l1 h0 h1)).snd ∧ (bs0 (found_s2 l0 l1 h0 h1)).snd ≤ found_s2 l0 l1 h0 h1 ∧ found_s2 l0 l1 h0 h1 ≤ 1000000000000) ∧
        (bs0 (found_s2 l0 l1 h0 h1)).snd = found_s2 l0 l1 h0 h1 ∧ (bs0 (found_s2 l0 l1 h0 h1)).fst = 0 ∧ ((found_s2 l0 l1 h0 h1 == 0) = false → IntKind.i64.wrap (2 * found_s2 l0 l1 h0 h1) ≠ 0),
    (f6 == 0) = false →
      (-9223372036854775808 ≤ vinner_0 (rspoke_0 f0 f2 f4 false) (rspoke_0 f1 f3 f5 false) (rspoke_0 f0 f2 f4 false) (rspoke_0 f1 f3 f5 false) ∧
          vinner_0 (rspoke_0 f0 f2 f4 false) (rspoke_0 f1 f3 f5 false) (rspoke_0 f0 f2 f4 false) (rspoke_0 f1 f3 f5 false) < 9223372036854775808) ∧
        ((cv0 (minus_0 l0 f4) (minus_0 l1 f5) (minus_0 h0 f4) (minus_0 h1 f5)).i ≤ 24 ∧ -9223372036854775808 ≤ found_s3 f0 f1 f2 f3 f4 f5 f6 r ∧ found_s3 f0 f1 f2 f3 f4 f5 f6 r < 9223372036854775808) ∧
          Int.ofNat (cv0 (minus_0 l0 f4) (minus_0 l1 f5) (minus_0 h0 f4) (minus_0 h1 f5)).i = 0 ∧
            (cv0 (minus_0 l0 f4) (minus_0 l1 f5) (minus_0 h0 f4) (minus_0 h1 f5)).b0 = minus_0 h0 f4 ∧
              (cv0 (minus_0 l0 f4) (minus_0 l1 f5) (minus_0 h0 f4) (minus_0 h1 f5)).b1 = minus_0 h1 f5 ∧
                (cv0 (minus_0 l0 f4) (minus_0 l1 f5) (minus_0 h0 f4) (minus_0 h1 f5)).a0 = minus_0 l0 f4 ∧ (cv0 (minus_0 l0 f4) (minus_0 l1 f5) (minus_0 h0 f4) (minus_0 h1 f5)).a1 = minus_0 l1 f5]
theorem found_weak {f0 : Int} {f1 : Int} {f2 : Int} {f3 : Int} {f4 : Int} {f5 : Int} {f6 : Int} {l0 : Int} {l1 : Int} {h0 : Int} {h1 : Int} {r : Int} (hW : ∀ q ∈ ([bd 1048576 l0, bd 1048576 l1, bd 1048576 h0, bd 1048576 h1] : List Prop), q) : ∀ q ∈ (found_needs f0 f1 f2 f3 f4 f5 f6 l0 l1 h0 h1 r), q := by
  simp only [List.mem_cons, List.not_mem_nil, or_false, forall_eq_or_imp, forall_eq] at hW
  unfold found_needs
  simp only [List.forall_mem_cons, List.not_mem_nil, false_implies, implies_true, and_true]
  obtain ⟨b0, b1, b2, b3⟩ := hW
  have en : found_s2 l0 l1 h0 h1 = found_n_ l0 l1 h0 h1 := by
    unfold found_s2 found_s1 found_s0 found_n_
    rw [wrI (x := l0 - h0) (by omega) (by omega), wrI (x := h0 - l0) (by omega) (by omega), wrI (x := h1 - l1) (by omega) (by omega), wrI (x := l1 - h1) (by omega) (by omega), show l0 - h0 = 0 - (h0 - l0) by omega, show l1 - h1 = 0 - (h1 - l1) by omega]
  obtain ⟨_, n0, n1, _, _⟩ := found_n b0 b1 b2 b3
  rw [← en] at n0 n1
  refine ⟨fun _ => ⟨⟨Int.le_refl 0, n0, Int.le_refl _, by omega⟩, rfl, rfl, fun h => ?_⟩, fun _ => ⟨wrap_isI _, ⟨Nat.zero_le _, wrap_isI _⟩, rfl, rfl, rfl, rfl, rfl⟩⟩
  rw [wrI (by omega) (by omega)]
  have : found_s2 l0 l1 h0 h1 ≠ 0 := by simpa using h
  omega
set_option maxRecDepth 1000000 in
theorem found_runs (e0 e1 e2 e3 e4 e5 e6 : Int) (e7 : Bool) (f0 f1 f2 f3 f4 f5 f6 : Int) (f7 : Bool) (l0 l1 h0 h1 r : Int) (hNeeds : ∀ pN ∈ (found_needs f0 f1 f2 f3 f4 f5 f6 l0 l1 h0 h1 r), pN) : Runs (runF (sums K_pair) L_fa 65) (found_tpl.args [.i e0, .i e1, .i e2, .i e3, .i e4, .i e5, .i e6, .b e7, .i f0, .i f1, .i f2, .i f3, .i f4, .i f5, .i f6, .b f7, .i l0, .i l1, .i h0, .i h1, .i r]) (found_tpl.memo [.i e0, .i e1, .i e2, .i e3, .i e4, .i e5, .i e6, .b e7, .i f0, .i f1, .i f2, .i f3, .i f4, .i f5, .i f6, .b f7, .i l0, .i l1, .i h0, .i h1, .i r] []) found_tpl.n (SV.agg
    [SC.int IntKind.i64 (SI.v (found_0 e0 e1 e2 e3 e4 e5 e6 e7 f0 f1 f2 f3 f4 f5 f6 f7 l0 l1 h0 h1 r)), SC.int IntKind.i64 (SI.v (found_1 e0 e1 e2 e3 e4 e5 e6 e7 f0 f1 f2 f3 f4 f5 f6 f7 l0 l1 h0 h1 r))])
    ([]) :=
  Runs.of (ps := (found_needs f0 f1 f2 f3 f4 f5 f6 l0 l1 h0 h1 r)) (by kernel_rfl) (by kernel_rfl) hNeeds
noncomputable def found_out : List Pm → Lss → Option CRes
  | [.i e0, .i e1, .i e2, .i e3, .i e4, .i e5, .i e6, .b e7, .i f0, .i f1, .i f2, .i f3, .i f4, .i f5, .i f6, .b f7, .i l0, .i l1, .i h0, .i h1, .i r], [] => some ⟨SV.agg
    [SC.int IntKind.i64 (SI.v (found_0 e0 e1 e2 e3 e4 e5 e6 e7 f0 f1 f2 f3 f4 f5 f6 f7 l0 l1 h0 h1 r)), SC.int IntKind.i64 (SI.v (found_1 e0 e1 e2 e3 e4 e5 e6 e7 f0 f1 f2 f3 f4 f5 f6 f7 l0 l1 h0 h1 r))],
    [],
    [bd 1048576 l0, bd 1048576 l1, bd 1048576 h0, bd 1048576 h1], [], 1149⟩
  | _, _ => none
theorem found_ok : FOk Try.prog 65 (tplS found_tpl found_out) := by
  refine tplS_ok (runF_ok known_faL 65) fun ps ls r hr hn _ => ?_
  unfold found_out at hr
  split at hr
  · cases hr; exact ⟨_, found_runs _ _ _ _ _ _ _ _ _ _ _ _ _ _ _ _ _ _ _ _ _ (found_weak (by exact hn)), fun _ => rfl⟩
  · cases hr
noncomputable def K_found : List (Nat × Summ) := (65, tplS found_tpl found_out) :: K_pair
theorem known_found : Known Try.prog (sums K_found) L_fa := known_cons known_faL found_ok
theorem rnest_bd (A B C D X : Int) (hX : X = A ∨ X = B ∨ X = C ∨ X = D) : bd 1048576 (bif !rwithin_0 A B || !rwithin_0 C D then 0 else X) := by
  have hw : ∀ a b, rwithin_0 a b = (oin_0 a 1048576 && oin_0 b 1048576) := fun _ _ => rfl
  have z : bd 1048576 0 := by decide
  rw [hw, hw]
  cases hA : oin_0 A 1048576
  · exact z
  cases hB : oin_0 B 1048576
  · exact z
  cases hC : oin_0 C 1048576
  · exact z
  cases hD : oin_0 D 1048576
  · exact z
  have q : ∀ {x}, oin_0 x 1048576 = true → bd 1048576 x := fun h => (oin_iff (by omega) (by omega)).1 h
  rcases hX with rfl | rfl | rfl | rfl
  · exact q hA
  · exact q hB
  · exact q hC
  · exact q hD
theorem rends_bd (e0 e1 e2 e3 e4 e5 e6 r : Int) : bd 1048576 (rends_0 e0 e1 e2 e3 e4 e5 e6 r) ∧ bd 1048576 (rends_1 e0 e1 e2 e3 e4 e5 e6 r) ∧ bd 1048576 (rends_2 e0 e1 e2 e3 e4 e5 e6 r) ∧ bd 1048576 (rends_3 e0 e1 e2 e3 e4 e5 e6 r) := by
  have z : bd 1048576 0 := by decide
  have key : ∀ (p q : Bool) (x : Int), bd 1048576 x → bd 1048576 (bif p then bif q then 0 else x else x) := fun p q x h => by
    cases p <;> cases q <;> first | exact h | exact z
  refine ⟨key _ _ _ ?_, key _ _ _ ?_, key _ _ _ ?_, key _ _ _ ?_⟩
  · exact rnest_bd _ _ _ _ _ (.inl rfl)
  · exact rnest_bd _ _ _ _ _ (.inr (.inl rfl))
  · exact rnest_bd _ _ _ _ _ (.inr (.inr (.inl rfl)))
  · exact rnest_bd _ _ _ _ _ (.inr (.inr (.inr rfl)))
noncomputable def rtrim_tpl : Tpl := ⟨[.agg [.int .i64, .int .i64, .int .i64, .int .i64, .int .i64, .int .i64, .int .i64, .bool], .agg [.int .i64, .int .i64, .int .i64, .int .i64, .int .i64, .int .i64, .int .i64, .bool], .one (.int .i64)], [], 0⟩
noncomputable def rtrim_s0 (e0 : Int) (e1 : Int) (e2 : Int) (e3 : Int) (e4 : Int) (e5 : Int) (e6 : Int) (e7 : Bool) (f0 : Int) (f1 : Int) (f2 : Int) (f3 : Int) (f4 : Int) (f5 : Int) (f6 : Int) (f7 : Bool) (r : Int) : Int :=
  found_0 e0 e1 e2 e3 e4 e5 e6 e7 f0 f1 f2 f3 f4 f5 f6 f7 (rends_0 f0 f1 f2 f3 f4 f5 f6 r) (rends_1 f0 f1 f2 f3 f4 f5 f6 r) (rends_2 f0 f1 f2 f3 f4 f5 f6 r) (rends_3 f0 f1 f2 f3 f4 f5 f6 r) r
noncomputable def rtrim_s1 (e0 : Int) (e1 : Int) (e2 : Int) (e3 : Int) (e4 : Int) (e5 : Int) (e6 : Int) (e7 : Bool) (f0 : Int) (f1 : Int) (f2 : Int) (f3 : Int) (f4 : Int) (f5 : Int) (f6 : Int) (f7 : Bool) (r : Int) : Int :=
  found_1 e0 e1 e2 e3 e4 e5 e6 e7 f0 f1 f2 f3 f4 f5 f6 f7 (rends_0 f0 f1 f2 f3 f4 f5 f6 r) (rends_1 f0 f1 f2 f3 f4 f5 f6 r) (rends_2 f0 f1 f2 f3 f4 f5 f6 r) (rends_3 f0 f1 f2 f3 f4 f5 f6 r) r
noncomputable def rtrim_s2 (e0 : Int) (e1 : Int) (e2 : Int) (e3 : Int) (e4 : Int) (e5 : Int) (e6 : Int) (e7 : Bool) (f0 : Int) (f1 : Int) (f2 : Int) (f3 : Int) (f4 : Int) (f5 : Int) (f6 : Int) (f7 : Bool) (r : Int) : Int :=
  vinner_0 (minus_0 (rtrim_s0 e0 e1 e2 e3 e4 e5 e6 e7 f0 f1 f2 f3 f4 f5 f6 f7 r) (rends_0 e0 e1 e2 e3 e4 e5 e6 r))
    (minus_0 (rtrim_s1 e0 e1 e2 e3 e4 e5 e6 e7 f0 f1 f2 f3 f4 f5 f6 f7 r) (rends_1 e0 e1 e2 e3 e4 e5 e6 r)) (minus_0 e2 e0) (minus_0 e3 e1)
noncomputable def rtrim_0 (e0 : Int) (e1 : Int) (e2 : Int) (e3 : Int) (e4 : Int) (e5 : Int) (e6 : Int) (e7 : Bool) (f0 : Int) (f1 : Int) (f2 : Int) (f3 : Int) (f4 : Int) (f5 : Int) (f6 : Int) (f7 : Bool) (r : Int) : Int :=
  bif rends_4 e0 e1 e2 e3 e4 e5 e6 r != 0 then 0
  else
    bif rends_4 f0 f1 f2 f3 f4 f5 f6 r != 0 then 0
    else
      bif !rclear_0 e0 e1 e2 e3 e4 e5 e6 (rends_2 f0 f1 f2 f3 f4 f5 f6 r) (rends_3 f0 f1 f2 f3 f4 f5 f6 r) r then 0
      else
        bif !rwithin_0 (rtrim_s0 e0 e1 e2 e3 e4 e5 e6 e7 f0 f1 f2 f3 f4 f5 f6 f7 r) (rtrim_s1 e0 e1 e2 e3 e4 e5 e6 e7 f0 f1 f2 f3 f4 f5 f6 f7 r) then 0
        else
          bif e6 == 0 then bif decide (rtrim_s2 e0 e1 e2 e3 e4 e5 e6 e7 f0 f1 f2 f3 f4 f5 f6 f7 r ≤ 0) then 0 else rtrim_s0 e0 e1 e2 e3 e4 e5 e6 e7 f0 f1 f2 f3 f4 f5 f6 f7 r
          else
            bif
                !insweep_0 (rspoke_0 e0 e2 e4 false) (rspoke_0 e1 e3 e5 false) (rspoke_0 e0 e2 e4 true) (rspoke_0 e1 e3 e5 true) (minus_0 (rtrim_s0 e0 e1 e2 e3 e4 e5 e6 e7 f0 f1 f2 f3 f4 f5 f6 f7 r) e4)
                      (minus_0 (rtrim_s1 e0 e1 e2 e3 e4 e5 e6 e7 f0 f1 f2 f3 f4 f5 f6 f7 r) e5) e6 e7 ||
                  sameway_0 (rspoke_0 e0 e2 e4 false) (rspoke_0 e1 e3 e5 false) (minus_0 (rtrim_s0 e0 e1 e2 e3 e4 e5 e6 e7 f0 f1 f2 f3 f4 f5 f6 f7 r) e4)
                    (minus_0 (rtrim_s1 e0 e1 e2 e3 e4 e5 e6 e7 f0 f1 f2 f3 f4 f5 f6 f7 r) e5) then
              0
            else rtrim_s0 e0 e1 e2 e3 e4 e5 e6 e7 f0 f1 f2 f3 f4 f5 f6 f7 r
noncomputable def rtrim_1 (e0 : Int) (e1 : Int) (e2 : Int) (e3 : Int) (e4 : Int) (e5 : Int) (e6 : Int) (e7 : Bool) (f0 : Int) (f1 : Int) (f2 : Int) (f3 : Int) (f4 : Int) (f5 : Int) (f6 : Int) (f7 : Bool) (r : Int) : Int :=
  bif rends_4 e0 e1 e2 e3 e4 e5 e6 r != 0 then 0
  else
    bif rends_4 f0 f1 f2 f3 f4 f5 f6 r != 0 then 0
    else
      bif !rclear_0 e0 e1 e2 e3 e4 e5 e6 (rends_2 f0 f1 f2 f3 f4 f5 f6 r) (rends_3 f0 f1 f2 f3 f4 f5 f6 r) r then 0
      else
        bif !rwithin_0 (rtrim_s0 e0 e1 e2 e3 e4 e5 e6 e7 f0 f1 f2 f3 f4 f5 f6 f7 r) (rtrim_s1 e0 e1 e2 e3 e4 e5 e6 e7 f0 f1 f2 f3 f4 f5 f6 f7 r) then 0
        else
          bif e6 == 0 then bif decide (rtrim_s2 e0 e1 e2 e3 e4 e5 e6 e7 f0 f1 f2 f3 f4 f5 f6 f7 r ≤ 0) then 0 else rtrim_s1 e0 e1 e2 e3 e4 e5 e6 e7 f0 f1 f2 f3 f4 f5 f6 f7 r
          else
            bif
                !insweep_0 (rspoke_0 e0 e2 e4 false) (rspoke_0 e1 e3 e5 false) (rspoke_0 e0 e2 e4 true) (rspoke_0 e1 e3 e5 true) (minus_0 (rtrim_s0 e0 e1 e2 e3 e4 e5 e6 e7 f0 f1 f2 f3 f4 f5 f6 f7 r) e4)
                      (minus_0 (rtrim_s1 e0 e1 e2 e3 e4 e5 e6 e7 f0 f1 f2 f3 f4 f5 f6 f7 r) e5) e6 e7 ||
                  sameway_0 (rspoke_0 e0 e2 e4 false) (rspoke_0 e1 e3 e5 false) (minus_0 (rtrim_s0 e0 e1 e2 e3 e4 e5 e6 e7 f0 f1 f2 f3 f4 f5 f6 f7 r) e4)
                    (minus_0 (rtrim_s1 e0 e1 e2 e3 e4 e5 e6 e7 f0 f1 f2 f3 f4 f5 f6 f7 r) e5) then
              0
            else rtrim_s1 e0 e1 e2 e3 e4 e5 e6 e7 f0 f1 f2 f3 f4 f5 f6 f7 r
noncomputable def rtrim_2 (e0 : Int) (e1 : Int) (e2 : Int) (e3 : Int) (e4 : Int) (e5 : Int) (e6 : Int) (e7 : Bool) (f0 : Int) (f1 : Int) (f2 : Int) (f3 : Int) (f4 : Int) (f5 : Int) (f6 : Int) (f7 : Bool) (r : Int) : Int :=
  bif rends_4 e0 e1 e2 e3 e4 e5 e6 r != 0 then rends_4 e0 e1 e2 e3 e4 e5 e6 r
  else
    bif rends_4 f0 f1 f2 f3 f4 f5 f6 r != 0 then rends_4 f0 f1 f2 f3 f4 f5 f6 r
    else
      bif !rclear_0 e0 e1 e2 e3 e4 e5 e6 (rends_2 f0 f1 f2 f3 f4 f5 f6 r) (rends_3 f0 f1 f2 f3 f4 f5 f6 r) r then 16
      else
        bif !rwithin_0 (rtrim_s0 e0 e1 e2 e3 e4 e5 e6 e7 f0 f1 f2 f3 f4 f5 f6 f7 r) (rtrim_s1 e0 e1 e2 e3 e4 e5 e6 e7 f0 f1 f2 f3 f4 f5 f6 f7 r) then 3
        else
          bif e6 == 0 then bif decide (rtrim_s2 e0 e1 e2 e3 e4 e5 e6 e7 f0 f1 f2 f3 f4 f5 f6 f7 r ≤ 0) then 16 else 0
          else
            bif
                !insweep_0 (rspoke_0 e0 e2 e4 false) (rspoke_0 e1 e3 e5 false) (rspoke_0 e0 e2 e4 true) (rspoke_0 e1 e3 e5 true) (minus_0 (rtrim_s0 e0 e1 e2 e3 e4 e5 e6 e7 f0 f1 f2 f3 f4 f5 f6 f7 r) e4)
                      (minus_0 (rtrim_s1 e0 e1 e2 e3 e4 e5 e6 e7 f0 f1 f2 f3 f4 f5 f6 f7 r) e5) e6 e7 ||
                  sameway_0 (rspoke_0 e0 e2 e4 false) (rspoke_0 e1 e3 e5 false) (minus_0 (rtrim_s0 e0 e1 e2 e3 e4 e5 e6 e7 f0 f1 f2 f3 f4 f5 f6 f7 r) e4)
                    (minus_0 (rtrim_s1 e0 e1 e2 e3 e4 e5 e6 e7 f0 f1 f2 f3 f4 f5 f6 f7 r) e5) then
              16
            else 0
noncomputable def rtrim_needs (e0 : Int) (e1 : Int) (e2 : Int) (e3 : Int) (e4 : Int) (e5 : Int) (e6 : Int) (f0 : Int) (f1 : Int) (f2 : Int) (f3 : Int) (f4 : Int) (f5 : Int) (f6 : Int) (r : Int) : List Prop :=
  [(rends_4 e0 e1 e2 e3 e4 e5 e6 r != 0) = false →
      (rends_4 f0 f1 f2 f3 f4 f5 f6 r != 0) = false →
        (!rclear_0 e0 e1 e2 e3 e4 e5 e6 (rends_2 f0 f1 f2 f3 f4 f5 f6 r) (rends_3 f0 f1 f2 f3 f4 f5 f6 r) r) = false →
          (-1048576 ≤ rends_0 f0 f1 f2 f3 f4 f5 f6 r ∧ rends_0 f0 f1 f2 f3 f4 f5 f6 r ≤ 1048576) ∧
            (-1048576 ≤ rends_1 f0 f1 f2 f3 f4 f5 f6 r ∧ rends_1 f0 f1 f2 f3 f4 f5 f6 r ≤ 1048576) ∧
              (-1048576 ≤ rends_2 f0 f1 f2 f3 f4 f5 f6 r ∧ rends_2 f0 f1 f2 f3 f4 f5 f6 r ≤ 1048576) ∧ -1048576 ≤ rends_3 f0 f1 f2 f3 f4 f5 f6 r ∧ rends_3 f0 f1 f2 f3 f4 f5 f6 r ≤ 1048576]
theorem rtrim_need {e0 : Int} {e1 : Int} {e2 : Int} {e3 : Int} {e4 : Int} {e5 : Int} {e6 : Int} {f0 : Int} {f1 : Int} {f2 : Int} {f3 : Int} {f4 : Int} {f5 : Int} {f6 : Int} {r : Int} : ∀ q ∈ (rtrim_needs e0 e1 e2 e3 e4 e5 e6 f0 f1 f2 f3 f4 f5 f6 r), q := by
  unfold rtrim_needs
  simp only [List.forall_mem_cons, List.not_mem_nil, false_implies, implies_true, and_true]
  intro _ _ _
  exact rends_bd _ _ _ _ _ _ _ _
set_option maxRecDepth 1000000 in
theorem rtrim_runs (e0 e1 e2 e3 e4 e5 e6 : Int) (e7 : Bool) (f0 f1 f2 f3 f4 f5 f6 : Int) (f7 : Bool) (r : Int) (hNeeds : ∀ pN ∈ (rtrim_needs e0 e1 e2 e3 e4 e5 e6 f0 f1 f2 f3 f4 f5 f6 r), pN) : Runs (runF (sums K_found) L_fa 34) (rtrim_tpl.args [.i e0, .i e1, .i e2, .i e3, .i e4, .i e5, .i e6, .b e7, .i f0, .i f1, .i f2, .i f3, .i f4, .i f5, .i f6, .b f7, .i r]) (rtrim_tpl.memo [.i e0, .i e1, .i e2, .i e3, .i e4, .i e5, .i e6, .b e7, .i f0, .i f1, .i f2, .i f3, .i f4, .i f5, .i f6, .b f7, .i r] []) rtrim_tpl.n (SV.tup
    [(true, [SC.int IntKind.i64 (SI.v (rtrim_0 e0 e1 e2 e3 e4 e5 e6 e7 f0 f1 f2 f3 f4 f5 f6 f7 r)), SC.int IntKind.i64 (SI.v (rtrim_1 e0 e1 e2 e3 e4 e5 e6 e7 f0 f1 f2 f3 f4 f5 f6 f7 r))]),
      (false, [SC.int IntKind.i64 (SI.v (rtrim_2 e0 e1 e2 e3 e4 e5 e6 e7 f0 f1 f2 f3 f4 f5 f6 f7 r))])])
    ([]) :=
  Runs.of (ps := (rtrim_needs e0 e1 e2 e3 e4 e5 e6 f0 f1 f2 f3 f4 f5 f6 r)) (by kernel_rfl) (by kernel_rfl) hNeeds
noncomputable def rtrim_out : List Pm → Lss → Option CRes
  | [.i e0, .i e1, .i e2, .i e3, .i e4, .i e5, .i e6, .b e7, .i f0, .i f1, .i f2, .i f3, .i f4, .i f5, .i f6, .b f7, .i r], [] => some ⟨SV.tup
    [(true, [SC.int IntKind.i64 (SI.v (rtrim_0 e0 e1 e2 e3 e4 e5 e6 e7 f0 f1 f2 f3 f4 f5 f6 f7 r)), SC.int IntKind.i64 (SI.v (rtrim_1 e0 e1 e2 e3 e4 e5 e6 e7 f0 f1 f2 f3 f4 f5 f6 f7 r))]),
      (false, [SC.int IntKind.i64 (SI.v (rtrim_2 e0 e1 e2 e3 e4 e5 e6 e7 f0 f1 f2 f3 f4 f5 f6 f7 r))])],
    [],
    [], [], 21877⟩
  | _, _ => none
theorem rtrim_ok : FOk Try.prog 34 (tplS rtrim_tpl rtrim_out) := by
  refine tplS_ok (runF_ok known_found 34) fun ps ls r hr hn _ => ?_
  unfold rtrim_out at hr
  split at hr
  · cases hr; exact ⟨_, rtrim_runs _ _ _ _ _ _ _ _ _ _ _ _ _ _ _ _ _ (fun p hp => rtrim_need p hp), fun _ => rfl⟩
  · cases hr
noncomputable def K_rtrim : List (Nat × Summ) := (34, tplS rtrim_tpl rtrim_out) :: K_found
theorem known_rtrim : Known Try.prog (sums K_rtrim) L_fa := known_cons known_found rtrim_ok
end Go.Proofs.Ytjlkecfkjcanaaa
