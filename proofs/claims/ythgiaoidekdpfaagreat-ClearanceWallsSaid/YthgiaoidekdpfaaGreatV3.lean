/-
  OFFSETS: the searches. Conditions: bounds.
-/
import Derived.Test.YthgiaoidekdpfaaGreatV2
set_option linter.all false
namespace Go.Proofs.YthgiaoidekdpfaaGreat
open Go.SX Go.RowKit
/-- The end of a search by halves: b, once a and b are neighbours. -/
noncomputable def bs (P : Int → Bool) : Nat → Int → Int → Int
  | 0, _, b => b
  | f + 1, a, b => bif decide (b - a > 1) then (bif P ((a + b).tdiv 2) then bs P f a ((a + b).tdiv 2) else bs P f ((a + b).tdiv 2) b) else b
theorem mid_lt {a b : Int} (h0 : 0 ≤ a) (h : b - a > 1) : a < (a + b).tdiv 2 ∧ (a + b).tdiv 2 < b := by
  rw [Int.tdiv_eq_ediv_of_nonneg (by omega)]
  omega
theorem bs_fuel (P : Int → Bool) : ∀ (f g : Nat) (a b : Int), 0 ≤ a → (b - a).toNat ≤ f → (b - a).toNat ≤ g → bs P f a b = bs P g a b
  | 0, 0, _, _, _, _, _ => rfl
  | 0, g + 1, a, b, _, h, _ => by
    unfold bs
    rw [decide_eq_false (show ¬ b - a > 1 by omega)]; rfl
  | f + 1, 0, a, b, _, _, h => by
    unfold bs
    rw [decide_eq_false (show ¬ b - a > 1 by omega)]; rfl
  | f + 1, g + 1, a, b, h0, h1, h2 => by
    unfold bs
    by_cases h : b - a > 1
    · obtain ⟨m1, m2⟩ := mid_lt h0 h
      rw [bs_fuel P f g a _ h0 (by omega) (by omega), bs_fuel P f g _ b (by omega) (by omega) (by omega)]
    · rw [decide_eq_false h]; rfl
noncomputable def bs0 (n : Int) : Int × Int := (0, n)
noncomputable def bsF (P : Int → Bool) (s : Int × Int) : Int := bs P (s.2 - s.1).toNat s.1 s.2
theorem bsF_end {P : Int → Bool} {a b : Int} (h : ¬ b - a > 1) : bsF P (a, b) = b := by
  show bs P (b - a).toNat a b = b
  cases (b - a).toNat with
  | zero => rfl
  | succ f => unfold bs; rw [decide_eq_false h]; rfl
theorem bsF_step {P : Int → Bool} {a b : Int} (h0 : 0 ≤ a) (h : b - a > 1) : bsF P (a, b) = bif P ((a + b).tdiv 2) then bsF P (a, (a + b).tdiv 2) else bsF P ((a + b).tdiv 2, b) := by
  obtain ⟨m1, m2⟩ := mid_lt h0 h
  show bs P (b - a).toNat a b = _
  have e : (b - a).toNat = (b - a - 1).toNat + 1 := by omega
  rw [e]
  unfold bs
  rw [decide_eq_true h, cond_true]
  show (bif P ((a + b).tdiv 2) then bs P (b - a - 1).toNat a ((a + b).tdiv 2) else bs P (b - a - 1).toNat ((a + b).tdiv 2) b) = _
  rw [bs_fuel P (b - a - 1).toNat ((a + b).tdiv 2 - a).toNat a _ h0 (by omega) (by omega), bs_fuel P (b - a - 1).toNat (b - (a + b).tdiv 2).toNat _ b (by omega) (by omega) (by omega)]
  rfl
noncomputable def bsN (P : Int → Bool) (s : Int × Int) : Int × Int := (bif P ((s.1 + s.2).tdiv 2) then s.1 else (s.1 + s.2).tdiv 2, bif P ((s.1 + s.2).tdiv 2) then (s.1 + s.2).tdiv 2 else s.2)
/-- One step of a search: what it keeps. -/
theorem bsN_ok {P : Int → Bool} {s : Int × Int} (h0 : 0 ≤ s.1) (h : s.2 - s.1 > 1) : 0 ≤ (bsN P s).1 ∧ (bsN P s).1 ≤ (bsN P s).2 ∧ (bsN P s).2 ≤ s.2 ∧ ((bsN P s).2 - (bsN P s).1).toNat < (s.2 - s.1).toNat ∧ bsF P (bsN P s) = bsF P s := by
  rcases s with ⟨a, b⟩
  obtain ⟨m1, m2⟩ := mid_lt h0 h
  have hs := bsF_step (P := P) h0 h
  unfold bsN
  simp only at h0 h m1 m2 hs ⊢
  rw [hs]
  cases P ((a + b).tdiv 2)
  · simp only [cond_false]
    exact ⟨by omega, by omega, by omega, by omega, trivial⟩
  · simp only [cond_true]
    exact ⟨by omega, by omega, by omega, by omega, trivial⟩
theorem bs_mid {s : Int × Int} (h0 : 0 ≤ s.1) (h1 : s.1 ≤ s.2) (h2 : s.2 ≤ 1000000000000) : IntKind.i64.wrap (s.2 - s.1) = s.2 - s.1 ∧ IntKind.i64.wrap ((IntKind.i64.wrap (s.1 + s.2)).tdiv 2) = (s.1 + s.2).tdiv 2 ∧ isI ((s.1 + s.2).tdiv 2) := by
  have e : (s.1 + s.2).tdiv 2 = (s.1 + s.2) / 2 := Int.tdiv_eq_ediv_of_nonneg (by omega)
  rw [wrI (x := s.2 - s.1) (by omega) (by omega), wrI (x := s.1 + s.2) (by omega) (by omega), e, wrI (by omega) (by omega)]
  exact ⟨rfl, rfl, by omega, by omega⟩
noncomputable def mElem (mem : Mem) (id : Nat) : Option (List Int × Bool) := match SX.look mem id with
  | some (.blk _ cs) => (match cs.reverse with
    | (_, .bool b) :: r => (intsT r.reverse).map fun l => (l, b.val)
    | _ => none)
  | _ => none
noncomputable def blkE (id t : Nat) (e0 e1 e2 e3 e4 e5 e6 : Int) (e7 : Bool) : Nat × SX.Obj := (id, .blk 34 [(t, I e0), (t + 1, I e1), (t + 2, I e2), (t + 3, I e3), (t + 4, I e4), (t + 5, I e5), (t + 6, I e6), (t + 7, .bool (.v e7))])
noncomputable def blkP (id t : Nat) (x y : Int) : Nat × SX.Obj := (id, .blk 23 [(t, I x), (t + 1, I y)])
noncomputable def blk0 (id t : Nat) : Nat × SX.Obj := (id, .blk 23 [(t, .int .i64 (.c 0)), (t + 1, .int .i64 (.c 0))])
noncomputable def stP (l0 l1 d0 d1 n e0 e1 e2 e3 e4 e5 e6 r k : Int) : Bool := oclear_0 e0 e1 e2 e3 e4 e5 e6 (addpt_0 l0 (muldiv_0 d0 k n 2)) (addpt_0 l1 (muldiv_0 d1 k n 2)) r
noncomputable def stM (l0 l1 d0 d1 n e0 e1 e2 e3 e4 e5 e6 : Int) (e7 : Bool) (r : Int) : Mem :=
  [(76, .clo [.one (.ptr 53 0), .one (.ptr 71 0), .one (.ptr 12 0)]), (71, .blk 3 [(74, I n)]), blkP 53 57 d0 d1, blk0 20 21, blkP 12 13 l0 l1, (0, .clo [.one (.ptr 1 0), .one (.ptr 2 0)]), blkE 1 3 e0 e1 e2 e3 e4 e5 e6 e7, (2, .blk 3 [(11, I r)])]
noncomputable def stF (l0 l1 d0 d1 n e0 e1 e2 e3 e4 e5 e6 : Int) (e7 : Bool) (r : Int) : Fam (Int × Int) Int where
  k := 60
  E s := [(11, ent 1000000000 (.one (I s.2))), (10, ent 1000000001 (.one (I s.1))), (9, ent 78 (.one (.clo 182 76))), (6, ent 23 (.one (.ptr 20 0))), (2, ent 4 (.one (.clo 163 0)))]
  M _ := stM l0 l1 d0 d1 n e0 e1 e2 e3 e4 e5 e6 e7 r
  out b := .leaf (.exit 0) [(11, ent 83 (.one (I b))), (9, ent 78 (.one (.clo 182 76))), (6, ent 23 (.one (.ptr 20 0)))] (stM l0 l1 d0 d1 n e0 e1 e2 e3 e4 e5 e6 e7 r)
  fin s := bsF (stP l0 l1 d0 d1 n e0 e1 e2 e3 e4 e5 e6 r) s
  next s _ := bsN (stP l0 l1 d0 d1 n e0 e1 e2 e3 e4 e5 e6 r) s
  J s := 0 ≤ s.1 ∧ s.1 ≤ s.2 ∧ s.2 ≤ 1000000000000 ∧ isI d0 ∧ isI d1 ∧ isI n
  μ s := (s.2 - s.1).toNat
noncomputable def st_s0 (s : Int × Int) : Prop :=
  decide (IntKind.i64.wrap (s.snd - s.fst) > 1) = true
noncomputable def st_s1 (s : Int × Int) : Int :=
  IntKind.i64.wrap ((IntKind.i64.wrap (s.fst + s.snd)).tdiv 2)
noncomputable def st_s2 (n : Int) : Prop :=
  -9223372036854775808 ≤ n ∧ n < 9223372036854775808
noncomputable def st_s3 (l0 : Int) (l1 : Int) (d0 : Int) (d1 : Int) (n : Int) (e0 : Int) (e1 : Int) (e2 : Int) (e3 : Int) (e4 : Int) (e5 : Int) (e6 : Int) (e7 : Bool) (r : Int) (s : Int × Int) : Int :=
  ((stF l0 l1 d0 d1 n e0 e1 e2 e3 e4 e5 e6 e7 r).next s 0).fst
noncomputable def st_s4 (l0 : Int) (l1 : Int) (d0 : Int) (d1 : Int) (n : Int) (e0 : Int) (e1 : Int) (e2 : Int) (e3 : Int) (e4 : Int) (e5 : Int) (e6 : Int) (e7 : Bool) (r : Int) (s : Int × Int) : Int :=
  ((stF l0 l1 d0 d1 n e0 e1 e2 e3 e4 e5 e6 e7 r).next s 0).snd
noncomputable def st_s5 (l0 : Int) (l1 : Int) (d0 : Int) (d1 : Int) (n : Int) (e0 : Int) (e1 : Int) (e2 : Int) (e3 : Int) (e4 : Int) (e5 : Int) (e6 : Int) (e7 : Bool) (r : Int) (s : Int × Int) : Int :=
  (stF l0 l1 d0 d1 n e0 e1 e2 e3 e4 e5 e6 e7 r).fin s
noncomputable def st_needs (l0 : Int) (l1 : Int) (d0 : Int) (d1 : Int) (n : Int) (e0 : Int) (e1 : Int) (e2 : Int) (e3 : Int) (e4 : Int) (e5 : Int) (e6 : Int) (e7 : Bool) (r : Int) (s : Int × Int) : List Prop :=
  [st_s0 s →
     (-9223372036854775808 ≤ d0 ∧ d0 < 9223372036854775808) ∧
     (-9223372036854775808 ≤ st_s1 s ∧ st_s1 s < 9223372036854775808) ∧
     st_s2 n ∧ (-9223372036854775808 ≤ d1 ∧ d1 < 9223372036854775808) ∧ (-9223372036854775808 ≤ st_s1 s ∧ st_s1 s < 9223372036854775808) ∧ st_s2 n,
    st_s0 s →
     (0 ≤ st_s3 l0 l1 d0 d1 n e0 e1 e2 e3 e4 e5 e6 e7 r s ∧
     st_s3 l0 l1 d0 d1 n e0 e1 e2 e3 e4 e5 e6 e7 r s ≤ st_s4 l0 l1 d0 d1 n e0 e1 e2 e3 e4 e5 e6 e7 r s ∧
     st_s4 l0 l1 d0 d1 n e0 e1 e2 e3 e4 e5 e6 e7 r s ≤ 1000000000000 ∧ (-9223372036854775808 ≤ d0 ∧ d0 < 9223372036854775808) ∧ (-9223372036854775808 ≤ d1 ∧ d1 < 9223372036854775808) ∧ st_s2 n) ∧
     (stF l0 l1 d0 d1 n e0 e1 e2 e3 e4 e5 e6 e7 r).μ ((stF l0 l1 d0 d1 n e0 e1 e2 e3 e4 e5 e6 e7 r).next s 0) < (stF l0 l1 d0 d1 n e0 e1 e2 e3 e4 e5 e6 e7 r).μ s ∧
     (stF l0 l1 d0 d1 n e0 e1 e2 e3 e4 e5 e6 e7 r).fin ((stF l0 l1 d0 d1 n e0 e1 e2 e3 e4 e5 e6 e7 r).next s 0) = st_s5 l0 l1 d0 d1 n e0 e1 e2 e3 e4 e5 e6 e7 r s ∧
     (st_s4 l0 l1 d0 d1 n e0 e1 e2 e3 e4 e5 e6 e7 r s =
     bif oclear_0 e0 e1 e2 e3 e4 e5 e6 (addpt_0 l0 (muldiv_0 d0 (st_s1 s) n 2)) (addpt_0 l1 (muldiv_0 d1 (st_s1 s) n 2)) r then st_s1 s else s.snd) ∧
     st_s3 l0 l1 d0 d1 n e0 e1 e2 e3 e4 e5 e6 e7 r s =
     bif oclear_0 e0 e1 e2 e3 e4 e5 e6 (addpt_0 l0 (muldiv_0 d0 (st_s1 s) n 2)) (addpt_0 l1 (muldiv_0 d1 (st_s1 s) n 2)) r then s.fst else st_s1 s,
    decide (IntKind.i64.wrap (s.snd - s.fst) > 1) = false → st_s5 l0 l1 d0 d1 n e0 e1 e2 e3 e4 e5 e6 e7 r s = s.snd]
theorem st_round (l0 l1 d0 d1 n e0 e1 e2 e3 e4 e5 e6 : Int) (e7 : Bool) (r : Int) (s : Int × Int) (hNeeds : ∀ pN ∈ (st_needs l0 l1 d0 d1 n e0 e1 e2 e3 e4 e5 e6 e7 r s), pN) : RoundOk (roundC (stF l0 l1 d0 d1 n e0 e1 e2 e3 e4 e5 e6 e7 r) (bodyOf Tryz.prog (sums K_muldiv) L_fl 165 0) 82 s) :=
  RoundOk.of (ps := (st_needs l0 l1 d0 d1 n e0 e1 e2 e3 e4 e5 e6 e7 r s)) (by kernel_rfl) (by kernel_rfl) hNeeds
theorem st_rounds (l0 l1 d0 d1 n e0 e1 e2 e3 e4 e5 e6 : Int) (e7 : Bool) (r : Int) : RoundsOk (stF l0 l1 d0 d1 n e0 e1 e2 e3 e4 e5 e6 e7 r) (bodyOf Tryz.prog (sums K_muldiv) L_fl 165 0) 82 := by
  intro s hJ
  obtain ⟨h0, h1, h2, h3, h4, h5⟩ : 0 ≤ s.1 ∧ s.1 ≤ s.2 ∧ s.2 ≤ 1000000000000 ∧ isI d0 ∧ isI d1 ∧ isI n := hJ
  obtain ⟨w1, w2, w3⟩ := bs_mid h0 h1 h2
  have hk : st_s1 s = (s.1 + s.2).tdiv 2 := w2
  refine st_round l0 l1 d0 d1 n e0 e1 e2 e3 e4 e5 e6 e7 r s ?_
  unfold st_needs
  rw [hk]
  unfold st_s0
  rw [w1]
  intro p hp
  simp only [List.mem_cons, List.not_mem_nil, or_false] at hp
  rcases hp with rfl | rfl | rfl
  · exact fun _ => ⟨h3, w3, h5, h4, w3, h5⟩
  · intro h
    have h : s.2 - s.1 > 1 := by simpa using h
    obtain ⟨b1, b2, b3, b4, b5⟩ := bsN_ok (P := stP l0 l1 d0 d1 n e0 e1 e2 e3 e4 e5 e6 r) h0 h
    exact ⟨⟨b1, b2, Int.le_trans b3 h2, h3, h4, h5⟩, b4, b5, rfl, rfl⟩
  · intro h
    have h : ¬ s.2 - s.1 > 1 := by simpa using h
    show bsF _ (s.1, s.2) = s.2
    exact bsF_end h
noncomputable def stL : LoopS := fun env mem m => match eInt env 11, mInts mem 12, mInts mem 53, mInts mem 71, mElem mem 1, mInts mem 2 with
  | some b, some [l0, l1], some [d0, d1], some [n], some ([e0, e1, e2, e3, e4, e5, e6], e7), some [r] => famS (stF l0 l1 d0 d1 n e0 e1 e2 e3 e4 e5 e6 e7 r) 82 (fun _ _ => some (bs0 b)) env mem m
  | _, _, _, _, _, _ => none
noncomputable def L_st : FuncId → Nat → Option LoopS := addL L_fl 165 5 stL
theorem known_stL : Known Tryz.prog (sums K_muldiv) L_st := by
  refine known_addL 0 known_muldiv (by kernel_rfl) (codeOk_of fun env mem m x h => ?_)
  unfold stL at h
  have hlen : (loopList Tryz.prog 165).length = 1 := by kernel_rfl
  split at h
  · exact ⟨_, fam_ok (bodyOf_ok plainN known_muldiv (by omega)) (st_rounds _ _ _ _ _ _ _ _ _ _ _ _ _ _), h⟩
  · cases h
/-- The greater of the two differences. -/
theorem bs_rng (P : Int → Bool) : ∀ (f : Nat) (a b : Int), 0 ≤ a → a ≤ b → a ≤ bs P f a b ∧ bs P f a b ≤ b
  | 0, a, b, _, h => ⟨h, Int.le_refl _⟩
  | f + 1, a, b, h0, h => by
    unfold bs
    by_cases g : b - a > 1
    · obtain ⟨m1, m2⟩ := mid_lt h0 g
      rw [decide_eq_true g, cond_true]
      cases P ((a + b).tdiv 2)
      · have := bs_rng P f ((a + b).tdiv 2) b (by omega) (by omega)
        rw [cond_false]; omega
      · have := bs_rng P f a ((a + b).tdiv 2) h0 (by omega)
        rw [cond_true]; omega
    · rw [decide_eq_false g, cond_false]; omega
theorem bsF_rng (P : Int → Bool) {n : Int} (h : 0 ≤ n) : 0 ≤ bsF P (bs0 n) ∧ bsF P (bs0 n) ≤ n := bs_rng P _ 0 n (by omega) h
noncomputable def straight_tpl : Tpl := ⟨[.agg [.int .i64, .int .i64], .agg [.int .i64, .int .i64], .one (.clo 163 0)], [(0, .clo [.one (.ptr 1 0), .one (.ptr 2 0)]), (1, .blk 34 [(3, .int .i64), (4, .int .i64), (5, .int .i64), (6, .int .i64), (7, .int .i64), (8, .int .i64), (9, .int .i64), (10, .bool)]), (2, .blk 3 [(11, .int .i64)])], 12⟩
noncomputable def straight_s0 (l0 : Int) (h0 : Int) : Int :=
  if IntKind.i64.wrap (0 - minus_0 h0 l0) > minus_0 h0 l0 then IntKind.i64.wrap (0 - minus_0 h0 l0) else minus_0 h0 l0
noncomputable def straight_s1 (l0 : Int) (l1 : Int) (h0 : Int) (h1 : Int) : Int :=
  if minus_0 h1 l1 > straight_s0 l0 h0 then minus_0 h1 l1 else straight_s0 l0 h0
noncomputable def straight_s2 (l0 : Int) (l1 : Int) (h0 : Int) (h1 : Int) : Int :=
  if IntKind.i64.wrap (0 - minus_0 h1 l1) > straight_s1 l0 l1 h0 h1 then IntKind.i64.wrap (0 - minus_0 h1 l1) else straight_s1 l0 l1 h0 h1
noncomputable def straight_0 (l0 : Int) (l1 : Int) (h0 : Int) (h1 : Int) (e0 : Int) (e1 : Int) (e2 : Int) (e3 : Int) (e4 : Int) (e5 : Int) (e6 : Int) (e7 : Bool) (r : Int) : Int :=
  addpt_0 l0 (muldiv_0 (minus_0 h0 l0) ((stF l0 l1 (minus_0 h0 l0) (minus_0 h1 l1) (straight_s2 l0 l1 h0 h1) e0 e1 e2 e3 e4 e5 e6 e7 r).fin (bs0 (straight_s2 l0 l1 h0 h1))) (straight_s2 l0 l1 h0 h1) 2)
noncomputable def straight_1 (l0 : Int) (l1 : Int) (h0 : Int) (h1 : Int) (e0 : Int) (e1 : Int) (e2 : Int) (e3 : Int) (e4 : Int) (e5 : Int) (e6 : Int) (e7 : Bool) (r : Int) : Int :=
  addpt_0 l1 (muldiv_0 (minus_0 h1 l1) ((stF l0 l1 (minus_0 h0 l0) (minus_0 h1 l1) (straight_s2 l0 l1 h0 h1) e0 e1 e2 e3 e4 e5 e6 e7 r).fin (bs0 (straight_s2 l0 l1 h0 h1))) (straight_s2 l0 l1 h0 h1) 2)
noncomputable def straight_s3 (l0 : Int) (h0 : Int) : Prop :=
  -9223372036854775808 ≤ minus_0 h0 l0 ∧ minus_0 h0 l0 < 9223372036854775808
noncomputable def straight_s5 (l0 : Int) (l1 : Int) (h0 : Int) (h1 : Int) : Prop :=
  -9223372036854775808 ≤ straight_s2 l0 l1 h0 h1 ∧ straight_s2 l0 l1 h0 h1 < 9223372036854775808
noncomputable def straight_s6 (l0 : Int) (l1 : Int) (h0 : Int) (h1 : Int) (e0 : Int) (e1 : Int) (e2 : Int) (e3 : Int) (e4 : Int) (e5 : Int) (e6 : Int) (e7 : Bool) (r : Int) : Int :=
  (stF l0 l1 (minus_0 h0 l0) (minus_0 h1 l1) (straight_s2 l0 l1 h0 h1) e0 e1 e2 e3 e4 e5 e6 e7 r).fin (bs0 (straight_s2 l0 l1 h0 h1))
noncomputable def straight_needs (l0 : Int) (l1 : Int) (h0 : Int) (h1 : Int) (e0 : Int) (e1 : Int) (e2 : Int) (e3 : Int) (e4 : Int) (e5 : Int) (e6 : Int) (e7 : Bool) (r : Int) : List Prop :=
  [0 ≤ (bs0 (straight_s2 l0 l1 h0 h1)).fst ∧
   (bs0 (straight_s2 l0 l1 h0 h1)).fst ≤ (bs0 (straight_s2 l0 l1 h0 h1)).snd ∧ (bs0 (straight_s2 l0 l1 h0 h1)).snd ≤ 1000000000000 ∧ straight_s3 l0 h0 ∧ straight_s3 l1 h1 ∧ straight_s5 l0 l1 h0 h1,
   (bs0 (straight_s2 l0 l1 h0 h1)).snd = straight_s2 l0 l1 h0 h1, (bs0 (straight_s2 l0 l1 h0 h1)).fst = 0, straight_s3 l0 h0,
   -9223372036854775808 ≤ straight_s6 l0 l1 h0 h1 e0 e1 e2 e3 e4 e5 e6 e7 r ∧ straight_s6 l0 l1 h0 h1 e0 e1 e2 e3 e4 e5 e6 e7 r < 9223372036854775808, straight_s5 l0 l1 h0 h1, straight_s3 l1 h1,
   -9223372036854775808 ≤ straight_s6 l0 l1 h0 h1 e0 e1 e2 e3 e4 e5 e6 e7 r ∧ straight_s6 l0 l1 h0 h1 e0 e1 e2 e3 e4 e5 e6 e7 r < 9223372036854775808, straight_s5 l0 l1 h0 h1]
theorem straight_weak {l0 : Int} {l1 : Int} {h0 : Int} {h1 : Int} {e0 : Int} {e1 : Int} {e2 : Int} {e3 : Int} {e4 : Int} {e5 : Int} {e6 : Int} {e7 : Bool} {r : Int} (hW : ∀ q ∈ ([bd 1048576 l0, bd 1048576 l1, bd 1048576 h0, bd 1048576 h1] : List Prop), q) : ∀ q ∈ (straight_needs l0 l1 h0 h1 e0 e1 e2 e3 e4 e5 e6 e7 r), q := by
  simp only [List.mem_cons, List.not_mem_nil, or_false, forall_eq_or_imp, forall_eq] at hW
  unfold straight_needs
  simp only [List.forall_mem_cons, List.not_mem_nil, false_implies, implies_true, and_true]
  obtain ⟨b0, b1, b2, b3⟩ := hW
  have d0 : minus_0 h0 l0 = h0 - l0 := minus_eq (by omega) (by omega)
  have d1 : minus_0 h1 l1 = h1 - l1 := minus_eq (by omega) (by omega)
  have hn : 0 ≤ straight_s2 l0 l1 h0 h1 ∧ straight_s2 l0 l1 h0 h1 ≤ 2097152 := by
    unfold straight_s2 straight_s1 straight_s0
    rw [d0, d1, wrI (x := 0 - (h0 - l0)) (by omega) (by omega), wrI (x := 0 - (h1 - l1)) (by omega) (by omega)]
    repeat' split
    all_goals omega
  have hf : 0 ≤ straight_s6 l0 l1 h0 h1 e0 e1 e2 e3 e4 e5 e6 e7 r ∧ straight_s6 l0 l1 h0 h1 e0 e1 e2 e3 e4 e5 e6 e7 r ≤ straight_s2 l0 l1 h0 h1 := bsF_rng _ hn.1
  have i6 : isI (straight_s6 l0 l1 h0 h1 e0 e1 e2 e3 e4 e5 e6 e7 r) := ⟨by omega, by omega⟩
  have i5 : isI (straight_s2 l0 l1 h0 h1) := ⟨by omega, by omega⟩
  have i0 : isI (minus_0 h0 l0) := wrap_isI _
  have i1 : isI (minus_0 h1 l1) := wrap_isI _
  exact ⟨⟨Int.le_refl 0, hn.1, show straight_s2 l0 l1 h0 h1 ≤ _ by omega, i0, i1, i5⟩, rfl, rfl, i0, i6, i5, i1, i6, i5⟩
set_option maxRecDepth 1000000 in
theorem straight_runs (l0 l1 h0 h1 e0 e1 e2 e3 e4 e5 e6 : Int) (e7 : Bool) (r : Int) (hNeeds : ∀ pN ∈ (straight_needs l0 l1 h0 h1 e0 e1 e2 e3 e4 e5 e6 e7 r), pN) : Runs (runF (sums K_muldiv) L_st 165) (straight_tpl.args [.i l0, .i l1, .i h0, .i h1, .i e0, .i e1, .i e2, .i e3, .i e4, .i e5, .i e6, .b e7, .i r]) (straight_tpl.memo [.i l0, .i l1, .i h0, .i h1, .i e0, .i e1, .i e2, .i e3, .i e4, .i e5, .i e6, .b e7, .i r] []) straight_tpl.n (SV.agg [SC.int IntKind.i64 (SI.v (straight_0 l0 l1 h0 h1 e0 e1 e2 e3 e4 e5 e6 e7 r)), SC.int IntKind.i64 (SI.v (straight_1 l0 l1 h0 h1 e0 e1 e2 e3 e4 e5 e6 e7 r))])
    ([(0, Obj.clo [SV.one (SC.ptr 1 0), SV.one (SC.ptr 2 0)]),
    (1,
     Obj.blk 34
     [(3, SC.int IntKind.i64 (SI.v e0)), (4, SC.int IntKind.i64 (SI.v e1)), (5, SC.int IntKind.i64 (SI.v e2)), (6, SC.int IntKind.i64 (SI.v e3)), (7, SC.int IntKind.i64 (SI.v e4)),
     (8, SC.int IntKind.i64 (SI.v e5)), (9, SC.int IntKind.i64 (SI.v e6)), (10, SC.bool (SB.v e7))]),
    (2, Obj.blk 3 [(11, SC.int IntKind.i64 (SI.v r))])]) :=
  Runs.of1 (ps := (straight_needs l0 l1 h0 h1 e0 e1 e2 e3 e4 e5 e6 e7 r)) (by kernel_rfl) hNeeds
noncomputable def straight_out : List Pm → Lss → Option CRes
  | [.i l0, .i l1, .i h0, .i h1, .i e0, .i e1, .i e2, .i e3, .i e4, .i e5, .i e6, .b e7, .i r], [] => some ⟨SV.agg [SC.int IntKind.i64 (SI.v (straight_0 l0 l1 h0 h1 e0 e1 e2 e3 e4 e5 e6 e7 r)), SC.int IntKind.i64 (SI.v (straight_1 l0 l1 h0 h1 e0 e1 e2 e3 e4 e5 e6 e7 r))],
    [(0, Obj.clo [SV.one (SC.ptr 1 0), SV.one (SC.ptr 2 0)]),
    (1,
     Obj.blk 34
     [(3, SC.int IntKind.i64 (SI.v e0)), (4, SC.int IntKind.i64 (SI.v e1)), (5, SC.int IntKind.i64 (SI.v e2)), (6, SC.int IntKind.i64 (SI.v e3)), (7, SC.int IntKind.i64 (SI.v e4)),
     (8, SC.int IntKind.i64 (SI.v e5)), (9, SC.int IntKind.i64 (SI.v e6)), (10, SC.bool (SB.v e7))]),
    (2, Obj.blk 3 [(11, SC.int IntKind.i64 (SI.v r))])],
    [bd 1048576 l0, bd 1048576 l1, bd 1048576 h0, bd 1048576 h1], [], 1229⟩
  | _, _ => none
theorem straight_ok : FOk Tryz.prog 165 (tplS straight_tpl straight_out) := by
  refine tplS_ok (runF_ok known_stL 165) fun ps ls r hr hn _ => ?_
  unfold straight_out at hr
  split at hr
  · cases hr; exact ⟨_, straight_runs _ _ _ _ _ _ _ _ _ _ _ _ _ (straight_weak (by exact hn)), fun _ => rfl⟩
  · cases hr
noncomputable def K_straight : List (Nat × Summ) := (165, tplS straight_tpl straight_out) :: K_muldiv
theorem known_straight : Known Tryz.prog (sums K_straight) L_st := known_cons known_stL straight_ok
end Go.Proofs.YthgiaoidekdpfaaGreat
