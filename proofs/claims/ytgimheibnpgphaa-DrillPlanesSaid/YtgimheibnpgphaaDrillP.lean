/-
  THE PECKS, in the program: the loop, and what the method leaves in the builder. Conditions: none.
-/
import Derived.Test.YtgimheibnpgphaaDrillX
set_option linter.all false
namespace Go.Proofs.Ytgimheibnpgphaa
open Go.SX Go.RowKit
abbrev I (x : Int) : SC := .int .i64 (.v x)
abbrev ent (tag : Nat) (v : SV) : Ent := ⟨[], [], tag, v⟩
abbrev rowI (id tag : Nat) (xs : List (List Int)) : Nat × SX.Obj := (id, .row false 44 22 (.lst tag itemKs xs))
theorem wrI {x : Int} (h1 : -9223372036854775808 ≤ x) (h2 : x < 9223372036854775808) : IntKind.i64.wrap x = x := by
  unfold IntKind.wrap
  simp only [IntKind.bits, IntKind.signed]
  simp
  omega
/-- A step at a place of a plane. -/
noncomputable def itm (p u w k h n : Int) : List Int := [k, 0, 0, 0, 0, solid_0 p u w h, solid_1 p u w h, solid_2 p u w h, 0, 0, 0, 0, 0, 0, 0, 0, 0, 0, 0, n, 0, 0]
theorem turn_eq (k h n p u w : Int) (xs : List (List Int)) : turn_0 k h n p u w xs = xs ++ [itm p u w k h n] := rfl
/-- The height of the peck k. -/
noncomputable def deep (c8 c11 k : Int) : Int := IntKind.i64.wrap (c8 - IntKind.i64.wrap (k * c11))
noncomputable def gap (c11 : Int) : Int := if c11 < 200 then c11 else 200
noncomputable def peckOne (p u w c0 c8 c11 k : Int) : List (List Int) := [itm p u w 2 (deep c8 c11 k) 0] ++ ((bif c0 == 83 then [itm p u w 1 c8 0] else []) ++ [itm p u w 1 (IntKind.i64.wrap (deep c8 c11 k + gap c11)) 0])
noncomputable def pecksL (p u w c0 c8 c11 : Int) : Nat → List (List Int)
  | 0 => []
  | j + 1 => pecksL p u w c0 c8 c11 j ++ peckOne p u w c0 c8 c11 (Int.ofNat (j + 1))
theorem pecksL_len (p u w c0 c8 c11 : Int) : ∀ j, (pecksL p u w c0 c8 c11 j).length ≤ 3 * j
  | 0 => Nat.le_refl _
  | j + 1 => by
    have := pecksL_len p u w c0 c8 c11 j
    simp only [pecksL, peckOne, List.length_append]
    cases c0 == 83 <;> simp <;> omega
noncomputable def peckM (c0 c1 c2 c3 c4 c5 c6 c7 c8 c9 c10 c11 c12 c13 c14 c15 p u w : Int) (xs : List (List Int)) (tag j : Nat) : Mem := [(7, .blk 28 [(8, I c0), (9, I c1), (10, I c2), (11, I c3), (12, I c4), (13, I c5), (14, I c6), (15, I c7), (16, I c8), (17, I c9), (18, I c10), (19, I c11), (20, I c12), (21, I c13), (22, I c14), (23, I c15)]), (0, .blk 62 [(2, I p), (3, I u), (4, I w), (31, .wh 26)]), rowI 26 tag (xs ++ pecksL p u w c0 c8 c11 j)]
/-- The states in front of a round: how many rounds there were. -/
noncomputable def peckF (c0 c1 c2 c3 c4 c5 c6 c7 c8 c9 c10 c11 c12 c13 c14 c15 n p u w : Int) (xs : List (List Int)) : Fam Nat Unit where
  k := 10
  E j := [(6, ent 30 (.one (I (Int.ofNat (j + 1))))), (4, ent 24 (.one (.ptr 7 0))), (0, ent 0 (.one (.ptr 0 0))), (2, ent 4 (.one (I n)))]
  M j := peckM c0 c1 c2 c3 c4 c5 c6 c7 c8 c9 c10 c11 c12 c13 c14 c15 p u w xs 32 j
  out _ := .leaf (.exit 0) [(4, ent 24 (.one (.ptr 7 0))), (0, ent 0 (.one (.ptr 0 0)))] (peckM c0 c1 c2 c3 c4 c5 c6 c7 c8 c9 c10 c11 c12 c13 c14 c15 p u w xs 33 (n - 1).toNat)
  fin _ := ()
  next j _ := j + 1
  J j := (j : Int) + 1 ≤ max n 1 ∧ n ≤ 1000 ∧ xs.length ≤ 1000
  μ j := (n - 1).toNat - j
noncomputable def peck_s0 (n : Int) (j : Nat) : Prop :=
  decide (Int.ofNat (j + 1) < n) = true
noncomputable def peck_s1 (c0 : Int) (c8 : Int) (c11 : Int) (p : Int) (u : Int) (w : Int) (xs : List (List Int)) (j : Nat) : List (List Int) :=
  xs ++ pecksL p u w c0 c8 c11 j
noncomputable def peck_s2 (c8 : Int) (c11 : Int) (j : Nat) : Int :=
  IntKind.i64.wrap (c8 - IntKind.i64.wrap (Int.ofNat (j + 1) * c11))
noncomputable def peck_s3 (c0 : Int) (c8 : Int) (c11 : Int) (p : Int) (u : Int) (w : Int) (xs : List (List Int)) (j : Nat) : Prop :=
  (turn_0 2 (peck_s2 c8 c11 j) 0 p u w (peck_s1 c0 c8 c11 p u w xs j)).length ≤ 100000
noncomputable def peck_s4 (c0 : Int) (c8 : Int) (c11 : Int) (p : Int) (u : Int) (w : Int) (xs : List (List Int)) (j : Nat) : List (List Int) :=
  turn_0 1 c8 0 p u w (turn_0 2 (peck_s2 c8 c11 j) 0 p u w (peck_s1 c0 c8 c11 p u w xs j))
noncomputable def peck_s5 (n : Int) (xs : List (List Int)) : Prop :=
  n ≤ 1000 ∧ xs.length ≤ 1000
noncomputable def peck_s6 (j : Nat) : Int :=
  IntKind.i64.wrap (Int.ofNat (j + 1) + 1)
noncomputable def peck_needs (c0 : Int) (c1 : Int) (c2 : Int) (c3 : Int) (c4 : Int) (c5 : Int) (c6 : Int) (c7 : Int) (c8 : Int) (c9 : Int) (c10 : Int) (c11 : Int) (c12 : Int) (c13 : Int) (c14 : Int) (c15 : Int) (n : Int) (p : Int) (u : Int) (w : Int) (xs : List (List Int)) (j : Nat) : List Prop :=
  [peck_s0 n j →
      (peck_s1 c0 c8 c11 p u w xs j).length ≤ 100000 ∧
        ((c0 == 83) = true → peck_s3 c0 c8 c11 p u w xs j) ∧ ((c0 == 83) = true → (peck_s4 c0 c8 c11 p u w xs j).length ≤ 100000) ∧ ((c0 == 83) = false → peck_s3 c0 c8 c11 p u w xs j),
    peck_s0 n j →
      ((c0 == 83) = true →
          (↑((peckF c0 c1 c2 c3 c4 c5 c6 c7 c8 c9 c10 c11 c12 c13 c14 c15 n p u w xs).next j 0) + 1 ≤ max n 1 ∧ peck_s5 n xs) ∧
            (peckF c0 c1 c2 c3 c4 c5 c6 c7 c8 c9 c10 c11 c12 c13 c14 c15 n p u w xs).μ ((peckF c0 c1 c2 c3 c4 c5 c6 c7 c8 c9 c10 c11 c12 c13 c14 c15 n p u w xs).next j 0) <
                (peckF c0 c1 c2 c3 c4 c5 c6 c7 c8 c9 c10 c11 c12 c13 c14 c15 n p u w xs).μ j ∧
              (peckF c0 c1 c2 c3 c4 c5 c6 c7 c8 c9 c10 c11 c12 c13 c14 c15 n p u w xs).fin ((peckF c0 c1 c2 c3 c4 c5 c6 c7 c8 c9 c10 c11 c12 c13 c14 c15 n p u w xs).next j 0) =
                  (peckF c0 c1 c2 c3 c4 c5 c6 c7 c8 c9 c10 c11 c12 c13 c14 c15 n p u w xs).fin j ∧
                Int.ofNat ((peckF c0 c1 c2 c3 c4 c5 c6 c7 c8 c9 c10 c11 c12 c13 c14 c15 n p u w xs).next j 0 + 1) = peck_s6 j ∧
                  xs ++ pecksL p u w c0 c8 c11 ((peckF c0 c1 c2 c3 c4 c5 c6 c7 c8 c9 c10 c11 c12 c13 c14 c15 n p u w xs).next j 0) =
                    turn_0 1 (IntKind.i64.wrap (peck_s2 c8 c11 j + if c11 < 200 then c11 else 200)) 0 p u w (peck_s4 c0 c8 c11 p u w xs j)) ∧
        ((c0 == 83) = false →
          (↑((peckF c0 c1 c2 c3 c4 c5 c6 c7 c8 c9 c10 c11 c12 c13 c14 c15 n p u w xs).next j 1) + 1 ≤ max n 1 ∧ peck_s5 n xs) ∧
            (peckF c0 c1 c2 c3 c4 c5 c6 c7 c8 c9 c10 c11 c12 c13 c14 c15 n p u w xs).μ ((peckF c0 c1 c2 c3 c4 c5 c6 c7 c8 c9 c10 c11 c12 c13 c14 c15 n p u w xs).next j 1) <
                (peckF c0 c1 c2 c3 c4 c5 c6 c7 c8 c9 c10 c11 c12 c13 c14 c15 n p u w xs).μ j ∧
              (peckF c0 c1 c2 c3 c4 c5 c6 c7 c8 c9 c10 c11 c12 c13 c14 c15 n p u w xs).fin ((peckF c0 c1 c2 c3 c4 c5 c6 c7 c8 c9 c10 c11 c12 c13 c14 c15 n p u w xs).next j 1) =
                  (peckF c0 c1 c2 c3 c4 c5 c6 c7 c8 c9 c10 c11 c12 c13 c14 c15 n p u w xs).fin j ∧
                Int.ofNat ((peckF c0 c1 c2 c3 c4 c5 c6 c7 c8 c9 c10 c11 c12 c13 c14 c15 n p u w xs).next j 1 + 1) = peck_s6 j ∧
                  xs ++ pecksL p u w c0 c8 c11 ((peckF c0 c1 c2 c3 c4 c5 c6 c7 c8 c9 c10 c11 c12 c13 c14 c15 n p u w xs).next j 1) =
                    turn_0 1 (IntKind.i64.wrap (peck_s2 c8 c11 j + if c11 < 200 then c11 else 200)) 0 p u w (turn_0 2 (peck_s2 c8 c11 j) 0 p u w (peck_s1 c0 c8 c11 p u w xs j))),
    decide (Int.ofNat (j + 1) < n) = false → xs ++ pecksL p u w c0 c8 c11 (n - 1).toNat = peck_s1 c0 c8 c11 p u w xs j]
theorem peck_round (c0 c1 c2 c3 c4 c5 c6 c7 c8 c9 c10 c11 c12 c13 c14 c15 n p u w : Int) (xs : List (List Int)) (j : Nat) (hNeeds : ∀ pN ∈ (peck_needs c0 c1 c2 c3 c4 c5 c6 c7 c8 c9 c10 c11 c12 c13 c14 c15 n p u w xs j), pN) : RoundOk (roundC (peckF c0 c1 c2 c3 c4 c5 c6 c7 c8 c9 c10 c11 c12 c13 c14 c15 n p u w xs) (bodyOf Try.prog (sums K_rto) L0 37 0) 26 j) :=
  RoundOk.of (ps := (peck_needs c0 c1 c2 c3 c4 c5 c6 c7 c8 c9 c10 c11 c12 c13 c14 c15 n p u w xs j)) (by kernel_rfl) (by kernel_rfl) hNeeds
theorem peck_rounds (c0 c1 c2 c3 c4 c5 c6 c7 c8 c9 c10 c11 c12 c13 c14 c15 n p u w : Int) (xs : List (List Int)) : RoundsOk (peckF c0 c1 c2 c3 c4 c5 c6 c7 c8 c9 c10 c11 c12 c13 c14 c15 n p u w xs) (bodyOf Try.prog (sums K_rto) L0 37 0) 26 := by
  rintro j ⟨h1, h2, h3⟩
  have h4 := pecksL_len p u w c0 c8 c11 j
  refine peck_round c0 c1 c2 c3 c4 c5 c6 c7 c8 c9 c10 c11 c12 c13 c14 c15 n p u w xs j fun q hq => ?_
  unfold peck_needs at hq
  simp only [List.mem_cons, List.not_mem_nil, or_false, peck_s0, peck_s1, peck_s2, peck_s3, peck_s4, peck_s5, peck_s6, turn_eq, List.length_append, List.length_cons, List.length_nil, peckF, List.append_assoc, List.append_cancel_left_eq] at hq
  rcases hq with rfl | rfl | rfl
  · intro h
    have h5 : ((j + 1 : Nat) : Int) < n := by simpa using h
    exact ⟨by omega, fun _ => by omega, fun _ => by omega, fun _ => by omega⟩
  · intro h
    have h5 : ((j + 1 : Nat) : Int) < n := by simpa using h
    have h6 : IntKind.i64.wrap (Int.ofNat (j + 1) + 1) = Int.ofNat (j + 1 + 1) := wrI (by simp; omega) (by simp; omega)
    exact ⟨fun hc => ⟨⟨by omega, h2, h3⟩, by omega, trivial, h6.symm, by simp only [pecksL, peckOne, deep, gap, hc, cond_true]⟩,
      fun hc => ⟨⟨by omega, h2, h3⟩, by omega, trivial, h6.symm, by simp only [pecksL, peckOne, deep, gap, hc, cond_false, List.nil_append]⟩⟩
  · intro h
    have h5 : ¬ ((j + 1 : Nat) : Int) < n := by simpa using h
    rw [show (n - 1).toNat = j by omega]
/-- The loop. -/
noncomputable def peckL : LoopS := fun env mem m => match env, mem with
  | [_, _, _, _, (_, ⟨_, _, _, .one (.int _ n)⟩)], [(7, .blk _ [(_, .int _ c0), (_, .int _ c1), (_, .int _ c2), (_, .int _ c3), (_, .int _ c4), (_, .int _ c5), (_, .int _ c6), (_, .int _ c7), (_, .int _ c8), (_, .int _ c9), (_, .int _ c10), (_, .int _ c11), (_, .int _ c12), (_, .int _ c13), (_, .int _ c14), (_, .int _ c15)]), (0, .blk _ [(_, .int _ p), (_, .int _ u), (_, .int _ w), _]), (1, .row _ _ _ (.lst _ _ xs))] =>
    famS (peckF c0.val c1.val c2.val c3.val c4.val c5.val c6.val c7.val c8.val c9.val c10.val c11.val c12.val c13.val c14.val c15.val n.val p.val u.val w.val xs) 26 (fun _ _ => some 0) env mem m
  | _, _ => none
noncomputable def L_peck : FuncId → Nat → Option LoopS := addL L0 37 2 peckL
theorem known_peckL : Known Try.prog (sums K_rto) L_peck := by
  refine known_addL 0 known_rto (by kernel_rfl) (codeOk_of fun env mem m x h => ?_)
  unfold peckL at h
  split at h
  · exact ⟨_, fam_ok (bodyOf_ok plainN known_rto (by have h : (loopList Try.prog 37).length = 1 := by kernel_rfl
                                                     omega)) (peck_rounds _ _ _ _ _ _ _ _ _ _ _ _ _ _ _ _ _ _ _ _ _), h⟩
  · cases h
noncomputable def peckm_tpl : Tpl := ⟨[.one (.ptr 0 0), .agg [.int .i64, .int .i64, .int .i64, .int .i64, .int .i64, .int .i64, .int .i64, .int .i64, .int .i64, .int .i64, .int .i64, .int .i64, .int .i64, .int .i64, .int .i64, .int .i64], .one (.int .i64)], [(0, .blk 62 [(2, .int .i64), (3, .int .i64), (4, .int .i64), (5, .wh 1)]), (1, .row false 44 22 6 itemKs)], 7⟩
noncomputable def peckm_0 (c0 : Int) (c8 : Int) (c9 : Int) (c11 : Int) (n : Int) (p : Int) (u : Int) (w : Int) (xs : List (List Int)) : List (List Int) :=
  turn_0 2 c9 0 p u w (xs ++ pecksL p u w c0 c8 c11 (n - 1).toNat)
noncomputable def peckm_needs (c0 : Int) (c8 : Int) (c11 : Int) (n : Int) (p : Int) (u : Int) (w : Int) (xs : List (List Int)) : List Prop :=
  [1 ≤ max n 1 ∧ n ≤ 1000 ∧ xs.length ≤ 1000, Int.ofNat 1 = 1, xs ++ pecksL p u w c0 c8 c11 0 = xs, (xs ++ pecksL p u w c0 c8 c11 (n - 1).toNat).length ≤ 100000]
theorem peckm_len (c0 c8 c9 c11 n p u w : Int) (xs : List (List Int)) (h : n ≤ 1000) : (peckm_0 c0 c8 c9 c11 n p u w xs).length ≤ xs.length + 3001 := by
  have h4 := pecksL_len p u w c0 c8 c11 (n - 1).toNat
  simp only [peckm_0, turn_len, List.length_append]
  omega
theorem peckm_weak {c0 : Int} {c8 : Int} {c11 : Int} {n : Int} {p : Int} {u : Int} {w : Int} {xs : List (List Int)} (hW : ∀ q ∈ ([n ≤ 1000, xs.length ≤ 1000] : List Prop), q) : ∀ q ∈ (peckm_needs c0 c8 c11 n p u w xs), q := by
  simp only [List.mem_cons, List.not_mem_nil, or_false, forall_eq_or_imp, forall_eq] at hW
  intro q hq
  unfold peckm_needs at hq
  simp only [List.mem_cons, List.not_mem_nil, or_false] at hq
  have h4 := pecksL_len p u w c0 c8 c11 (n - 1).toNat
  rcases hq with rfl | rfl | rfl | rfl
  · exact ⟨by omega, hW⟩
  · rfl
  · simp [pecksL]
  · simp only [List.length_append]; omega
set_option maxRecDepth 1000000 in
theorem peckm_runs (c0 c1 c2 c3 c4 c5 c6 c7 c8 c9 c10 c11 c12 c13 c14 c15 n p u w : Int) (xs : List (List Int)) (hNeeds : ∀ pN ∈ (peckm_needs c0 c8 c11 n p u w xs), pN) : Runs (runF (sums K_rto) L_peck 37) (peckm_tpl.args [.i c0, .i c1, .i c2, .i c3, .i c4, .i c5, .i c6, .i c7, .i c8, .i c9, .i c10, .i c11, .i c12, .i c13, .i c14, .i c15, .i n, .i p, .i u, .i w]) (peckm_tpl.memo [.i c0, .i c1, .i c2, .i c3, .i c4, .i c5, .i c6, .i c7, .i c8, .i c9, .i c10, .i c11, .i c12, .i c13, .i c14, .i c15, .i n, .i p, .i u, .i w] [xs]) peckm_tpl.n (SV.tup [])
    ([(0, Obj.blk 62 [(2, SC.int IntKind.i64 (SI.v p)), (3, SC.int IntKind.i64 (SI.v u)), (4, SC.int IntKind.i64 (SI.v w)), (164, SC.wh 158)]),
    (158,
      Obj.row false 44 22
        (RowC.lst 160
          [CK.int IntKind.i64, CK.int IntKind.i64, CK.int IntKind.i64, CK.int IntKind.i64, CK.int IntKind.i64, CK.int IntKind.i64, CK.int IntKind.i64, CK.int IntKind.i64, CK.int IntKind.i64,
            CK.int IntKind.i64, CK.int IntKind.i64, CK.int IntKind.i64, CK.int IntKind.i64, CK.bool, CK.int IntKind.i64, CK.bool, CK.int IntKind.i64, CK.int IntKind.i64, CK.int IntKind.i64,
            CK.int IntKind.i64, CK.int IntKind.i64, CK.bool]
          (peckm_0 c0 c8 c9 c11 n p u w xs)))]) :=
  Runs.of (ps := (peckm_needs c0 c8 c11 n p u w xs)) (by kernel_rfl) (by kernel_rfl) hNeeds
noncomputable def peckm_out : List Pm → Lss → Option CRes
  | [.i c0, .i c1, .i c2, .i c3, .i c4, .i c5, .i c6, .i c7, .i c8, .i c9, .i c10, .i c11, .i c12, .i c13, .i c14, .i c15, .i n, .i p, .i u, .i w], [xs] => some ⟨SV.tup [],
    [(0, Obj.blk 62 [(2, SC.int IntKind.i64 (SI.v p)), (3, SC.int IntKind.i64 (SI.v u)), (4, SC.int IntKind.i64 (SI.v w)), (164, SC.wh 158)]),
    (158,
      Obj.row false 44 22
        (RowC.lst 160
          [CK.int IntKind.i64, CK.int IntKind.i64, CK.int IntKind.i64, CK.int IntKind.i64, CK.int IntKind.i64, CK.int IntKind.i64, CK.int IntKind.i64, CK.int IntKind.i64, CK.int IntKind.i64,
            CK.int IntKind.i64, CK.int IntKind.i64, CK.int IntKind.i64, CK.int IntKind.i64, CK.bool, CK.int IntKind.i64, CK.bool, CK.int IntKind.i64, CK.int IntKind.i64, CK.int IntKind.i64,
            CK.int IntKind.i64, CK.int IntKind.i64, CK.bool]
          (peckm_0 c0 c8 c9 c11 n p u w xs)))],
    [n ≤ 1000, xs.length ≤ 1000], [], 171⟩
  | _, _ => none
theorem peckm_ok : FOk Try.prog 37 (tplS peckm_tpl peckm_out) := by
  refine tplS_ok (runF_ok known_peckL 37) fun ps ls r hr hn _ => ?_
  unfold peckm_out at hr
  split at hr
  · cases hr; exact ⟨_, peckm_runs _ _ _ _ _ _ _ _ _ _ _ _ _ _ _ _ _ _ _ _ _ (peckm_weak (by exact hn)), fun _ => rfl⟩
  · cases hr
noncomputable def K_peckm : List (Nat × Summ) := (37, tplS peckm_tpl peckm_out) :: K_rto
theorem known_peckm : Known Try.prog (sums K_peckm) L_peck := known_cons known_peckL peckm_ok
end Go.Proofs.Ytgimheibnpgphaa
