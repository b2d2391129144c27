/-
  CONTOUR. Conditions: none.
-/
import Derived.Test.YthgiaoidekdpfaaH1
set_option linter.all false
namespace Go.Proofs.Ythgiaoidekdpfaa
open Go.SX Go.RowKit
noncomputable def CKi : List CK := [.int .i64, .int .i64, .int .i64, .int .i64, .int .i64, .int .i64, .int .i64, .int .i64, .int .i64, .int .i64, .int .i64, .int .i64, .int .i64, .bool, .int .i64, .bool, .int .i64, .int .i64, .int .i64, .int .i64, .int .i64, .bool]
noncomputable def rowI (id tag : Nat) (xs : List (List Int)) : Nat × SX.Obj := (id, .row false 86 22 (.lst tag CKi xs))
structure CS where
  k : Nat
  a : Int
  x : Int
  y : Int
  z : Int
  R : List (List Int)
noncomputable def rowL (L : List (List Int)) : Nat × SX.Obj := (1, .row true 3 1 (.lst 4 [.int .i64] L))
noncomputable def pU (r i : Int) : Int := bif i.toNat.beq 0 then r else bif i.toNat.beq 1 then 0 else bif i.toNat.beq 2 then IntKind.i64.wrap (0 - r) else 0
noncomputable def pW (r i : Int) : Int := bif i.toNat.beq 0 then 0 else bif i.toNat.beq 1 then r else bif i.toNat.beq 2 then 0 else IntKind.i64.wrap (0 - r)
noncomputable def itO (n : Int) : List Int := [10, 0, 0, 0, 0, 0, 0, 0, 0, 0, 0, 0, 0, 0, 0, 0, 0, 0, 0, n, 0, 1]
noncomputable def itL (x y z u v w fe sd ra : Int) : List Int := [2, 0, x, y, z, u, v, w, 17, 0, 0, 0, 0, 0, fe, 0, sd, ra, 0, 0, 0, 0]
noncomputable def itA (x y z u v w c d e dir fe sd ra : Int) : List Int := [3, 0, x, y, z, u, v, w, 17, c, d, e, dir, 0, fe, 0, sd, ra, 0, 0, 0, 0]
/-- An output. -/
noncomputable def stO (L : List (List Int)) (s : CS) : CS := ⟨s.k - 1, next_1 (next_1 s.a L) L, s.x, s.y, s.z, s.R ++ [itO (next_0 4 (next_1 s.a L) L)]⟩
/-- A line that goes up or down. -/
noncomputable def stZ (L : List (List Int)) (sd ra : Int) (s : CS) : CS := ⟨s.k - 1, next_1 (next_1 s.a L) L, s.x, s.y, IntKind.i64.wrap (s.z + range_0 (-50) 50 (next_1 s.a L) L), s.R ++ [itL s.x s.y s.z s.x s.y (IntKind.i64.wrap (s.z + range_0 (-50) 50 (next_1 s.a L) L)) 30000 sd ra]⟩
noncomputable def aR (L : List (List Int)) (ra : Int) (s : CS) : Int := IntKind.i64.wrap (IntKind.i64.wrap (range_0 1 4 (next_1 s.a L) L * ra) + 20)
noncomputable def aI (L : List (List Int)) (s : CS) : Int := next_0 4 (next_1 (next_1 s.a L) L) L
noncomputable def aK (L : List (List Int)) (s : CS) : Int := (IntKind.i64.wrap (aI L s + range_0 1 3 (next_1 (next_1 (next_1 s.a L) L) L) L)).tmod 4
noncomputable def aC (L : List (List Int)) (ra : Int) (s : CS) : Int := minus_0 s.x (pU (aR L ra s) (aI L s))
noncomputable def aD (L : List (List Int)) (ra : Int) (s : CS) : Int := minus_0 s.y (pW (aR L ra s) (aI L s))
noncomputable def aX (L : List (List Int)) (ra : Int) (s : CS) : Int := addpt_0 (aC L ra s) (pU (aR L ra s) (aK L s))
noncomputable def aY (L : List (List Int)) (ra : Int) (s : CS) : Int := addpt_0 (aD L ra s) (pW (aR L ra s) (aK L s))
/-- An arc. -/
noncomputable def stA (L : List (List Int)) (sd ra : Int) (s : CS) : CS := ⟨s.k - 1, next_1 (next_1 (next_1 (next_1 (next_1 s.a L) L) L) L) L, aX L ra s, aY L ra s, addpt_0 (minus_0 s.z 0) 0,
  s.R ++ [itA s.x s.y s.z (aX L ra s) (aY L ra s) (addpt_0 (minus_0 s.z 0) 0) (aC L ra s) (aD L ra s) (minus_0 s.z 0) (IntKind.i64.wrap (1 - IntKind.i64.wrap (2 * next_0 2 (next_1 (next_1 (next_1 (next_1 s.a L) L) L) L) L))) 60000 sd ra]⟩
noncomputable def dX (L : List (List Int)) (sz : Int) (s : CS) : Int := addpt_0 s.x (range_0 (IntKind.i64.wrap (0 - sz)) sz (next_1 s.a L) L)
noncomputable def dY (L : List (List Int)) (sz : Int) (s : CS) : Int := addpt_0 s.y (range_0 (IntKind.i64.wrap (0 - sz)) sz (next_1 (next_1 s.a L) L) L)
/-- A line. -/
noncomputable def stLn (L : List (List Int)) (sd ra sz : Int) (s : CS) : CS := ⟨s.k - 1, next_1 (next_1 (next_1 s.a L) L) L, dX L sz s, dY L sz s, addpt_0 s.z 0, s.R ++ [itL s.x s.y s.z (dX L sz s) (dY L sz s) (addpt_0 s.z 0) 60000 sd ra]⟩
noncomputable def conStep (L : List (List Int)) (sd ra sz : Int) (s : CS) : CS :=
  bif next_0 10 s.a L == 0 then stO L s else bif next_0 10 s.a L == 1 then stZ L sd ra s else bif (bif next_0 10 s.a L == 2 then next_0 10 s.a L == 2 else next_0 10 s.a L == 3) then stA L sd ra s else stLn L sd ra sz s
noncomputable def conN (L : List (List Int)) (sd ra sz : Int) : Nat → CS → CS
  | 0, s => s
  | k + 1, s => conN L sd ra sz k (conStep L sd ra sz s)
noncomputable def conF (L : List (List Int)) (sd ra sz : Int) : Fam CS CS where
  k := 100
  E s := [(9, ent 1000000000 (.one (I (Int.ofNat s.k)))), (8, ent 1000000001 (.one (.wh 860))), (6, ent 526 (.one (.ptr 522 0))), (5, ent 275 (.one (I sz))), (4, ent 270 (.one (I ra))), (3, ent 137 (.one (I sd))), (0, ent 0 (.one (.ptr 0 0)))]
  M s := [(0, .blk 76 [(2, .wh 1), (1000000002, I s.a)]), rowL L, (522, .blk 43 [(1000000003, I s.x), (1000000004, I s.y), (1000000005, I s.z)]), rowI 860 1000000006 s.R]
  out s := .leaf (.exit 0) [(8, ent 855 (.one (.wh 860))), (6, ent 526 (.one (.ptr 522 0))), (5, ent 275 (.one (I sz))), (4, ent 270 (.one (I ra))), (3, ent 137 (.one (I sd))), (0, ent 0 (.one (.ptr 0 0)))] [(0, .blk 76 [(2, .wh 1), (856, I s.a)]), rowL L, (522, .blk 43 [(857, I s.x), (858, I s.y), (859, I s.z)]), rowI 860 861 s.R]
  fin s := conN L sd ra sz s.k s
  next s i := match i with
    | 0 => stO L s
    | 1 => stZ L sd ra s
    | 2 => stA L sd ra s
    | _ => stLn L sd ra sz s
  J s := 0 ≤ s.a ∧ L.length ≤ 1000000 ∧ (0 ≤ sz ∧ sz ≤ 1000000) ∧ s.R.length + s.k ≤ 1000
  μ s := s.k
noncomputable def con_s0 (s : CS) : Prop :=
  decide (Int.ofNat s.k > 0) = true
noncomputable def con_s1 (L : List (List Int)) (s : CS) : Prop :=
  (next_0 10 s.a L == 0) = true
noncomputable def con_s2 (s : CS) : Prop :=
  (s.R.length + 1) * 176 ≤ 140737488355328 ∧ s.R.length + 1 ≤ 9223372036854775807
noncomputable def con_s3 (L : List (List Int)) (s : CS) : Prop :=
  (next_0 10 s.a L == 0) = false
noncomputable def con_s4 (L : List (List Int)) (s : CS) : Prop :=
  (next_0 10 s.a L == 1) = true
noncomputable def con_s5 (L : List (List Int)) (s : CS) : Prop :=
  (next_0 10 s.a L == 1) = false
noncomputable def con_s6 (L : List (List Int)) (s : CS) : Bool :=
  next_0 10 s.a L == 2
noncomputable def con_s7 (L : List (List Int)) (s : CS) : Prop :=
  (bif con_s6 L s then con_s6 L s else next_0 10 s.a L == 3) = true
noncomputable def con_s8 (L : List (List Int)) (ra : Int) (s : CS) : Int :=
  IntKind.i64.wrap (range_0 1 4 (next_1 s.a L) L * ra)
noncomputable def con_s9 (L : List (List Int)) (ra : Int) (s : CS) : Int :=
  IntKind.i64.wrap (con_s8 L ra s + 20)
noncomputable def con_s10 (L : List (List Int)) (ra : Int) (s : CS) : List SC :=
  [SC.int IntKind.i64 (mkI (isC (mkI (isC (SI.v (range_0 1 4 (next_1 s.a L) L)) (SI.v ra)) (con_s8 L ra s)) (SI.c 20)) (con_s9 L ra s))]
noncomputable def con_s11 (L : List (List Int)) (ra : Int) (s : CS) : Int :=
  IntKind.i64.wrap (0 - con_s9 L ra s)
noncomputable def con_s12 (L : List (List Int)) (s : CS) : Int :=
  (IntKind.i64.wrap (next_0 4 (next_1 (next_1 s.a L) L) L + range_0 1 3 (next_1 (next_1 (next_1 s.a L) L) L) L)).tmod 4
noncomputable def con_s13 (L : List (List Int)) (s : CS) : Prop :=
  (bif con_s6 L s then con_s6 L s else next_0 10 s.a L == 3) = false
noncomputable def con_s14 (L : List (List Int)) (s : CS) : Int :=
  IntKind.i64.wrap (s.z + range_0 (-50) 50 (next_1 s.a L) L)
noncomputable def con_s15 (sd : Int) (ra : Int) : List Int :=
  [0, sd, ra, 0, 0, 0, 0]
noncomputable def con_s16 (L : List (List Int)) (ra : Int) (s : CS) : Int :=
  minus_0 s.x
   (bif (next_0 4 (next_1 (next_1 s.a L) L) L).toNat.beq 0 then con_s9 L ra s
   else bif (next_0 4 (next_1 (next_1 s.a L) L) L).toNat.beq 1 then 0 else bif (next_0 4 (next_1 (next_1 s.a L) L) L).toNat.beq 2 then con_s11 L ra s else 0)
noncomputable def con_s17 (L : List (List Int)) (ra : Int) (s : CS) : Int :=
  addpt_0 (con_s16 L ra s) (bif (con_s12 L s).toNat.beq 0 then con_s9 L ra s else bif (con_s12 L s).toNat.beq 1 then 0 else bif (con_s12 L s).toNat.beq 2 then con_s11 L ra s else 0)
noncomputable def con_s18 (L : List (List Int)) (ra : Int) (s : CS) : Int :=
  minus_0 s.y
   (bif (next_0 4 (next_1 (next_1 s.a L) L) L).toNat.beq 0 then 0
   else bif (next_0 4 (next_1 (next_1 s.a L) L) L).toNat.beq 1 then con_s9 L ra s else bif (next_0 4 (next_1 (next_1 s.a L) L) L).toNat.beq 2 then 0 else con_s11 L ra s)
noncomputable def con_s19 (L : List (List Int)) (ra : Int) (s : CS) : Int :=
  addpt_0 (con_s18 L ra s) (bif (con_s12 L s).toNat.beq 0 then 0 else bif (con_s12 L s).toNat.beq 1 then con_s9 L ra s else bif (con_s12 L s).toNat.beq 2 then 0 else con_s11 L ra s)
noncomputable def con_s20 (L : List (List Int)) (sz : Int) (s : CS) : Int :=
  addpt_0 s.x (range_0 (IntKind.i64.wrap (0 - sz)) sz (next_1 s.a L) L)
noncomputable def con_s21 (L : List (List Int)) (sz : Int) (s : CS) : Int :=
  addpt_0 s.y (range_0 (IntKind.i64.wrap (0 - sz)) sz (next_1 (next_1 s.a L) L) L)
noncomputable def con_needs (L : List (List Int)) (sd : Int) (ra : Int) (sz : Int) (s : CS) : List Prop :=
  [con_s0 s →
     0 ≤ s.a ∧
     L.length ≤ 1000000 ∧
     Int.ofNat 10 ≠ 0 ∧
     (con_s1 L s → 0 ≤ next_1 s.a L ∧ L.length ≤ 1000000 ∧ Int.ofNat 4 ≠ 0 ∧ con_s2 s) ∧
     (con_s3 L s →
     (con_s4 L s → 0 ≤ next_1 s.a L ∧ L.length ≤ 1000000 ∧ (-50 ≤ 50 ∧ -1000000 ≤ -50 ∧ Int.ofNat 50 ≤ 1000000) ∧ con_s2 s) ∧
     (con_s5 L s →
     con_s7 L s →
     0 ≤ next_1 s.a L ∧
     L.length ≤ 1000000 ∧
     (Int.ofNat 1 ≤ 4 ∧ -1000000 ≤ 1 ∧ Int.ofNat 4 ≤ 1000000) ∧
     0 ≤ next_1 (next_1 s.a L) L ∧
     L.length ≤ 1000000 ∧
     Int.ofNat 4 ≠ 0 ∧
     0 ≤ next_1 (next_1 (next_1 s.a L) L) L ∧
     L.length ≤ 1000000 ∧
     (Int.ofNat 1 ≤ 3 ∧ -1000000 ≤ 1 ∧ Int.ofNat 3 ≤ 1000000) ∧
     0 ≤ next_0 4 (next_1 (next_1 s.a L) L) L ∧
     (next_0 4 (next_1 (next_1 s.a L) L) L).toNat < 4 ∧
     (next_0 4 (next_1 (next_1 s.a L) L) L).toNat < 4 ∧
     (next_0 4 (next_1 (next_1 s.a L) L) L).toNat <
     (chunks 2 4
     (paste
     (paste
     (paste
     (paste (List.map (fun j => [SC.int IntKind.i64 (SI.c 0), SC.int IntKind.i64 (SI.c 0)][j % 2]?.getD SC.nilp) (List.range 8)) 0
     (paste [SC.int IntKind.i64 (SI.c 0), SC.int IntKind.i64 (SI.c 0)] 0 (con_s10 L ra s)))
     2 (paste [SC.int IntKind.i64 (SI.c 0), SC.int IntKind.i64 (SI.c 0)] 1 (con_s10 L ra s)))
     4 (paste [SC.int IntKind.i64 (SI.c 0), SC.int IntKind.i64 (SI.c 0)] 0 [SC.int IntKind.i64 (SI.v (con_s11 L ra s))]))
     6 (paste [SC.int IntKind.i64 (SI.c 0), SC.int IntKind.i64 (SI.c 0)] 1 [SC.int IntKind.i64 (SI.v (con_s11 L ra s))]))).length ∧
     0 ≤ next_0 4 (next_1 (next_1 s.a L) L) L ∧
     (next_0 4 (next_1 (next_1 s.a L) L) L).toNat < 4 ∧
     (next_0 4 (next_1 (next_1 s.a L) L) L).toNat < 4 ∧
     (next_0 4 (next_1 (next_1 s.a L) L) L).toNat <
     (chunks 2 4
     (paste
     (paste
     (paste
     (paste (List.map (fun j => [SC.int IntKind.i64 (SI.c 0), SC.int IntKind.i64 (SI.c 0)][j % 2]?.getD SC.nilp) (List.range 8)) 0
     (paste [SC.int IntKind.i64 (SI.c 0), SC.int IntKind.i64 (SI.c 0)] 0 (con_s10 L ra s)))
     2 (paste [SC.int IntKind.i64 (SI.c 0), SC.int IntKind.i64 (SI.c 0)] 1 (con_s10 L ra s)))
     4 (paste [SC.int IntKind.i64 (SI.c 0), SC.int IntKind.i64 (SI.c 0)] 0 [SC.int IntKind.i64 (SI.v (con_s11 L ra s))]))
     6 (paste [SC.int IntKind.i64 (SI.c 0), SC.int IntKind.i64 (SI.c 0)] 1 [SC.int IntKind.i64 (SI.v (con_s11 L ra s))]))).length ∧
     0 ≤ con_s12 L s ∧
     (con_s12 L s).toNat < 4 ∧
     (con_s12 L s).toNat <
     (chunks 2 4
     (paste
     (paste
     (paste
     (paste (List.map (fun j => [SC.int IntKind.i64 (SI.c 0), SC.int IntKind.i64 (SI.c 0)][j % 2]?.getD SC.nilp) (List.range 8)) 0
     (paste [SC.int IntKind.i64 (SI.c 0), SC.int IntKind.i64 (SI.c 0)] 0 (con_s10 L ra s)))
     2 (paste [SC.int IntKind.i64 (SI.c 0), SC.int IntKind.i64 (SI.c 0)] 1 (con_s10 L ra s)))
     4 (paste [SC.int IntKind.i64 (SI.c 0), SC.int IntKind.i64 (SI.c 0)] 0 [SC.int IntKind.i64 (SI.v (con_s11 L ra s))]))
     6 (paste [SC.int IntKind.i64 (SI.c 0), SC.int IntKind.i64 (SI.c 0)] 1 [SC.int IntKind.i64 (SI.v (con_s11 L ra s))]))).length ∧
     0 ≤ next_1 (next_1 (next_1 (next_1 s.a L) L) L) L ∧ L.length ≤ 1000000 ∧ Int.ofNat 2 ≠ 0 ∧ con_s2 s)) ∧
     (con_s3 L s →
     con_s5 L s →
     con_s13 L s →
     0 ≤ next_1 s.a L ∧
     L.length ≤ 1000000 ∧
     (IntKind.i64.wrap (0 - sz) ≤ sz ∧ -1000000 ≤ IntKind.i64.wrap (0 - sz) ∧ sz ≤ 1000000) ∧
     0 ≤ next_1 (next_1 s.a L) L ∧ L.length ≤ 1000000 ∧ (IntKind.i64.wrap (0 - sz) ≤ sz ∧ -1000000 ≤ IntKind.i64.wrap (0 - sz) ∧ sz ≤ 1000000) ∧ con_s2 s),
    con_s0 s →
     (con_s1 L s →
     (0 ≤ ((conF L sd ra sz).next s 0).a ∧ L.length ≤ 1000000 ∧ (0 ≤ sz ∧ sz ≤ 1000000) ∧ ((conF L sd ra sz).next s 0).R.length + ((conF L sd ra sz).next s 0).k ≤ 1000) ∧
     (conF L sd ra sz).μ ((conF L sd ra sz).next s 0) < (conF L sd ra sz).μ s ∧
     (conF L sd ra sz).fin ((conF L sd ra sz).next s 0) = (conF L sd ra sz).fin s ∧
     Int.ofNat ((conF L sd ra sz).next s 0).k = IntKind.i64.wrap (Int.ofNat s.k - 1) ∧
     ((conF L sd ra sz).next s 0).a = next_1 (next_1 s.a L) L ∧
     ((conF L sd ra sz).next s 0).x = s.x ∧
     ((conF L sd ra sz).next s 0).y = s.y ∧
     ((conF L sd ra sz).next s 0).z = s.z ∧ ((conF L sd ra sz).next s 0).R = s.R ++ [[10, 0, 0, 0, 0, 0, 0, 0, 0, 0, 0, 0, 0, 0, 0, 0, 0, 0, 0, next_0 4 (next_1 s.a L) L, 0, 1]]) ∧
     (con_s3 L s →
     (con_s4 L s →
     (0 ≤ ((conF L sd ra sz).next s 1).a ∧ L.length ≤ 1000000 ∧ (0 ≤ sz ∧ sz ≤ 1000000) ∧ ((conF L sd ra sz).next s 1).R.length + ((conF L sd ra sz).next s 1).k ≤ 1000) ∧
     (conF L sd ra sz).μ ((conF L sd ra sz).next s 1) < (conF L sd ra sz).μ s ∧
     (conF L sd ra sz).fin ((conF L sd ra sz).next s 1) = (conF L sd ra sz).fin s ∧
     Int.ofNat ((conF L sd ra sz).next s 1).k = IntKind.i64.wrap (Int.ofNat s.k - 1) ∧
     ((conF L sd ra sz).next s 1).a = next_1 (next_1 s.a L) L ∧
     ((conF L sd ra sz).next s 1).x = s.x ∧
     ((conF L sd ra sz).next s 1).y = s.y ∧
     ((conF L sd ra sz).next s 1).z = con_s14 L s ∧
     ((conF L sd ra sz).next s 1).R = s.R ++ [2 :: 0 :: s.x :: s.y :: s.z :: s.x :: s.y :: con_s14 L s :: 17 :: 0 :: 0 :: 0 :: 0 :: 0 :: 30000 :: con_s15 sd ra]) ∧
     (con_s5 L s →
     (con_s7 L s →
     (0 ≤ ((conF L sd ra sz).next s 2).a ∧ L.length ≤ 1000000 ∧ (0 ≤ sz ∧ sz ≤ 1000000) ∧ ((conF L sd ra sz).next s 2).R.length + ((conF L sd ra sz).next s 2).k ≤ 1000) ∧
     (conF L sd ra sz).μ ((conF L sd ra sz).next s 2) < (conF L sd ra sz).μ s ∧
     (conF L sd ra sz).fin ((conF L sd ra sz).next s 2) = (conF L sd ra sz).fin s ∧
     Int.ofNat ((conF L sd ra sz).next s 2).k = IntKind.i64.wrap (Int.ofNat s.k - 1) ∧
     ((conF L sd ra sz).next s 2).a = next_1 (next_1 (next_1 (next_1 (next_1 s.a L) L) L) L) L ∧
     ((conF L sd ra sz).next s 2).x = con_s17 L ra s ∧
     ((conF L sd ra sz).next s 2).y = con_s19 L ra s ∧
     ((conF L sd ra sz).next s 2).z = addpt_0 (minus_0 s.z 0) 0 ∧
     ((conF L sd ra sz).next s 2).R =
     s.R ++
     [3 ::
     0 ::
     s.x ::
     s.y ::
     s.z ::
     con_s17 L ra s ::
     con_s19 L ra s ::
     addpt_0 (minus_0 s.z 0) 0 ::
     17 ::
     con_s16 L ra s ::
     con_s18 L ra s ::
     minus_0 s.z 0 ::
     IntKind.i64.wrap (1 - IntKind.i64.wrap (2 * next_0 2 (next_1 (next_1 (next_1 (next_1 s.a L) L) L) L) L)) ::
     0 :: 60000 :: con_s15 sd ra]) ∧
     (con_s13 L s →
     (0 ≤ ((conF L sd ra sz).next s 3).a ∧ L.length ≤ 1000000 ∧ (0 ≤ sz ∧ sz ≤ 1000000) ∧ ((conF L sd ra sz).next s 3).R.length + ((conF L sd ra sz).next s 3).k ≤ 1000) ∧
     (conF L sd ra sz).μ ((conF L sd ra sz).next s 3) < (conF L sd ra sz).μ s ∧
     (conF L sd ra sz).fin ((conF L sd ra sz).next s 3) = (conF L sd ra sz).fin s ∧
     Int.ofNat ((conF L sd ra sz).next s 3).k = IntKind.i64.wrap (Int.ofNat s.k - 1) ∧
     ((conF L sd ra sz).next s 3).a = next_1 (next_1 (next_1 s.a L) L) L ∧
     ((conF L sd ra sz).next s 3).x = con_s20 L sz s ∧
     ((conF L sd ra sz).next s 3).y = con_s21 L sz s ∧
     ((conF L sd ra sz).next s 3).z = addpt_0 s.z 0 ∧
     ((conF L sd ra sz).next s 3).R =
     s.R ++ [2 :: 0 :: s.x :: s.y :: s.z :: con_s20 L sz s :: con_s21 L sz s :: addpt_0 s.z 0 :: 17 :: 0 :: 0 :: 0 :: 0 :: 0 :: 60000 :: con_s15 sd ra]))),
    decide (Int.ofNat s.k > 0) = false →
     ((conF L sd ra sz).fin s).a = s.a ∧ ((conF L sd ra sz).fin s).x = s.x ∧ ((conF L sd ra sz).fin s).y = s.y ∧ ((conF L sd ra sz).fin s).z = s.z ∧ ((conF L sd ra sz).fin s).R = s.R]
theorem con_round (L : List (List Int)) (sd ra sz : Int) (s : CS) (hNeeds : ∀ pN ∈ (con_needs L sd ra sz s), pN) : RoundOk (roundC (conF L sd ra sz) (bodyOf Try.prog (sums K_svec) L_mul 55 0) 854 s) :=
  RoundOk.of (ps := (con_needs L sd ra sz s)) (by kernel_rfl) (by kernel_rfl) hNeeds
theorem con_rounds (L : List (List Int)) (sd ra sz : Int) : RoundsOk (conF L sd ra sz) (bodyOf Try.prog (sums K_svec) L_mul 55 0) 854 := by
  intro s hJ
  obtain ⟨h1, h2, h3, h4⟩ : 0 ≤ s.a ∧ L.length ≤ 1000000 ∧ (0 ≤ sz ∧ sz ≤ 1000000) ∧ s.R.length + s.k ≤ 1000 := hJ
  have nn : ∀ x, 0 ≤ x → 0 ≤ next_1 x L := fun x h => next_1_nn x L h h2
  have n1 := nn _ h1
  have n2 := nn _ n1
  have n3 := nn _ n2
  have n4 := nn _ n3
  have n5 := nn _ n4
  have ez : IntKind.i64.wrap (0 - sz) = 0 - sz := wrI (by omega) (by omega)
  have e2 : con_s2 s := by unfold con_s2; omega
  have ri := next_0_range 4 (next_1 (next_1 s.a L) L) L (by omega) (by omega)
  have ri' : (next_0 4 (next_1 (next_1 s.a L) L) L).toNat < 4 := by omega
  have rk := range_0_rng 1 3 (next_1 (next_1 (next_1 s.a L) L) L) L (by omega) (by omega) (by omega)
  have rj : 0 ≤ con_s12 L s ∧ (con_s12 L s).toNat < 4 := by
    unfold con_s12
    rw [wrI (by omega) (by omega)]
    have := Int.tmod_lt_of_pos (next_0 4 (next_1 (next_1 s.a L) L) L + range_0 1 3 (next_1 (next_1 (next_1 s.a L) L) L) L) (b := 4) (by omega)
    have := Int.tmod_nonneg (a := next_0 4 (next_1 (next_1 s.a L) L) L + range_0 1 3 (next_1 (next_1 (next_1 s.a L) L) L) L) 4 (by omega)
    omega
  have rz : IntKind.i64.wrap (0 - sz) ≤ sz ∧ -1000000 ≤ IntKind.i64.wrap (0 - sz) ∧ sz ≤ 1000000 := by rw [ez]; omega
  refine con_round L sd ra sz s ?_
  unfold con_needs
  simp only [List.forall_mem_cons, List.not_mem_nil, false_implies, implies_true, and_true]
  refine ⟨fun _ => ⟨h1, h2, by decide, fun _ => ⟨n1, h2, by decide, e2⟩, fun _ => ⟨fun _ => ⟨n1, h2, by decide, e2⟩, fun _ _ => ⟨n1, h2, by decide, n2, h2, by decide, n3, h2, by decide, ri.1, ri', ri', ri', ri.1, ri', ri', ri', rj.1, rj.2, rj.2, n4, h2, by decide, e2⟩⟩, fun _ _ _ => ⟨n1, h2, rz, n2, h2, rz, e2⟩⟩, ?_, ?_⟩
  · intro h0
    obtain ⟨k, hk⟩ : ∃ k, s.k = k + 1 := ⟨s.k - 1, by unfold con_s0 at h0; simp at h0; omega⟩
    have ek : IntKind.i64.wrap (Int.ofNat s.k - 1) = Int.ofNat (s.k - 1) := by rw [wrI (by simp; omega) (by simp; omega)]; simp; omega
    have key : ∀ t, t.k = s.k - 1 → t = conStep L sd ra sz s → conN L sd ra sz t.k t = conN L sd ra sz s.k s := fun t h1 h2 => by rw [h1, h2, hk]; rfl
    have len : ∀ x, (s.R ++ [x]).length + (s.k - 1) ≤ 1000 := fun x => by simp; omega
    refine ⟨fun h => ?_, fun h => ⟨fun h' => ?_, fun h' => ⟨fun h'' => ?_, fun h'' => ?_⟩⟩⟩
    · exact ⟨⟨n2, h2, h3, len _⟩, by show s.k - 1 < s.k; omega, key _ rfl (by unfold con_s1 at h; unfold conStep; rw [h]; rfl), ek.symm, rfl, rfl, rfl, rfl, rfl⟩
    · exact ⟨⟨n2, h2, h3, len _⟩, by show s.k - 1 < s.k; omega, key _ rfl (by unfold con_s3 at h; unfold con_s4 at h'; unfold conStep; rw [h, h']; rfl), ek.symm, rfl, rfl, rfl, rfl, rfl⟩
    · exact ⟨⟨n5, h2, h3, len _⟩, by show s.k - 1 < s.k; omega, key _ rfl (by unfold con_s3 at h; unfold con_s5 at h'; unfold con_s7 con_s6 at h''; unfold conStep; rw [h, h', h'']; rfl), ek.symm, rfl, rfl, rfl, rfl, rfl⟩
    · exact ⟨⟨n3, h2, h3, len _⟩, by show s.k - 1 < s.k; omega, key _ rfl (by unfold con_s3 at h; unfold con_s5 at h'; unfold con_s13 con_s6 at h''; unfold conStep; rw [h, h', h'']; rfl), ek.symm, rfl, rfl, rfl, rfl, rfl⟩
  · intro h0
    have hk : s.k = 0 := by simp at h0; omega
    have e : conN L sd ra sz s.k s = s := by rw [hk]; rfl
    show (conN L sd ra sz s.k s).a = s.a ∧ (conN L sd ra sz s.k s).x = s.x ∧ (conN L sd ra sz s.k s).y = s.y ∧ (conN L sd ra sz s.k s).z = s.z ∧ (conN L sd ra sz s.k s).R = s.R
    rw [e]
    exact ⟨rfl, rfl, rfl, rfl, rfl⟩
noncomputable def conLp : LoopS := fun env mem m => match SX.look env 9, SX.look env 8, SX.look env 5, SX.look env 4, SX.look env 3, SX.look mem 0, SX.look mem 1, SX.look mem 522 with
  | some ⟨_, _, _, .one (.int _ n)⟩, some ⟨_, _, _, .one (.wh rid)⟩, some ⟨_, _, _, .one (.int _ sz)⟩, some ⟨_, _, _, .one (.int _ ra)⟩, some ⟨_, _, _, .one (.int _ sd)⟩, some (.blk _ [_, (_, .int _ a)]), some (.row _ _ _ (.lst _ _ L)), some (.blk _ [(_, .int _ x), (_, .int _ y), (_, .int _ z)]) => (match SX.look mem rid with
    | some (.row _ _ _ (.lit _ rows)) => (match encRows CKi rows with
      | some R => famS (conF L sd.val ra.val sz.val) 854 (fun _ _ => some ⟨n.val.toNat, a.val, x.val, y.val, z.val, R⟩) env mem m
      | none => none)
    | _ => none)
  | _, _, _, _, _, _, _, _ => none
noncomputable def L_con : FuncId → Nat → Option LoopS := addL L_mul 55 10 conLp
theorem known_conL : Known Try.prog (sums K_svec) L_con := by
  refine known_addL 0 known_svec (by kernel_rfl) (codeOk_of fun env mem m x h => ?_)
  unfold conLp at h
  have hlen : (loopList Try.prog 55).length = 1 := by kernel_rfl
  split at h
  · split at h
    · split at h
      · exact ⟨_, fam_ok (bodyOf_ok plainN known_svec (by omega)) (con_rounds _ _ _ _), h⟩
      · cases h
    · cases h
  · cases h
theorem conStep_a {L : List (List Int)} {sd ra sz : Int} {s : CS} (hl : L.length ≤ 1000000) (h : 0 ≤ s.a) : 0 ≤ (conStep L sd ra sz s).a := by
  have nn : ∀ x, 0 ≤ x → 0 ≤ next_1 x L := fun x h => next_1_nn x L h hl
  unfold conStep
  generalize (bif next_0 10 s.a L == 2 then next_0 10 s.a L == 2 else next_0 10 s.a L == 3 : Bool) = c
  cases next_0 10 s.a L == 0 <;> cases next_0 10 s.a L == 1 <;> cases c <;> first
    | exact nn _ (nn _ h)
    | exact nn _ (nn _ (nn _ h))
    | exact nn _ (nn _ (nn _ (nn _ (nn _ h))))
theorem conN_a {L : List (List Int)} {sd ra sz : Int} (hl : L.length ≤ 1000000) : ∀ (k : Nat) (s : CS), 0 ≤ s.a → 0 ≤ (conN L sd ra sz k s).a
  | 0, _, h => h
  | k + 1, s, h => conN_a hl k _ (conStep_a hl h)
theorem conStep_R (L : List (List Int)) (sd ra sz : Int) (s : CS) : (conStep L sd ra sz s).R.length = s.R.length + 1 := by
  unfold conStep
  generalize (bif next_0 10 s.a L == 2 then next_0 10 s.a L == 2 else next_0 10 s.a L == 3 : Bool) = c
  cases next_0 10 s.a L == 0 <;> cases next_0 10 s.a L == 1 <;> cases c <;> simp only [cond_true, cond_false, stO, stZ, stA, stLn, List.length_append, List.length_cons, List.length_nil]
theorem conN_R (L : List (List Int)) (sd ra sz : Int) : ∀ (k : Nat) (s : CS), (conN L sd ra sz k s).R.length = s.R.length + k
  | 0, _ => rfl
  | k + 1, s => by
    have := conN_R L sd ra sz k (conStep L sd ra sz s)
    rw [conStep_R] at this
    show (conN L sd ra sz k (conStep L sd ra sz s)).R.length = _
    omega
noncomputable def cSd (a : Int) (L : List (List Int)) : Int := IntKind.i64.wrap (1 - IntKind.i64.wrap (2 * next_0 2 a L))
noncomputable def cRa (a : Int) (L : List (List Int)) : Int := bif next_0 4 (next_1 (next_1 a L) L) L == 0 then range_0 100 2000 (next_1 (next_1 (next_1 a L) L) L) L else range_0 0 40 (next_1 a L) L
noncomputable def cSz (a : Int) (L : List (List Int)) : Int := IntKind.i64.wrap (200 + IntKind.i64.wrap (6 * cRa a L))
noncomputable def cA (a : Int) (L : List (List Int)) : Int := bif next_0 4 (next_1 (next_1 a L) L) L == 0 then next_1 (next_1 (next_1 (next_1 a L) L) L) L else next_1 (next_1 (next_1 a L) L) L
noncomputable def cX (a : Int) (L : List (List Int)) : Int := addpt_0 (ptm_0 1000 (cA a L) L) (range_0 (IntKind.i64.wrap (cRa a L + 1)) (cSz a L) (next_1 (next_1 (next_1 (cA a L) L) L) L) L)
noncomputable def cY (a : Int) (L : List (List Int)) : Int := addpt_0 (ptm_1 1000 (cA a L) L) (range_0 (IntKind.i64.wrap (0 - cSz a L)) (cSz a L) (next_1 (next_1 (next_1 (next_1 (cA a L) L) L) L) L) L)
noncomputable def cZ (a : Int) (L : List (List Int)) : Int := addpt_0 (svec_2 1000 (cA a L) L) 0
noncomputable def cS (a : Int) (L : List (List Int)) : CS := ⟨(range_0 1 6 (next_1 (next_1 (next_1 (next_1 (next_1 (cA a L) L) L) L) L) L) L).toNat, next_1 (next_1 (next_1 (next_1 (next_1 (next_1 (cA a L) L) L) L) L) L) L, cX a L, cY a L, cZ a L,
  [itL (ptm_0 1000 (cA a L) L) (ptm_1 1000 (cA a L) L) (svec_2 1000 (cA a L) L) (cX a L) (cY a L) (cZ a L) 60000 (cSd a L) (cRa a L)]⟩
/-- Behind the loop. -/
noncomputable def cT (a : Int) (L : List (List Int)) : CS := conN L (cSd a L) (cRa a L) (cSz a L) (cS a L).k (cS a L)
noncomputable def itM (x y z u v w : Int) : List Int := [2, 0, x, y, z, u, v, w, 0, 0, 0, 0, 0, 0, 60000, 0, 0, 0, 0, 0, 0, 0]
/-- The contour. -/
noncomputable def contL (a : Int) (L : List (List Int)) : List (List Int) := (cT a L).R ++ [itM (cT a L).x (cT a L).y (cT a L).z (addpt_0 (cT a L).x (range_0 (IntKind.i64.wrap (0 - cSz a L)) (cSz a L) (cT a L).a L))
  (addpt_0 (cT a L).y (range_0 (IntKind.i64.wrap (cRa a L + 1)) (cSz a L) (next_1 (cT a L).a L) L)) (addpt_0 (cT a L).z 0)]
noncomputable def contA (a : Int) (L : List (List Int)) : Int := next_1 (next_1 (cT a L).a L) L
theorem cS_k (a : Int) (L : List (List Int)) : 1 ≤ (cS a L).k ∧ (cS a L).k ≤ 6 := by
  have h := range_0_rng 1 6 (next_1 (next_1 (next_1 (next_1 (next_1 (cA a L) L) L) L) L) L) L (by omega) (by omega) (by omega)
  unfold cS; dsimp only; omega
theorem contL_len (a : Int) (L : List (List Int)) : 3 ≤ (contL a L).length ∧ (contL a L).length ≤ 8 := by
  have h := cS_k a L
  have k := conN_R L (cSd a L) (cRa a L) (cSz a L) (cS a L).k (cS a L)
  have e : (cS a L).R.length = 1 := rfl
  unfold contL cT
  simp only [List.length_append, List.length_cons, List.length_nil]
  omega
theorem cRa_rng (a : Int) (L : List (List Int)) : 0 ≤ cRa a L ∧ cRa a L ≤ 2000 := by
  have h1 := range_0_rng 0 40 (next_1 a L) L (by omega) (by omega) (by omega)
  have h2 := range_0_rng 100 2000 (next_1 (next_1 (next_1 a L) L) L) L (by omega) (by omega) (by omega)
  unfold cRa
  cases next_0 4 (next_1 (next_1 a L) L) L == 0
  · rw [cond_false]; omega
  · rw [cond_true]; omega
theorem cSz_eq (a : Int) (L : List (List Int)) : cSz a L = 200 + 6 * cRa a L := by
  have := cRa_rng a L
  unfold cSz
  rw [wrI (x := 6 * cRa a L) (by omega) (by omega), wrI (by omega) (by omega)]
theorem cA_nn {a : Int} {L : List (List Int)} (h : 0 ≤ a) (hl : L.length ≤ 1000000) : 0 ≤ cA a L := by
  have nn : ∀ x, 0 ≤ x → 0 ≤ next_1 x L := fun x h => next_1_nn x L h hl
  unfold cA
  cases next_0 4 (next_1 (next_1 a L) L) L == 0
  · exact nn _ (nn _ (nn _ h))
  · exact nn _ (nn _ (nn _ (nn _ h)))
noncomputable def contour_tpl : Tpl := ⟨[.one (.ptr 0 0)], [(0, .blk 76 [(2, .wh 1), (3, .int .i64)]), (1, .row true 3 1 4 [.int .i64])], 5⟩
noncomputable def contour_s0 (a : Int) (L : List (List Int)) : Int :=
  IntKind.i64.wrap (1 - IntKind.i64.wrap (2 * next_0 2 a L))
noncomputable def contour_s1 (a : Int) (L : List (List Int)) : Int :=
  bif next_0 4 (next_1 (next_1 a L) L) L == 0 then range_0 100 2000 (next_1 (next_1 (next_1 a L) L) L) L else range_0 0 40 (next_1 a L) L
noncomputable def contour_s2 (a : Int) (L : List (List Int)) : Int :=
  IntKind.i64.wrap (200 + IntKind.i64.wrap (6 * contour_s1 a L))
noncomputable def contour_s3 (a : Int) (L : List (List Int)) : Int :=
  bif next_0 4 (next_1 (next_1 a L) L) L == 0 then next_1 (next_1 (next_1 (next_1 a L) L) L) L else next_1 (next_1 (next_1 a L) L) L
noncomputable def contour_s4 (a : Int) (L : List (List Int)) : Int :=
  addpt_0 (ptm_0 1000 (contour_s3 a L) L) (range_0 (IntKind.i64.wrap (contour_s1 a L + 1)) (contour_s2 a L) (next_1 (next_1 (next_1 (contour_s3 a L) L) L) L) L)
noncomputable def contour_s5 (a : Int) (L : List (List Int)) : Int :=
  addpt_0 (ptm_1 1000 (contour_s3 a L) L) (range_0 (IntKind.i64.wrap (0 - contour_s2 a L)) (contour_s2 a L) (next_1 (next_1 (next_1 (next_1 (contour_s3 a L) L) L) L) L) L)
noncomputable def contour_s6 (a : Int) (L : List (List Int)) : Int :=
  ((conF L (contour_s0 a L) (contour_s1 a L) (contour_s2 a L)).fin
   (CS.mk (range_0 1 6 (next_1 (next_1 (next_1 (next_1 (next_1 (contour_s3 a L) L) L) L) L) L) L).toNat (next_1 (next_1 (next_1 (next_1 (next_1 (next_1 (contour_s3 a L) L) L) L) L) L) L)
   (contour_s4 a L) (contour_s5 a L) (addpt_0 (svec_2 1000 (contour_s3 a L) L) 0)
   [[2, 0, ptm_0 1000 (contour_s3 a L) L, ptm_1 1000 (contour_s3 a L) L, svec_2 1000 (contour_s3 a L) L, contour_s4 a L, contour_s5 a L, addpt_0 (svec_2 1000 (contour_s3 a L) L) 0, 17, 0, 0, 0, 0,
   0, 60000, 0, contour_s0 a L, contour_s1 a L, 0, 0, 0, 0]])).x
noncomputable def contour_s7 (a : Int) (L : List (List Int)) : Int :=
  ((conF L (contour_s0 a L) (contour_s1 a L) (contour_s2 a L)).fin
   (CS.mk (range_0 1 6 (next_1 (next_1 (next_1 (next_1 (next_1 (contour_s3 a L) L) L) L) L) L) L).toNat (next_1 (next_1 (next_1 (next_1 (next_1 (next_1 (contour_s3 a L) L) L) L) L) L) L)
   (contour_s4 a L) (contour_s5 a L) (addpt_0 (svec_2 1000 (contour_s3 a L) L) 0)
   [[2, 0, ptm_0 1000 (contour_s3 a L) L, ptm_1 1000 (contour_s3 a L) L, svec_2 1000 (contour_s3 a L) L, contour_s4 a L, contour_s5 a L, addpt_0 (svec_2 1000 (contour_s3 a L) L) 0, 17, 0, 0, 0, 0,
   0, 60000, 0, contour_s0 a L, contour_s1 a L, 0, 0, 0, 0]])).y
noncomputable def contour_s8 (a : Int) (L : List (List Int)) : Int :=
  ((conF L (contour_s0 a L) (contour_s1 a L) (contour_s2 a L)).fin
   (CS.mk (range_0 1 6 (next_1 (next_1 (next_1 (next_1 (next_1 (contour_s3 a L) L) L) L) L) L) L).toNat (next_1 (next_1 (next_1 (next_1 (next_1 (next_1 (contour_s3 a L) L) L) L) L) L) L)
   (contour_s4 a L) (contour_s5 a L) (addpt_0 (svec_2 1000 (contour_s3 a L) L) 0)
   [[2, 0, ptm_0 1000 (contour_s3 a L) L, ptm_1 1000 (contour_s3 a L) L, svec_2 1000 (contour_s3 a L) L, contour_s4 a L, contour_s5 a L, addpt_0 (svec_2 1000 (contour_s3 a L) L) 0, 17, 0, 0, 0, 0,
   0, 60000, 0, contour_s0 a L, contour_s1 a L, 0, 0, 0, 0]])).z
noncomputable def contour_s9 (a : Int) (L : List (List Int)) : Int :=
  ((conF L (contour_s0 a L) (contour_s1 a L) (contour_s2 a L)).fin
   (CS.mk (range_0 1 6 (next_1 (next_1 (next_1 (next_1 (next_1 (contour_s3 a L) L) L) L) L) L) L).toNat (next_1 (next_1 (next_1 (next_1 (next_1 (next_1 (contour_s3 a L) L) L) L) L) L) L)
   (contour_s4 a L) (contour_s5 a L) (addpt_0 (svec_2 1000 (contour_s3 a L) L) 0)
   [[2, 0, ptm_0 1000 (contour_s3 a L) L, ptm_1 1000 (contour_s3 a L) L, svec_2 1000 (contour_s3 a L) L, contour_s4 a L, contour_s5 a L, addpt_0 (svec_2 1000 (contour_s3 a L) L) 0, 17, 0, 0, 0, 0,
   0, 60000, 0, contour_s0 a L, contour_s1 a L, 0, 0, 0, 0]])).a
noncomputable def contour_0 (a : Int) (L : List (List Int)) : List (List Int) :=
  ((conF L (contour_s0 a L) (contour_s1 a L) (contour_s2 a L)).fin
   (CS.mk (range_0 1 6 (next_1 (next_1 (next_1 (next_1 (next_1 (contour_s3 a L) L) L) L) L) L) L).toNat (next_1 (next_1 (next_1 (next_1 (next_1 (next_1 (contour_s3 a L) L) L) L) L) L) L)
   (contour_s4 a L) (contour_s5 a L) (addpt_0 (svec_2 1000 (contour_s3 a L) L) 0)
   [[2, 0, ptm_0 1000 (contour_s3 a L) L, ptm_1 1000 (contour_s3 a L) L, svec_2 1000 (contour_s3 a L) L, contour_s4 a L, contour_s5 a L, addpt_0 (svec_2 1000 (contour_s3 a L) L) 0, 17, 0, 0, 0,
   0, 0, 60000, 0, contour_s0 a L, contour_s1 a L, 0, 0, 0, 0]])).R ++
   [[2, 0, contour_s6 a L, contour_s7 a L, contour_s8 a L, addpt_0 (contour_s6 a L) (range_0 (IntKind.i64.wrap (0 - contour_s2 a L)) (contour_s2 a L) (contour_s9 a L) L),
   addpt_0 (contour_s7 a L) (range_0 (IntKind.i64.wrap (contour_s1 a L + 1)) (contour_s2 a L) (next_1 (contour_s9 a L) L) L), addpt_0 (contour_s8 a L) 0, 0, 0, 0, 0, 0, 0, 60000, 0, 0, 0, 0, 0, 0,
   0]]
noncomputable def contour_1 (a : Int) (L : List (List Int)) : Int :=
  next_1
   (next_1
   ((conF L (IntKind.i64.wrap (1 - IntKind.i64.wrap (2 * next_0 2 a L))) (contour_s1 a L) (contour_s2 a L)).fin
   (CS.mk (range_0 1 6 (next_1 (next_1 (next_1 (next_1 (next_1 (contour_s3 a L) L) L) L) L) L) L).toNat (next_1 (next_1 (next_1 (next_1 (next_1 (next_1 (contour_s3 a L) L) L) L) L) L) L)
   (addpt_0 (ptm_0 1000 (contour_s3 a L) L) (range_0 (IntKind.i64.wrap (contour_s1 a L + 1)) (contour_s2 a L) (next_1 (next_1 (next_1 (contour_s3 a L) L) L) L) L))
   (addpt_0 (ptm_1 1000 (contour_s3 a L) L) (range_0 (IntKind.i64.wrap (0 - contour_s2 a L)) (contour_s2 a L) (next_1 (next_1 (next_1 (next_1 (contour_s3 a L) L) L) L) L) L))
   (addpt_0 (svec_2 1000 (contour_s3 a L) L) 0)
   [(fun x => 2 :: x)
   ((fun x => 0 :: x)
   ((fun x => ptm_0 1000 (bif next_0 4 (next_1 (next_1 a L) L) L == 0 then next_1 (next_1 (next_1 (next_1 a L) L) L) L else next_1 (next_1 (next_1 a L) L) L) L :: x)
   ((fun x => ptm_1 1000 (bif next_0 4 (next_1 (next_1 a L) L) L == 0 then next_1 (next_1 (next_1 (next_1 a L) L) L) L else next_1 (next_1 (next_1 a L) L) L) L :: x)
   ((fun x => svec_2 1000 (bif next_0 4 (next_1 (next_1 a L) L) L == 0 then next_1 (next_1 (next_1 (next_1 a L) L) L) L else next_1 (next_1 (next_1 a L) L) L) L :: x)
   ((fun x =>
   addpt_0 (ptm_0 1000 (bif next_0 4 (next_1 (next_1 a L) L) L == 0 then next_1 (next_1 (next_1 (next_1 a L) L) L) L else next_1 (next_1 (next_1 a L) L) L) L)
   (range_0
   (IntKind.i64.wrap ((bif next_0 4 (next_1 (next_1 a L) L) L == 0 then range_0 100 2000 (next_1 (next_1 (next_1 a L) L) L) L else range_0 0 40 (next_1 a L) L) + 1))
   (IntKind.i64.wrap
   (200 +
   IntKind.i64.wrap (6 * bif next_0 4 (next_1 (next_1 a L) L) L == 0 then range_0 100 2000 (next_1 (next_1 (next_1 a L) L) L) L else range_0 0 40 (next_1 a L) L)))
   (next_1 (next_1 (next_1 (bif next_0 4 (next_1 (next_1 a L) L) L == 0 then next_1 (next_1 (next_1 (next_1 a L) L) L) L else next_1 (next_1 (next_1 a L) L) L) L) L) L)
   L) ::
   x)
   ((fun x =>
   addpt_0 (ptm_1 1000 (bif next_0 4 (next_1 (next_1 a L) L) L == 0 then next_1 (next_1 (next_1 (next_1 a L) L) L) L else next_1 (next_1 (next_1 a L) L) L) L)
   (range_0
   (IntKind.i64.wrap
   (0 -
   IntKind.i64.wrap
   (200 +
   IntKind.i64.wrap
   (6 * bif next_0 4 (next_1 (next_1 a L) L) L == 0 then range_0 100 2000 (next_1 (next_1 (next_1 a L) L) L) L else range_0 0 40 (next_1 a L) L))))
   (IntKind.i64.wrap
   (200 +
   IntKind.i64.wrap (6 * bif next_0 4 (next_1 (next_1 a L) L) L == 0 then range_0 100 2000 (next_1 (next_1 (next_1 a L) L) L) L else range_0 0 40 (next_1 a L) L)))
   (next_1
   (next_1 (next_1 (next_1 (bif next_0 4 (next_1 (next_1 a L) L) L == 0 then next_1 (next_1 (next_1 (next_1 a L) L) L) L else next_1 (next_1 (next_1 a L) L) L) L) L)
   L)
   L)
   L) ::
   x)
   ((fun x =>
   addpt_0 (svec_2 1000 (bif next_0 4 (next_1 (next_1 a L) L) L == 0 then next_1 (next_1 (next_1 (next_1 a L) L) L) L else next_1 (next_1 (next_1 a L) L) L) L) 0 :: x)
   ((fun x => 17 :: x)
   ((fun x => 0 :: x)
   ((fun x => 0 :: x)
   ((fun x => 0 :: x)
   ((fun x => 0 :: x)
   ((fun x => 0 :: x)
   ((fun x => 60000 :: x)
   ((fun x => 0 :: x)
   ((fun x => IntKind.i64.wrap (1 - IntKind.i64.wrap (2 * next_0 2 a L)) :: x)
   ((fun x => (bif next_0 4 (next_1 (next_1 a L) L) L == 0 then range_0 100 2000 (next_1 (next_1 (next_1 a L) L) L) L else range_0 0 40 (next_1 a L) L) :: x)
   ((fun x => 0 :: x) ((fun x => 0 :: x) ((fun x => 0 :: x) ((fun x => 0 :: x) [])))))))))))))))))))))])).a
   L)
   L
noncomputable def contour_s10 (a : Int) (L : List (List Int)) : Bool :=
  next_0 4 (next_1 (next_1 a L) L) L == 0
noncomputable def contour_s11 (a : Int) (L : List (List Int)) : Int :=
  bif contour_s10 a L then next_1 (next_1 (next_1 (next_1 a L) L) L) L else next_1 (next_1 (next_1 a L) L) L
noncomputable def contour_s12 (a : Int) (L : List (List Int)) : Int :=
  bif contour_s10 a L then range_0 100 2000 (next_1 (next_1 (next_1 a L) L) L) L else range_0 0 40 (next_1 a L) L
noncomputable def contour_s13 (a : Int) (L : List (List Int)) : Int :=
  IntKind.i64.wrap (200 + IntKind.i64.wrap (6 * contour_s12 a L))
noncomputable def contour_s14 (a : Int) (L : List (List Int)) : Int :=
  addpt_0 (ptm_0 1000 (contour_s11 a L) L) (range_0 (IntKind.i64.wrap (contour_s12 a L + 1)) (contour_s13 a L) (next_1 (next_1 (next_1 (contour_s11 a L) L) L) L) L)
noncomputable def contour_s15 (a : Int) (L : List (List Int)) : Int :=
  addpt_0 (ptm_1 1000 (contour_s11 a L) L) (range_0 (IntKind.i64.wrap (0 - contour_s13 a L)) (contour_s13 a L) (next_1 (next_1 (next_1 (next_1 (contour_s11 a L) L) L) L) L) L)
noncomputable def contour_s16 (a : Int) (L : List (List Int)) : List (List Int) :=
  [[2, 0, ptm_0 1000 (contour_s11 a L) L, ptm_1 1000 (contour_s11 a L) L, svec_2 1000 (contour_s11 a L) L, contour_s14 a L, contour_s15 a L, addpt_0 (svec_2 1000 (contour_s11 a L) L) 0, 17, 0, 0, 0, 0,
   0, 60000, 0, contour_s0 a L, contour_s12 a L, 0, 0, 0, 0]]
noncomputable def contour_s17 (a : Int) (L : List (List Int)) : Int :=
  (CS.mk (range_0 1 6 (next_1 (next_1 (next_1 (next_1 (next_1 (contour_s11 a L) L) L) L) L) L) L).toNat (next_1 (next_1 (next_1 (next_1 (next_1 (next_1 (contour_s11 a L) L) L) L) L) L) L)
   (contour_s14 a L) (contour_s15 a L) (addpt_0 (svec_2 1000 (contour_s11 a L) L) 0) (contour_s16 a L)).a
noncomputable def contour_s18 (a : Int) (L : List (List Int)) : List (List Int) :=
  (CS.mk (range_0 1 6 (next_1 (next_1 (next_1 (next_1 (next_1 (contour_s11 a L) L) L) L) L) L) L).toNat (next_1 (next_1 (next_1 (next_1 (next_1 (next_1 (contour_s11 a L) L) L) L) L) L) L)
   (contour_s14 a L) (contour_s15 a L) (addpt_0 (svec_2 1000 (contour_s11 a L) L) 0) (contour_s16 a L)).R
noncomputable def contour_s19 (a : Int) (L : List (List Int)) : Int :=
  ((conF L (contour_s0 a L) (contour_s12 a L) (contour_s13 a L)).fin
   (CS.mk (range_0 1 6 (next_1 (next_1 (next_1 (next_1 (next_1 (contour_s11 a L) L) L) L) L) L) L).toNat (next_1 (next_1 (next_1 (next_1 (next_1 (next_1 (contour_s11 a L) L) L) L) L) L) L)
   (contour_s14 a L) (contour_s15 a L) (addpt_0 (svec_2 1000 (contour_s11 a L) L) 0) (contour_s16 a L))).a
noncomputable def contour_needs (a : Int) (L : List (List Int)) : List Prop :=
  [0 ≤ a, L.length ≤ 1000000, Int.ofNat 2 ≠ 0, 0 ≤ next_1 a L, L.length ≤ 1000000, Int.ofNat 0 ≤ 40 ∧ -1000000 ≤ 0 ∧ Int.ofNat 40 ≤ 1000000, 0 ≤ next_1 (next_1 a L) L, L.length ≤ 1000000,
   Int.ofNat 4 ≠ 0, contour_s10 a L = true → 0 ≤ next_1 (next_1 (next_1 a L) L) L ∧ L.length ≤ 1000000 ∧ Int.ofNat 100 ≤ 2000 ∧ -1000000 ≤ 100 ∧ Int.ofNat 2000 ≤ 1000000, 0 ≤ contour_s11 a L,
   L.length ≤ 1000000, Int.ofNat 0 ≤ 1000 ∧ Int.ofNat 1000 ≤ 1000000, 0 ≤ next_1 (next_1 (next_1 (contour_s11 a L) L) L) L, L.length ≤ 1000000,
   IntKind.i64.wrap (contour_s12 a L + 1) ≤ contour_s13 a L ∧ -1000000 ≤ IntKind.i64.wrap (contour_s12 a L + 1) ∧ contour_s13 a L ≤ 1000000,
   0 ≤ next_1 (next_1 (next_1 (next_1 (contour_s11 a L) L) L) L) L, L.length ≤ 1000000,
   IntKind.i64.wrap (0 - contour_s13 a L) ≤ contour_s13 a L ∧ -1000000 ≤ IntKind.i64.wrap (0 - contour_s13 a L) ∧ contour_s13 a L ≤ 1000000,
   0 ≤ next_1 (next_1 (next_1 (next_1 (next_1 (contour_s11 a L) L) L) L) L) L, L.length ≤ 1000000, Int.ofNat 1 ≤ 6 ∧ -1000000 ≤ 1 ∧ Int.ofNat 6 ≤ 1000000,
   0 ≤ contour_s17 a L ∧
   L.length ≤ 1000000 ∧
   (0 ≤ contour_s13 a L ∧ contour_s13 a L ≤ 1000000) ∧
   (contour_s18 a L).length +
   (CS.mk (range_0 1 6 (next_1 (next_1 (next_1 (next_1 (next_1 (contour_s11 a L) L) L) L) L) L) L).toNat (next_1 (next_1 (next_1 (next_1 (next_1 (next_1 (contour_s11 a L) L) L) L) L) L) L)
   (contour_s14 a L) (contour_s15 a L) (addpt_0 (svec_2 1000 (contour_s11 a L) L) 0) (contour_s16 a L)).k ≤
   1000,
   Int.ofNat
   (CS.mk (range_0 1 6 (next_1 (next_1 (next_1 (next_1 (next_1 (contour_s11 a L) L) L) L) L) L) L).toNat (next_1 (next_1 (next_1 (next_1 (next_1 (next_1 (contour_s11 a L) L) L) L) L) L) L)
   (contour_s14 a L) (contour_s15 a L) (addpt_0 (svec_2 1000 (contour_s11 a L) L) 0) (contour_s16 a L)).k =
   range_0 1 6 (next_1 (next_1 (next_1 (next_1 (next_1 (contour_s11 a L) L) L) L) L) L) L,
   contour_s17 a L = next_1 (next_1 (next_1 (next_1 (next_1 (next_1 (contour_s11 a L) L) L) L) L) L) L,
   (CS.mk (range_0 1 6 (next_1 (next_1 (next_1 (next_1 (next_1 (contour_s11 a L) L) L) L) L) L) L).toNat (next_1 (next_1 (next_1 (next_1 (next_1 (next_1 (contour_s11 a L) L) L) L) L) L) L)
   (contour_s14 a L) (contour_s15 a L) (addpt_0 (svec_2 1000 (contour_s11 a L) L) 0) (contour_s16 a L)).x =
   contour_s14 a L,
   (CS.mk (range_0 1 6 (next_1 (next_1 (next_1 (next_1 (next_1 (contour_s11 a L) L) L) L) L) L) L).toNat (next_1 (next_1 (next_1 (next_1 (next_1 (next_1 (contour_s11 a L) L) L) L) L) L) L)
   (contour_s14 a L) (contour_s15 a L) (addpt_0 (svec_2 1000 (contour_s11 a L) L) 0) (contour_s16 a L)).y =
   contour_s15 a L,
   (CS.mk (range_0 1 6 (next_1 (next_1 (next_1 (next_1 (next_1 (contour_s11 a L) L) L) L) L) L) L).toNat (next_1 (next_1 (next_1 (next_1 (next_1 (next_1 (contour_s11 a L) L) L) L) L) L) L)
   (contour_s14 a L) (contour_s15 a L) (addpt_0 (svec_2 1000 (contour_s11 a L) L) 0) (contour_s16 a L)).z =
   addpt_0 (svec_2 1000 (contour_s11 a L) L) 0,
   contour_s18 a L = contour_s16 a L, 0 ≤ contour_s19 a L, L.length ≤ 1000000,
   IntKind.i64.wrap (0 - contour_s13 a L) ≤ contour_s13 a L ∧ -1000000 ≤ IntKind.i64.wrap (0 - contour_s13 a L) ∧ contour_s13 a L ≤ 1000000, 0 ≤ next_1 (contour_s19 a L) L, L.length ≤ 1000000,
   IntKind.i64.wrap (contour_s12 a L + 1) ≤ contour_s13 a L ∧ -1000000 ≤ IntKind.i64.wrap (contour_s12 a L + 1) ∧ contour_s13 a L ≤ 1000000,
   (((conF L (contour_s0 a L) (contour_s12 a L) (contour_s13 a L)).fin
   (CS.mk (range_0 1 6 (next_1 (next_1 (next_1 (next_1 (next_1 (contour_s11 a L) L) L) L) L) L) L).toNat (next_1 (next_1 (next_1 (next_1 (next_1 (next_1 (contour_s11 a L) L) L) L) L) L) L)
   (contour_s14 a L) (contour_s15 a L) (addpt_0 (svec_2 1000 (contour_s11 a L) L) 0) (contour_s16 a L))).R.length +
   1) *
   176 ≤
   140737488355328,
   ((conF L (contour_s0 a L) (contour_s12 a L) (contour_s13 a L)).fin
   (CS.mk (range_0 1 6 (next_1 (next_1 (next_1 (next_1 (next_1 (contour_s11 a L) L) L) L) L) L) L).toNat (next_1 (next_1 (next_1 (next_1 (next_1 (next_1 (contour_s11 a L) L) L) L) L) L) L)
   (contour_s14 a L) (contour_s15 a L) (addpt_0 (svec_2 1000 (contour_s11 a L) L) 0) (contour_s16 a L))).R.length +
   1 ≤
   9223372036854775807]
theorem contour_0_eq (a : Int) (L : List (List Int)) : (contour_0 a L) = contL a L := rfl
theorem contour_1_eq (a : Int) (L : List (List Int)) : (contour_1 a L) = contA a L := rfl
theorem contour_weak {a : Int} {L : List (List Int)} (hW : ∀ q ∈ ([0 ≤ a, L.length ≤ 1000000] : List Prop), q) : ∀ q ∈ (contour_needs a L), q := by
  simp only [List.mem_cons, List.not_mem_nil, or_false, forall_eq_or_imp, forall_eq] at hW
  unfold contour_needs
  simp only [List.forall_mem_cons, List.not_mem_nil, false_implies, implies_true, and_true]
  obtain ⟨h1, h2⟩ := hW
  have nn : ∀ x, 0 ≤ x → 0 ≤ next_1 x L := fun x h => next_1_nn x L h h2
  have n1 := nn _ h1
  have n2 := nn _ n1
  have n3 := nn _ n2
  have r := cRa_rng a L
  have z := cSz_eq a L
  have k0 : (0 : Int) ≤ 40 ∧ (-1000000 : Int) ≤ 0 ∧ (40 : Int) ≤ 1000000 := by decide
  have m0 := cA_nn h1 h2
  have m1 := nn _ m0
  have m2 := nn _ m1
  have m3 := nn _ m2
  have m4 := nn _ m3
  have m5 := nn _ m4
  have m6 := nn _ m5
  have w1 : IntKind.i64.wrap (cRa a L + 1) = cRa a L + 1 := wrI (by omega) (by omega)
  have w2 : IntKind.i64.wrap (0 - cSz a L) = 0 - cSz a L := wrI (by omega) (by omega)
  have p1 : IntKind.i64.wrap (cRa a L + 1) ≤ cSz a L ∧ -1000000 ≤ IntKind.i64.wrap (cRa a L + 1) ∧ cSz a L ≤ 1000000 := by rw [w1]; omega
  have p2 : IntKind.i64.wrap (0 - cSz a L) ≤ cSz a L ∧ -1000000 ≤ IntKind.i64.wrap (0 - cSz a L) ∧ cSz a L ≤ 1000000 := by rw [w2]; omega
  have p3 : 0 ≤ cSz a L ∧ cSz a L ≤ 1000000 := by omega
  have kk := cS_k a L
  have q1 : (cS a L).R.length + (cS a L).k ≤ 1000 := by
    have e : (cS a L).R.length = 1 := rfl
    omega
  have q2 : Int.ofNat (cS a L).k = range_0 1 6 (next_1 (next_1 (next_1 (next_1 (next_1 (cA a L) L) L) L) L) L) L := by
    have h := range_0_rng 1 6 (next_1 (next_1 (next_1 (next_1 (next_1 (cA a L) L) L) L) L) L) L (by omega) (by omega) (by omega)
    exact Int.toNat_of_nonneg (by omega)
  have ta : 0 ≤ (cT a L).a := conN_a h2 _ _ m6
  have tr : (cT a L).R.length ≤ 7 := by
    have := conN_R L (cSd a L) (cRa a L) (cSz a L) (cS a L).k (cS a L)
    have e : (cS a L).R.length = 1 := rfl
    unfold cT; omega
  exact ⟨h1, h2, by decide, n1, h2, k0, n2, h2, by decide, fun _ => ⟨n3, h2, by decide⟩, m0, h2, by decide, m3, h2, p1, m4, h2, p2, m5, h2, by decide, ⟨m6, h2, p3, q1⟩, q2, rfl, trivial, trivial, trivial, rfl, ta, h2, p2, nn _ ta, h2, p1, (show ((cT a L).R.length + 1) * 176 ≤ 140737488355328 ∧ (cT a L).R.length + 1 ≤ 9223372036854775807 by omega)⟩
set_option maxRecDepth 1000000 in
theorem contour_runs (a : Int) (L : List (List Int)) (hNeeds : ∀ pN ∈ (contour_needs a L), pN) : Runs (runF (sums K_svec) L_con 55) (contour_tpl.args [.i a]) (contour_tpl.memo [.i a] [L]) contour_tpl.n (SV.one (SC.wh 1158))
    ([(1158,
     Obj.row false 86 22
     (RowC.lst 1160
     [CK.int IntKind.i64, CK.int IntKind.i64, CK.int IntKind.i64, CK.int IntKind.i64, CK.int IntKind.i64, CK.int IntKind.i64, CK.int IntKind.i64, CK.int IntKind.i64, CK.int IntKind.i64,
     CK.int IntKind.i64, CK.int IntKind.i64, CK.int IntKind.i64, CK.int IntKind.i64, CK.bool, CK.int IntKind.i64, CK.bool, CK.int IntKind.i64, CK.int IntKind.i64, CK.int IntKind.i64,
     CK.int IntKind.i64, CK.int IntKind.i64, CK.bool]
     (contour_0 a L))),
    (0, Obj.blk 76 [(2, SC.wh 1), (1100, SC.int IntKind.i64 (SI.v (contour_1 a L)))]), (1, Obj.row true 3 1 (RowC.lst 4 [CK.int IntKind.i64] L))]) :=
  Runs.of1 (ps := (contour_needs a L)) (by kernel_rfl) hNeeds
noncomputable def contour_out : List Pm → Lss → Option CRes
  | [.i a], [L] => some ⟨SV.one (SC.wh 1158),
    [(1158,
     Obj.row false 86 22
     (RowC.lst 1160
     [CK.int IntKind.i64, CK.int IntKind.i64, CK.int IntKind.i64, CK.int IntKind.i64, CK.int IntKind.i64, CK.int IntKind.i64, CK.int IntKind.i64, CK.int IntKind.i64, CK.int IntKind.i64,
     CK.int IntKind.i64, CK.int IntKind.i64, CK.int IntKind.i64, CK.int IntKind.i64, CK.bool, CK.int IntKind.i64, CK.bool, CK.int IntKind.i64, CK.int IntKind.i64, CK.int IntKind.i64,
     CK.int IntKind.i64, CK.int IntKind.i64, CK.bool]
     ((contL a L)))),
    (0, Obj.blk 76 [(2, SC.wh 1), (1100, SC.int IntKind.i64 (SI.v ((contA a L))))]), (1, Obj.row true 3 1 (RowC.lst 4 [CK.int IntKind.i64] L))],
    [0 ≤ a, L.length ≤ 1000000], [], 1163⟩
  | _, _ => none
theorem contour_turned (a : Int) (L : List (List Int)) (hNeeds : ∀ pN ∈ (contour_needs a L), pN) : Runs (runF (sums K_svec) L_con 55) (contour_tpl.args [.i a]) (contour_tpl.memo [.i a] [L]) contour_tpl.n (SV.one (SC.wh 1158))
    ([(1158,
     Obj.row false 86 22
     (RowC.lst 1160
     [CK.int IntKind.i64, CK.int IntKind.i64, CK.int IntKind.i64, CK.int IntKind.i64, CK.int IntKind.i64, CK.int IntKind.i64, CK.int IntKind.i64, CK.int IntKind.i64, CK.int IntKind.i64,
     CK.int IntKind.i64, CK.int IntKind.i64, CK.int IntKind.i64, CK.int IntKind.i64, CK.bool, CK.int IntKind.i64, CK.bool, CK.int IntKind.i64, CK.int IntKind.i64, CK.int IntKind.i64,
     CK.int IntKind.i64, CK.int IntKind.i64, CK.bool]
     ((contL a L)))),
    (0, Obj.blk 76 [(2, SC.wh 1), (1100, SC.int IntKind.i64 (SI.v ((contA a L))))]), (1, Obj.row true 3 1 (RowC.lst 4 [CK.int IntKind.i64] L))]) :=
  (contour_runs a L hNeeds).to (by first | rfl | (simp only [])) (by first | rfl | (simp only []))
theorem contour_ok : FOk Try.prog 55 (tplS contour_tpl contour_out) := by
  refine tplS_ok (runF_ok known_conL 55) fun ps ls r hr hn _ => ?_
  unfold contour_out at hr
  split at hr
  · cases hr; exact ⟨_, contour_turned _ _ (contour_weak (by exact hn)), fun _ => rfl⟩
  · cases hr
noncomputable def K_contour : List (Nat × Summ) := (55, tplS contour_tpl contour_out) :: K_svec
theorem known_contour : Known Try.prog (sums K_contour) L_con := known_cons known_conL contour_ok
end Go.Proofs.Ythgiaoidekdpfaa
