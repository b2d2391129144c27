/-
  ELEMENTS of a part of a list. Conditions: none.
-/
import Derived.Test.YthgiaoidekdpfaaHL
set_option linter.all false
namespace Go.Proofs.Ythgiaoidekdpfaa
open Go.SX Go.RowKit
noncomputable def cmot_tpl : Tpl := ⟨[.one (.int .i64)], [], 0⟩
set_option maxRecDepth 1000000 in
theorem cmot_runs (k : Int) : Runs (runF (sums K_xl) L_ls 62) (cmot_tpl.args [.i k]) (cmot_tpl.memo [.i k] []) cmot_tpl.n (SV.one (SC.bool (SB.v (rmot_0 k))))
    ([]) :=
  Runs.of1 (ps := []) (by kernel_rfl) (by simp)
noncomputable def cmot_out : List Pm → Lss → Option CRes
  | [.i k], [] => some ⟨SV.one (SC.bool (SB.v (rmot_0 k))),
    [],
    [], [], 8⟩
  | _, _ => none
theorem cmot_ok : FOk Try.prog 62 (tplS cmot_tpl cmot_out) := by
  refine tplS_ok (runF_ok known_xl 62) fun ps ls r hr hn _ => ?_
  unfold cmot_out at hr
  split at hr
  · cases hr; exact ⟨_, cmot_runs _, fun _ => rfl⟩
  · cases hr
noncomputable def K_cmot : List (Nat × Summ) := (62, tplS cmot_tpl cmot_out) :: K_xl
theorem known_cmot : Known Try.prog (sums K_cmot) L_ls := known_cons known_xl cmot_ok
noncomputable def vflat_tpl : Tpl := ⟨[.one (.int .i64), .agg [.int .i64, .int .i64, .int .i64]], [], 0⟩
set_option maxRecDepth 1000000 in
theorem vflat_runs (p a b c : Int) : Runs (runF (sums K_cmot) L_ls 90) (vflat_tpl.args [.i p, .i a, .i b, .i c]) (vflat_tpl.memo [.i p, .i a, .i b, .i c] []) vflat_tpl.n (SV.tup
    [(true, [SC.int IntKind.i64 (SI.v (r4flat_0 p a b c)), SC.int IntKind.i64 (SI.v (r4flat_1 p a b c))]), (false, [SC.int IntKind.i64 (SI.v (r4flat_2 p a b c))]), (false, [SC.bool (SB.v (r4flat_3 p))])])
    ([]) :=
  Runs.of1 (ps := []) (by kernel_rfl) (by simp)
noncomputable def vflat_out : List Pm → Lss → Option CRes
  | [.i p, .i a, .i b, .i c], [] => some ⟨SV.tup
    [(true, [SC.int IntKind.i64 (SI.v (r4flat_0 p a b c)), SC.int IntKind.i64 (SI.v (r4flat_1 p a b c))]), (false, [SC.int IntKind.i64 (SI.v (r4flat_2 p a b c))]), (false, [SC.bool (SB.v (r4flat_3 p))])],
    [],
    [], [], 66⟩
  | _, _ => none
theorem vflat_ok : FOk Try.prog 90 (tplS vflat_tpl vflat_out) := by
  refine tplS_ok (runF_ok known_cmot 90) fun ps ls r hr hn _ => ?_
  unfold vflat_out at hr
  split at hr
  · cases hr; exact ⟨_, vflat_runs _ _ _ _, fun _ => rfl⟩
  · cases hr
noncomputable def K_vflat : List (Nat × Summ) := (90, tplS vflat_tpl vflat_out) :: K_cmot
theorem known_vflat : Known Try.prog (sums K_vflat) L_ls := known_cons known_cmot vflat_ok
noncomputable def rmoves_tpl : Tpl := ⟨[.one (.int .i64), .agg pI], [], 0⟩
noncomputable def rmoves_sp : List GK := [.i, .v itemB]
noncomputable def rmoves_0 (pl : Int) (x : List GC) : Bool :=
  xb x 13 || !(r4flat_0 pl (xi x 2) (xi x 3) (xi x 4) == r4flat_0 pl (xi x 5) (xi x 6) (xi x 7) && r4flat_1 pl (xi x 2) (xi x 3) (xi x 4) == r4flat_1 pl (xi x 5) (xi x 6) (xi x 7))
set_option maxRecDepth 1000000 in
theorem rmoves_runs (pl : Int) (x : List GC) : Runs (runF (sums K_vflat) L_ls 64) (rmoves_tpl.args (spread rmoves_sp [.i pl, .v x])) (rmoves_tpl.memo (spread rmoves_sp [.i pl, .v x]) []) rmoves_tpl.n (SV.one (SC.bool (SB.v (rmoves_0 pl x))))
    ([]) :=
  Runs.of1 (ps := []) (by kernel_rfl) (by simp)
noncomputable def rmoves_out : List Gm → Lss → Option CRes
  | [.i pl, .v x], [] => some ⟨SV.one (SC.bool (SB.v (rmoves_0 pl x))),
    [],
    [], [], 229⟩
  | _, _ => none
theorem rmoves_ok : FOk Try.prog 64 (tplG rmoves_sp rmoves_tpl rmoves_out) := by
  refine tplG_ok (runF_ok known_vflat 64) fun ps ls r hr hn _ => ?_
  unfold rmoves_out at hr
  split at hr
  · cases hr; exact ⟨_, rmoves_runs _ _, fun _ => rfl⟩
  · cases hr
noncomputable def K_rmoves : List (Nat × Summ) := (64, tplG rmoves_sp rmoves_tpl rmoves_out) :: K_vflat
theorem known_rmoves : Known Try.prog (sums K_rmoves) L_ls := known_cons known_vflat rmoves_ok
noncomputable def relem_tpl : Tpl := ⟨[.one (.int .i64), .agg pI], [], 0⟩
noncomputable def relem_sp : List GK := [.i, .v itemB]
noncomputable def relem_0 (pl : Int) (x : List GC) : Int :=
  bif xi x 0 == 3 then r4flat_0 pl (xi x 9) (xi x 10) (xi x 11) else 0
noncomputable def relem_1 (pl : Int) (x : List GC) : Int :=
  bif xi x 0 == 3 then r4flat_1 pl (xi x 9) (xi x 10) (xi x 11) else 0
noncomputable def relem_2 (x : List GC) : Int :=
  bif xi x 0 == 3 then xi x 12 else 0
noncomputable def relem_3 (x : List GC) : Bool :=
  xi x 0 == 3 && xb x 13
set_option maxRecDepth 1000000 in
theorem relem_runs (pl : Int) (x : List GC) : Runs (runF (sums K_rmoves) L_ls 65) (relem_tpl.args (spread relem_sp [.i pl, .v x])) (relem_tpl.memo (spread relem_sp [.i pl, .v x]) []) relem_tpl.n (SV.agg
    [SC.int IntKind.i64 (SI.v (r4flat_0 pl (xi x 2) (xi x 3) (xi x 4))), SC.int IntKind.i64 (SI.v (r4flat_1 pl (xi x 2) (xi x 3) (xi x 4))),
     SC.int IntKind.i64 (SI.v (r4flat_0 pl (xi x 5) (xi x 6) (xi x 7))), SC.int IntKind.i64 (SI.v (r4flat_1 pl (xi x 5) (xi x 6) (xi x 7))), SC.int IntKind.i64 (SI.v (relem_0 pl x)),
     SC.int IntKind.i64 (SI.v (relem_1 pl x)), SC.int IntKind.i64 (SI.v (relem_2 x)), SC.bool (SB.v (relem_3 x))])
    ([]) :=
  Runs.of1 (ps := []) (by kernel_rfl) (by simp)
noncomputable def relem_out : List Gm → Lss → Option CRes
  | [.i pl, .v x], [] => some ⟨SV.agg
    [SC.int IntKind.i64 (SI.v (r4flat_0 pl (xi x 2) (xi x 3) (xi x 4))), SC.int IntKind.i64 (SI.v (r4flat_1 pl (xi x 2) (xi x 3) (xi x 4))),
     SC.int IntKind.i64 (SI.v (r4flat_0 pl (xi x 5) (xi x 6) (xi x 7))), SC.int IntKind.i64 (SI.v (r4flat_1 pl (xi x 5) (xi x 6) (xi x 7))), SC.int IntKind.i64 (SI.v (relem_0 pl x)),
     SC.int IntKind.i64 (SI.v (relem_1 pl x)), SC.int IntKind.i64 (SI.v (relem_2 x)), SC.bool (SB.v (relem_3 x))],
    [],
    [], [], 382⟩
  | _, _ => none
theorem relem_ok : FOk Try.prog 65 (tplG relem_sp relem_tpl relem_out) := by
  refine tplG_ok (runF_ok known_rmoves 65) fun ps ls r hr hn _ => ?_
  unfold relem_out at hr
  split at hr
  · cases hr; exact ⟨_, relem_runs _ _, fun _ => rfl⟩
  · cases hr
noncomputable def K_relem : List (Nat × Summ) := (65, tplG relem_sp relem_tpl relem_out) :: K_rmoves
theorem known_relem : Known Try.prog (sums K_relem) L_ls := known_cons known_rmoves relem_ok
noncomputable def CKe : List CK := [.int .i64, .int .i64, .int .i64, .int .i64, .int .i64, .int .i64, .int .i64, .bool]
structure ES where
  i : Nat
  R : List (List Int)
noncomputable def rowX (X : List (List Int)) : Nat × SX.Obj := (0, .row true 86 22 (.lst 1 CKi X))
noncomputable def rowE (id tag : Nat) (xs : List (List Int)) : Nat × SX.Obj := (id, .row false 28 8 (.lst tag CKe xs))
/-- Does an item move in a plane? Its element; is it taken? -/
noncomputable def elMv (p : Int) (r : List Int) : Bool := !(r4flat_0 p (r.getD 2 0) (r.getD 3 0) (r.getD 4 0) == r4flat_0 p (r.getD 5 0) (r.getD 6 0) (r.getD 7 0) && r4flat_1 p (r.getD 2 0) (r.getD 3 0) (r.getD 4 0) == r4flat_1 p (r.getD 5 0) (r.getD 6 0) (r.getD 7 0))
noncomputable def elR (p : Int) (r : List Int) : List Int := [r4flat_0 p (r.getD 2 0) (r.getD 3 0) (r.getD 4 0), r4flat_1 p (r.getD 2 0) (r.getD 3 0) (r.getD 4 0), r4flat_0 p (r.getD 5 0) (r.getD 6 0) (r.getD 7 0), r4flat_1 p (r.getD 5 0) (r.getD 6 0) (r.getD 7 0),
  bif r.getD 0 0 == 3 then r4flat_0 p (r.getD 9 0) (r.getD 10 0) (r.getD 11 0) else 0, bif r.getD 0 0 == 3 then r4flat_1 p (r.getD 9 0) (r.getD 10 0) (r.getD 11 0) else 0, bif r.getD 0 0 == 3 then r.getD 12 0 else 0, bif r.getD 0 0 == 3 && r.getD 13 0 != 0 then 1 else 0]
noncomputable def elTake (p : Int) (r : List Int) : Bool := bif r.getD 0 0 != 2 && r.getD 0 0 != 3 then false else bif r.getD 0 0 == 3 then r.getD 13 0 != 0 || elMv p r else elMv p r
noncomputable def elStep (X : List (List Int)) (o : Nat) (p : Int) (s : ES) : ES := ⟨s.i + 1, bif elTake p (X.getD (o + s.i) []) then s.R ++ [elR p (X.getD (o + s.i) [])] else s.R⟩
noncomputable def elN (X : List (List Int)) (o : Nat) (p : Int) : Nat → ES → ES
  | 0, s => s
  | k + 1, s => elN X o p k (elStep X o p s)
noncomputable def elF (X : List (List Int)) (o l : Nat) (p : Int) : Fam ES ES where
  k := 20
  E s := [(11, ent 1000000000 (.one (I (Int.ofNat s.i)))), (10, ent 5 (.one (I (Int.ofNat l)))), (9, ent 4 (.one (.sl 0 22 (.v o) (.v l)))), (5, ent 1000000001 (.one (.wh 7))), (1, ent 2 (.one (I p)))]
  M s := [rowX X, rowE 7 1000000002 s.R]
  out s := .leaf (.exit 0) [(5, ent 8 (.one (.wh 7)))] [rowX X, rowE 7 9 s.R]
  fin s := elN X o p (l - s.i) s
  next s i := match i with
    | 1 => ⟨s.i + 1, s.R ++ [elR p (X.getD (o + s.i) [])]⟩
    | 3 => ⟨s.i + 1, s.R ++ [elR p (X.getD (o + s.i) [])]⟩
    | _ => ⟨s.i + 1, s.R⟩
  J s := s.i ≤ l ∧ o + l ≤ X.length ∧ X.length ≤ 1000 ∧ s.R.length ≤ s.i
  μ s := l - s.i
noncomputable def el_s0 (l : Nat) (s : ES) : Prop :=
  decide (Int.ofNat s.i < Int.ofNat l) = true
noncomputable def el_s1 (X : List (List Int)) (o : Nat) (s : ES) : Int :=
  (X.getD (o + (Int.ofNat s.i).toNat) []).getD 0 0
noncomputable def el_s2 (X : List (List Int)) (o : Nat) (s : ES) : Prop :=
  (el_s1 X o s != 2 && el_s1 X o s != 3) = false
noncomputable def el_s3 (X : List (List Int)) (o : Nat) (s : ES) : Bool :=
  (X.getD (o + (Int.ofNat s.i).toNat) []).getD 13 0 != 0
noncomputable def el_s4 (X : List (List Int)) (o : Nat) (s : ES) : Int :=
  (X.getD (o + (Int.ofNat s.i).toNat) []).getD 2 0
noncomputable def el_s5 (X : List (List Int)) (o : Nat) (s : ES) : Int :=
  (X.getD (o + (Int.ofNat s.i).toNat) []).getD 3 0
noncomputable def el_s6 (X : List (List Int)) (o : Nat) (s : ES) : Int :=
  (X.getD (o + (Int.ofNat s.i).toNat) []).getD 4 0
noncomputable def el_s7 (X : List (List Int)) (o : Nat) (s : ES) : Int :=
  (X.getD (o + (Int.ofNat s.i).toNat) []).getD 5 0
noncomputable def el_s8 (X : List (List Int)) (o : Nat) (s : ES) : Int :=
  (X.getD (o + (Int.ofNat s.i).toNat) []).getD 6 0
noncomputable def el_s9 (X : List (List Int)) (o : Nat) (s : ES) : Int :=
  (X.getD (o + (Int.ofNat s.i).toNat) []).getD 7 0
noncomputable def el_s10 (X : List (List Int)) (o : Nat) (p : Int) (s : ES) : Bool :=
  !(r4flat_0 p (el_s4 X o s) (el_s5 X o s) (el_s6 X o s) == r4flat_0 p (el_s7 X o s) (el_s8 X o s) (el_s9 X o s) &&
   r4flat_1 p (el_s4 X o s) (el_s5 X o s) (el_s6 X o s) == r4flat_1 p (el_s7 X o s) (el_s8 X o s) (el_s9 X o s))
noncomputable def el_s11 (s : ES) : Prop :=
  (s.R.length + 1) * 64 ≤ 140737488355328 ∧ s.R.length + 1 ≤ 9223372036854775807
noncomputable def el_s12 (X : List (List Int)) (o : Nat) (s : ES) : Int :=
  (X.getD (o + (Int.ofNat s.i).toNat) []).getD 9 0
noncomputable def el_s13 (X : List (List Int)) (o : Nat) (s : ES) : Int :=
  (X.getD (o + (Int.ofNat s.i).toNat) []).getD 10 0
noncomputable def el_s14 (X : List (List Int)) (o : Nat) (s : ES) : Int :=
  (X.getD (o + (Int.ofNat s.i).toNat) []).getD 11 0
noncomputable def el_needs (X : List (List Int)) (o : Nat) (l : Nat) (p : Int) (s : ES) : List Prop :=
  [el_s0 l s →
     0 ≤ Int.ofNat s.i ∧
     (Int.ofNat s.i).toNat < l ∧
     o + (Int.ofNat s.i).toNat < X.length ∧
     o + (Int.ofNat s.i).toNat < X.length ∧
     (el_s2 X o s → ((el_s1 X o s == 3) = true → (el_s3 X o s || el_s10 X o p s) = true → el_s11 s) ∧ ((el_s1 X o s == 3) = false → el_s10 X o p s = true → el_s11 s)),
    el_s0 l s →
     ((el_s1 X o s != 2 && el_s1 X o s != 3) = true →
     (((elF X o l p).next s 0).i ≤ l ∧ o + l ≤ X.length ∧ X.length ≤ 1000 ∧ ((elF X o l p).next s 0).R.length ≤ ((elF X o l p).next s 0).i) ∧
     (elF X o l p).μ ((elF X o l p).next s 0) < (elF X o l p).μ s ∧
     (elF X o l p).fin ((elF X o l p).next s 0) = (elF X o l p).fin s ∧
     Int.ofNat ((elF X o l p).next s 0).i = IntKind.i64.wrap (Int.ofNat s.i + 1) ∧ o = o ∧ l = l ∧ ((elF X o l p).next s 0).R = s.R) ∧
     (el_s2 X o s →
     ((el_s1 X o s == 3) = true →
     ((el_s3 X o s || el_s10 X o p s) = true →
     (((elF X o l p).next s 1).i ≤ l ∧ o + l ≤ X.length ∧ X.length ≤ 1000 ∧ ((elF X o l p).next s 1).R.length ≤ ((elF X o l p).next s 1).i) ∧
     (elF X o l p).μ ((elF X o l p).next s 1) < (elF X o l p).μ s ∧
     (elF X o l p).fin ((elF X o l p).next s 1) = (elF X o l p).fin s ∧
     Int.ofNat ((elF X o l p).next s 1).i = IntKind.i64.wrap (Int.ofNat s.i + 1) ∧
     o = o ∧
     l = l ∧
     ((elF X o l p).next s 1).R =
     s.R ++
     [[r4flat_0 p (el_s4 X o s) (el_s5 X o s) (el_s6 X o s), r4flat_1 p (el_s4 X o s) (el_s5 X o s) (el_s6 X o s), r4flat_0 p (el_s7 X o s) (el_s8 X o s) (el_s9 X o s),
     r4flat_1 p (el_s7 X o s) (el_s8 X o s) (el_s9 X o s), r4flat_0 p (el_s12 X o s) (el_s13 X o s) (el_s14 X o s),
     r4flat_1 p (el_s12 X o s) (el_s13 X o s) (el_s14 X o s), (X.getD (o + (Int.ofNat s.i).toNat) []).getD 12 0, bif el_s3 X o s then 1 else 0]]) ∧
     ((el_s3 X o s || el_s10 X o p s) = false →
     (((elF X o l p).next s 2).i ≤ l ∧ o + l ≤ X.length ∧ X.length ≤ 1000 ∧ ((elF X o l p).next s 2).R.length ≤ ((elF X o l p).next s 2).i) ∧
     (elF X o l p).μ ((elF X o l p).next s 2) < (elF X o l p).μ s ∧
     (elF X o l p).fin ((elF X o l p).next s 2) = (elF X o l p).fin s ∧
     Int.ofNat ((elF X o l p).next s 2).i = IntKind.i64.wrap (Int.ofNat s.i + 1) ∧ o = o ∧ l = l ∧ ((elF X o l p).next s 2).R = s.R)) ∧
     ((el_s1 X o s == 3) = false →
     (el_s10 X o p s = true →
     (((elF X o l p).next s 3).i ≤ l ∧ o + l ≤ X.length ∧ X.length ≤ 1000 ∧ ((elF X o l p).next s 3).R.length ≤ ((elF X o l p).next s 3).i) ∧
     (elF X o l p).μ ((elF X o l p).next s 3) < (elF X o l p).μ s ∧
     (elF X o l p).fin ((elF X o l p).next s 3) = (elF X o l p).fin s ∧
     Int.ofNat ((elF X o l p).next s 3).i = IntKind.i64.wrap (Int.ofNat s.i + 1) ∧
     o = o ∧
     l = l ∧
     ((elF X o l p).next s 3).R =
     s.R ++
     [[r4flat_0 p (el_s4 X o s) (el_s5 X o s) (el_s6 X o s), r4flat_1 p (el_s4 X o s) (el_s5 X o s) (el_s6 X o s), r4flat_0 p (el_s7 X o s) (el_s8 X o s) (el_s9 X o s),
     r4flat_1 p (el_s7 X o s) (el_s8 X o s) (el_s9 X o s), 0, 0, 0, 0]]) ∧
     (el_s10 X o p s = false →
     (((elF X o l p).next s 4).i ≤ l ∧ o + l ≤ X.length ∧ X.length ≤ 1000 ∧ ((elF X o l p).next s 4).R.length ≤ ((elF X o l p).next s 4).i) ∧
     (elF X o l p).μ ((elF X o l p).next s 4) < (elF X o l p).μ s ∧
     (elF X o l p).fin ((elF X o l p).next s 4) = (elF X o l p).fin s ∧
     Int.ofNat ((elF X o l p).next s 4).i = IntKind.i64.wrap (Int.ofNat s.i + 1) ∧ o = o ∧ l = l ∧ ((elF X o l p).next s 4).R = s.R))),
    decide (Int.ofNat s.i < Int.ofNat l) = false → ((elF X o l p).fin s).R = s.R]
theorem el_round (X : List (List Int)) (o l : Nat) (p : Int) (s : ES) (hNeeds : ∀ pN ∈ (el_needs X o l p s), pN) : RoundOk (roundC (elF X o l p) (bodyOf Try.prog (sums K_relem) L_ls 63 0) 7 s) :=
  RoundOk.of (ps := (el_needs X o l p s)) (by kernel_rfl) (by kernel_rfl) hNeeds
theorem el_rounds (X : List (List Int)) (o l : Nat) (p : Int) : RoundsOk (elF X o l p) (bodyOf Try.prog (sums K_relem) L_ls 63 0) 7 := by
  rintro s ⟨h1, h2, h3, h4⟩
  refine el_round X o l p s ?_
  have lt : el_s0 l s → s.i < l := fun h => by unfold el_s0 at h; simp at h; omega
  have ei : (Int.ofNat s.i).toNat = s.i := rfl
  have ew : el_s0 l s → IntKind.i64.wrap (Int.ofNat s.i + 1) = Int.ofNat (s.i + 1) := fun h => by
    have := lt h
    rw [wrI (by simp; omega) (by simp; omega)]; rfl
  have key : ∀ R, el_s0 l s → (elStep X o p s).R = R → elN X o p (l - (s.i + 1)) ⟨s.i + 1, R⟩ = elN X o p (l - s.i) s := fun R h hR => by
    have := lt h
    rw [show l - s.i = (l - (s.i + 1)) + 1 by omega, ← hR]; rfl
  have e1 : el_s1 X o s = (X.getD (o + s.i) []).getD 0 0 := rfl
  have e3 : el_s3 X o s = ((X.getD (o + s.i) []).getD 13 0 != 0) := rfl
  have e10 : el_s10 X o p s = elMv p (X.getD (o + s.i) []) := rfl
  have skip : ∀ R, el_s0 l s → R = s.R → (elStep X o p s).R = s.R → ((s.i + 1 ≤ l ∧ o + l ≤ X.length ∧ X.length ≤ 1000 ∧ R.length ≤ s.i + 1) ∧ l - (s.i + 1) < l - s.i ∧ elN X o p (l - (s.i + 1)) ⟨s.i + 1, R⟩ = elN X o p (l - s.i) s ∧ Int.ofNat (s.i + 1) = IntKind.i64.wrap (Int.ofNat s.i + 1) ∧ True ∧ True ∧ R = s.R) := fun R h hR h' => by
    have := lt h
    subst hR
    exact ⟨⟨by omega, h2, h3, by omega⟩, by omega, key _ h h', (ew h).symm, trivial, trivial, rfl⟩
  have app : ∀ q, el_s0 l s → elR p (X.getD (o + s.i) []) = q → elTake p (X.getD (o + s.i) []) = true → ((s.i + 1 ≤ l ∧ o + l ≤ X.length ∧ X.length ≤ 1000 ∧ (s.R ++ [elR p (X.getD (o + s.i) [])]).length ≤ s.i + 1) ∧ l - (s.i + 1) < l - s.i ∧ elN X o p (l - (s.i + 1)) ⟨s.i + 1, s.R ++ [elR p (X.getD (o + s.i) [])]⟩ = elN X o p (l - s.i) s ∧ Int.ofNat (s.i + 1) = IntKind.i64.wrap (Int.ofNat s.i + 1) ∧ True ∧ True ∧ s.R ++ [elR p (X.getD (o + s.i) [])] = s.R ++ [q]) := fun q h hq ht => by
    have := lt h
    subst hq
    refine ⟨⟨by omega, h2, h3, by simp; omega⟩, by omega, key _ h ?_, (ew h).symm, trivial, trivial, rfl⟩
    show (bif elTake p (X.getD (o + s.i) []) then _ else _) = _
    rw [ht]; rfl
  have no : elTake p (X.getD (o + s.i) []) = false → (elStep X o p s).R = s.R := fun ht => by
    show (bif elTake p (X.getD (o + s.i) []) then _ else _) = _
    rw [ht]; rfl
  have s2 : el_s2 X o s → ((X.getD (o + s.i) []).getD 0 0 != 2 && (X.getD (o + s.i) []).getD 0 0 != 3) = false := fun h => h
  have s11 : el_s0 l s → el_s11 s := fun h => by have := lt h; unfold el_s11; omega
  unfold el_needs
  simp only [List.forall_mem_cons, List.not_mem_nil, false_implies, implies_true, and_true]
  refine ⟨fun h => ⟨by simp, lt h, by rw [ei]; have := lt h; omega, by rw [ei]; have := lt h; omega, fun _ => ⟨fun _ _ => s11 h, fun _ _ => s11 h⟩⟩, fun h => ⟨fun hk => ?_, fun hk => ⟨fun h' => ⟨fun h'' => ?_, fun h'' => ?_⟩, fun h' => ⟨fun h'' => ?_, fun h'' => ?_⟩⟩⟩, fun h => ?_⟩
  · refine skip s.R h rfl (no ?_)
    rw [e1] at hk; unfold elTake; rw [hk]; rfl
  · rw [e1] at h'; rw [e3, e10] at h''
    refine app _ h ?_ ?_
    · unfold elR; rw [h']; rfl
    · unfold elTake; rw [s2 hk, h', h'']; rfl
  · rw [e1] at h'; rw [e3, e10] at h''
    refine skip s.R h rfl (no ?_)
    unfold elTake; rw [s2 hk, h', h'']; rfl
  · rw [e1] at h'; rw [e10] at h''
    refine app _ h ?_ ?_
    · unfold elR; rw [h']; rfl
    · unfold elTake; rw [s2 hk, h', h'']; rfl
  · rw [e1] at h'; rw [e10] at h''
    refine skip s.R h rfl (no ?_)
    unfold elTake; rw [s2 hk, h', h'']; rfl
  · have : l - s.i = 0 := by simp at h; omega
    show (elN X o p (l - s.i) s).R = s.R
    rw [this]; rfl
noncomputable def elLp : LoopS := fun env mem m => match SX.look env 9, SX.look env 1, SX.look mem 0 with
  | some ⟨_, _, _, .one (.sl _ _ o l)⟩, some ⟨_, _, _, .one (.int _ p)⟩, some (.row _ _ _ (.lst _ _ X)) => famS (elF X o.val l.val p.val) 7 (fun _ _ => some ⟨0, []⟩) env mem m
  | _, _, _ => none
noncomputable def L_el : FuncId → Nat → Option LoopS := addL L_ls 63 3 elLp
theorem known_elL : Known Try.prog (sums K_relem) L_el := by
  refine known_addL 0 known_relem (by kernel_rfl) (codeOk_of fun env mem m x h => ?_)
  unfold elLp at h
  have hlen : (loopList Try.prog 63).length = 1 := by kernel_rfl
  split at h
  · exact ⟨_, fam_ok (bodyOf_ok plainN known_relem (by omega)) (el_rounds _ _ _ _), h⟩
  · cases h
/-- The function is marked: it looks at a row and makes a new one. -/
noncomputable def markS : Summ := fun _ _ n => some ⟨.one .nilp, [], [False], [], n⟩
theorem mark_ok (P : Program) (f : FuncId) : FOk P f markS := fun _ _ _ r h hn => by cases h; exact absurd (hn False (by simp)) id
noncomputable def K_mk : List (Nat × Summ) := (3000000 + 63, markS) :: K_relem
theorem known_mk : Known Try.prog (sums K_mk) L_el := known_cons known_elL (mark_ok _ _)
end Go.Proofs.Ythgiaoidekdpfaa
