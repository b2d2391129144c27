/-
  CONTOURS of a list, by the program. Conditions: none.
-/
import Derived.Test.YthgiaoidekdpfaaHS
import Derived.Test.YthgiaoidekdpfaaHE
set_option linter.all false
namespace Go.Proofs.Ythgiaoidekdpfaa
open Go.SX Go.RowKit
structure CT where
  f : Nat
  e : Nat
  sd : Int
  ra : Int
  R : List (List Int)
noncomputable def ctC (t id : Nat) (c : CT) : List (Nat × SC) := [(t, I (Int.ofNat c.f)), (t + 1, I (Int.ofNat c.e)), (t + 2, .wh id), (t + 3, I c.sd), (t + 4, I c.ra)]
noncomputable def csV (n : Nat) : List CT → SV
  | [] => .one .nilsl
  | _ => .one (.wh n)
noncomputable def csM (n g : Nat) : List CT → Mem
  | [c] => [(n, .crow 63 5 1 (ctC g (n + 1) c)), rowE (n + 1) (g + 20) c.R]
  | [c, d] => [(n, .crow 63 5 2 (ctC g (n + 1) c ++ ctC (g + 5) (n + 2) d)), rowE (n + 1) (g + 20) c.R, rowE (n + 2) (g + 21) d.R]
  | _ => []
noncomputable def coE (n g l i : Nat) (cs : List CT) : Env := [(4, ent g (.one (I (Int.ofNat i)))), (3, ent (g + 1) (csV n cs)), (0, ent 0 (.one (.sl 0 22 (.c 0) (.v l))))]
noncomputable def coM (X : List (List Int)) (n g : Nat) (cs : List CT) : Mem := rowX X :: csM n g cs
noncomputable def goX (X : List (List Int)) (e : Nat) : Bool := !rmot_0 ((X.getD e []).getD 0 0) || (X.getD e []).getD 16 0 != 0
noncomputable def stX (X : List (List Int)) (e : Nat) : Bool := !(!rmot_0 ((X.getD e []).getD 0 0) || (X.getD e []).getD 16 0 == 0)
/-- The inner loop: the end of a contour. -/
noncomputable def ciF (X : List (List Int)) (l i : Nat) (cs : List CT) : Fam Nat Nat where
  k := 60
  E e := (5, ent 1000000002 (.one (I (Int.ofNat e)))) :: coE 5 1000000000 l i cs
  M _ := coM X 5 1000000100 cs
  out e := .leaf (.exit 2) ((5, ent 136 (.one (I (Int.ofNat e)))) :: coE 5 137 l i cs) (coM X 5 140 cs)
  fin e := endOf (goX X) l e
  next e _ := e + 1
  J e := e ≤ l ∧ l ≤ X.length ∧ X.length ≤ 1000
  μ e := l - e
noncomputable def ci0_s0 (X : List (List Int)) (e : Nat) : Bool :=
  !rmot_0 ((X.getD (Int.ofNat e).toNat []).getD 0 0)
noncomputable def ci0_needs (X : List (List Int)) (l : Nat) (i : Nat) (e : Nat) : List Prop :=
  [decide (Int.ofNat e < Int.ofNat l) = true → 0 ≤ Int.ofNat e, decide (Int.ofNat e < Int.ofNat l) = true → (Int.ofNat e).toNat < l,
    decide (Int.ofNat e < Int.ofNat l) = true → (Int.ofNat e).toNat < X.length, decide (Int.ofNat e < Int.ofNat l) = true → (Int.ofNat e).toNat < X.length,
    decide (Int.ofNat e < Int.ofNat l) = true → (Int.ofNat e).toNat < X.length, ci0_s0 X e = false → decide (Int.ofNat e < Int.ofNat l) = true → 0 ≤ Int.ofNat e,
    ci0_s0 X e = false → decide (Int.ofNat e < Int.ofNat l) = true → (Int.ofNat e).toNat < l, ci0_s0 X e = false → decide (Int.ofNat e < Int.ofNat l) = true → (Int.ofNat e).toNat < X.length,
    ci0_s0 X e = false → decide (Int.ofNat e < Int.ofNat l) = true → (Int.ofNat e).toNat < X.length, ci0_s0 X e = false → decide (Int.ofNat e < Int.ofNat l) = true → (Int.ofNat e).toNat < X.length,
    (decide (Int.ofNat e < Int.ofNat l) && (ci0_s0 X e || (X.getD (Int.ofNat e).toNat []).getD 16 0 != 0)) = true →
     ((ciF X l i []).next e 0 ≤ l ∧ l ≤ X.length ∧ X.length ≤ 1000) ∧
     (ciF X l i []).μ ((ciF X l i []).next e 0) < (ciF X l i []).μ e ∧
     (ciF X l i []).fin ((ciF X l i []).next e 0) = (ciF X l i []).fin e ∧ Int.ofNat ((ciF X l i []).next e 0) = IntKind.i64.wrap (Int.ofNat e + 1) ∧ Int.ofNat i = Int.ofNat i ∧ l = l,
    (decide (Int.ofNat e < Int.ofNat l) && (ci0_s0 X e || (X.getD (Int.ofNat e).toNat []).getD 16 0 != 0)) = false → Int.ofNat ((ciF X l i []).fin e) = Int.ofNat e ∧ Int.ofNat i = Int.ofNat i ∧ l = l]
theorem ci0_round (X : List (List Int)) (l i : Nat) (e : Nat) (hNeeds : ∀ pN ∈ (ci0_needs X l i e), pN) : RoundOk (roundC (ciF X l i []) (bodyOf Try.prog (sums K_mk) L_el 35 1) 135 e) :=
  RoundOk.of (ps := (ci0_needs X l i e)) (by kernel_rfl) (by kernel_rfl) hNeeds
noncomputable def ci1_s0 (X : List (List Int)) (e : Nat) : Bool :=
  !rmot_0 ((X.getD (Int.ofNat e).toNat []).getD 0 0)
noncomputable def ci1_s1 (l : Nat) (i : Nat) (c : CT) : Prop :=
  Int.ofNat i = Int.ofNat i ∧ l = l ∧ Int.ofNat c.f = Int.ofNat c.f ∧ Int.ofNat c.e = Int.ofNat c.e ∧ c.sd = c.sd ∧ c.ra = c.ra ∧ c.R = c.R
noncomputable def ci1_needs (X : List (List Int)) (l : Nat) (i : Nat) (c : CT) (e : Nat) : List Prop :=
  [decide (Int.ofNat e < Int.ofNat l) = true → 0 ≤ Int.ofNat e, decide (Int.ofNat e < Int.ofNat l) = true → (Int.ofNat e).toNat < l,
    decide (Int.ofNat e < Int.ofNat l) = true → (Int.ofNat e).toNat < X.length, decide (Int.ofNat e < Int.ofNat l) = true → (Int.ofNat e).toNat < X.length,
    decide (Int.ofNat e < Int.ofNat l) = true → (Int.ofNat e).toNat < X.length, ci1_s0 X e = false → decide (Int.ofNat e < Int.ofNat l) = true → 0 ≤ Int.ofNat e,
    ci1_s0 X e = false → decide (Int.ofNat e < Int.ofNat l) = true → (Int.ofNat e).toNat < l, ci1_s0 X e = false → decide (Int.ofNat e < Int.ofNat l) = true → (Int.ofNat e).toNat < X.length,
    ci1_s0 X e = false → decide (Int.ofNat e < Int.ofNat l) = true → (Int.ofNat e).toNat < X.length, ci1_s0 X e = false → decide (Int.ofNat e < Int.ofNat l) = true → (Int.ofNat e).toNat < X.length,
    (decide (Int.ofNat e < Int.ofNat l) && (ci1_s0 X e || (X.getD (Int.ofNat e).toNat []).getD 16 0 != 0)) = true →
     ((ciF X l i [c]).next e 0 ≤ l ∧ l ≤ X.length ∧ X.length ≤ 1000) ∧
     (ciF X l i [c]).μ ((ciF X l i [c]).next e 0) < (ciF X l i [c]).μ e ∧
     (ciF X l i [c]).fin ((ciF X l i [c]).next e 0) = (ciF X l i [c]).fin e ∧ Int.ofNat ((ciF X l i [c]).next e 0) = IntKind.i64.wrap (Int.ofNat e + 1) ∧ ci1_s1 l i c,
    (decide (Int.ofNat e < Int.ofNat l) && (ci1_s0 X e || (X.getD (Int.ofNat e).toNat []).getD 16 0 != 0)) = false → Int.ofNat ((ciF X l i [c]).fin e) = Int.ofNat e ∧ ci1_s1 l i c]
theorem ci1_round (X : List (List Int)) (l i : Nat) (c : CT) (e : Nat) (hNeeds : ∀ pN ∈ (ci1_needs X l i c e), pN) : RoundOk (roundC (ciF X l i [c]) (bodyOf Try.prog (sums K_mk) L_el 35 1) 135 e) :=
  RoundOk.of (ps := (ci1_needs X l i c e)) (by kernel_rfl) (by kernel_rfl) hNeeds
noncomputable def ci2_s0 (X : List (List Int)) (e : Nat) : Bool :=
  !rmot_0 ((X.getD (Int.ofNat e).toNat []).getD 0 0)
noncomputable def ci2_s1 (l : Nat) (i : Nat) (c : CT) (d : CT) : Prop :=
  Int.ofNat i = Int.ofNat i ∧
   l = l ∧
   Int.ofNat c.f = Int.ofNat c.f ∧
   Int.ofNat c.e = Int.ofNat c.e ∧ c.sd = c.sd ∧ c.ra = c.ra ∧ Int.ofNat d.f = Int.ofNat d.f ∧ Int.ofNat d.e = Int.ofNat d.e ∧ d.sd = d.sd ∧ d.ra = d.ra ∧ c.R = c.R ∧ d.R = d.R
noncomputable def ci2_needs (X : List (List Int)) (l : Nat) (i : Nat) (c : CT) (d : CT) (e : Nat) : List Prop :=
  [decide (Int.ofNat e < Int.ofNat l) = true → 0 ≤ Int.ofNat e, decide (Int.ofNat e < Int.ofNat l) = true → (Int.ofNat e).toNat < l,
    decide (Int.ofNat e < Int.ofNat l) = true → (Int.ofNat e).toNat < X.length, decide (Int.ofNat e < Int.ofNat l) = true → (Int.ofNat e).toNat < X.length,
    decide (Int.ofNat e < Int.ofNat l) = true → (Int.ofNat e).toNat < X.length, ci2_s0 X e = false → decide (Int.ofNat e < Int.ofNat l) = true → 0 ≤ Int.ofNat e,
    ci2_s0 X e = false → decide (Int.ofNat e < Int.ofNat l) = true → (Int.ofNat e).toNat < l, ci2_s0 X e = false → decide (Int.ofNat e < Int.ofNat l) = true → (Int.ofNat e).toNat < X.length,
    ci2_s0 X e = false → decide (Int.ofNat e < Int.ofNat l) = true → (Int.ofNat e).toNat < X.length, ci2_s0 X e = false → decide (Int.ofNat e < Int.ofNat l) = true → (Int.ofNat e).toNat < X.length,
    (decide (Int.ofNat e < Int.ofNat l) && (ci2_s0 X e || (X.getD (Int.ofNat e).toNat []).getD 16 0 != 0)) = true →
     ((ciF X l i [c, d]).next e 0 ≤ l ∧ l ≤ X.length ∧ X.length ≤ 1000) ∧
     (ciF X l i [c, d]).μ ((ciF X l i [c, d]).next e 0) < (ciF X l i [c, d]).μ e ∧
     (ciF X l i [c, d]).fin ((ciF X l i [c, d]).next e 0) = (ciF X l i [c, d]).fin e ∧ Int.ofNat ((ciF X l i [c, d]).next e 0) = IntKind.i64.wrap (Int.ofNat e + 1) ∧ ci2_s1 l i c d,
    (decide (Int.ofNat e < Int.ofNat l) && (ci2_s0 X e || (X.getD (Int.ofNat e).toNat []).getD 16 0 != 0)) = false → Int.ofNat ((ciF X l i [c, d]).fin e) = Int.ofNat e ∧ ci2_s1 l i c d]
theorem ci2_round (X : List (List Int)) (l i : Nat) (c d : CT) (e : Nat) (hNeeds : ∀ pN ∈ (ci2_needs X l i c d e), pN) : RoundOk (roundC (ciF X l i [c, d]) (bodyOf Try.prog (sums K_mk) L_el 35 1) 135 e) :=
  RoundOk.of (ps := (ci2_needs X l i c d e)) (by kernel_rfl) (by kernel_rfl) hNeeds
theorem ci_all (X : List (List Int)) (l e : Nat) (hJ : e ≤ l ∧ l ≤ X.length ∧ X.length ≤ 1000) (T : Prop) (hT : T) : ∀ q ∈ ([decide (Int.ofNat e < Int.ofNat l) = true → 0 ≤ Int.ofNat e, decide (Int.ofNat e < Int.ofNat l) = true → (Int.ofNat e).toNat < l,
    decide (Int.ofNat e < Int.ofNat l) = true → (Int.ofNat e).toNat < X.length, decide (Int.ofNat e < Int.ofNat l) = true → (Int.ofNat e).toNat < X.length,
    decide (Int.ofNat e < Int.ofNat l) = true → (Int.ofNat e).toNat < X.length, ci0_s0 X e = false → decide (Int.ofNat e < Int.ofNat l) = true → 0 ≤ Int.ofNat e,
    ci0_s0 X e = false → decide (Int.ofNat e < Int.ofNat l) = true → (Int.ofNat e).toNat < l, ci0_s0 X e = false → decide (Int.ofNat e < Int.ofNat l) = true → (Int.ofNat e).toNat < X.length,
    ci0_s0 X e = false → decide (Int.ofNat e < Int.ofNat l) = true → (Int.ofNat e).toNat < X.length, ci0_s0 X e = false → decide (Int.ofNat e < Int.ofNat l) = true → (Int.ofNat e).toNat < X.length,
    (decide (Int.ofNat e < Int.ofNat l) && (ci0_s0 X e || (X.getD (Int.ofNat e).toNat []).getD 16 0 != 0)) = true →
     (e + 1 ≤ l ∧ l ≤ X.length ∧ X.length ≤ 1000) ∧ l - (e + 1) < l - e ∧ endOf (goX X) l (e + 1) = endOf (goX X) l e ∧ Int.ofNat (e + 1) = IntKind.i64.wrap (Int.ofNat e + 1) ∧ T,
    (decide (Int.ofNat e < Int.ofNat l) && (ci0_s0 X e || (X.getD (Int.ofNat e).toNat []).getD 16 0 != 0)) = false → Int.ofNat (endOf (goX X) l e) = Int.ofNat e ∧ T] : List Prop), q := by
  obtain ⟨h1, h2, h3⟩ := hJ
  have ei : (Int.ofNat e).toNat = e := rfl
  have lt : decide (Int.ofNat e < Int.ofNat l) = true → e < l := fun h => by simp at h; omega
  have lx : decide (Int.ofNat e < Int.ofNat l) = true → e < X.length := fun h => by have := lt h; omega
  have e0 : (0 : Int) ≤ Int.ofNat e := by simp
  simp only [List.forall_mem_cons, List.not_mem_nil, false_implies, implies_true, and_true, ei, e0, true_and]
  refine ⟨lt, lx, lx, lx, fun _ => lt, fun _ => lx, fun _ => lx, fun _ => lx, fun h => ?_, fun h => ⟨?_, hT⟩⟩
  · simp only [Bool.and_eq_true] at h
    have l1 := lt h.1
    refine ⟨⟨by omega, h2, h3⟩, by omega, (endOf_go l1 h.2).symm, ?_, hT⟩
    rw [wrI (by simp; omega) (by simp; omega)]; rfl
  · by_cases l1 : e < l
    · have hd : decide (Int.ofNat e < Int.ofNat l) = true := by simp; omega
      rw [hd, Bool.true_and] at h
      rw [endOf_stop l1 h]
    · rw [endOf_ge (by omega)]
theorem ci0_rounds (X : List (List Int)) (l i : Nat) : RoundsOk (ciF X l i []) (bodyOf Try.prog (sums K_mk) L_el 35 1) 135 :=
  fun e hJ => ci0_round X l i e (ci_all X l e hJ _ ⟨rfl, rfl⟩)
theorem ci1_rounds (X : List (List Int)) (l i : Nat) (c : CT) : RoundsOk (ciF X l i [c]) (bodyOf Try.prog (sums K_mk) L_el 35 1) 135 :=
  fun e hJ => ci1_round X l i c e (ci_all X l e hJ (ci1_s1 l i c) ⟨rfl, rfl, rfl, rfl, rfl, rfl, rfl⟩)
theorem ci2_rounds (X : List (List Int)) (l i : Nat) (c d : CT) : RoundsOk (ciF X l i [c, d]) (bodyOf Try.prog (sums K_mk) L_el 35 1) 135 :=
  fun e hJ => ci2_round X l i c d e (ci_all X l e hJ (ci2_s1 l i c d) ⟨rfl, rfl, rfl, rfl, rfl, rfl, rfl, rfl, rfl, rfl, rfl, rfl⟩)
noncomputable def rdC (mem : Mem) : List (Nat × SC) → Option CT
  | [(_, .int _ f), (_, .int _ e), (_, .wh id), (_, .int _ sd), (_, .int _ ra)] => (match SX.look mem id with
    | some (.row _ _ _ (.lst _ _ R)) => some ⟨f.val.toNat, e.val.toNat, sd.val, ra.val, R⟩
    | _ => none)
  | _ => none
noncomputable def rdCs (mem : Mem) : SC → Option (List CT)
  | .nilsl => some []
  | .wh id => (match SX.look mem id with
    | some (.crow _ _ len cs) => bif Nat.beq len 1 then (rdC mem cs).map fun c => [c] else (match rdC mem (cs.take 5), rdC mem (cs.drop 5) with
      | some c, some d => some [c, d]
      | _, _ => none)
    | _ => none)
  | _ => none
noncomputable def ciLp : LoopS := fun env mem m => match SX.look env 5, SX.look env 4, SX.look env 3, SX.look env 0, SX.look mem 0 with
  | some ⟨_, _, _, .one (.int _ e)⟩, some ⟨_, _, _, .one (.int _ i)⟩, some ⟨_, _, _, .one c⟩, some ⟨_, _, _, .one (.sl _ _ _ l)⟩, some (.row _ _ _ (.lst _ _ X)) => (match rdCs mem c with
    | some [] => famS (ciF X l.val i.val.toNat []) 135 (fun _ _ => some e.val.toNat) env mem m
    | some [c] => famS (ciF X l.val i.val.toNat [c]) 135 (fun _ _ => some e.val.toNat) env mem m
    | some [c, d] => famS (ciF X l.val i.val.toNat [c, d]) 135 (fun _ _ => some e.val.toNat) env mem m
    | _ => none)
  | _, _, _, _, _ => none
noncomputable def L_ci : FuncId → Nat → Option LoopS := addL L_el 35 7 ciLp
theorem known_ciL : Known Try.prog (sums K_mk) L_ci := by
  refine known_addL 1 known_mk (by kernel_rfl) (codeOk_of fun env mem m x h => ?_)
  unfold ciLp at h
  have hlen : (loopList Try.prog 35).length = 2 := by kernel_rfl
  split at h
  · split at h
    · exact ⟨_, fam_ok (bodyOf_ok plainN known_mk (by omega)) (ci0_rounds _ _ _), h⟩
    · exact ⟨_, fam_ok (bodyOf_ok plainN known_mk (by omega)) (ci1_rounds _ _ _ _), h⟩
    · exact ⟨_, fam_ok (bodyOf_ok plainN known_mk (by omega)) (ci2_rounds _ _ _ _ _), h⟩
    · cases h
  · cases h
structure CO where
  i : Nat
  cs : List CT
noncomputable def mkC (X : List (List Int)) (t : Nat × Nat) : CT := ⟨t.1, t.2, (X.getD t.1 []).getD 16 0, (X.getD t.1 []).getD 17 0, (elN X (t.1 + 1) ((X.getD t.1 []).getD 8 0) (t.2 - (t.1 + 1)) ⟨0, []⟩).R⟩
noncomputable def c0 : CT := ⟨0, 0, 0, 0, []⟩
noncomputable def pk (l : List CT) : CT × CT := (l.getD 0 c0, l.getD 1 c0)
noncomputable def coF (X : List (List Int)) (l : Nat) : Fam CO (CT × CT) where
  k := 100
  E s := coE 5 1000000000 l s.i s.cs
  M s := coM X 5 1000000100 s.cs
  out t := .leaf (.exit 0) [(3, ent 6 (.one (.wh 5)))] (coM X 5 20 [t.1, t.2])
  fin s := pk (s.cs ++ (segOf (stX X) (goX X) l s.i).map (mkC X))
  next s k := match k with
    | 0 => ⟨s.i + 1, s.cs⟩
    | _ => ⟨endOf (goX X) l (s.i + 1) + 1, s.cs ++ [mkC X (s.i, endOf (goX X) l (s.i + 1))]⟩
  J s := s.i ≤ l + 1 ∧ l ≤ X.length ∧ X.length ≤ 1000 ∧ s.cs.length + (segOf (stX X) (goX X) l s.i).length = 2
  μ s := l + 1 - s.i
section
variable {X : List (List Int)} {l i : Nat} {cs : List CT}
theorem co_skip (h1 : i < l) (h2 : l ≤ X.length) (h3 : X.length ≤ 1000) (hc : cs.length + (segOf (stX X) (goX X) l i).length = 2) (hs : stX X i = false) :
    (i + 1 ≤ l + 1 ∧ l ≤ X.length ∧ X.length ≤ 1000 ∧ cs.length + (segOf (stX X) (goX X) l (i + 1)).length = 2) ∧ l + 1 - (i + 1) < l + 1 - i ∧
    pk (cs ++ (segOf (stX X) (goX X) l (i + 1)).map (mkC X)) = pk (cs ++ (segOf (stX X) (goX X) l i).map (mkC X)) ∧ Int.ofNat (i + 1) = IntKind.i64.wrap (Int.ofNat i + 1) := by
  rw [segOf_no h1 hs] at hc ⊢
  refine ⟨⟨by omega, h2, h3, hc⟩, by omega, rfl, ?_⟩
  rw [wrI (by simp; omega) (by simp; omega)]; rfl
theorem co_start (h1 : i < l) (h2 : l ≤ X.length) (h3 : X.length ≤ 1000) (hc : cs.length + (segOf (stX X) (goX X) l i).length = 2) (hs : stX X i = true) :
    (endOf (goX X) l (i + 1) + 1 ≤ l + 1 ∧ l ≤ X.length ∧ X.length ≤ 1000 ∧ (cs ++ [mkC X (i, endOf (goX X) l (i + 1))]).length + (segOf (stX X) (goX X) l (endOf (goX X) l (i + 1) + 1)).length = 2) ∧ l + 1 - (endOf (goX X) l (i + 1) + 1) < l + 1 - i ∧
    pk (cs ++ [mkC X (i, endOf (goX X) l (i + 1))] ++ (segOf (stX X) (goX X) l (endOf (goX X) l (i + 1) + 1)).map (mkC X)) = pk (cs ++ (segOf (stX X) (goX X) l i).map (mkC X)) ∧ Int.ofNat (endOf (goX X) l (i + 1) + 1) = IntKind.i64.wrap (Int.ofNat (endOf (goX X) l (i + 1)) + 1) := by
  have he := endOf_le (go := goX X) (l := l) (e := i + 1) (by omega)
  rw [segOf_st h1 hs] at hc ⊢
  refine ⟨⟨by omega, h2, h3, ?_⟩, by omega, ?_, ?_⟩
  · simp only [List.length_append, List.length_cons, List.length_nil] at hc ⊢; omega
  · rw [List.append_assoc]; rfl
  · rw [wrI (by simp; omega) (by simp; omega)]; rfl
end
noncomputable def co0_s0 (l : Nat) (i : Nat) : Prop :=
  decide (Int.ofNat (CO.mk i []).i < Int.ofNat l) = true
noncomputable def co0_s1 (X : List (List Int)) (i : Nat) : Bool :=
  !rmot_0 ((X.getD (Int.ofNat (CO.mk i []).i).toNat []).getD 0 0)
noncomputable def co0_s2 (X : List (List Int)) (i : Nat) : Prop :=
  (co0_s1 X i || (X.getD (Int.ofNat (CO.mk i []).i).toNat []).getD 16 0 == 0) = false
noncomputable def co0_s3 (i : Nat) : Int :=
  IntKind.i64.wrap (Int.ofNat (CO.mk i []).i + 1)
noncomputable def co0_s4 (i : Nat) : Int :=
  IntKind.i64.wrap (Int.ofNat (Int.ofNat (CO.mk i []).i).toNat + 1)
noncomputable def co0_s5 (X : List (List Int)) (l : Nat) (i : Nat) : Int :=
  Int.ofNat ((ciF X l (Int.ofNat (CO.mk i []).i).toNat []).fin (co0_s3 i).toNat)
noncomputable def co0_needs (X : List (List Int)) (l : Nat) (i : Nat) : List Prop :=
  [co0_s0 l i →
     0 ≤ Int.ofNat (CO.mk i []).i ∧
     (Int.ofNat (CO.mk i []).i).toNat < l ∧
     (Int.ofNat (CO.mk i []).i).toNat < X.length ∧
     (Int.ofNat (CO.mk i []).i).toNat < X.length ∧
     (Int.ofNat (CO.mk i []).i).toNat < X.length ∧
     (co0_s1 X i = false → 0 ≤ Int.ofNat (CO.mk i []).i) ∧
     (co0_s1 X i = false → (Int.ofNat (CO.mk i []).i).toNat < l) ∧
     (co0_s1 X i = false → (Int.ofNat (CO.mk i []).i).toNat < X.length) ∧
     (co0_s1 X i = false → (Int.ofNat (CO.mk i []).i).toNat < X.length) ∧
     (co0_s1 X i = false → (Int.ofNat (CO.mk i []).i).toNat < X.length) ∧
     (co0_s2 X i →
     ((co0_s3 i).toNat ≤ l ∧ l ≤ X.length ∧ X.length ≤ 1000) ∧
     Int.ofNat (co0_s3 i).toNat = co0_s3 i ∧
     Int.ofNat (Int.ofNat (CO.mk i []).i).toNat = Int.ofNat (CO.mk i []).i ∧
     l = l ∧
     0 ≤ co0_s4 i ∧
     0 ≤ co0_s5 X l i ∧
     (co0_s4 i).toNat ≤ (co0_s5 X l i).toNat ∧
     (co0_s5 X l i).toNat ≤ l ∧
     l ≤ X.length ∧
     0 ≤ Int.ofNat (Int.ofNat (CO.mk i []).i).toNat ∧
     (Int.ofNat (Int.ofNat (CO.mk i []).i).toNat).toNat < l ∧
     (Int.ofNat (Int.ofNat (CO.mk i []).i).toNat).toNat < X.length ∧
     (Int.ofNat (Int.ofNat (CO.mk i []).i).toNat).toNat < X.length ∧
     (Int.ofNat (Int.ofNat (CO.mk i []).i).toNat).toNat < X.length ∧
     (0 ≤ (co0_s5 X l i).toNat - (co0_s4 i).toNat ∧
     (co0_s4 i).toNat + ((co0_s5 X l i).toNat - (co0_s4 i).toNat) ≤ X.length ∧ X.length ≤ 1000 ∧ 0 ≤ 0) ∧
     Int.ofNat 0 = 0 ∧
     (co0_s4 i).toNat = (co0_s4 i).toNat ∧
     (co0_s5 X l i).toNat - (co0_s4 i).toNat = (co0_s5 X l i).toNat - (co0_s4 i).toNat ∧
     (ES.mk 0 []).R = [] ∧
     0 ≤ Int.ofNat (Int.ofNat (CO.mk i []).i).toNat ∧
     (Int.ofNat (Int.ofNat (CO.mk i []).i).toNat).toNat < l ∧
     (Int.ofNat (Int.ofNat (CO.mk i []).i).toNat).toNat < X.length ∧
     (Int.ofNat (Int.ofNat (CO.mk i []).i).toNat).toNat < X.length ∧
     (Int.ofNat (Int.ofNat (CO.mk i []).i).toNat).toNat < X.length ∧
     0 ≤ Int.ofNat (Int.ofNat (CO.mk i []).i).toNat ∧
     (Int.ofNat (Int.ofNat (CO.mk i []).i).toNat).toNat < l ∧
     (Int.ofNat (Int.ofNat (CO.mk i []).i).toNat).toNat < X.length ∧
     (Int.ofNat (Int.ofNat (CO.mk i []).i).toNat).toNat < X.length ∧
     (Int.ofNat (Int.ofNat (CO.mk i []).i).toNat).toNat < X.length),
    co0_s0 l i →
     ((co0_s1 X i || (X.getD (Int.ofNat (CO.mk i []).i).toNat []).getD 16 0 == 0) = true →
     (((coF X l).next (CO.mk i []) 0).i ≤ l + 1 ∧
     l ≤ X.length ∧ X.length ≤ 1000 ∧ ((coF X l).next (CO.mk i []) 0).cs.length + (segOf (stX X) (goX X) l ((coF X l).next (CO.mk i []) 0).i).length = 2) ∧
     (coF X l).μ ((coF X l).next (CO.mk i []) 0) < (coF X l).μ (CO.mk i []) ∧
     (coF X l).fin ((coF X l).next (CO.mk i []) 0) = (coF X l).fin (CO.mk i []) ∧ Int.ofNat ((coF X l).next (CO.mk i []) 0).i = co0_s3 i ∧ l = l) ∧
     (co0_s2 X i →
     (((coF X l).next (CO.mk i []) 1).i ≤ l + 1 ∧
     l ≤ X.length ∧ X.length ≤ 1000 ∧ ((coF X l).next (CO.mk i []) 1).cs.length + (segOf (stX X) (goX X) l ((coF X l).next (CO.mk i []) 1).i).length = 2) ∧
     (coF X l).μ ((coF X l).next (CO.mk i []) 1) < (coF X l).μ (CO.mk i []) ∧
     (coF X l).fin ((coF X l).next (CO.mk i []) 1) = (coF X l).fin (CO.mk i []) ∧
     Int.ofNat ((coF X l).next (CO.mk i []) 1).i = IntKind.i64.wrap (co0_s5 X l i + 1) ∧
     l = l ∧
     Int.ofNat (mkC X ((CO.mk i []).i, endOf (goX X) l ((CO.mk i []).i + 1))).f = Int.ofNat (Int.ofNat (CO.mk i []).i).toNat ∧
     Int.ofNat (mkC X ((CO.mk i []).i, endOf (goX X) l ((CO.mk i []).i + 1))).e = co0_s5 X l i ∧
     (mkC X ((CO.mk i []).i, endOf (goX X) l ((CO.mk i []).i + 1))).sd = (X.getD (Int.ofNat (Int.ofNat (CO.mk i []).i).toNat).toNat []).getD 16 0 ∧
     (mkC X ((CO.mk i []).i, endOf (goX X) l ((CO.mk i []).i + 1))).ra = (X.getD (Int.ofNat (Int.ofNat (CO.mk i []).i).toNat).toNat []).getD 17 0 ∧
     (mkC X ((CO.mk i []).i, endOf (goX X) l ((CO.mk i []).i + 1))).R =
     ((elF X (co0_s4 i).toNat ((co0_s5 X l i).toNat - (co0_s4 i).toNat) ((X.getD (Int.ofNat (Int.ofNat (CO.mk i []).i).toNat).toNat []).getD 8 0)).fin (ES.mk 0 [])).R),
    decide (Int.ofNat (CO.mk i []).i < Int.ofNat l) = false → False]
theorem co0_round (X : List (List Int)) (l i : Nat) (hNeeds : ∀ pN ∈ (co0_needs X l i), pN) : RoundOk (roundC (coF X l) (bodyOf Try.prog (sums K_mk) L_ci 35 0) 5 ⟨i, []⟩) :=
  RoundOk.of (ps := (co0_needs X l i)) (by kernel_rfl) (by kernel_rfl) hNeeds
noncomputable def co1_s0 (l : Nat) (i : Nat) (c : CT) : Prop :=
  decide (Int.ofNat (CO.mk i [c]).i < Int.ofNat l) = true
noncomputable def co1_s1 (X : List (List Int)) (i : Nat) (c : CT) : Bool :=
  !rmot_0 ((X.getD (Int.ofNat (CO.mk i [c]).i).toNat []).getD 0 0)
noncomputable def co1_s2 (X : List (List Int)) (i : Nat) (c : CT) : Prop :=
  (co1_s1 X i c || (X.getD (Int.ofNat (CO.mk i [c]).i).toNat []).getD 16 0 == 0) = false
noncomputable def co1_s3 (i : Nat) (c : CT) : Int :=
  IntKind.i64.wrap (Int.ofNat (CO.mk i [c]).i + 1)
noncomputable def co1_s4 (i : Nat) (c : CT) : Int :=
  IntKind.i64.wrap (Int.ofNat (Int.ofNat (CO.mk i [c]).i).toNat + 1)
noncomputable def co1_s5 (X : List (List Int)) (l : Nat) (i : Nat) (c : CT) : Int :=
  Int.ofNat ((ciF X l (Int.ofNat (CO.mk i [c]).i).toNat [CT.mk (Int.ofNat c.f).toNat (Int.ofNat c.e).toNat c.sd c.ra c.R]).fin (co1_s3 i c).toNat)
noncomputable def co1_s6 (X : List (List Int)) (i : Nat) (c : CT) : Prop :=
  (Int.ofNat (Int.ofNat (CO.mk i [c]).i).toNat).toNat < X.length
noncomputable def co1_needs (X : List (List Int)) (l : Nat) (i : Nat) (c : CT) : List Prop :=
  [co1_s0 l i c →
     0 ≤ Int.ofNat (CO.mk i [c]).i ∧
     (Int.ofNat (CO.mk i [c]).i).toNat < l ∧
     (Int.ofNat (CO.mk i [c]).i).toNat < X.length ∧
     (Int.ofNat (CO.mk i [c]).i).toNat < X.length ∧
     (Int.ofNat (CO.mk i [c]).i).toNat < X.length ∧
     (co1_s1 X i c = false → 0 ≤ Int.ofNat (CO.mk i [c]).i) ∧
     (co1_s1 X i c = false → (Int.ofNat (CO.mk i [c]).i).toNat < l) ∧
     (co1_s1 X i c = false → (Int.ofNat (CO.mk i [c]).i).toNat < X.length) ∧
     (co1_s1 X i c = false → (Int.ofNat (CO.mk i [c]).i).toNat < X.length) ∧
     (co1_s1 X i c = false → (Int.ofNat (CO.mk i [c]).i).toNat < X.length) ∧
     (co1_s2 X i c →
     ((co1_s3 i c).toNat ≤ l ∧ l ≤ X.length ∧ X.length ≤ 1000) ∧
     Int.ofNat (co1_s3 i c).toNat = co1_s3 i c ∧
     Int.ofNat (Int.ofNat (CO.mk i [c]).i).toNat = Int.ofNat (CO.mk i [c]).i ∧
     l = l ∧
     Int.ofNat (CT.mk (Int.ofNat c.f).toNat (Int.ofNat c.e).toNat c.sd c.ra c.R).f = Int.ofNat c.f ∧
     Int.ofNat (CT.mk (Int.ofNat c.f).toNat (Int.ofNat c.e).toNat c.sd c.ra c.R).e = Int.ofNat c.e ∧
     (CT.mk (Int.ofNat c.f).toNat (Int.ofNat c.e).toNat c.sd c.ra c.R).sd = c.sd ∧
     (CT.mk (Int.ofNat c.f).toNat (Int.ofNat c.e).toNat c.sd c.ra c.R).ra = c.ra ∧
     (CT.mk (Int.ofNat c.f).toNat (Int.ofNat c.e).toNat c.sd c.ra c.R).R = c.R ∧
     0 ≤ co1_s4 i c ∧
     0 ≤ co1_s5 X l i c ∧
     (co1_s4 i c).toNat ≤ (co1_s5 X l i c).toNat ∧
     (co1_s5 X l i c).toNat ≤ l ∧
     l ≤ X.length ∧
     0 ≤ Int.ofNat (Int.ofNat (CO.mk i [c]).i).toNat ∧
     (Int.ofNat (Int.ofNat (CO.mk i [c]).i).toNat).toNat < l ∧
     co1_s6 X i c ∧
     co1_s6 X i c ∧
     co1_s6 X i c ∧
     (0 ≤ (co1_s5 X l i c).toNat - (co1_s4 i c).toNat ∧
     (co1_s4 i c).toNat + ((co1_s5 X l i c).toNat - (co1_s4 i c).toNat) ≤ X.length ∧ X.length ≤ 1000 ∧ 0 ≤ 0) ∧
     Int.ofNat 0 = 0 ∧
     (co1_s4 i c).toNat = (co1_s4 i c).toNat ∧
     (co1_s5 X l i c).toNat - (co1_s4 i c).toNat = (co1_s5 X l i c).toNat - (co1_s4 i c).toNat ∧
     (ES.mk 0 []).R = [] ∧
     0 ≤ Int.ofNat (Int.ofNat (CO.mk i [c]).i).toNat ∧
     (Int.ofNat (Int.ofNat (CO.mk i [c]).i).toNat).toNat < l ∧
     co1_s6 X i c ∧
     co1_s6 X i c ∧
     co1_s6 X i c ∧
     0 ≤ Int.ofNat (Int.ofNat (CO.mk i [c]).i).toNat ∧
     (Int.ofNat (Int.ofNat (CO.mk i [c]).i).toNat).toNat < l ∧ co1_s6 X i c ∧ co1_s6 X i c ∧ co1_s6 X i c),
    co1_s0 l i c →
     ((co1_s1 X i c || (X.getD (Int.ofNat (CO.mk i [c]).i).toNat []).getD 16 0 == 0) = true →
     (((coF X l).next (CO.mk i [c]) 0).i ≤ l + 1 ∧
     l ≤ X.length ∧ X.length ≤ 1000 ∧ ((coF X l).next (CO.mk i [c]) 0).cs.length + (segOf (stX X) (goX X) l ((coF X l).next (CO.mk i [c]) 0).i).length = 2) ∧
     (coF X l).μ ((coF X l).next (CO.mk i [c]) 0) < (coF X l).μ (CO.mk i [c]) ∧
     (coF X l).fin ((coF X l).next (CO.mk i [c]) 0) = (coF X l).fin (CO.mk i [c]) ∧
     Int.ofNat ((coF X l).next (CO.mk i [c]) 0).i = co1_s3 i c ∧ l = l ∧ Int.ofNat c.f = Int.ofNat c.f ∧ Int.ofNat c.e = Int.ofNat c.e ∧ c.sd = c.sd ∧ c.ra = c.ra ∧ c.R = c.R) ∧
     (co1_s2 X i c →
     (((coF X l).next (CO.mk i [c]) 1).i ≤ l + 1 ∧
     l ≤ X.length ∧ X.length ≤ 1000 ∧ ((coF X l).next (CO.mk i [c]) 1).cs.length + (segOf (stX X) (goX X) l ((coF X l).next (CO.mk i [c]) 1).i).length = 2) ∧
     (coF X l).μ ((coF X l).next (CO.mk i [c]) 1) < (coF X l).μ (CO.mk i [c]) ∧
     (coF X l).fin ((coF X l).next (CO.mk i [c]) 1) = (coF X l).fin (CO.mk i [c]) ∧
     Int.ofNat ((coF X l).next (CO.mk i [c]) 1).i = IntKind.i64.wrap (co1_s5 X l i c + 1) ∧
     l = l ∧
     Int.ofNat c.f = Int.ofNat (CT.mk (Int.ofNat c.f).toNat (Int.ofNat c.e).toNat c.sd c.ra c.R).f ∧
     Int.ofNat c.e = Int.ofNat (CT.mk (Int.ofNat c.f).toNat (Int.ofNat c.e).toNat c.sd c.ra c.R).e ∧
     c.sd = (CT.mk (Int.ofNat c.f).toNat (Int.ofNat c.e).toNat c.sd c.ra c.R).sd ∧
     c.ra = (CT.mk (Int.ofNat c.f).toNat (Int.ofNat c.e).toNat c.sd c.ra c.R).ra ∧
     Int.ofNat (mkC X ((CO.mk i [c]).i, endOf (goX X) l ((CO.mk i [c]).i + 1))).f = Int.ofNat (Int.ofNat (CO.mk i [c]).i).toNat ∧
     Int.ofNat (mkC X ((CO.mk i [c]).i, endOf (goX X) l ((CO.mk i [c]).i + 1))).e = co1_s5 X l i c ∧
     (mkC X ((CO.mk i [c]).i, endOf (goX X) l ((CO.mk i [c]).i + 1))).sd = (X.getD (Int.ofNat (Int.ofNat (CO.mk i [c]).i).toNat).toNat []).getD 16 0 ∧
     (mkC X ((CO.mk i [c]).i, endOf (goX X) l ((CO.mk i [c]).i + 1))).ra = (X.getD (Int.ofNat (Int.ofNat (CO.mk i [c]).i).toNat).toNat []).getD 17 0 ∧
     c.R = (CT.mk (Int.ofNat c.f).toNat (Int.ofNat c.e).toNat c.sd c.ra c.R).R ∧
     (mkC X ((CO.mk i [c]).i, endOf (goX X) l ((CO.mk i [c]).i + 1))).R =
     ((elF X (co1_s4 i c).toNat ((co1_s5 X l i c).toNat - (co1_s4 i c).toNat) ((X.getD (Int.ofNat (Int.ofNat (CO.mk i [c]).i).toNat).toNat []).getD 8 0)).fin
     (ES.mk 0 [])).R),
    decide (Int.ofNat (CO.mk i [c]).i < Int.ofNat l) = false → False]
theorem co1_round (X : List (List Int)) (l i : Nat) (c : CT) (hNeeds : ∀ pN ∈ (co1_needs X l i c), pN) : RoundOk (roundC (coF X l) (bodyOf Try.prog (sums K_mk) L_ci 35 0) 5 ⟨i, [c]⟩) :=
  RoundOk.of (ps := (co1_needs X l i c)) (by kernel_rfl) (by kernel_rfl) hNeeds
noncomputable def co2_s0 (l : Nat) (i : Nat) (c : CT) (d : CT) : Prop :=
  decide (Int.ofNat (CO.mk i [c, d]).i < Int.ofNat l) = true
noncomputable def co2_s1 (i : Nat) (c : CT) (d : CT) : Prop :=
  0 ≤ Int.ofNat (CO.mk i [c, d]).i
noncomputable def co2_s2 (X : List (List Int)) (i : Nat) (c : CT) (d : CT) : Prop :=
  (Int.ofNat (CO.mk i [c, d]).i).toNat < X.length
noncomputable def co2_s3 (X : List (List Int)) (i : Nat) (c : CT) (d : CT) : Bool :=
  !rmot_0 ((X.getD (Int.ofNat (CO.mk i [c, d]).i).toNat []).getD 0 0)
noncomputable def co2_s4 (X : List (List Int)) (i : Nat) (c : CT) (d : CT) : Prop :=
  (co2_s3 X i c d || (X.getD (Int.ofNat (CO.mk i [c, d]).i).toNat []).getD 16 0 == 0) = false
noncomputable def co2_s5 (i : Nat) (c : CT) (d : CT) : Int :=
  IntKind.i64.wrap (Int.ofNat (CO.mk i [c, d]).i + 1)
noncomputable def co2_s6 (i : Nat) (c : CT) (d : CT) : Int :=
  IntKind.i64.wrap (Int.ofNat (Int.ofNat (CO.mk i [c, d]).i).toNat + 1)
noncomputable def co2_s7 (X : List (List Int)) (l : Nat) (i : Nat) (c : CT) (d : CT) : Int :=
  Int.ofNat
   ((ciF X l (Int.ofNat (CO.mk i [c, d]).i).toNat [CT.mk (Int.ofNat c.f).toNat (Int.ofNat c.e).toNat c.sd c.ra c.R, CT.mk (Int.ofNat d.f).toNat (Int.ofNat d.e).toNat d.sd d.ra d.R]).fin
   (co2_s5 i c d).toNat)
noncomputable def co2_s8 (X : List (List Int)) (i : Nat) (c : CT) (d : CT) : Prop :=
  (Int.ofNat (Int.ofNat (CO.mk i [c, d]).i).toNat).toNat < X.length
noncomputable def co2_needs (X : List (List Int)) (l : Nat) (i : Nat) (c : CT) (d : CT) : List Prop :=
  [co2_s0 l i c d →
     co2_s1 i c d ∧
     (Int.ofNat (CO.mk i [c, d]).i).toNat < l ∧
     co2_s2 X i c d ∧
     co2_s2 X i c d ∧
     co2_s2 X i c d ∧
     (co2_s3 X i c d = false → co2_s1 i c d) ∧
     (co2_s3 X i c d = false → (Int.ofNat (CO.mk i [c, d]).i).toNat < l) ∧
     (co2_s3 X i c d = false → co2_s2 X i c d) ∧
     (co2_s3 X i c d = false → co2_s2 X i c d) ∧
     (co2_s3 X i c d = false → co2_s2 X i c d) ∧
     (co2_s4 X i c d →
     ((co2_s5 i c d).toNat ≤ l ∧ l ≤ X.length ∧ X.length ≤ 1000) ∧
     Int.ofNat (co2_s5 i c d).toNat = co2_s5 i c d ∧
     Int.ofNat (Int.ofNat (CO.mk i [c, d]).i).toNat = Int.ofNat (CO.mk i [c, d]).i ∧
     l = l ∧
     Int.ofNat (CT.mk (Int.ofNat c.f).toNat (Int.ofNat c.e).toNat c.sd c.ra c.R).f = Int.ofNat c.f ∧
     Int.ofNat (CT.mk (Int.ofNat c.f).toNat (Int.ofNat c.e).toNat c.sd c.ra c.R).e = Int.ofNat c.e ∧
     (CT.mk (Int.ofNat c.f).toNat (Int.ofNat c.e).toNat c.sd c.ra c.R).sd = c.sd ∧
     (CT.mk (Int.ofNat c.f).toNat (Int.ofNat c.e).toNat c.sd c.ra c.R).ra = c.ra ∧
     Int.ofNat (CT.mk (Int.ofNat d.f).toNat (Int.ofNat d.e).toNat d.sd d.ra d.R).f = Int.ofNat d.f ∧
     Int.ofNat (CT.mk (Int.ofNat d.f).toNat (Int.ofNat d.e).toNat d.sd d.ra d.R).e = Int.ofNat d.e ∧
     (CT.mk (Int.ofNat d.f).toNat (Int.ofNat d.e).toNat d.sd d.ra d.R).sd = d.sd ∧
     (CT.mk (Int.ofNat d.f).toNat (Int.ofNat d.e).toNat d.sd d.ra d.R).ra = d.ra ∧
     (CT.mk (Int.ofNat c.f).toNat (Int.ofNat c.e).toNat c.sd c.ra c.R).R = c.R ∧
     (CT.mk (Int.ofNat d.f).toNat (Int.ofNat d.e).toNat d.sd d.ra d.R).R = d.R ∧
     0 ≤ co2_s6 i c d ∧
     0 ≤ co2_s7 X l i c d ∧
     (co2_s6 i c d).toNat ≤ (co2_s7 X l i c d).toNat ∧
     (co2_s7 X l i c d).toNat ≤ l ∧
     l ≤ X.length ∧
     0 ≤ Int.ofNat (Int.ofNat (CO.mk i [c, d]).i).toNat ∧
     (Int.ofNat (Int.ofNat (CO.mk i [c, d]).i).toNat).toNat < l ∧
     co2_s8 X i c d ∧
     co2_s8 X i c d ∧
     co2_s8 X i c d ∧
     (0 ≤ (co2_s7 X l i c d).toNat - (co2_s6 i c d).toNat ∧
     (co2_s6 i c d).toNat + ((co2_s7 X l i c d).toNat - (co2_s6 i c d).toNat) ≤ X.length ∧ X.length ≤ 1000 ∧ 0 ≤ 0) ∧
     Int.ofNat 0 = 0 ∧
     (co2_s6 i c d).toNat = (co2_s6 i c d).toNat ∧
     (co2_s7 X l i c d).toNat - (co2_s6 i c d).toNat = (co2_s7 X l i c d).toNat - (co2_s6 i c d).toNat ∧
     (ES.mk 0 []).R = [] ∧
     0 ≤ Int.ofNat (Int.ofNat (CO.mk i [c, d]).i).toNat ∧
     (Int.ofNat (Int.ofNat (CO.mk i [c, d]).i).toNat).toNat < l ∧
     co2_s8 X i c d ∧
     co2_s8 X i c d ∧
     co2_s8 X i c d ∧
     0 ≤ Int.ofNat (Int.ofNat (CO.mk i [c, d]).i).toNat ∧
     (Int.ofNat (Int.ofNat (CO.mk i [c, d]).i).toNat).toNat < l ∧
     co2_s8 X i c d ∧ co2_s8 X i c d ∧ co2_s8 X i c d),
    co2_s0 l i c d →
     ((co2_s3 X i c d || (X.getD (Int.ofNat (CO.mk i [c, d]).i).toNat []).getD 16 0 == 0) = true →
     (((coF X l).next (CO.mk i [c, d]) 0).i ≤ l + 1 ∧
     l ≤ X.length ∧ X.length ≤ 1000 ∧ ((coF X l).next (CO.mk i [c, d]) 0).cs.length + (segOf (stX X) (goX X) l ((coF X l).next (CO.mk i [c, d]) 0).i).length = 2) ∧
     (coF X l).μ ((coF X l).next (CO.mk i [c, d]) 0) < (coF X l).μ (CO.mk i [c, d]) ∧
     (coF X l).fin ((coF X l).next (CO.mk i [c, d]) 0) = (coF X l).fin (CO.mk i [c, d]) ∧
     Int.ofNat ((coF X l).next (CO.mk i [c, d]) 0).i = co2_s5 i c d ∧
     l = l ∧
     Int.ofNat c.f = Int.ofNat c.f ∧
     Int.ofNat c.e = Int.ofNat c.e ∧ c.sd = c.sd ∧ c.ra = c.ra ∧ Int.ofNat d.f = Int.ofNat d.f ∧ Int.ofNat d.e = Int.ofNat d.e ∧ d.sd = d.sd ∧ d.ra = d.ra ∧ c.R = c.R ∧ d.R = d.R) ∧
     (co2_s4 X i c d →
     (((coF X l).next (CO.mk i [c, d]) 1).i ≤ l + 1 ∧
     l ≤ X.length ∧ X.length ≤ 1000 ∧ ((coF X l).next (CO.mk i [c, d]) 1).cs.length + (segOf (stX X) (goX X) l ((coF X l).next (CO.mk i [c, d]) 1).i).length = 2) ∧
     (coF X l).μ ((coF X l).next (CO.mk i [c, d]) 1) < (coF X l).μ (CO.mk i [c, d]) ∧
     (coF X l).fin ((coF X l).next (CO.mk i [c, d]) 1) = (coF X l).fin (CO.mk i [c, d]) ∧ Int.ofNat ((coF X l).next (CO.mk i [c, d]) 1).i = IntKind.i64.wrap (co2_s7 X l i c d + 1) ∧ l = l),
    decide (Int.ofNat (CO.mk i [c, d]).i < Int.ofNat l) = false →
     Int.ofNat ((coF X l).fin (CO.mk i [c, d])).fst.f = Int.ofNat c.f ∧
     Int.ofNat ((coF X l).fin (CO.mk i [c, d])).fst.e = Int.ofNat c.e ∧
     ((coF X l).fin (CO.mk i [c, d])).fst.sd = c.sd ∧
     ((coF X l).fin (CO.mk i [c, d])).fst.ra = c.ra ∧
     Int.ofNat ((coF X l).fin (CO.mk i [c, d])).snd.f = Int.ofNat d.f ∧
     Int.ofNat ((coF X l).fin (CO.mk i [c, d])).snd.e = Int.ofNat d.e ∧
     ((coF X l).fin (CO.mk i [c, d])).snd.sd = d.sd ∧
     ((coF X l).fin (CO.mk i [c, d])).snd.ra = d.ra ∧ ((coF X l).fin (CO.mk i [c, d])).fst.R = c.R ∧ ((coF X l).fin (CO.mk i [c, d])).snd.R = d.R]
theorem co2_round (X : List (List Int)) (l i : Nat) (c d : CT) (hNeeds : ∀ pN ∈ (co2_needs X l i c d), pN) : RoundOk (roundC (coF X l) (bodyOf Try.prog (sums K_mk) L_ci 35 0) 5 ⟨i, [c, d]⟩) :=
  RoundOk.of (ps := (co2_needs X l i c d)) (by kernel_rfl) (by kernel_rfl) hNeeds
theorem co0_rounds (X : List (List Int)) (l i : Nat) (hJ : (coF X l).J ⟨i, []⟩) : RoundOk (roundC (coF X l) (bodyOf Try.prog (sums K_mk) L_ci 35 0) 5 ⟨i, []⟩) := by
  obtain ⟨h1, h2, h3, h4⟩ : i ≤ l + 1 ∧ l ≤ X.length ∧ X.length ≤ 1000 ∧ ([] : List CT).length + (segOf (stX X) (goX X) l i).length = 2 := hJ
  refine co0_round X l i ?_
  have lt : co0_s0 l i → i < l := fun h => by have h : decide (Int.ofNat i < Int.ofNat l) = true := h; simp at h; omega
  have q3 : i < l → co0_s3 i = Int.ofNat (i + 1) := fun h => (wrI (x := Int.ofNat i + 1) (by simp; omega) (by simp; omega)).trans rfl
  have q5 : i < l → co0_s5 X l i = Int.ofNat (endOf (goX X) l (i + 1)) := fun h => by
    show Int.ofNat (endOf (goX X) l (co0_s3 i).toNat) = _
    rw [q3 h]; rfl
  have q4 : i < l → co0_s4 i = Int.ofNat (i + 1) := q3
  have he : i < l → _ := fun h => endOf_le (go := goX X) (l := l) (e := i + 1) (by omega)
  unfold co0_needs
  simp only [List.forall_mem_cons, List.not_mem_nil, false_implies, implies_true, and_true]
  refine ⟨fun h => ?_, fun h => ⟨fun hk => ?_, fun hk => ?_⟩, fun h => ?_⟩
  · have l1 := lt h
    have l2 := he l1
    have l3 : i < X.length := by omega
    rw [q3 l1, q4 l1, q5 l1]
    simp only [Int.ofNat_eq_natCast, Int.toNat_natCast]
    repeat' first | exact trivial | exact l3 | exact l1 | omega | rfl | exact Int.natCast_nonneg _ | refine And.intro ?_ ?_ | intro _
  · have l1 := lt h
    have hs : stX X i = false := by have hk : (!rmot_0 ((X.getD i []).getD 0 0) || (X.getD i []).getD 16 0 == 0) = true := hk; unfold stX; rw [hk]; rfl
    obtain ⟨a, b, e, f⟩ := co_skip l1 h2 h3 h4 hs
    refine ⟨a, b, e, ?_⟩
    first | exact f | (refine ⟨f, ?_⟩; repeat' first | exact trivial | rfl | refine And.intro ?_ ?_)
  · have l1 := lt h
    have hs : stX X i = true := by have hk : (!rmot_0 ((X.getD i []).getD 0 0) || (X.getD i []).getD 16 0 == 0) = false := hk; unfold stX; rw [hk]; rfl
    obtain ⟨a, b, e, f⟩ := co_start l1 h2 h3 h4 hs
    refine ⟨a, b, e, ?_⟩
    rw [q4 l1, q5 l1]
    refine ⟨f, ?_⟩
    repeat' first | exact trivial | rfl | refine And.intro ?_ ?_
  · have : segOf (stX X) (goX X) l i = [] := segOf_end (by have h : decide (Int.ofNat i < Int.ofNat l) = false := h; simp at h; omega)
    rw [this] at h4; cases h4
theorem co1_rounds (X : List (List Int)) (l i : Nat) (c : CT) (hJ : (coF X l).J ⟨i, [c]⟩) : RoundOk (roundC (coF X l) (bodyOf Try.prog (sums K_mk) L_ci 35 0) 5 ⟨i, [c]⟩) := by
  obtain ⟨h1, h2, h3, h4⟩ : i ≤ l + 1 ∧ l ≤ X.length ∧ X.length ≤ 1000 ∧ ([c] : List CT).length + (segOf (stX X) (goX X) l i).length = 2 := hJ
  refine co1_round X l i c ?_
  have lt : co1_s0 l i c → i < l := fun h => by have h : decide (Int.ofNat i < Int.ofNat l) = true := h; simp at h; omega
  have q3 : i < l → co1_s3 i c = Int.ofNat (i + 1) := fun h => (wrI (x := Int.ofNat i + 1) (by simp; omega) (by simp; omega)).trans rfl
  have q5 : i < l → co1_s5 X l i c = Int.ofNat (endOf (goX X) l (i + 1)) := fun h => by
    show Int.ofNat (endOf (goX X) l (co1_s3 i c).toNat) = _
    rw [q3 h]; rfl
  have q4 : i < l → co1_s4 i c = Int.ofNat (i + 1) := q3
  have he : i < l → _ := fun h => endOf_le (go := goX X) (l := l) (e := i + 1) (by omega)
  unfold co1_needs
  simp only [List.forall_mem_cons, List.not_mem_nil, false_implies, implies_true, and_true]
  refine ⟨fun h => ?_, fun h => ⟨fun hk => ?_, fun hk => ?_⟩, fun h => ?_⟩
  · have l1 := lt h
    have l2 := he l1
    have l3 : i < X.length := by omega
    rw [q3 l1, q4 l1, q5 l1]
    simp only [Int.ofNat_eq_natCast, Int.toNat_natCast]
    repeat' first | exact trivial | exact l3 | exact l1 | omega | rfl | exact Int.natCast_nonneg _ | refine And.intro ?_ ?_ | intro _
  · have l1 := lt h
    have hs : stX X i = false := by have hk : (!rmot_0 ((X.getD i []).getD 0 0) || (X.getD i []).getD 16 0 == 0) = true := hk; unfold stX; rw [hk]; rfl
    obtain ⟨a, b, e, f⟩ := co_skip l1 h2 h3 h4 hs
    refine ⟨a, b, e, ?_⟩
    first | exact f | (refine ⟨f, ?_⟩; repeat' first | exact trivial | rfl | refine And.intro ?_ ?_)
  · have l1 := lt h
    have hs : stX X i = true := by have hk : (!rmot_0 ((X.getD i []).getD 0 0) || (X.getD i []).getD 16 0 == 0) = false := hk; unfold stX; rw [hk]; rfl
    obtain ⟨a, b, e, f⟩ := co_start l1 h2 h3 h4 hs
    refine ⟨a, b, e, ?_⟩
    rw [q4 l1, q5 l1]
    refine ⟨f, ?_⟩
    repeat' first | exact trivial | rfl | refine And.intro ?_ ?_
  · have : segOf (stX X) (goX X) l i = [] := segOf_end (by have h : decide (Int.ofNat i < Int.ofNat l) = false := h; simp at h; omega)
    rw [this] at h4; cases h4
theorem co2_rounds (X : List (List Int)) (l i : Nat) (c d : CT) (hJ : (coF X l).J ⟨i, [c, d]⟩) : RoundOk (roundC (coF X l) (bodyOf Try.prog (sums K_mk) L_ci 35 0) 5 ⟨i, [c, d]⟩) := by
  obtain ⟨h1, h2, h3, h4⟩ : i ≤ l + 1 ∧ l ≤ X.length ∧ X.length ≤ 1000 ∧ ([c, d] : List CT).length + (segOf (stX X) (goX X) l i).length = 2 := hJ
  refine co2_round X l i c d ?_
  have lt : co2_s0 l i c d → i < l := fun h => by have h : decide (Int.ofNat i < Int.ofNat l) = true := h; simp at h; omega
  have q3 : i < l → co2_s5 i c d = Int.ofNat (i + 1) := fun h => (wrI (x := Int.ofNat i + 1) (by simp; omega) (by simp; omega)).trans rfl
  have q5 : i < l → co2_s7 X l i c d = Int.ofNat (endOf (goX X) l (i + 1)) := fun h => by
    show Int.ofNat (endOf (goX X) l (co2_s5 i c d).toNat) = _
    rw [q3 h]; rfl
  have q4 : i < l → co2_s6 i c d = Int.ofNat (i + 1) := q3
  have he : i < l → _ := fun h => endOf_le (go := goX X) (l := l) (e := i + 1) (by omega)
  unfold co2_needs
  simp only [List.forall_mem_cons, List.not_mem_nil, false_implies, implies_true, and_true]
  refine ⟨fun h => ?_, fun h => ⟨fun hk => ?_, fun hk => ?_⟩, fun h => ?_⟩
  · have l1 := lt h
    have l2 := he l1
    have l3 : i < X.length := by omega
    rw [q3 l1, q4 l1, q5 l1]
    simp only [Int.ofNat_eq_natCast, Int.toNat_natCast]
    repeat' first | exact trivial | exact l3 | exact l1 | omega | rfl | exact Int.natCast_nonneg _ | refine And.intro ?_ ?_ | intro _
  · have l1 := lt h
    have hs : stX X i = false := by have hk : (!rmot_0 ((X.getD i []).getD 0 0) || (X.getD i []).getD 16 0 == 0) = true := hk; unfold stX; rw [hk]; rfl
    obtain ⟨a, b, e, f⟩ := co_skip l1 h2 h3 h4 hs
    refine ⟨a, b, e, ?_⟩
    first | exact f | (refine ⟨f, ?_⟩; repeat' first | exact trivial | rfl | refine And.intro ?_ ?_)
  · have l1 := lt h
    have hs : stX X i = true := by have hk : (!rmot_0 ((X.getD i []).getD 0 0) || (X.getD i []).getD 16 0 == 0) = false := hk; unfold stX; rw [hk]; rfl
    rw [segOf_st l1 hs] at h4
    simp at h4
  · have e : segOf (stX X) (goX X) l i = [] := segOf_end (by have h : decide (Int.ofNat i < Int.ofNat l) = false := h; simp at h; omega)
    have e1 : (coF X l).fin ⟨i, [c, d]⟩ = (c, d) := by
      show pk ([c, d] ++ (segOf (stX X) (goX X) l i).map (mkC X)) = _
      rw [e]; rfl
    rw [e1]
    repeat' first | exact trivial | rfl | refine And.intro ?_ ?_
theorem co_rounds (X : List (List Int)) (l : Nat) : RoundsOk (coF X l) (bodyOf Try.prog (sums K_mk) L_ci 35 0) 5 := fun s hJ => by
  obtain ⟨i, cs⟩ := s
  match cs, hJ with
  | [], hJ => exact co0_rounds X l i hJ
  | [c], hJ => exact co1_rounds X l i c hJ
  | [c, d], hJ => exact co2_rounds X l i c d hJ
  | a :: b :: c :: t, hJ =>
    have h : (a :: b :: c :: t).length + (segOf (stX X) (goX X) l i).length = 2 := hJ.2.2.2
    simp at h; omega
/-- Is a slot a part of a row that is only read? -/
noncomputable def coLp : LoopS := fun env mem m => match SX.look env 0, SX.look mem 0 with
  | some ⟨_, _, _, .one (.sl _ _ _ l)⟩, some (.row _ _ _ (.lst _ _ X)) => famS (coF X l.val) 5 (fun _ _ => some ⟨0, []⟩) env mem m
  | _, _ => none
noncomputable def L_co : FuncId → Nat → Option LoopS := addL L_ci 35 3 coLp
theorem known_coL : Known Try.prog (sums K_mk) L_co := by
  refine known_addL 0 known_ciL (by kernel_rfl) (codeOk_of fun env mem m x h => ?_)
  unfold coLp at h
  have hlen : (loopList Try.prog 35).length = 2 := by kernel_rfl
  split at h
  · exact ⟨_, fam_ok (bodyOf_ok plainN known_ciL (by omega)) (co_rounds _ _), h⟩
  · cases h
end Go.Proofs.Ythgiaoidekdpfaa
