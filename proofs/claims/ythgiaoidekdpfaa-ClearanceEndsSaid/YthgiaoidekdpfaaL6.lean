/-
  CLEARANCEENDS: the walk. Conditions: none.
-/
import Derived.Test.YthgiaoidekdpfaaL2
import Derived.Test.YthgiaoidekdpfaaD6
set_option linter.all false
namespace Go.Proofs.Ythgiaoidekdpfaa
open Go.SX Go.RowKit
theorem len_sq {x y : Int} (hx : bd 53000 x) (hy : bd 53000 y) : IntKind.i64.wrap (IntKind.i64.wrap (IntKind.i64.wrap (x * x) + IntKind.i64.wrap (y * y)) + 0) = x * x + y * y ∧ 0 ≤ x * x + y * y ∧ x * x + y * y ≤ 5618000000 := by
  have h1 := mul_bd hx hx (by omega) (by omega)
  have h2 := mul_bd hy hy (by omega) (by omega)
  have h3 := sq_nn x y
  rw [wrI (x := x * x) (by omega) (by omega), wrI (x := y * y) (by omega) (by omega), wrI (x := x * x + y * y) (by omega) (by omega), wrI (by omega) (by omega)]
  omega
theorem len_up {x y : Int} (hx : bd 53000 x) (hy : bd 53000 y) : x * x + y * y ≤ rRoot_0 (x * x + y * y) 1 1 * rRoot_0 (x * x + y * y) 1 1 ∧ 0 ≤ rRoot_0 (x * x + y * y) 1 1 ∧ rRoot_0 (x * x + y * y) 1 1 ≤ 100000 := by
  obtain ⟨_, h1, h2⟩ := len_sq hx hy
  obtain ⟨a, b, c⟩ := up_root h1 ⟨by omega, by omega⟩
  obtain ⟨d, e, _, _⟩ := sqr_law h1 (by omega)
  refine ⟨a, b, ?_⟩
  rcases Int.lt_or_le (sqr (x * x + y * y)) 80000 with g | g
  · omega
  · have := Int.mul_le_mul g g (by omega) d
    omega
noncomputable def lawN_tpl : Tpl := ⟨[.one (.wh 0), .agg [.int .i64, .int .i64]], [(0, .row true 3 1 1 [.int .i64])], 2⟩
noncomputable def lawN_s0 (p0 : Int) (L : List (List Int)) : Int :=
  IntKind.i64.wrap (small_0 p0 3000 - e2 L)
noncomputable def lawN_s1 (p1 : Int) (L : List (List Int)) : Int :=
  IntKind.i64.wrap (small_0 p1 3000 - e3 L)
noncomputable def lawN_s2 (p0 : Int) (p1 : Int) (L : List (List Int)) : Int :=
  rRoot_0 (IntKind.i64.wrap (IntKind.i64.wrap (IntKind.i64.wrap (lawN_s0 p0 L * lawN_s0 p0 L) + IntKind.i64.wrap (lawN_s1 p1 L * lawN_s1 p1 L)) + 0)) 1 1
noncomputable def lawN_s3 (p0 : Int) (L : List (List Int)) : Int :=
  IntKind.i64.wrap (small_0 p0 3000 - e0 L)
noncomputable def lawN_s4 (p1 : Int) (L : List (List Int)) : Int :=
  IntKind.i64.wrap (small_0 p1 3000 - e1 L)
noncomputable def lawN_s5 (p0 : Int) (p1 : Int) (L : List (List Int)) : Int :=
  rRoot_0 (IntKind.i64.wrap (IntKind.i64.wrap (IntKind.i64.wrap (lawN_s3 p0 L * lawN_s3 p0 L) + IntKind.i64.wrap (lawN_s4 p1 L * lawN_s4 p1 L)) + 0)) 1 1
noncomputable def lawN_0 (p0 : Int) (p1 : Int) (L : List (List Int)) : Bool :=
  bif !light_0 L then true
  else
    bif
        e6 L == 0 &&
          (!!dstC Cg (e0 L) (e1 L) (e2 L) (e3 L) (e4 L) (e5 L) (e6 L) (e7 L) (e0 L) (e1 L) 0 || !!dstC Cg (e0 L) (e1 L) (e2 L) (e3 L) (e4 L) (e5 L) (e6 L) (e7 L) (e2 L) (e3 L) 0 ||
              !dstC Cl (e0 L) (e1 L) (e2 L) (e3 L) (e4 L) (e5 L) (e6 L) (e7 L) (e0 L) (e1 L) 1 ||
            !!dstC Cg (e0 L) (e1 L) (e2 L) (e3 L) (e4 L) (e5 L) (e6 L) (e7 L) (small_0 p0 3000) (small_0 p1 3000) (if lawN_s2 p0 p1 L < lawN_s5 p0 p1 L then lawN_s2 p0 p1 L else lawN_s5 p0 p1 L)) then
      false
    else true && !dstC Cg (e0 L) (e1 L) (e2 L) (e3 L) (e4 L) (e5 L) (e6 L) (e7 L) (e0 L) (e1 L) 4 && !dstC Cg (e0 L) (e1 L) (e2 L) (e3 L) (e4 L) (e5 L) (e6 L) (e7 L) (e2 L) (e3 L) 4
noncomputable def lawN_s6 (p0 : Int) (p1 : Int) (L : List (List Int)) : Int :=
  IntKind.i64.wrap (IntKind.i64.wrap (IntKind.i64.wrap (lawN_s3 p0 L * lawN_s3 p0 L) + IntKind.i64.wrap (lawN_s4 p1 L * lawN_s4 p1 L)) + 0)
noncomputable def lawN_s7 (p0 : Int) (p1 : Int) (L : List (List Int)) : Int :=
  IntKind.i64.wrap (IntKind.i64.wrap (IntKind.i64.wrap (lawN_s0 p0 L * lawN_s0 p0 L) + IntKind.i64.wrap (lawN_s1 p1 L * lawN_s1 p1 L)) + 0)
noncomputable def lawN_needs (p0 : Int) (p1 : Int) (L : List (List Int)) : List Prop :=
  [(!light_0 L) = false →
      L.length ≤ 1000000 ∧
        Int.ofNat 6001 ≠ 0 ∧
          Int.ofNat 6001 ≠ 0 ∧ (-9223372036854775808 ≤ lawN_s6 p0 p1 L ∧ lawN_s6 p0 p1 L < 9223372036854775808) ∧ -9223372036854775808 ≤ lawN_s7 p0 p1 L ∧ lawN_s7 p0 p1 L < 9223372036854775808]
theorem lawN_0_eq (p0 p1 : Int) (L : List (List Int)) : (lawN_0 p0 p1 L) = true := by
  unfold lawN_0
  cases !light_0 L
  · rw [cond_false]
    have E := elem_ep L
    obtain ⟨t0, t1, t2, t3⟩ := elem_tight L
    have s1 : ∀ x, bd 3000 (small_0 x 3000) := fun x => by have := small_rng x 3000 (by omega) (by omega); omega
    have b0 := s1 p0
    have b1 := s1 p1
    have S : ∀ x, bd 10000000 (small_0 x 3000) := fun x => by have := s1 x; omega
    have x0 : lawN_s0 p0 L = small_0 p0 3000 - e2 L := wrI (by omega) (by omega)
    have x1 : lawN_s1 p1 L = small_0 p1 3000 - e3 L := wrI (by omega) (by omega)
    have x3 : lawN_s3 p0 L = small_0 p0 3000 - e0 L := wrI (by omega) (by omega)
    have x4 : lawN_s4 p1 L = small_0 p1 3000 - e1 L := wrI (by omega) (by omega)
    have c0 : bd 53000 (small_0 p0 3000 - e2 L) := by omega
    have c1 : bd 53000 (small_0 p1 3000 - e3 L) := by omega
    have c3 : bd 53000 (small_0 p0 3000 - e0 L) := by omega
    have c4 : bd 53000 (small_0 p1 3000 - e1 L) := by omega
    obtain ⟨k1, k2, k3⟩ := len_up c0 c1
    obtain ⟨j1, j2, j3⟩ := len_up c3 c4
    unfold lawN_s2 lawN_s5
    rw [x0, x1, x3, x4, (len_sq c0 c1).1, (len_sq c3 c4).1]
    have hk : ∀ {a b : Int}, 0 ≤ a → a ≤ 100000 → 0 ≤ b → b ≤ 100000 → bd 1000000 (if a < b then a else b) := fun {a b} _ _ _ _ => by split <;> omega
    have hb := hk k2 k3 j2 j3
    rw [near_eq E (bd_up E.c0) (bd_up E.c1) (by decide), near_eq E (bd_up E.c2) (bd_up E.c3) (by decide), near_eq E (S _) (S _) hb, near_eq E (bd_up E.c0) (bd_up E.c1) (by decide), near_eq E (bd_up E.c2) (bd_up E.c3) (by decide)]
    have hF := far_eq (a7 := e7 L) E (bd_up E.c0) (bd_up E.c1) (d := 1) (by decide)
    have hF' : dstC Cl (e0 L) (e1 L) (e2 L) (e3 L) (e4 L) (e5 L) (e6 L) (e7 L) (e0 L) (e1 L) 1 = !rfar_0 (e0 L) (e1 L) (e2 L) (e3 L) (e4 L) (e5 L) (e6 L) (e7 L) (e0 L) (e1 L) 1 := by rw [← hF, Bool.not_not]
    rw [show (!dstC Cl (e0 L) (e1 L) (e2 L) (e3 L) (e4 L) (e5 L) (e6 L) (e7 L) (e0 L) (e1 L) 1) = rfar_0 (e0 L) (e1 L) (e2 L) (e3 L) (e4 L) (e5 L) (e6 L) (e7 L) (e0 L) (e1 L) 1 from hF]
    by_cases h6 : e6 L = 0
    · obtain ⟨n1, n2⟩ := near_ends (a7 := e7 L) E h6 (d := 0) (by decide)
      obtain ⟨n3, n4⟩ := near_ends (a7 := e7 L) E h6 (d := 4) (by decide)
      rw [n1, n2, n3, n4, far_end (a7 := e7 L) E h6, near_min (a7 := e7 L) E h6 (S p0) (S p1) hb (by split <;> omega)]
      simp
    · obtain ⟨n3, n4⟩ := near_arc (a7 := e7 L) E h6 (elem_fit L h6)
      rw [show (e6 L == 0) = false by simpa using h6, n3, n4]
      rfl
  · rfl
theorem lawN_need {p0 : Int} {p1 : Int} {L : List (List Int)} : ∀ q ∈ (lawN_needs p0 p1 L), q := by
  unfold lawN_needs
  simp only [List.forall_mem_cons, List.not_mem_nil, false_implies, implies_true, and_true]
  intro h
  refine ⟨light_len (by simpa using h), by decide, by decide, wrap_isI _, wrap_isI _⟩
set_option maxRecDepth 1000000 in
theorem lawN_runs (p0 p1 : Int) (L : List (List Int)) (hNeeds : ∀ pN ∈ (lawN_needs p0 p1 L), pN) : Runs (runF (sums K_rSqrt) L_rt 6) (lawN_tpl.args [.i p0, .i p1]) (lawN_tpl.memo [.i p0, .i p1] [L]) lawN_tpl.n (SV.one (SC.bool (SB.v (lawN_0 p0 p1 L))))
    ([(0, Obj.row true 3 1 (RowC.lst 1 [CK.int IntKind.i64] L))]) :=
  Runs.of (ps := (lawN_needs p0 p1 L)) (by kernel_rfl) (by kernel_rfl) hNeeds
noncomputable def lawN_out : List Pm → Lss → Option CRes
  | [.i p0, .i p1], [L] => some ⟨SV.one (SC.bool (SB.v (lawN_0 p0 p1 L))),
    [(0, Obj.row true 3 1 (RowC.lst 1 [CK.int IntKind.i64] L))],
    [], [], 6826⟩
  | _, _ => none
theorem lawN_ok : FOk Try.prog 6 (tplS lawN_tpl lawN_out) := by
  refine tplS_ok (runF_ok known_rSqrt 6) fun ps ls r hr hn _ => ?_
  unfold lawN_out at hr
  split at hr
  · cases hr; exact ⟨_, lawN_runs _ _ _ (fun p hp => lawN_need p hp), fun _ => by simp only [SV.den, SC.den, SB.val, lawN_0_eq]⟩
  · cases hr
noncomputable def K_lawN : List (Nat × Summ) := (6, tplS lawN_tpl lawN_out) :: K_rSqrt
theorem known_lawN : Known Try.prog (sums K_lawN) L_rt := known_cons known_rSqrt lawN_ok
end Go.Proofs.Ythgiaoidekdpfaa
