/-
  ARCRADIUS: the walk. Conditions: none.
-/
import Derived.Test.YtkggdhnliiagjaaV3
import Derived.Test.YtkggdhnliiagjaaD3
set_option linter.all false
namespace Go.Proofs.Ytkggdhnliiagjaa
open Go.SX Go.RowKit
noncomputable def lawR_tpl : Tpl := ⟨[.one (.int .i64), .agg [.int .i64, .int .i64, .int .i64], .agg [.int .i64, .int .i64, .int .i64], .one (.int .i64), .one (.int .i64)], [], 0⟩
noncomputable def lawR_s0 (p : Int) : Int :=
  IntKind.i64.wrap (17 + mod_0 p 3)
noncomputable def lawR_s1 (di : Int) : Int :=
  IntKind.i64.wrap (1 - IntKind.i64.wrap (2 * mod_0 di 2))
noncomputable def lawR_s2 (p : Int) : Int :=
  IntKind.i64.wrap (17 + mod_0 (lawR_s0 p) 3)
noncomputable def lawR_s3 (a : Int) : Int :=
  IntKind.i64.wrap ((between_0 (between_0 a (-1048576) 1048576) (-1048576) 1048576).tdiv 100)
noncomputable def lawR_s6 (a : Int) (d : Int) : Int :=
  IntKind.i64.wrap (lawR_s3 a + between_0 (between_0 (between_0 d (-1048576) 1048576) (-1048576) 1048576) (-300) 300)
noncomputable def lawR_s9 (di : Int) : Int :=
  IntKind.i64.wrap (1 - IntKind.i64.wrap (2 * mod_0 (lawR_s1 di) 2))
noncomputable def lawR_s10 (r : Int) : Int :=
  between_0 (between_0 (between_0 r (-1048576) 1048576) (-1048576) 1048576) (-800) 800
noncomputable def lawR_0 (p : Int) (a : Int) (b : Int) (c : Int) (d : Int) (e : Int) (f : Int) (di : Int) (r : Int) : Bool :=
  bif
      !(aradius_0 p a b c d e f di r == rradius_0 p a b c d e f di r && (aradius_1 p a b c d e f di r == rradius_1 p a b c d e f di r && aradius_2 p a b c d e f di r == rradius_2 p a b c d e f di r)) ||
        aradius_3 p a b c d e f di r != rradius_3 p a b c d e f di r then
    false
  else
    bif
        !(aradius_0 (lawR_s0 p) (between_0 a (-1048576) 1048576) (between_0 b (-1048576) 1048576) (between_0 c (-1048576) 1048576) (between_0 d (-1048576) 1048576) (between_0 e (-1048576) 1048576)
                  (between_0 f (-1048576) 1048576) (lawR_s1 di) (between_0 r (-1048576) 1048576) ==
                rradius_0 (lawR_s0 p) (between_0 a (-1048576) 1048576) (between_0 b (-1048576) 1048576) (between_0 c (-1048576) 1048576) (between_0 d (-1048576) 1048576) (between_0 e (-1048576) 1048576)
                  (between_0 f (-1048576) 1048576) (lawR_s1 di) (between_0 r (-1048576) 1048576) &&
              (aradius_1 (lawR_s0 p) (between_0 a (-1048576) 1048576) (between_0 b (-1048576) 1048576) (between_0 c (-1048576) 1048576) (between_0 d (-1048576) 1048576) (between_0 e (-1048576) 1048576)
                    (between_0 f (-1048576) 1048576) (lawR_s1 di) (between_0 r (-1048576) 1048576) ==
                  rradius_1 (lawR_s0 p) (between_0 a (-1048576) 1048576) (between_0 b (-1048576) 1048576) (between_0 c (-1048576) 1048576) (between_0 d (-1048576) 1048576)
                    (between_0 e (-1048576) 1048576) (between_0 f (-1048576) 1048576) (lawR_s1 di) (between_0 r (-1048576) 1048576) &&
                aradius_2 (lawR_s0 p) (between_0 a (-1048576) 1048576) (between_0 b (-1048576) 1048576) (between_0 c (-1048576) 1048576) (between_0 d (-1048576) 1048576) (between_0 e (-1048576) 1048576)
                    (between_0 f (-1048576) 1048576) (lawR_s1 di) (between_0 r (-1048576) 1048576) ==
                  rradius_2 (lawR_s0 p) (between_0 a (-1048576) 1048576) (between_0 b (-1048576) 1048576) (between_0 c (-1048576) 1048576) (between_0 d (-1048576) 1048576)
                    (between_0 e (-1048576) 1048576) (between_0 f (-1048576) 1048576) (lawR_s1 di) (between_0 r (-1048576) 1048576))) ||
          aradius_3 (lawR_s0 p) (between_0 a (-1048576) 1048576) (between_0 b (-1048576) 1048576) (between_0 c (-1048576) 1048576) (between_0 d (-1048576) 1048576) (between_0 e (-1048576) 1048576)
              (between_0 f (-1048576) 1048576) (lawR_s1 di) (between_0 r (-1048576) 1048576) !=
            rradius_3 (lawR_s0 p) (between_0 a (-1048576) 1048576) (between_0 b (-1048576) 1048576) (between_0 c (-1048576) 1048576) (between_0 d (-1048576) 1048576) (between_0 e (-1048576) 1048576)
              (between_0 f (-1048576) 1048576) (lawR_s1 di) (between_0 r (-1048576) 1048576) then
      false
    else
      bif
          !(aradius_0 (lawR_s2 p) (lawR_s3 a) (lawR_s3 b) (lawR_s3 c) (lawR_s6 a d) (lawR_s6 b e) (lawR_s6 c f) (lawR_s9 di) (lawR_s10 r) ==
                  rradius_0 (lawR_s2 p) (lawR_s3 a) (lawR_s3 b) (lawR_s3 c) (lawR_s6 a d) (lawR_s6 b e) (lawR_s6 c f) (lawR_s9 di) (lawR_s10 r) &&
                (aradius_1 (lawR_s2 p) (lawR_s3 a) (lawR_s3 b) (lawR_s3 c) (lawR_s6 a d) (lawR_s6 b e) (lawR_s6 c f) (lawR_s9 di) (lawR_s10 r) ==
                    rradius_1 (lawR_s2 p) (lawR_s3 a) (lawR_s3 b) (lawR_s3 c) (lawR_s6 a d) (lawR_s6 b e) (lawR_s6 c f) (lawR_s9 di) (lawR_s10 r) &&
                  aradius_2 (lawR_s2 p) (lawR_s3 a) (lawR_s3 b) (lawR_s3 c) (lawR_s6 a d) (lawR_s6 b e) (lawR_s6 c f) (lawR_s9 di) (lawR_s10 r) ==
                    rradius_2 (lawR_s2 p) (lawR_s3 a) (lawR_s3 b) (lawR_s3 c) (lawR_s6 a d) (lawR_s6 b e) (lawR_s6 c f) (lawR_s9 di) (lawR_s10 r))) ||
            aradius_3 (lawR_s2 p) (lawR_s3 a) (lawR_s3 b) (lawR_s3 c) (lawR_s6 a d) (lawR_s6 b e) (lawR_s6 c f) (lawR_s9 di) (lawR_s10 r) !=
              rradius_3 (lawR_s2 p) (lawR_s3 a) (lawR_s3 b) (lawR_s3 c) (lawR_s6 a d) (lawR_s6 b e) (lawR_s6 c f) (lawR_s9 di) (lawR_s10 r) then
        false
      else true
noncomputable def lawR_s11 (p : Int) (a : Int) (b : Int) (c : Int) (d : Int) (e : Int) (f : Int) (di : Int) (r : Int) : Prop :=
  (!(aradius_0 p a b c d e f di r == rradius_0 p a b c d e f di r && (aradius_1 p a b c d e f di r == rradius_1 p a b c d e f di r && aradius_2 p a b c d e f di r == rradius_2 p a b c d e f di r)) ||
      aradius_3 p a b c d e f di r != rradius_3 p a b c d e f di r) =
    false
noncomputable def lawR_s12 (p : Int) (a : Int) (b : Int) (c : Int) (d : Int) (e : Int) (f : Int) (di : Int) (r : Int) : Prop :=
  (!(aradius_0 (lawR_s0 p) (between_0 a (-1048576) 1048576) (between_0 b (-1048576) 1048576) (between_0 c (-1048576) 1048576) (between_0 d (-1048576) 1048576) (between_0 e (-1048576) 1048576)
              (between_0 f (-1048576) 1048576) (lawR_s1 di) (between_0 r (-1048576) 1048576) ==
            rradius_0 (lawR_s0 p) (between_0 a (-1048576) 1048576) (between_0 b (-1048576) 1048576) (between_0 c (-1048576) 1048576) (between_0 d (-1048576) 1048576) (between_0 e (-1048576) 1048576)
              (between_0 f (-1048576) 1048576) (lawR_s1 di) (between_0 r (-1048576) 1048576) &&
          (aradius_1 (lawR_s0 p) (between_0 a (-1048576) 1048576) (between_0 b (-1048576) 1048576) (between_0 c (-1048576) 1048576) (between_0 d (-1048576) 1048576) (between_0 e (-1048576) 1048576)
                (between_0 f (-1048576) 1048576) (lawR_s1 di) (between_0 r (-1048576) 1048576) ==
              rradius_1 (lawR_s0 p) (between_0 a (-1048576) 1048576) (between_0 b (-1048576) 1048576) (between_0 c (-1048576) 1048576) (between_0 d (-1048576) 1048576) (between_0 e (-1048576) 1048576)
                (between_0 f (-1048576) 1048576) (lawR_s1 di) (between_0 r (-1048576) 1048576) &&
            aradius_2 (lawR_s0 p) (between_0 a (-1048576) 1048576) (between_0 b (-1048576) 1048576) (between_0 c (-1048576) 1048576) (between_0 d (-1048576) 1048576) (between_0 e (-1048576) 1048576)
                (between_0 f (-1048576) 1048576) (lawR_s1 di) (between_0 r (-1048576) 1048576) ==
              rradius_2 (lawR_s0 p) (between_0 a (-1048576) 1048576) (between_0 b (-1048576) 1048576) (between_0 c (-1048576) 1048576) (between_0 d (-1048576) 1048576) (between_0 e (-1048576) 1048576)
                (between_0 f (-1048576) 1048576) (lawR_s1 di) (between_0 r (-1048576) 1048576))) ||
      aradius_3 (lawR_s0 p) (between_0 a (-1048576) 1048576) (between_0 b (-1048576) 1048576) (between_0 c (-1048576) 1048576) (between_0 d (-1048576) 1048576) (between_0 e (-1048576) 1048576)
          (between_0 f (-1048576) 1048576) (lawR_s1 di) (between_0 r (-1048576) 1048576) !=
        rradius_3 (lawR_s0 p) (between_0 a (-1048576) 1048576) (between_0 b (-1048576) 1048576) (between_0 c (-1048576) 1048576) (between_0 d (-1048576) 1048576) (between_0 e (-1048576) 1048576)
          (between_0 f (-1048576) 1048576) (lawR_s1 di) (between_0 r (-1048576) 1048576)) =
    false
noncomputable def lawR_needs (p : Int) (a : Int) (b : Int) (c : Int) (d : Int) (e : Int) (f : Int) (di : Int) (r : Int) : List Prop :=
  [lawR_s11 p a b c d e f di r →
      Int.ofNat 3 ≠ 0 ∧
        Int.ofNat 2 ≠ 0 ∧ Int.ofNat 2097153 ≠ 0 ∧ Int.ofNat 2097153 ≠ 0 ∧ Int.ofNat 2097153 ≠ 0 ∧ Int.ofNat 2097153 ≠ 0 ∧ Int.ofNat 2097153 ≠ 0 ∧ Int.ofNat 2097153 ≠ 0 ∧ Int.ofNat 2097153 ≠ 0,
    lawR_s11 p a b c d e f di r →
      (lawR_s12 p a b c d e f di r →
          Int.ofNat 3 ≠ 0 ∧
            Int.ofNat 2 ≠ 0 ∧
              Int.ofNat 2097153 ≠ 0 ∧
                Int.ofNat 2097153 ≠ 0 ∧
                  Int.ofNat 2097153 ≠ 0 ∧
                    Int.ofNat 2097153 ≠ 0 ∧ Int.ofNat 2097153 ≠ 0 ∧ Int.ofNat 2097153 ≠ 0 ∧ Int.ofNat 2097153 ≠ 0 ∧ Int.ofNat 601 ≠ 0 ∧ Int.ofNat 601 ≠ 0 ∧ Int.ofNat 601 ≠ 0 ∧ Int.ofNat 1601 ≠ 0) ∧
        (lawR_s12 p a b c d e f di r →
          (!(aradius_0 (lawR_s2 p) (lawR_s3 a) (lawR_s3 b) (lawR_s3 c) (lawR_s6 a d) (lawR_s6 b e) (lawR_s6 c f) (lawR_s9 di) (lawR_s10 r) ==
                      rradius_0 (lawR_s2 p) (lawR_s3 a) (lawR_s3 b) (lawR_s3 c) (lawR_s6 a d) (lawR_s6 b e) (lawR_s6 c f) (lawR_s9 di) (lawR_s10 r) &&
                    (aradius_1 (lawR_s2 p) (lawR_s3 a) (lawR_s3 b) (lawR_s3 c) (lawR_s6 a d) (lawR_s6 b e) (lawR_s6 c f) (lawR_s9 di) (lawR_s10 r) ==
                        rradius_1 (lawR_s2 p) (lawR_s3 a) (lawR_s3 b) (lawR_s3 c) (lawR_s6 a d) (lawR_s6 b e) (lawR_s6 c f) (lawR_s9 di) (lawR_s10 r) &&
                      aradius_2 (lawR_s2 p) (lawR_s3 a) (lawR_s3 b) (lawR_s3 c) (lawR_s6 a d) (lawR_s6 b e) (lawR_s6 c f) (lawR_s9 di) (lawR_s10 r) ==
                        rradius_2 (lawR_s2 p) (lawR_s3 a) (lawR_s3 b) (lawR_s3 c) (lawR_s6 a d) (lawR_s6 b e) (lawR_s6 c f) (lawR_s9 di) (lawR_s10 r))) ||
                aradius_3 (lawR_s2 p) (lawR_s3 a) (lawR_s3 b) (lawR_s3 c) (lawR_s6 a d) (lawR_s6 b e) (lawR_s6 c f) (lawR_s9 di) (lawR_s10 r) !=
                  rradius_3 (lawR_s2 p) (lawR_s3 a) (lawR_s3 b) (lawR_s3 c) (lawR_s6 a d) (lawR_s6 b e) (lawR_s6 c f) (lawR_s9 di) (lawR_s10 r)) =
              false →
            Int.ofNat 3 ≠ 0 ∧
              Int.ofNat 2 ≠ 0 ∧ Int.ofNat 2097153 ≠ 0 ∧ Int.ofNat 2097153 ≠ 0 ∧ Int.ofNat 2097153 ≠ 0 ∧ Int.ofNat 2097153 ≠ 0 ∧ Int.ofNat 2097153 ≠ 0 ∧ Int.ofNat 2097153 ≠ 0 ∧ Int.ofNat 2097153 ≠ 0)]
theorem lawR_0_eq (p a b c d e f di r : Int) : (lawR_0 p a b c d e f di r) = true := by
  unfold lawR_0 lawR_s2 lawR_s6 lawR_s9 lawR_s10 lawR_s0 lawR_s3 lawR_s1
  have E : ∀ p a b c d e f di r, _ := radius_same
  simp only [E, beq_self_eq_true, bne_self_eq_false, Bool.and_self, Bool.not_true, Bool.or_self, cond_false]
theorem lawR_need {p : Int} {a : Int} {b : Int} {c : Int} {d : Int} {e : Int} {f : Int} {di : Int} {r : Int} : ∀ q ∈ (lawR_needs p a b c d e f di r), q := by
  unfold lawR_needs
  simp only [List.forall_mem_cons, List.not_mem_nil, false_implies, implies_true, and_true]
  repeat' (first | decide | refine And.intro ?_ ?_ | intro _)
set_option maxRecDepth 1000000 in
theorem lawR_runs (p a b c d e f di r : Int) (hNeeds : ∀ pN ∈ (lawR_needs p a b c d e f di r), pN) : Runs (runF (sums K_awake) L_ov 3) (lawR_tpl.args [.i p, .i a, .i b, .i c, .i d, .i e, .i f, .i di, .i r]) (lawR_tpl.memo [.i p, .i a, .i b, .i c, .i d, .i e, .i f, .i di, .i r] []) lawR_tpl.n (SV.one (SC.bool (SB.v (lawR_0 p a b c d e f di r))))
    ([]) :=
  Runs.of (ps := (lawR_needs p a b c d e f di r)) (by kernel_rfl) (by kernel_rfl) hNeeds
noncomputable def lawR_out : List Pm → Lss → Option CRes
  | [.i p, .i a, .i b, .i c, .i d, .i e, .i f, .i di, .i r], [] => some ⟨SV.one (SC.bool (SB.v (lawR_0 p a b c d e f di r))),
    [],
    [], [], 23068⟩
  | _, _ => none
theorem lawR_ok : FOk Try.prog 3 (tplS lawR_tpl lawR_out) := by
  refine tplS_ok (runF_ok known_awake 3) fun ps ls r hr hn _ => ?_
  unfold lawR_out at hr
  split at hr
  · cases hr; exact ⟨_, lawR_runs _ _ _ _ _ _ _ _ _ (fun p hp => lawR_need p hp), fun _ => by simp only [SV.den, SC.den, SB.val, lawR_0_eq]⟩
  · cases hr
noncomputable def K_lawR : List (Nat × Summ) := (3, tplS lawR_tpl lawR_out) :: K_awake
theorem known_lawR : Known Try.prog (sums K_lawR) L_ov := known_cons known_awake lawR_ok
end Go.Proofs.Ytkggdhnliiagjaa
