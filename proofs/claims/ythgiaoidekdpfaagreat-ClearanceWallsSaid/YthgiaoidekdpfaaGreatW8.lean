/-
  The makers: numbers. Conditions: none.
-/
import Derived.Test.YthgiaoidekdpfaaGreatW5
set_option linter.all false
namespace Go.Proofs.YthgiaoidekdpfaaGreat
open Go.SX Go.RowKit
noncomputable def mod_tpl : Tpl := ⟨[.one (.int .i64), .one (.int .i64)], [], 0⟩
noncomputable def mod_0 (a : Int) (b : Int) : Int :=
  bif decide (a.tmod b < 0) then IntKind.i64.wrap (a.tmod b + b) else a.tmod b
noncomputable def mod_needs (b : Int) : List Prop :=
  [b ≠ 0]
set_option maxRecDepth 1000000 in
theorem mod_runs (a b : Int) (hNeeds : ∀ pN ∈ (mod_needs b), pN) : Runs (runF (sums K_addpt) L0 19) (mod_tpl.args [.i a, .i b]) (mod_tpl.memo [.i a, .i b] []) mod_tpl.n (SV.one (SC.int IntKind.i64 (SI.v (mod_0 a b))))
    ([]) :=
  Runs.of1 (ps := (mod_needs b)) (by kernel_rfl) hNeeds
noncomputable def mod_out : List Pm → Lss → Option CRes
  | [.i a, .i b], [] => some ⟨SV.one (SC.int IntKind.i64 (SI.v (mod_0 a b))),
    [],
    (mod_needs b), [], 14⟩
  | _, _ => none
theorem mod_ok : FOk Tryz.prog 19 (tplS mod_tpl mod_out) := by
  refine tplS_ok (runF_ok known_addpt 19) fun ps ls r hr hn _ => ?_
  unfold mod_out at hr
  split at hr
  · cases hr; exact ⟨_, mod_runs _ _ hn, fun _ => rfl⟩
  · cases hr
noncomputable def K_mod : List (Nat × Summ) := (19, tplS mod_tpl mod_out) :: K_addpt
theorem known_mod : Known Tryz.prog (sums K_mod) L0 := known_cons known_addpt mod_ok
noncomputable def between_tpl : Tpl := ⟨[.one (.int .i64), .one (.int .i64), .one (.int .i64)], [], 0⟩
noncomputable def between_0 (a : Int) (b : Int) (c : Int) : Int :=
  IntKind.i64.wrap (b + mod_0 a (IntKind.i64.wrap (IntKind.i64.wrap (c - b) + 1)))
noncomputable def between_needs (b : Int) (c : Int) : List Prop :=
  [IntKind.i64.wrap (IntKind.i64.wrap (c - b) + 1) ≠ 0]
set_option maxRecDepth 1000000 in
theorem between_runs (a b c : Int) (hNeeds : ∀ pN ∈ (between_needs b c), pN) : Runs (runF (sums K_mod) L0 6) (between_tpl.args [.i a, .i b, .i c]) (between_tpl.memo [.i a, .i b, .i c] []) between_tpl.n (SV.one (SC.int IntKind.i64 (SI.v (between_0 a b c))))
    ([]) :=
  Runs.of1 (ps := (between_needs b c)) (by kernel_rfl) hNeeds
noncomputable def between_out : List Pm → Lss → Option CRes
  | [.i a, .i b, .i c], [] => some ⟨SV.one (SC.int IntKind.i64 (SI.v (between_0 a b c))),
    [],
    (between_needs b c), [], 24⟩
  | _, _ => none
theorem between_ok : FOk Tryz.prog 6 (tplS between_tpl between_out) := by
  refine tplS_ok (runF_ok known_mod 6) fun ps ls r hr hn _ => ?_
  unfold between_out at hr
  split at hr
  · cases hr; exact ⟨_, between_runs _ _ _ hn, fun _ => rfl⟩
  · cases hr
noncomputable def K_between : List (Nat × Summ) := (6, tplS between_tpl between_out) :: K_mod
theorem known_between : Known Tryz.prog (sums K_between) L0 := known_cons known_mod between_ok
noncomputable def ent (t : Nat) (v : SV) : Ent := ⟨[], [], t, v⟩
noncomputable def I (x : Int) : SC := .int .i64 (.v x)
noncomputable def U (x : Int) : SC := .int .u64 (.v x)
end Go.Proofs.YthgiaoidekdpfaaGreat
