/-
  CUTTER AND CLEARANCE: what is known for the law's run. Conditions: none.
-/
import Derived.Test.YthgiaoidekdpfaaGreatPU1
import Derived.Test.YthgiaoidekdpfaaGreatPU3
import Derived.Test.YthgiaoidekdpfaaGreatPU4
import Derived.Test.YthgiaoidekdpfaaGreatPU6
import Derived.Test.YthgiaoidekdpfaaGreatCK
import Derived.Test.YthgiaoidekdpfaaGreatSXRo
set_option linter.all false
namespace Go.Proofs.YthgiaoidekdpfaaGreat
open Go.SX Go.RowKit
/-- The function is marked: it looks at a row and makes a new one. -/
noncomputable def markS : Summ := fun _ _ n => some ⟨.one .nilp, [], [False], [], n⟩
theorem mark_ok (P : Program) (f : FuncId) : FOk P f markS := fun _ _ _ r h hn => by cases h; exact absurd (hn False (by simp)) id
noncomputable def T_law : List (Nat × Nat × Bool) := [(26, 240, true), (26, 485, true), (26, 730, true), (26, 975, true), (7, 1694, false), (7, 3349, false), (7, 5004, false), (7, 6659, false), (7, 8344, false), (7, 9999, false), (7, 11654, false), (7, 13309, false), (7, 1692, true), (11, 62, false), (11, 64, false), (11, 78, false)]
noncomputable def L_law : FuncId → Nat → Option LoopS := addD T_law L_st
noncomputable def K_mk : List (Nat × Summ) := (3000026, markS) :: K_capart
theorem known_mk : Known Tryz.prog (sums K_mk) L_law := known_addD T_law ⟨(known_cons known_capart (mark_ok Tryz.prog 3000026)).funcs, known_awake.loops⟩
noncomputable def K_pu : List (Nat × Summ) := (9, roIn (runF (sums K_mk) L_law 9)) :: (23, orS (tplS u3_tpl u3_out) (orS (tplS u4_tpl u4_out) (orS (tplS u6_tpl u6_out) (orS (tplS u2_tpl u2_out) (tplS u1_tpl u1_out))))) :: K_mk
theorem known_law : Known Tryz.prog (sums K_pu) L_law := known_cons (known_cons known_mk (orS_ok u3_ok (orS_ok u4_ok (orS_ok u6_ok (orS_ok u2_ok u1_ok))))) (roIn_ok (runF_ok known_mk 9))
end Go.Proofs.YthgiaoidekdpfaaGreat
