/-
  DECISIONS: which way conditions go, by function and counter. Conditions: none.
-/
import Derived.Test.YthgiaoidekdpfaaGreatA1
set_option linter.all false
namespace Go.Proofs.YthgiaoidekdpfaaGreat
open Go.SX Go.RowKit
noncomputable def decS : List (Nat × Nat × Bool) → Nat → Nat → Option LoopS
  | [], _, _ => none
  | (f, n, w) :: r, g, k => bif Nat.beq f g && Nat.beq (1000000 + n) k then some (fun _ _ m => bif w then some ⟨.leaf .ret [] [], [], [], m⟩ else none) else decS r g k
noncomputable def addD (T : List (Nat × Nat × Bool)) (L : FuncId → Nat → Option LoopS) : FuncId → Nat → Option LoopS := fun f k => bif Nat.ble 1000000 k then decS T f k else L f k
noncomputable def lowB (b : Code) : Bool := (loopsOf b).all fun c => match firstR c with | some j => Nat.blt j 1000000 | none => true
theorem lowAll : Tryz.prog.funcs.toList.all (fun fn => match fn.body with | some b => lowB b | none => true) = true := by kernel_rfl
theorem known_addD {K : List (Nat × Summ)} {L : FuncId → Nat → Option LoopS} (T : List (Nat × Nat × Bool)) (hk : Known Tryz.prog (sums K) L) : Known Tryz.prog (sums K) (addD T L) := by
  refine ⟨hk.funcs, fun g fn b hf hb c hc j t h1 h2 => ?_⟩
  have hl : j < 1000000 := by
    have h := List.all_eq_true.1 lowAll fn (by simpa using List.mem_of_getElem? (by simpa using hf : Tryz.prog.funcs.toList[g]? = some fn))
    rw [hb] at h
    have h := List.all_eq_true.1 (show (loopsOf b).all (fun c => match firstR c with | some j => Nat.blt j 1000000 | none => true) = true from h) c hc
    rw [h1] at h
    exact Nat.le_of_ble_eq_true h
  refine hk.loops g fn b hf hb c hc j t h1 ?_
  unfold addD at h2
  have : Nat.ble 1000000 j = false := by
    cases hq : Nat.ble 1000000 j
    · rfl
    · have := Nat.le_of_ble_eq_true hq; omega
  rw [this] at h2; exact h2
noncomputable def T_push : List (Nat × Nat × Bool) := [(87, 282, false), (62, 344, false), (45, 503, false), (64, 144, false), (64, 596, false), (97, 11427, false), (98, 2377, false), (98, 2379, true), (140, 10837, false), (140, 21646, false), (140, 22911, false), (140, 24186, false), (167, 23, true), (140, 24301, false), (92, 888, false), (95, 543, true), (87, 176, false), (45, 397, false), (63, 361, false), (63, 11709, true), (92, 893, false)]
noncomputable def L_push : FuncId → Nat → Option LoopS := addD T_push L_st
theorem known_push : Known Tryz.prog (sums K_awake) L_push := known_addD T_push known_awake
end Go.Proofs.YthgiaoidekdpfaaGreat
