/-
  What is known of the program's functions: lists of summaries. Conditions: none.
-/
import Derived.Test.YthgiaoidekdpfaaGreatSXVec
import Derived.Test.YthgiaoidekdpfaaGreatRows
set_option linter.all false
namespace Go.Proofs.YthgiaoidekdpfaaGreat
open Go.SX Go.RowKit

/-! Short names for what is often printed. -/
noncomputable def Ci (x : Int) : SC := .int .i64 (.v x)
noncomputable def Cb (x : Bool) : SC := .bool (.v x)
noncomputable def ckI : List CK := [.int .i64, .int .i64, .int .i64, .int .i64, .int .i64, .int .i64, .int .i64, .int .i64, .int .i64, .int .i64, .int .i64, .int .i64, .int .i64, .bool, .int .i64, .bool, .int .i64, .int .i64, .int .i64, .int .i64, .int .i64, .bool]
noncomputable def pI : List PC := [.int .i64, .int .i64, .int .i64, .int .i64, .int .i64, .int .i64, .int .i64, .int .i64, .int .i64, .int .i64, .int .i64, .int .i64, .int .i64, .bool, .int .i64, .bool, .int .i64, .int .i64, .int .i64, .int .i64, .int .i64, .bool]
theorem plainN : PlainNames Tryz.prog := by
  have h : Tryz.prog.funcs.toList.all (fun fn => !(fn.name == "runtime.NumGoroutine")) = true := by kernel_rfl
  intro f fn hf
  have := List.all_eq_true.1 h fn (by simpa using List.mem_of_getElem? (by simpa using hf : Tryz.prog.funcs.toList[f]? = some fn))
  simpa using this
/-- Which fields of an item are truth values. -/
noncomputable def itemB : List Bool := [false, false, false, false, false, false, false, false, false, false, false, false, false, true, false, true, false, false, false, false, false, true]
noncomputable def runF (S : FuncId → Option Summ) (L : FuncId → Nat → Option LoopS) (f : FuncId) : Summ := execF Tryz.prog (evalC Tryz.prog S L 100 10) 100 (L f) f
theorem runF_ok {S : FuncId → Option Summ} {L : FuncId → Nat → Option LoopS} (hk : Known Tryz.prog S L) (f : FuncId) : FOk Tryz.prog f (runF S L f) := evalF_ok plainN hk 100 10 f
noncomputable def sums (K : List (Nat × Summ)) : FuncId → Option Summ := fun f => SX.look K f
noncomputable def K0 : List (Nat × Summ) := []
noncomputable def L0 : FuncId → Nat → Option LoopS := fun _ _ => none
theorem known0 : Known Tryz.prog (sums K0) L0 := ⟨(fun _ _ h => by cases h), (fun _ _ _ _ _ _ _ _ _ _ h => by cases h)⟩
theorem known_cons {K : List (Nat × Summ)} {L : FuncId → Nat → Option LoopS} {f : Nat} {s : Summ} (hk : Known Tryz.prog (sums K) L) (hs : FOk Tryz.prog f s) : Known Tryz.prog (sums ((f, s) :: K)) L := by
  refine ⟨fun g t h => ?_, hk.loops⟩
  unfold sums at h
  rw [look_cons] at h
  cases hb : Nat.beq f g
  · rw [hb] at h; exact hk.funcs g t h
  · rw [hb] at h
    cases h
    have := Nat.eq_of_beq_eq_true hb; subst this
    exact hs
/-- One loop more. -/
noncomputable def addL (L : FuncId → Nat → Option LoopS) (f k : Nat) (s : LoopS) : FuncId → Nat → Option LoopS := fun g j => bif Nat.beq f g && Nat.beq k j then some s else L g j
noncomputable def onlyAt (k i0 : Nat) : List (Option Nat) → Nat → Bool
  | [], _ => true
  | some x :: r, i => (!(Nat.beq x k) || Nat.beq i i0) && onlyAt k i0 r (i + 1)
  | none :: r, i => onlyAt k i0 r (i + 1)
theorem onlyAt_spec {k i0 : Nat} : ∀ {l : List (Option Nat)} {j i : Nat}, onlyAt k i0 l j = true → l[i]? = some (some k) → j + i = i0
  | [], _, _, _, h => by cases h
  | some x :: r, j, 0, h, h1 => by
    simp only [onlyAt, Bool.and_eq_true, Bool.or_eq_true, Bool.not_eq_true'] at h
    simp only [List.getElem?_cons_zero, Option.some.injEq] at h1
    subst h1
    rcases h.1 with h2 | h2
    · rw [SX.beq_self] at h2; cases h2
    · exact Nat.eq_of_beq_eq_true h2
  | none :: r, j, 0, h, h1 => by simp at h1
  | some x :: r, j, i + 1, h, h1 => by
    simp only [onlyAt, Bool.and_eq_true] at h
    have := onlyAt_spec h.2 (by simpa using h1)
    omega
  | none :: r, j, i + 1, h, h1 => by
    simp only [onlyAt] at h
    have := onlyAt_spec h (by simpa using h1)
    omega
theorem known_addL {K : List (Nat × Summ)} {L : FuncId → Nat → Option LoopS} {f k : Nat} {s : LoopS} (i0 : Nat) (hk : Known Tryz.prog (sums K) L) (hu : onlyAt k i0 ((loopList Tryz.prog f).map firstR) 0 = true)
    (hs : CodeOk Tryz.prog (ntOf Tryz.prog f) (.loop (loopOf Tryz.prog f i0)) s) : Known Tryz.prog (sums K) (addL L f k s) := by
  refine ⟨hk.funcs, fun g fn b hf hb c hc j t h1 h2 => ?_⟩
  unfold addL at h2
  by_cases h3 : f = g
  · subst h3
    by_cases h4 : k = j
    · subst h4
      simp only [SX.beq_self, Bool.and_self, cond_true, Option.some.injEq] at h2
      subst h2
      have key : LoopsOkF Tryz.prog f (fun j => bif Nat.beq k j then some s else none) := loopsOkF_of fun i hi k' s' h5 h6 => by
        by_cases h7 : k = k'
        · subst h7
          simp only [SX.beq_self, cond_true, Option.some.injEq] at h6
          subst h6
          have := onlyAt_spec hu (i := i) (by rw [List.getElem?_map]; unfold loopOf at h5; cases hl : (loopList Tryz.prog f)[i]? with
            | none => rw [hl] at h5; cases h5
            | some d => rw [hl] at h5; simpa using h5)
          have : i = i0 := by omega
          subst this
          exact hs
        · rw [SX.beq_ne h7] at h6; cases h6
      exact key fn b hf hb c hc k s h1 (by simp)
    · rw [SX.beq_ne h4] at h2
      simp only [Bool.and_false, cond_false] at h2
      exact hk.loops f fn b hf hb c hc j t h1 h2
  · rw [SX.beq_ne h3] at h2
    simp only [Bool.false_and, cond_false] at h2
    exact hk.loops g fn b hf hb c hc j t h1 h2
/-- What is taken from one of many that are right is right. -/
theorem codeOk_of {nt : Nat} {c : Code} {k : Env → Mem → Nat → Option TR} (h : ∀ env mem n x, k env mem n = some x → ∃ k', CodeOk Tryz.prog nt c k' ∧ k' env mem n = some x) : CodeOk Tryz.prog nt c k := by
  intro env mem n x hx
  obtain ⟨k', h1, h2⟩ := h env mem n x hx
  exact h1 env mem n x h2
/-! What stands in a state in front of a loop. -/
noncomputable def eInt (env : Env) (t : Nat) : Option Int := match SX.look env t with
  | some ⟨_, _, _, .one (.int _ (.c n))⟩ => some n
  | some ⟨_, _, _, .one (.int _ (.v n))⟩ => some n
  | _ => none
noncomputable def eRow (ks : List CK) (env : Env) (mem : Mem) (t : Nat) : Option (List (List Int)) := match SX.look env t with
  | some ⟨_, _, _, .one (.wh id)⟩ => (match SX.look mem id with
    | some (.row _ _ _ (.lit _ rows)) => encRows ks rows
    | some (.row _ _ _ (.lst _ _ xs)) => some xs
    | _ => none)
  | some ⟨_, _, _, .one .nilsl⟩ => some []
  | _ => none
noncomputable def intsT : List (Nat × SC) → Option (List Int)
  | [] => some []
  | (_, .int _ (.c n)) :: r => (intsT r).map (n :: ·)
  | (_, .int _ (.v n)) :: r => (intsT r).map (n :: ·)
  | _ => none
noncomputable def mInts (mem : Mem) (id : Nat) : Option (List Int) := match SX.look mem id with
  | some (.blk _ cs) => intsT cs
  | _ => none
/-- One pattern, or another one. -/
noncomputable def orS (s t : Summ) : Summ := fun vs mem n => match s vs mem n with
  | some r => some r
  | none => t vs mem n
theorem orS_ok {f : Nat} {s t : Summ} (hs : FOk Tryz.prog f s) (ht : FOk Tryz.prog f t) : FOk Tryz.prog f (orS s t) := by
  intro vs mem n r h
  unfold orS at h
  split at h
  · rename_i r' h1
    cases h
    exact hs vs mem n _ h1
  · exact ht vs mem n r h
end Go.Proofs.YthgiaoidekdpfaaGreat
