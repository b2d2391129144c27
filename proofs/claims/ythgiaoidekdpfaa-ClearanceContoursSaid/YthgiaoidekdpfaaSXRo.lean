/-
  A ROW THAT A FUNCTION RETURNS, given as a part of a row that is only read. Conditions: the function's summary holds.
-/
import Derived.Test.YthgiaoidekdpfaaSXLevel
set_option linter.all false
namespace Go.SX
open Go.RowKit
/-- A summary whose result, a row of the call's own, is handed back as one that is only read. -/
noncomputable def roS (g : Summ) : Summ := fun vs mem n => match g vs mem n with
  | none => none
  | some r => match r.val with
    | .one (.wh i) => (match look r.mem i with
      | some (.row ro ty k z) => bif wfB r.nx r.mem && Nat.ble n r.nx then some ⟨.one (.sl r.nx k (.c 0) (rowLen z)), (r.nx, .row true ty k z) :: delAll r.mem (r.nx :: bif ro then [] else [i]), r.needs, r.eqs, r.nx + 1⟩ else none
      | _ => none)
    | _ => none
theorem roS_ok {P : Program} {f : FuncId} {g : Summ} (hg : FOk P f g) : FOk P f (roS g) := by
  intro vs mem n r hr hn he hwf hids θ w hm
  unfold roS at hr
  split at hr
  · cases hr
  rename_i q hq
  split at hr
  case h_2 => cases hr
  rename_i i hv
  split at hr
  case h_2 => cases hr
  rename_i ro ty k z hl
  cases hc : (wfB q.nx q.mem && Nat.ble n q.nx)
  · rw [hc] at hr; cases hr
  rw [hc] at hr
  simp only [Bool.and_eq_true] at hc
  cases hr
  obtain ⟨c1, c2⟩ := hg vs mem n _ hq hn he hwf hids θ w hm
  refine ⟨c1, c2.mono fun e w' h => ?_⟩
  obtain ⟨θ', e1, g1, hm1⟩ := h
  obtain ⟨l, hl1, hl2, hl3, hl4⟩ := see_of hl hm1
  obtain ⟨r1, r2, r3⟩ := back_see (l := l) (z := z) (gone := bif ro then [] else [i]) (ty := ty) (esz := k) g1 hm1 (wfB_spec hc.1) (Nat.le_refl _) (Nat.le_of_ble_eq_true hc.2) hl2 hl3 (fun b hb => ⟨i, _, hl, (hl4 b hb).1, by
    rcases (hl4 b hb).2 with rfl | h
    · exact .inl (by simp)
    · exact .inr h⟩)
  refine ⟨_, ?_, r1, r2⟩
  rw [e1, hv]
  show Ending.returned (SC.den θ' (.wh i)) = Ending.returned (SC.den (θ'.set q.nx l) (.sl q.nx k (.c 0) (rowLen z)))
  rw [hl1]
  simp only [SC.den, Th.set_same, rowLen_val]
  simp only [SN.val, Nat.zero_mul, Nat.sub_zero]
  have e2 : l.len = z.rows.length := hl3.2.1
  rw [e2]
  congr 2
  cases l.ad with
  | none => rfl
  | some a => 
    show some a = some (if l.cap = 0 then a else a.add 0)
    split
    · rfl
    · cases a with | mk b o s => simp [Addr.add]
end Go.SX
