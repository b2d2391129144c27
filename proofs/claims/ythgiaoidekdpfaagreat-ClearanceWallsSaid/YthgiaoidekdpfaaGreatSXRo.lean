/-
  A ROW THAT A FUNCTION RETURNS, given as a part of a row that is only read. Conditions: the function's summary holds.
-/
import Derived.Test.YthgiaoidekdpfaaGreatSXLevel
set_option linter.all false
namespace Go.SX
open Go.RowKit
/-- A summary whose result, a row of the call's own, is handed back as one that is only read. -/
noncomputable def roS (g : Summ) : Summ := fun vs mem n => match g vs mem n with
  | none => none
  | some r => match r.val with
    | .one (.wh i) => (match look r.mem i with
      | some (.row ro ty k z) => bif wfB r.nx r.mem && Nat.ble n r.nx then some ⟨.one (.sl r.nx k (.c 0) (rowLen z)), (r.nx, .row true ty k z) :: delAll r.mem (r.nx :: bif ro then [] else [i]), r.needs, r.eqs, r.nx + 1⟩ else none
      | _ => none)
    | _ => none
theorem roS_ok {P : Program} {f : FuncId} {g : Summ} (hg : FOk P f g) : FOk P f (roS g) := by
  intro vs mem n r hr hn he hwf hids θ w hm
  unfold roS at hr
  split at hr
  · cases hr
  rename_i q hq
  split at hr
  case h_2 => cases hr
  rename_i i hv
  split at hr
  case h_2 => cases hr
  rename_i ro ty k z hl
  cases hc : (wfB q.nx q.mem && Nat.ble n q.nx)
  · rw [hc] at hr; cases hr
  rw [hc] at hr
  simp only [Bool.and_eq_true] at hc
  cases hr
  obtain ⟨c1, c2⟩ := hg vs mem n _ hq hn he hwf hids θ w hm
  refine ⟨c1, c2.mono fun e w' h => ?_⟩
  obtain ⟨θ', e1, g1, hm1⟩ := h
  obtain ⟨l, hl1, hl2, hl3, hl4⟩ := see_of hl hm1
  obtain ⟨r1, r2, r3⟩ := back_see (l := l) (z := z) (gone := bif ro then [] else [i]) (ty := ty) (esz := k) g1 hm1 (wfB_spec hc.1) (Nat.le_refl _) (Nat.le_of_ble_eq_true hc.2) hl2 hl3 (fun b hb => ⟨i, _, hl, (hl4 b hb).1, by
    rcases (hl4 b hb).2 with rfl | h
    · exact .inl (by simp)
    · exact .inr h⟩)
  refine ⟨_, ?_, r1, r2⟩
  rw [e1, hv]
  show Ending.returned (SC.den θ' (.wh i)) = Ending.returned (SC.den (θ'.set q.nx l) (.sl q.nx k (.c 0) (rowLen z)))
  rw [hl1]
  simp only [SC.den, Th.set_same, rowLen_val]
  simp only [SN.val, Nat.zero_mul, Nat.sub_zero]
  have e2 : l.len = z.rows.length := hl3.2.1
  rw [e2]
  congr 2
  cases l.ad with
  | none => rfl
  | some a => 
    show some a = some (if l.cap = 0 then a else a.add 0)
    split
    · rfl
    · cases a with | mk b o s => simp [Addr.add]
/-- A summary of a function that is given one row of the call's own and only looks at it. -/
noncomputable def roIn (g : Summ) : Summ := fun vs mem n => match vs, mem with
  | [.one (.wh j)], [(i, .row false ty k z)] => bif Nat.beq j i then (match g [.one (.wh i)] [(i, .row true ty k z)] n with
    | some r => bif ownMem (delAll r.mem [i]) && (!(has (idsV r.val) i) && !(has (idsMem (delAll r.mem [i])) i)) then
        some ⟨r.val, delAll r.mem [i] ++ delAll [(i, .row false ty k z)] ([] ++ domain (delAll r.mem [i])), r.needs, r.eqs, r.nx⟩ else none
    | none => none) else none
  | _, _ => none
theorem idsMem_look : ∀ {m : Mem} {id : Nat} {o : Obj}, look m id = some o → id ∈ idsMem m ∧ ∀ i ∈ idsO o, i ∈ idsMem m
  | (a, x) :: r, id, o, h => by
    rw [look_cons] at h
    cases hb : Nat.beq a id
    · rw [hb] at h
      obtain ⟨h1, h2⟩ := idsMem_look h
      exact ⟨by simp [idsMem, h1], fun i hi => by simp [idsMem, h2 i hi]⟩
    · rw [hb] at h; cases h
      have := Nat.eq_of_beq_eq_true hb; subst this
      exact ⟨by simp [idsMem], fun i hi => by simp [idsMem, hi]⟩
theorem roIn_ok {P : Program} {f : FuncId} {g : Summ} (hg : FOk P f g) : FOk P f (roIn g) := by
  intro vs mem n r hr hn he hwf hids θ w hm
  unfold roIn at hr
  split at hr
  case h_2 => cases hr
  rename_i j i ty k z
  cases hj : Nat.beq j i
  · rw [hj] at hr; cases hr
  rw [hj] at hr
  have := Nat.eq_of_beq_eq_true hj; subst this
  simp only [cond_true] at hr
  split at hr
  case h_2 => cases hr
  rename_i q hq
  cases hc : (ownMem (delAll q.mem [j]) && (!(has (idsV q.val) j) && !(has (idsMem (delAll q.mem [j])) j)))
  · rw [hc] at hr; cases hr
  rw [hc] at hr
  simp only [Bool.and_eq_true, Bool.not_eq_true'] at hc
  obtain ⟨hc1, hc2, hc3⟩ := hc
  cases hr
  have nv : ∀ id ∈ idsV q.val, id ≠ j := fun id hid e => by rw [e] at hid; rw [has_iff.2 hid] at hc2; cases hc2
  have nm : ∀ id ∈ idsMem (delAll q.mem [j]), id ≠ j := fun id hid e => by rw [e] at hid; rw [has_iff.2 hid] at hc3; cases hc3
  have hl : look [(j, Obj.row false ty k z)] j = some (.row false ty k z) := by rw [look_cons, beq_self]; rfl
  obtain ⟨l, hl1, hl2, hl3, hl4⟩ := see_of hl hm
  have one : ∀ {id : Nat} {o : Obj}, look [(j, Obj.row true ty k z)] id = some o → id = j ∧ o = .row true ty k z := fun {id o} h => by
    rw [look_cons] at h
    cases hb : Nat.beq j id
    · rw [hb] at h; cases h
    · rw [hb] at h; cases h
      exact ⟨(Nat.eq_of_beq_eq_true hb).symm, rfl⟩
  have hjn : j < n := (hwf j _ hl).1
  have hmr : memRel (θ.set j l) [(j, .row true ty k z)] w := by
    refine ⟨fun id o h => ?_, fun id id' o o' b h h' hne => ?_⟩
    · obtain ⟨rfl, rfl⟩ := one h
      refine ⟨hl2, ?_⟩
      rw [Th.set_same, dens_plain (θ := θ) hl2.ids]
      exact hl3
    · exact absurd ((one h).1.trans (one h').1.symm) hne
  obtain ⟨c1, c2⟩ := hg _ _ _ q hq hn he (fun id o h => by
    obtain ⟨rfl, rfl⟩ := one h
    exact ⟨hjn, fun i hi => by cases hi⟩) hids _ w hmr
  have hvs : [SV.one (.wh j)].map (SV.den (θ.set j l)) = [SV.one (.wh j)].map (SV.den θ) := by
    simp only [List.map_cons, List.map_nil, SV.den]
    rw [hl1]
    simp only [SC.den, Th.set_same]
  rw [hvs] at c2
  refine ⟨c1, c2.mono fun e w' h => ?_⟩
  obtain ⟨θ', e1, g1, m1⟩ := h
  have so : ∀ id, id ≠ j → (θ'.set j (θ j)) id = θ' id := fun id h => by simp [Th.set, h]
  have sub : ∀ id o, look (delAll q.mem [j]) id = some o → id ≠ j ∧ look q.mem id = some o := fun id o h => by
    rw [look_delAll] at h
    split at h
    · cases h
    · rename_i hno
      exact ⟨fun e => hno (by simp [e]), h⟩
  have nob : ∀ id o b, look [(j, Obj.row true ty k z)] id = some o → ((θ.set j l) id).blk ≠ some b := fun id o b h hb => by
    obtain ⟨rfl, rfl⟩ := one h
    rw [Th.set_same, hl3.1] at hb; cases hb
  have newb : ∀ id o b, look (delAll q.mem [j]) id = some o → ((θ'.set j (θ j)) id).blk = some b → w.heap.size ≤ b := fun id o b h hb => by
    obtain ⟨h1, h2⟩ := sub id o h
    rw [so id h1] at hb
    rcases g1.blks id o b h2 hb with h3 | ⟨id0, o0, h3, h4⟩
    · exact h3
    · exact absurd h4 (nob id0 o0 b h3)
  have m0 : memRel θ' (delAll q.mem [j]) w' := ⟨fun id o h => m1.1 id o (sub id o h).2, fun id id' o o' b h h' => m1.2 id id' o o' b (sub id o h).2 (sub id' o' h').2⟩
  have m2 : memRel (θ'.set j (θ j)) (delAll q.mem [j]) w' := memRel_tr (n := 0) (dom := idsMem (delAll q.mem [j])) (fun id h => by
      rcases h with h | h
      · omega
      · exact so id (nm id h)) (fun id h => by
      obtain ⟨o, ho⟩ := look_domain.1 h
      exact .inr (idsMem_look ho).1) m0 (fun id o h i hi => .inr ((idsMem_look h).2 i hi))
  have g2 : Grew n θ [] w (θ'.set j (θ j)) (delAll q.mem [j]) w' := by
    refine { agree := fun id hid => ?_, os := g1.os, tape := g1.tape, output := g1.output, size := g1.size, heap := fun b hb _ => g1.heap b hb fun id o h => nob id o b h, blks := fun id o b h hb => .inl (newb id o b h hb), eyes := fun id o b h hb => .inl (newb id o b h ?_) }
    · by_cases h : id = j
      · rw [h, Th.set_same]
      · rw [so id h, g1.agree id hid]; simp [Th.set, h]
    · exact own_eye (m2.1 id o h) (ownMem_spec hc1 h) hb
  obtain ⟨r1, r2⟩ := memRel_after hwf hm (sub := []) (touched := []) (fun _ _ h => by cases h) (fun _ _ h => by cases h) g2 m2
  refine ⟨_, ?_, r2, r1⟩
  rw [e1]
  congr 1
  exact (SV.den_tr (n := 0) (dom := idsV q.val) (fun id h => by
    rcases h with h | h
    · omega
    · exact so id (nv id h)) (fun i hi => .inr hi)).symm
end Go.SX
