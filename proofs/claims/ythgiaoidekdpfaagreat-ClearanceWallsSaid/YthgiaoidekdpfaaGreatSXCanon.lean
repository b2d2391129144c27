/-
  CALLS UNDER NAMES THAT ARE NUMBERED FROM 0 ON, and the evaluator of a whole program. Conditions: what is needed holds; summaries and what is known of loops are right.
-/
import Derived.Test.YthgiaoidekdpfaaGreatSXFunc
set_option linter.all false
namespace Go.SX
open Go.RowKit

theorem numOf_lt {I : List Nat} {id : Nat} : ∀ {k : Nat}, id ∈ I → k ≤ numOf I id k ∧ numOf I id k < k + I.length := by
  induction I with
  | nil => intro k h; cases h
  | cons a r ih =>
    intro k h
    simp only [numOf_nil, numOf_cons]
    by_cases ha : a = id
    · subst ha; simp
    · rw [beq_ne ha]
      have := ih (k := k + 1) ((List.mem_cons.1 h).resolve_left (Ne.symm ha))
      simp only [cond_false, List.length_cons]; omega
theorem nameAt_lt : ∀ {I : List Nat} {n i : Nat}, i < I.length → I[i]? = some (nameAt I n i)
  | [], _, _, h => by simp at h
  | a :: r, n, 0, _ => rfl
  | a :: r, n, i + 1, h => by simpa [nameAt] using nameAt_lt (I := r) (n := n + 1) (by simpa using h)
theorem nameAt_ge : ∀ {I : List Nat} {n i : Nat}, I.length ≤ i → nameAt I n i = n + i
  | [], _, _, _ => rfl
  | a :: r, n, 0, h => by simp at h
  | a :: r, n, i + 1, h => by simp only [nameAt]; rw [nameAt_ge (by simpa using h)]; omega
theorem name_num {I : List Nat} {id n : Nat} : ∀ {k : Nat}, id ∈ I → nameAt I n (numOf I id k - k) = id := by
  induction I generalizing n with
  | nil => intro k h; cases h
  | cons a r ih =>
    intro k h
    simp only [numOf_nil, numOf_cons]
    by_cases ha : a = id
    · subst ha; simp [nameAt]
    · rw [beq_ne ha]
      have hr := (List.mem_cons.1 h).resolve_left (Ne.symm ha)
      have h1 := numOf_lt (k := k + 1) hr
      have h2 := ih (n := n + 1) (k := k + 1) hr
      simp only [cond_false]
      rw [show numOf r id (k + 1) - k = (numOf r id (k + 1) - (k + 1)) + 1 from by omega]
      exact h2
theorem nodupB_spec : ∀ {l : List Nat}, nodupB l = true → l.Nodup
  | [], _ => List.nodup_nil
  | a :: r, h => by
    simp only [nodupB, Bool.and_eq_true, Bool.not_eq_true'] at h
    refine List.nodup_cons.2 ⟨fun hm => ?_, nodupB_spec h.2⟩
    rw [has_iff.2 hm] at h
    exact absurd h.1 (by simp)

/-! ### Values under other names -/
section ren
variable {f : Nat → Nat} {θ θ' : Th}
theorem SC.den_ren {c : SC} (h : ∀ id ∈ idsC c, θ' (f id) = θ id) : (c.ren f).den θ' = c.den θ := by
  cases c <;> simp [SC.ren, SC.den, idsC] at h ⊢ <;> simp [h]
theorem dens_ren : ∀ {cs : List SC}, (∀ id ∈ idsCs cs, θ' (f id) = θ id) → dens θ' (renCs f cs) = dens θ cs
  | [], _ => rfl
  | c :: r, h => by
    simp only [renCs_nil, renCs_cons, dens, List.map_cons, List.cons.injEq]
    exact ⟨SC.den_ren fun id hi => h id (by simp [idsCs_nil, idsCs_cons, hi]), dens_ren fun id hi => h id (by simp [idsCs_nil, idsCs_cons, hi])⟩
theorem renCs_length : ∀ (cs : List SC), (renCs f cs).length = cs.length
  | [] => rfl
  | c :: r => by simp [renCs_nil, renCs_cons, renCs_length r]
theorem tup_ren : ∀ {vs : List (Bool × List SC)}, (∀ id ∈ idsTup vs, θ' (f id) = θ id) → (renTup f vs).map (compDen θ') = vs.map (compDen θ)
  | [], _ => rfl
  | (b, cs) :: r, h => by
    simp only [renTup, List.map_cons, List.cons.injEq]
    exact ⟨by rw [compDen_eq, compDen_eq, dens_ren fun id hi => h id (by simp [idsTup, hi])], tup_ren fun id hi => h id (by simp [idsTup, hi])⟩
theorem SV.den_ren {v : SV} (h : ∀ id ∈ idsV v, θ' (f id) = θ id) : (v.ren f).den θ' = v.den θ := by
  cases v with
  | one c => exact SC.den_ren h
  | agg cs => simp only [SV.ren, SV.den, dens_ren h]
  | tup vs => simp only [SV.ren, SV.den, tup_ren h]
theorem SVs_ren : ∀ {vs : List SV}, (∀ id ∈ idsVs vs, θ' (f id) = θ id) → (renVs f vs).map (SV.den θ') = vs.map (SV.den θ)
  | [], _ => rfl
  | v :: r, h => by
    simp only [renVs, List.map_cons, List.cons.injEq]
    exact ⟨SV.den_ren fun id hi => h id (by simp [idsVs, hi]), SVs_ren fun id hi => h id (by simp [idsVs, hi])⟩
theorem idsC_ren (c : SC) : idsC (c.ren f) = (idsC c).map f := by cases c <;> rfl
theorem idsCs_ren : ∀ (cs : List SC), idsCs (renCs f cs) = (idsCs cs).map f
  | [] => rfl
  | c :: r => by simp [renCs_nil, renCs_cons, idsCs_nil, idsCs_cons, idsC_ren, idsCs_ren r]
theorem idsTup_ren : ∀ (vs : List (Bool × List SC)), idsTup (renTup f vs) = (idsTup vs).map f
  | [] => rfl
  | (b, cs) :: r => by simp [renTup, idsTup, idsCs_ren, idsTup_ren r]
theorem idsV_ren (v : SV) : idsV (v.ren f) = (idsV v).map f := by
  cases v with
  | one c => exact idsC_ren c
  | agg cs => exact idsCs_ren cs
  | tup vs => exact idsTup_ren vs
theorem idsVs_ren : ∀ (vs : List SV), idsVs (renVs f vs) = (idsVs vs).map f
  | [] => rfl
  | v :: r => by simp [renVs, idsVs, idsV_ren, idsVs_ren r]
theorem untag_renT {g : Nat → Nat} : ∀ (cs : List (Nat × SC)), untag (renT f g cs) = renCs f (untag cs)
  | [] => rfl
  | (t, c) :: r => by simp [renT_nil, renT_cons, untag_nil, untag_cons, renCs_nil, renCs_cons, untag_renT r]
theorem untag_retT {g : Nat → Nat} : ∀ (cs : List (Nat × SC)), untag (retT g cs) = untag cs
  | [] => rfl
  | (t, c) :: r => by simp [retT_nil, retT_cons, untag_nil, untag_cons, untag_retT r]
theorem retR_rows {g : Nat → Nat} (r : RowC) : (retR g r).rows = r.rows := by cases r <;> rfl
theorem idsO_ren {g : Nat → Nat} (o : Obj) : idsO (o.ren f g) = (idsO o).map f := by
  cases o with
  | blk ty cs => simp [Obj.ren, idsO, untag_renT, idsCs_ren]
  | row ro ty esz r => rfl
  | crow ty esz len cs => simp [Obj.ren, idsO, untag_renT, idsCs_ren]
  | clo cs => simp [Obj.ren, idsO, idsVs_ren]
  | raw b rs t L k => rfl
theorem objRel_ren {g : Nat → Nat} {w : World} {id : Nat} {o : Obj} (hid : θ' (f id) = θ id) (h : ∀ i ∈ idsO o, θ' (f i) = θ i) (ho : objRel θ w id o) : objRel θ' w (f id) (o.ren f g) := by
  cases o with
  | blk ty cs =>
    obtain ⟨b, h1, h2⟩ := ho
    exact ⟨b, by rw [hid, h1], by rw [h2, untag_renT, dens_ren h]⟩
  | row ro ty esz r =>
    cases ro
    · refine ⟨by rw [retR_rows]; exact ho.1, ?_⟩
      rw [retR_rows, hid, dens_plain (θ := θ) ho.1.ids]; exact ho.2
    · refine ⟨by rw [retR_rows]; exact ho.1, ?_⟩
      rw [retR_rows, hid, dens_plain (θ := θ) ho.1.ids]; exact ho.2
  | crow ty esz len cs => exact ⟨ho.1, by rw [hid, untag_renT, dens_ren h]; exact ho.2⟩
  | clo cs => show θ' (f id) = _; rw [hid, show θ id = _ from ho, SVs_ren h]
  | raw b rs t L k => exact ⟨hid.trans ho.1, ho.2⟩
/-- What stands under a name of the other memory. -/
theorem look_ren {g : Nat → Nat} {o : Obj} {j : Nat} : ∀ {mem : Mem}, look (renMem f g mem) j = some o → ∃ i o', (i, o') ∈ mem ∧ j = f i ∧ o = o'.ren f g ∧ ((∀ i', i' ∈ domain mem → f i' = f i → i' = i) → look mem i = some o')
  | [], h => by cases h
  | (k, x) :: r, h => by
    simp only [renMem, look_nil, look_cons] at h
    by_cases hk : f k = j
    · subst hk
      simp only [beq_self, cond_true, Option.some.injEq] at h
      exact ⟨k, x, by simp, rfl, h.symm, fun _ => by simp [look_nil, look_cons]⟩
    · rw [beq_ne hk] at h
      obtain ⟨i, o', h1, h2, h3, h4⟩ := look_ren h
      refine ⟨i, o', by simp [h1], h2, h3, fun hinj => ?_⟩
      have hne : k ≠ i := fun e => hk (by rw [e, h2])
      simp only [look_nil, look_cons, beq_ne hne, cond_false]
      exact h4 fun i' hi' => hinj i' (by simp [domain, hi'])
end ren
theorem mem_domain {mem : Mem} {i : Nat} {o : Obj} (h : (i, o) ∈ mem) : i ∈ domain mem := by
  induction mem with
  | nil => cases h
  | cons p r ih =>
    obtain ⟨k, x⟩ := p
    rcases List.mem_cons.1 h with h | h
    · cases h; simp [domain]
    · simp [domain, ih h]
theorem mem_idsMem {mem : Mem} {i : Nat} {o : Obj} (h : (i, o) ∈ mem) : i ∈ idsMem mem ∧ ∀ j ∈ idsO o, j ∈ idsMem mem := by
  induction mem with
  | nil => cases h
  | cons p r ih =>
    obtain ⟨k, x⟩ := p
    rcases List.mem_cons.1 h with h | h
    · cases h; simp only [idsMem, List.mem_cons, List.mem_append, true_or, true_and]; exact fun j hj => .inr (.inl hj)
    · obtain ⟨h1, h2⟩ := ih h
      simp only [idsMem, List.mem_cons, List.mem_append]; exact ⟨.inr (.inr h1), fun j hj => .inr (.inr (h2 j hj))⟩
theorem domain_idsMem {mem : Mem} {i : Nat} (h : i ∈ domain mem) : i ∈ idsMem mem := by
  obtain ⟨o, ho⟩ := look_domain.1 h
  exact (look_ids ho).1
theorem mem_addAll' : ∀ {l acc : List Nat} {x : Nat}, x ∈ l → x ∈ addAll acc l
  | a :: r, acc, x, h => by
    simp only [addAll_nil, addAll_cons]
    rcases List.mem_cons.1 h with rfl | h
    · refine mem_addAll ?_
      cases hh : has acc x
      · simp
      · simpa using has_iff.1 hh
    · exact mem_addAll' h

theorem pickMem_look {mem : Mem} : ∀ {I : List Nat} {id : Nat} {o : Obj}, look (pickMem mem I) id = some o → look mem id = some o ∧ id ∈ I
  | [], _, _, h => by cases h
  | a :: r, id, o, h => by
    simp only [pickMem] at h
    split at h
    · rename_i o' ho
      simp only [look_cons] at h
      cases hq : Nat.beq a id
      · rw [hq] at h
        obtain ⟨h1, h2⟩ := pickMem_look h
        exact ⟨h1, by simp [h2]⟩
      · rw [hq] at h; cases h
        have := Nat.eq_of_beq_eq_true hq; subst this
        exact ⟨ho, by simp⟩
    · obtain ⟨h1, h2⟩ := pickMem_look h
      exact ⟨h1, by simp [h2]⟩
section canon
variable {P : Program}
/-- NAMES DO NOT MATTER. -/
theorem canon_ok {f : FuncId} {g : Summ} (hg : FOk P f g) : FOk P f (canon g) := by
  intro vs mem n r h hn he hwf hids θ w hm
  unfold canon at h
  simp only at h
  generalize hI : addAll (addAll [] (idsVs vs)) (idsMem mem) = I at h
  generalize hM : pickMem mem I = M at h
  generalize hT : addAll [] (tagsM M) = T at h
  cases hc : (nodupB I && noNew n I)
  · rw [hc] at h; cases h
  rw [hc] at h
  simp only [Bool.and_eq_true] at hc
  have hnd := nodupB_spec hc.1
  have hIn := noNew_spec hc.2
  simp only [cond_true] at h
  split at h
  case h_2 => cases h
  rename_i rc hrc
  simp only [Option.some.injEq] at h
  generalize hgt : (fun t => bif Nat.blt t (I.length + T.length) then (bif Nat.blt t I.length then n + t else nameAt T n (t - I.length)) else n + t) = gt at h
  subst h
  have hvI : ∀ id ∈ idsVs vs, id ∈ I := fun id h => by rw [← hI]; exact mem_addAll (mem_addAll' h)
  have hmI : ∀ id ∈ idsMem mem, id ∈ I := fun id h => by rw [← hI]; exact mem_addAll' h
  have hnum : ∀ id ∈ I, numOf I id 0 < I.length ∧ nameAt I n (numOf I id 0) = id := fun id h => ⟨by have := (numOf_lt (k := 0) h).2; omega, by have := name_num (n := n) (k := 0) h; simpa using this⟩
  have hnumi : ∀ a ∈ I, ∀ b ∈ I, numOf I a 0 = numOf I b 0 → a = b := fun a ha b hb e => by rw [← (hnum a ha).2, e, (hnum b hb).2]
  -- the placement of the numbers
  obtain ⟨φ, hφ⟩ : ∃ φ : Th, ∀ i, φ i = if i < I.length then θ (nameAt I n i) else Loc.none := ⟨_, fun _ => rfl⟩
  have hθc : ∀ id ∈ I, φ (numOf I id 0) = θ id := fun id h => by
    obtain ⟨h1, h2⟩ := hnum id h
    rw [hφ, if_pos h1, h2]
  have hlookc : ∀ i oc, look (renMem (fun id => numOf I id 0) (fun t => numOf T t I.length) M) i = some oc → ∃ id o, look mem id = some o ∧ id ∈ I ∧ i = numOf I id 0 ∧ oc = o.ren (fun id => numOf I id 0) (fun t => numOf T t I.length) ∧ ∀ j ∈ idsO o, j ∈ I := by
    intro i oc hl
    obtain ⟨id, o, h1, h2, h3, h4⟩ := look_ren hl
    have hdom : ∀ i', i' ∈ domain M → i' ∈ I := fun i' hi' => by
      obtain ⟨o', ho'⟩ := look_domain.1 hi'
      rw [← hM] at ho'
      exact (pickMem_look ho').2
    have hid := hdom id (mem_domain h1)
    have h5 := h4 fun i' hi' hq => hnumi i' (hdom i' hi') id hid hq
    rw [← hM] at h5
    have h5 := (pickMem_look h5).1
    exact ⟨id, o, h5, hid, h2, h3, fun j hj => hmI j ((look_ids h5).2 j hj)⟩
  have hmc : memRel φ (renMem (fun id => numOf I id 0) (fun t => numOf T t I.length) M) w := by
    refine ⟨fun i oc hl => ?_, fun i i' oc oc' b hl hl' hne hb => ?_⟩
    · obtain ⟨id, o, h1, h2, rfl, rfl, h3⟩ := hlookc i oc hl
      exact objRel_ren (f := fun id => numOf I id 0) (hθc id h2) (fun j hj => hθc j (h3 j hj)) (hm.1 id o h1)
    · obtain ⟨id, o, h1, h2, rfl, rfl, h3⟩ := hlookc i oc hl
      obtain ⟨id', o', h1', h2', rfl, rfl, h3'⟩ := hlookc i' oc' hl'
      rw [hθc id h2] at hb
      rw [hθc id' h2']
      exact hm.2 id id' o o' b h1 h1' (fun e => hne (by rw [e])) hb
  have hwfc : wfMem (I.length + T.length) (renMem (fun id => numOf I id 0) (fun t => numOf T t I.length) M) := by
    intro i oc hl
    obtain ⟨id, o, h1, h2, rfl, rfl, h3⟩ := hlookc i oc hl
    refine ⟨Nat.lt_of_lt_of_le (hnum id h2).1 (Nat.le_add_right _ _), fun j hj => ?_⟩
    rw [idsO_ren, List.mem_map] at hj
    obtain ⟨j', hj', rfl⟩ := hj
    exact Nat.lt_of_lt_of_le (hnum j' (h3 j' hj')).1 (Nat.le_add_right _ _)
  have hidc : ∀ i ∈ idsVs (renVs (fun id => numOf I id 0) vs), i < I.length + T.length := by
    intro i hi
    rw [idsVs_ren, List.mem_map] at hi
    obtain ⟨j, hj, rfl⟩ := hi
    exact Nat.lt_of_lt_of_le (hnum j (hvI j hj)).1 (Nat.le_add_right _ _)
  obtain ⟨h1, h2⟩ := hg _ _ _ rc hrc hn he hwfc hidc _ w hmc
  refine ⟨h1, ?_⟩
  rw [SVs_ren (f := fun id => numOf I id 0) (θ := θ) fun id hid => hθc id (hvI id hid)] at h2
  refine h2.mono fun e w' ⟨θc', he', G, hm'⟩ => ?_
  -- back
  have hin : ∀ i, i < I.length → nameAt I n i < n := fun i hi => hIn _ (List.mem_of_getElem? (nameAt_lt (n := n) hi))
  obtain ⟨ψ, hψ⟩ : ∃ ψ : Th, ∀ id, ψ id = if id < n then θ id else θc' (id - n) := ⟨_, fun _ => rfl⟩
  have hθ' : ∀ i, ψ (nameAt I n i) = θc' i := by
    intro i
    by_cases hi : i < I.length
    · rw [hψ, if_pos (hin i hi), G.agree i (Nat.lt_of_lt_of_le hi (Nat.le_add_right _ _)), hφ, if_pos hi]
    · rw [nameAt_ge (by omega), hψ, if_neg (by omega)]
      congr 1; omega
  have hinj : ∀ i j, nameAt I n i = nameAt I n j → i = j := by
    intro i j hij
    by_cases hi : i < I.length <;> by_cases hj : j < I.length
    · have e1 := nameAt_lt (n := n) hi
      have e2 := nameAt_lt (n := n) hj
      rw [hij, ← e2] at e1
      exact (List.getElem?_inj hi hnd).1 e1
    · have := hin i hi; rw [hij, nameAt_ge (by omega)] at this; omega
    · have := hin j hj; rw [← hij, nameAt_ge (by omega)] at this; omega
    · rw [nameAt_ge (by omega), nameAt_ge (by omega)] at hij; omega
  have hlook' : ∀ j o', look (renMem (nameAt I n) gt rc.mem) j = some o' → ∃ i o, look rc.mem i = some o ∧ j = nameAt I n i ∧ o' = o.ren (nameAt I n) gt := by
    intro j o' hl
    obtain ⟨i, o, _, h2, h3, h4⟩ := look_ren hl
    exact ⟨i, o, h4 fun i' _ hq => hinj i' i hq, h2, h3⟩
  refine ⟨ψ, by rw [he', SV.den_ren (f := nameAt I n) fun i _ => hθ' i], ?_, ?_⟩
  · have back : ∀ i oc, look (renMem (fun id => numOf I id 0) (fun t => numOf T t I.length) M) i = some oc → ∃ id o, look mem id = some o ∧ θ id = φ i := by
      intro i oc hl
      obtain ⟨id, o, h1, h2, rfl, rfl, h3⟩ := hlookc i oc hl
      exact ⟨id, o, h1, (hθc id h2).symm⟩
    refine { agree := fun id hid => by rw [hψ, if_pos hid], os := G.os, tape := G.tape, output := G.output, size := G.size, heap := fun b hb hno => G.heap b hb fun i oc hl => ?_, blks := fun j o' b hl hb => ?_, eyes := fun j o' b hl hb => ?_ }
    · obtain ⟨id, o, h1, h2⟩ := back i oc hl
      rw [← h2]; exact hno id o h1
    · obtain ⟨i, o, h1, rfl, rfl⟩ := hlook' j o' hl
      rw [hθ' i] at hb
      rcases G.blks i o b h1 hb with h | ⟨i0, o0, h2, h3⟩
      · exact .inl h
      · obtain ⟨id, o, h4, h5⟩ := back i0 o0 h2
        exact .inr ⟨id, o, h4, by rw [h5]; exact h3⟩
    · obtain ⟨i, o, h1, rfl, rfl⟩ := hlook' j o' hl
      rw [hθ' i] at hb
      rcases G.eyes i o b h1 hb with h | ⟨i0, o0, h2, h3⟩
      · exact .inl h
      · obtain ⟨id, o, h4, h5⟩ := back i0 o0 h2
        exact .inr ⟨id, o, h4, by rw [h5]; exact h3⟩
  · refine ⟨fun j o' hl => ?_, fun j j' o o' b hl hl' hne hb => ?_⟩
    · obtain ⟨i, o, h1, rfl, rfl⟩ := hlook' j o' hl
      exact objRel_ren (hθ' i) (fun i' _ => hθ' i') (hm'.1 i o h1)
    · obtain ⟨i, o1, h1, rfl, rfl⟩ := hlook' j o hl
      obtain ⟨i', o1', h1', rfl, rfl⟩ := hlook' j' o' hl'
      rw [hθ' i] at hb
      rw [hθ' i']
      exact hm'.2 i i' o1 o1' b h1 h1' (fun e => hne (by rw [e])) hb

theorem orElse_ok {f : FuncId} {s : Option Summ} {g : Summ} (hs : ∀ s', s = some s' → FOk P f s') (hg : FOk P f g) : FOk P f (orElse s g) := by
  intro vs mem n r h
  unfold orElse at h
  split at h
  · rename_i s'
    split at h
    · rename_i r' hr
      cases h
      exact hs s' rfl vs mem n r hr
    · exact hg vs mem n r h
  · exact hg vs mem n r h
/-- What is known of functions and of loops is right. -/
structure Known (P : Program) (S : FuncId → Option Summ) (L : FuncId → Nat → Option LoopS) : Prop where
  funcs : ∀ f s, S f = some s → FOk P f s
  loops : ∀ f, LoopsOkF P f (L f)
theorem evalC_ok (hp : PlainNames P) {S : FuncId → Option Summ} {L : FuncId → Nat → Option LoopS} (hk : Known P S L) (fuel : Nat) : ∀ k, CESound P (evalC P S L fuel k)
  | 0 => by intro f vs mem n r h; cases h
  | k + 1 => fun f => canon_ok (orElse_ok (hk.funcs f) (execF_ok hp (evalC_ok hp hk fuel k) fuel (L f) f (hk.loops f)))
/-- One function, run. -/
theorem evalF_ok (hp : PlainNames P) {S : FuncId → Option Summ} {L : FuncId → Nat → Option LoopS} (hk : Known P S L) (fuel k : Nat) (f : FuncId) : FOk P f (execF P (evalC P S L fuel k) fuel (L f) f) :=
  execF_ok hp (evalC_ok hp hk fuel k) fuel (L f) f (hk.loops f)
/-- A CALL OF A FUNCTION OF VALUES. -/
theorem calls_of {f : FuncId} {g : Summ} (hg : FOk P f g) {vs : List SV} {n : Nat} {r : CRes} (h : g vs [] n = some r)
    (hn : ∀ p ∈ r.needs, p) (he : ∀ p ∈ r.eqs, p.1 = p.2) (hi : idsVs vs = []) {args : Array Value} {v : Value} (ha : ∀ θ, (vs.map (SV.den θ)).toArray = args) (hv : ∀ θ, r.val.den θ = v) (w : World) (hf : f < 1000000 := by decide) :
    Calls P f args w fun e w' => e = .returned v ∧ Below w.heap.size w w' := by
  have h1 := (hg vs [] n r h hn he (fun _ _ h => by cases h) (by rw [hi]; simp) Th.none w (memRel_nil Th.none w)).2.1 hf
  rw [ha] at h1
  refine h1.mono fun e w' ⟨θ', he, g, _⟩ => ⟨by rw [he, hv], ⟨g.os, g.tape, g.output, g.size, fun b hb => g.heap b hb fun _ _ h => by cases h⟩⟩
end canon
end Go.SX
