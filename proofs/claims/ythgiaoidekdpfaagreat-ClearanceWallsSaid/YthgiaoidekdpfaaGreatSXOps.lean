/-
  EACH OPERATION: what the evaluator says of it is what the model does. Conditions: what is needed holds; the callees are right.
-/
import Derived.Test.YthgiaoidekdpfaaGreatSXRel
import Derived.Laws.CopyRow
import Derived.Deep.MidRow
set_option linter.all false
namespace Go.SX
open Go.RowKit

/-! ### The frame -/
noncomputable def holds (a : Act) (g : List (Nat × Bool)) : Prop := ∀ p ∈ g, a.tmps[p.1]? = some (.bool p.2)
noncomputable def gxs (gx : List (Bool × Bool)) : Prop := ∀ p ∈ gx, p.1 = p.2
noncomputable def entRel (θ : Th) (a : Act) (t : Nat) (e : Ent) : Prop :=
  (holds a e.g → a.tmps[t]? = some (e.val.den θ) ∧ gxs e.gx) ∧ (¬ holds a e.g → a.tmps[t]? = some undef)

theorem cellOf_den (θ : Th) : ∀ {v : Value} {c : SC}, cellOf v = some c → c.den θ = v ∧ idsC c = [] := by
  intro v c h
  unfold cellOf at h
  split at h <;> first | (cases h; exact ⟨rfl, rfl⟩) | (cases h)
theorem cellsOf_den (θ : Th) : ∀ {l : List Value} {cs : List SC}, cellsOf l = some cs → dens θ cs = l ∧ idsCs cs = []
  | [], cs, h => by cases h; exact ⟨rfl, rfl⟩
  | v :: r, cs, h => by
    simp only [cellsOf] at h
    split at h
    · rename_i c cs' h1 h2
      cases h
      obtain ⟨h3, h4⟩ := cellOf_den θ h1
      obtain ⟨h5, h6⟩ := cellsOf_den θ h2
      exact ⟨by simp only [dens, List.map_cons, h3] at h5 ⊢; rw [h5], by simp [idsCs_nil, idsCs_cons, h4, h6]⟩
    · cases h
theorem ofConst_den (θ : Th) {v : Value} {x : SV} (h : ofConst v = some x) : x.den θ = v ∧ idsV x = [] := by
  unfold ofConst at h
  split at h
  · rename_i cs
    cases h1 : cellsOf cs.toList with
    | none => rw [h1] at h; cases h
    | some l =>
      rw [h1] at h; cases h
      obtain ⟨h2, h3⟩ := cellsOf_den θ h1
      exact ⟨by simp [SV.den, h2], h3⟩
  · cases h1 : cellOf v with
    | none => rw [h1] at h; cases h
    | some c =>
      rw [h1] at h; cases h
      exact cellOf_den θ h1

theorem gmem_spec {x : Nat × Bool} : ∀ {l : List (Nat × Bool)}, gmem x l = true → x ∈ l
  | [], h => by cases h
  | b :: r, h => by
    simp only [gmem_nil, gmem_cons, Bool.or_eq_true, Bool.and_eq_true, beq_iff_eq] at h
    rcases h with ⟨h1, h2⟩ | h
    · have := Nat.eq_of_beq_eq_true h1
      exact List.mem_cons.2 (.inl (Prod.ext this h2))
    · exact List.mem_cons_of_mem _ (gmem_spec h)
theorem gsub_spec : ∀ {g h : List (Nat × Bool)}, gsub g h = true → ∀ p ∈ g, p ∈ h
  | [], _, _, _, hp => by cases hp
  | a :: r, h, hs, p, hp => by
    simp only [gsub_nil, gsub_cons, Bool.and_eq_true] at hs
    rcases List.mem_cons.1 hp with rfl | hp
    · exact gmem_spec hs.1
    · exact gsub_spec hs.2 p hp
theorem holds_sub {a : Act} {g h : List (Nat × Bool)} (hs : gsub g h = true) (hh : holds a h) : holds a g := fun p hp => hh p (gsub_spec hs p hp)

section ops
variable {P : Program} {θ : Th} {a : Act} {env : Env} {g : List (Nat × Bool)} {n : Nat}

theorem arg_spec {x : Operand} {v : SV} (h : arg env g x = some v) (hr : ∀ t ∈ slotsOf [x], ∀ e, look env t = some e → entRel θ a t e) (hg : holds a g) : a.eval x = v.den θ := by
  cases x with
  | tmp t =>
    simp only [arg] at h
    split at h
    · rename_i e he
      cases hs : gsub e.g g
      · rw [hs] at h; cases h
      · rw [hs] at h; cases h
        have := ((hr t (by simp [slotsOf]) e he).1 (holds_sub hs hg)).1
        simp [Act.eval, this]
    · cases h
  | const v' => exact ((ofConst_den θ h).1).symm
  | func f => cases h; rfl
  | global _ => cases h
theorem arg_ids {x : Operand} {v : SV} (h : arg env g x = some v) (hw : ∀ t e, look env t = some e → ∀ id ∈ idsV e.val, id < n) : ∀ id ∈ idsV v, id < n := by
  cases x with
  | tmp t =>
    simp only [arg] at h
    split at h
    · rename_i e he
      cases hs : gsub e.g g
      · rw [hs] at h; cases h
      · rw [hs] at h; cases h
        exact hw t e he
    · cases h
  | const v' => rw [(ofConst_den Th.none h).2]; simp
  | func f => cases h; simp [idsV, idsC]
  | global _ => cases h
theorem slotsOf_cons (x : Operand) (r : List Operand) : slotsOf (x :: r) = slotsOf [x] ++ slotsOf r := by cases x <;> rfl
theorem args_spec : ∀ {xs : List Operand} {vs : List SV}, args env g xs = some vs → (∀ t ∈ slotsOf xs, ∀ e, look env t = some e → entRel θ a t e) → holds a g → xs.map a.eval = vs.map (SV.den θ)
  | [], vs, h, _, _ => by cases h; rfl
  | x :: r, vs, h, hr, hg => by
    simp only [args] at h
    split at h
    · rename_i v vs' h1 h2
      cases h
      rw [slotsOf_cons] at hr
      simp only [List.map_cons, arg_spec h1 (fun t ht => hr t (by simp [ht])) hg, args_spec h2 (fun t ht => hr t (by simp [ht])) hg]
    · cases h
theorem args_ids : ∀ {xs : List Operand} {vs : List SV}, args env g xs = some vs → (∀ t e, look env t = some e → ∀ id ∈ idsV e.val, id < n) → ∀ id ∈ idsVs vs, id < n
  | [], vs, h, _ => by cases h; simp [idsVs]
  | x :: r, vs, h, hw => by
    simp only [args] at h
    split at h
    · rename_i v vs' h1 h2
      cases h
      intro id hid
      simp only [idsVs, List.mem_append] at hid
      exact hid.elim (arg_ids h1 hw id) (args_ids h2 hw id)
    · cases h
end ops

structure EffRel (n : Nat) (θ : Th) (w : World) (sub : Mem) (e : Eff) (v : Value) (θ' : Th) (w' : World) : Prop where
  val : v = match e.val with | some x => x.den θ' | none => undef
  grew : Grew n θ sub w θ' e.ups w'
  mem : memRel θ' e.ups w'

/-- A CALL: of a function (below the line), or of the yield of a loop (from the line on). -/
noncomputable def CallsY (P : Program) (f : FuncId) (vs : Array Value) (w : World) (R : Ending → World → Prop) : Prop :=
  (f < 1000000 → Calls P f vs w R) ∧
  (1000000 ≤ f → ∃ l as, vs = #[.func (.yield l) #[] #[]] ++ as ∧ ∃ fn tmps assign body, (Instr.yield l as).run P w = .ok (.round l fn tmps assign body) w ∧ RoundIn Fence.wide 0 P l fn tmps assign body w R)
theorem CallsY.mono {P : Program} {f : FuncId} {vs : Array Value} {w : World} {R R' : Ending → World → Prop} (h : CallsY P f vs w R) (hr : ∀ e w, R e w → R' e w) : CallsY P f vs w R' :=
  ⟨fun hf => (h.1 hf).mono hr, fun hf => by
    obtain ⟨l, as, h1, fn, tmps, assign, body, h2, h3⟩ := h.2 hf
    exact ⟨l, as, h1, fn, tmps, assign, body, h2, h3.mono hr⟩⟩
theorem CallsY.of {P : Program} {f : FuncId} {vs : Array Value} {w : World} {R : Ending → World → Prop} (hf : f < 1000000) (h : Calls P f vs w R) : CallsY P f vs w R :=
  ⟨fun _ => h, fun h' => absurd hf (Nat.not_lt.2 h')⟩
noncomputable def CESound (P : Program) (ce : CE) : Prop :=
  ∀ f vs mem n r, ce f vs mem n = some r → (∀ p ∈ r.needs, p) → (∀ p ∈ r.eqs, p.1 = p.2) → wfMem n mem → (∀ id ∈ idsVs vs, id < n) →
    ∀ θ w, memRel θ mem w → (f < 1000000 → ∃ fn, P.funcs[f]? = some fn ∧ fn.body.isSome = true) ∧
      CallsY P f (vs.map (SV.den θ)).toArray w fun e w' => ∃ θ', e = .returned (r.val.den θ') ∧ Grew n θ mem w θ' r.mem w' ∧ memRel θ' r.mem w'

noncomputable def PlainNames (P : Program) : Prop := ∀ (f : Nat) (fn : Func), P.funcs[f]? = some fn → (fn.name == "runtime.NumGoroutine") = false

theorem run_callFunc {P : Program} (hp : PlainNames P) {f : Nat} {fn : Func} (hf : P.funcs[f]? = some fn) (hb : fn.body.isSome = true) (as : Array Value) (w : World) :
    (callFunc f as).run P w = .ok (.enter f as) w := by
  have h1 := hp f fn hf
  have h2 : fn.body.isNone = false := by cases h : fn.body <;> simp_all
  unfold callFunc
  simp only [Sem.run_bind, run_program, Result.andThen_ok, hf, h1, h2, Bool.false_eq_true, if_false, Sem.run_pure]

theorem memRel_nil (θ : Th) (w : World) : memRel θ [] w := ⟨fun _ _ h => (by cases h), fun _ _ _ _ _ h => (by cases h)⟩
theorem Grew.none (n : Nat) (θ : Th) (mem : Mem) (w : World) : Grew n θ mem w θ [] w := (Grew.refl n θ mem w).sub fun _ _ h => by cases h
theorem EffRel.pure {n : Nat} {θ : Th} {w : World} {sub : Mem} {e : Eff} {x : SV} (h1 : e.val = some x) (h2 : e.ups = []) : EffRel n θ w sub e (x.den θ) θ w :=
  ⟨by rw [h1], by rw [h2]; exact Grew.none _ _ _ _, by rw [h2]; exact memRel_nil _ _⟩

/-- The shape of what follows an operation. -/
abbrev Then (K : Act → World → Prop) (o : Oper) (a : Act) (n : Nat) (θ : Th) (w : World) (sub : Mem) (e : Eff) : Prop :=
  ∀ v θ' w', EffRel n θ w sub e v θ' w' → K (a.put o.dst v) w'

theorem wp_value {P : Program} {o : Oper} {a : Act} {w w' : World} {v : Value} {K : Act → World → Prop} {Q : Exit → Act → World → Prop}
    (h : (execOp a.eval o).run P w = .ok (.value v) w') (hk : K (a.put o.dst v) w') : o.wp P a w K Q := by
  unfold Oper.wp; rw [h]; exact hk
theorem wp_skip' {P : Program} {o : Oper} {a : Act} {w w' : World} {K : Act → World → Prop} {Q : Exit → Act → World → Prop}
    (h : (execOp a.eval o).run P w = .ok .skip w') (hk : K (a.put o.dst undef) w') : o.wp P a w K Q := by
  unfold Oper.wp; rw [h]; exact hk
theorem run_v {P : Program} {s : Sem Value} {v : Value} {w w' : World} (h : s.run P w = .ok v w') : (do pure (Next.value (← s)) : Sem Next).run P w = .ok (.value v) w' := by
  simp only [Sem.run_bind, h, Result.andThen_ok, Sem.run_pure]
theorem run_u {P : Program} {s : Sem Unit} {w w' : World} (h : s.run P w = .ok () w') : (do s; pure Next.skip : Sem Next).run P w = .ok .skip w' := by
  simp only [Sem.run_bind, h, Result.andThen_ok, Sem.run_pure]

theorem untag_tagged (cs : List SC) : ∀ n, untag (tagged n cs) = cs := by
  induction cs with
  | nil => intro n; rfl
  | cons c r ih => intro n; simp [tagged_nil, tagged_cons, untag_nil, untag_cons, ih]
theorem SV.cells_den (θ : Th) {v : SV} {cs : List SC} (h : v.cells = some cs) : (v.den θ).cells = (dens θ cs).toArray := by
  cases v with
  | one c => cases h; simp [SV.den, SC.den_one, dens]
  | agg l => cases h; rfl
  | tup l => cases h
theorem SV.cells_ids {v : SV} {cs : List SC} (h : v.cells = some cs) : idsCs cs = idsV v := by
  cases v with
  | one c => cases h; simp [idsCs_nil, idsCs_cons, idsV]
  | agg l => cases h; rfl
  | tup l => cases h

/-- A new object under a new name. -/
noncomputable def Th.set (θ : Th) (n : Nat) (l : Loc) : Th := fun id => if id = n then l else θ id
theorem Th.set_agree (θ : Th) (n : Nat) (l : Loc) : Agree n θ (θ.set n l) := fun id hi => by simp [Th.set, Nat.ne_of_lt hi]
theorem Th.set_same (θ : Th) (n : Nat) (l : Loc) : θ.set n l n = l := by simp [Th.set]
theorem look_one {α : Type} {n id : Nat} {x y : α} (h : look [(n, x)] id = some y) : id = n ∧ y = x := by
  simp only [look_nil, look_cons] at h
  cases hq : Nat.beq n id
  · rw [hq] at h; cases h
  · rw [hq] at h; cases h
    exact ⟨(Nat.eq_of_beq_eq_true hq).symm, rfl⟩
/-- AN EFFECT THAT MAKES ONE NEW OBJECT, in new blocks or in none. -/
theorem new_obj {n : Nat} {θ : Th} {w w' : World} {sub : Mem} (l : Loc) (ob : Obj) {e : Eff} {x : SV} {v : Value} (h1 : e.val = some x) (h2 : e.ups = [(n, ob)]) (hv : v = x.den (θ.set n l))
    (ho : objRel (θ.set n l) w' n ob) (hos : w'.os = w.os) (htape : w'.tape = w.tape) (hout : w'.output = w.output) (hsz : w.heap.size ≤ w'.heap.size) (hheap : ∀ b, b < w.heap.size → w'.heap[b]? = w.heap[b]?)
    (hl : ∀ b, l.eye = some b → w.heap.size ≤ b) : EffRel n θ w sub e v (θ.set n l) w' := by
  refine ⟨by rw [h1]; exact hv, ⟨Th.set_agree _ _ _, hos, htape, hout, hsz, fun b hb _ => hheap b hb, ?_, ?_⟩, ?_, ?_⟩
  · rw [h2]
    intro id o b hl' hb
    obtain ⟨rfl, rfl⟩ := look_one hl'
    have := objRel_eye ho hb
    rw [Th.set_same] at this
    exact .inl (hl b this)
  · rw [h2]
    intro id o b hl' hb
    obtain ⟨rfl, rfl⟩ := look_one hl'
    rw [Th.set_same] at hb
    exact .inl (hl b hb)
  · rw [h2]
    intro id o hl'
    obtain ⟨rfl, rfl⟩ := look_one hl'
    exact ho
  · rw [h2]
    intro id id' o o' b hl1 hl2 hne
    obtain ⟨rfl, rfl⟩ := look_one hl1
    obtain ⟨rfl, rfl⟩ := look_one hl2
    exact absurd rfl hne
/-- A NEW BLOCK. -/
theorem new_block {n : Nat} {θ : Th} {w : World} {sub : Mem} (t : TypeId) (cs : List SC) (hids : ∀ id ∈ idsCs cs, id < n) {e : Eff}
    (h1 : e.val = some (.one (.ptr n 0))) (h2 : e.ups = [(n, .blk t (tagged (n + 1) cs))]) :
    EffRel n θ w sub e (.pointer (some ⟨w.heap.size, 0, none⟩)) (θ.set n (Loc.box w.heap.size)) (w.alloc (.cells (dens θ cs).toArray t)) := by
  refine new_obj (Loc.box w.heap.size) _ h1 h2 ?_ ⟨w.heap.size, Th.set_same _ _ _, ?_⟩ rfl rfl rfl (by simp) (fun b hb => Below.heap_alloc _ _ _ hb) (fun b hb => ?_)
  · simp [SV.den, SC.den, Th.set_same, Loc.box]
  · rw [untag_tagged, dens_agree (Th.set_agree _ _ _) hids]
    show (w.heap.push _)[w.heap.size]? = _
    simp
  · cases hb; exact Nat.le_refl _

/-! ### The operations, one by one -/
section each
variable {P : Program} {ce : CE} {o : Oper} {env : Env} {g : List (Nat × Bool)} {mem : Mem} {n : Nat} {e : Eff} {θ : Th} {a : Act} {w : World} {K : Act → World → Prop} {Q : Exit → Act → World → Prop}

theorem snd_move {x : Operand} (ho : o.op = .move x ∨ o.op = .assign x) (h : (arg env g x).map (Eff.pure n) = some e)
    (hs : ∀ t ∈ slotsOf [x], ∀ y, look env t = some y → entRel θ a t y) (hg : holds a g) (hk : Then K o a n θ w (restrict mem e.touched) e) : o.wp P a w K Q := by
  cases h1 : arg env g x with
  | none => rw [h1] at h; cases h
  | some v =>
    rw [h1] at h; cases h
    refine wp_value (v := v.den θ) (w' := w) ?_ (hk _ _ _ (EffRel.pure rfl rfl))
    unfold execOp
    rcases ho with ho | ho <;> simp only [ho, Sem.run_pure, arg_spec h1 hs hg]

theorem run_zeroValue' {t : TypeId} {i : TypeInfo} {v : Value} (h : P.info? t = some i) (hz : i.zero = some v) (w : World) : (zeroValue t).run P w = .ok v w := by
  simp [zeroValue, typeInfo, go_sem, h, hz]
theorem run_newVar' (t : TypeId) (v : Value) (w : World) : (newVar t v).run P w = .ok ⟨w.heap.size, 0, none⟩ (w.alloc (.cells v.cells t)) := by
  rfl
theorem zeroOf_spec {t : TypeId} {v : SV} (h : zeroOf P t = some v) (θ : Th) : ∃ i z, P.info? t = some i ∧ i.zero = some z ∧ v.den θ = z ∧ idsV v = [] := by
  unfold zeroOf at h
  cases h1 : P.info? t with
  | none => rw [h1] at h; cases h
  | some i =>
    cases h2 : i.zero with
    | none => rw [h1] at h; simp [h2] at h
    | some z =>
      rw [h1] at h; simp only [Option.bind_some, h2] at h
      obtain ⟨h3, h4⟩ := ofConst_den θ h
      exact ⟨i, z, rfl, h2, h3, h4⟩

theorem snd_alloc {t : TypeId} (ho : o.op = .alloc t)
    (h : (match zeroOf P t with
      | some v => match v.cells with
        | some cs => some (⟨some (.one (.ptr n 0)), [], [], [(n, .blk t (tagged (n + 1) cs))], [], [], n + 1 + cs.length⟩ : Eff)
        | none => none
      | none => none) = some e)
    (hk : Then K o a n θ w (restrict mem e.touched) e) : o.wp P a w K Q := by
  split at h
  · rename_i v hv
    split at h
    · rename_i cs hc
      cases h
      obtain ⟨i, z, h1, h2, h3, h4⟩ := zeroOf_spec hv θ
      have hcells := SV.cells_den θ hc
      rw [h3] at hcells
      refine wp_value (v := .pointer (some ⟨w.heap.size, 0, none⟩)) (w' := w.alloc (.cells (dens θ cs).toArray t)) ?_ (hk _ _ _ (new_block t cs (by rw [SV.cells_ids hc, h4]; simp) rfl rfl))
      unfold execOp
      simp only [ho]
      refine run_v ?_
      unfold Instr.alloc
      rw [Sem.run_bind, run_zeroValue' h1 h2]
      simp only [Result.andThen_ok, Sem.run_bind, run_newVar', Sem.run_pure, hcells]
    · cases h
  · cases h

theorem snd_box {t : TypeId} {x : Operand} (ho : o.op = .box t x)
    (h : (match (arg env g x).bind SV.cells with
      | some cs => some (⟨some (.one (.ptr n 0)), [], [], [(n, .blk t (tagged (n + 1) cs))], [], [], n + 1 + cs.length⟩ : Eff)
      | none => none) = some e)
    (hs : ∀ t ∈ slotsOf [x], ∀ y, look env t = some y → entRel θ a t y) (hg : holds a g) (hids : ∀ t y, look env t = some y → ∀ id ∈ idsV y.val, id < n)
    (hk : Then K o a n θ w (restrict mem e.touched) e) : o.wp P a w K Q := by
  split at h
  · rename_i cs hc
    cases h
    cases h1 : arg env g x with
    | none => rw [h1] at hc; cases hc
    | some v =>
      rw [h1] at hc; simp only [Option.bind_some] at hc
      have hcells := SV.cells_den θ hc
      refine wp_value (v := .pointer (some ⟨w.heap.size, 0, none⟩)) (w' := w.alloc (.cells (dens θ cs).toArray t)) ?_ (hk _ _ _ (new_block t cs (by rw [SV.cells_ids hc]; exact arg_ids h1 hids) rfl rfl))
      unfold execOp
      simp only [ho]
      refine run_v ?_
      simp only [Instr.box, Sem.run_bind, run_newVar', Sem.run_pure, Result.andThen_ok, arg_spec h1 hs hg, hcells]
  · cases h

/-! #### Loads and stores -/
theorem untag_cut (cs : List (Nat × SC)) : ∀ (off m : Nat), untag (cut cs off m) = cut (untag cs) off m := by
  have ht : ∀ (l : List (Nat × SC)) m, untag (l.take m) = (untag l).take m := by
    intro l
    induction l with
    | nil => intro m; simp [untag_nil, untag_cons]
    | cons p r ih => intro m; cases m with
      | zero => rfl
      | succ m => simp [untag_nil, untag_cons, ih]
  induction cs with
  | nil => intro off m; cases off <;> simp [cut, untag_nil, untag_cons]
  | cons p r ih =>
    intro off m
    cases off with
    | zero => exact ht _ _
    | succ off => simp only [cut, untag_nil, untag_cons]; exact ih off m
theorem cut_eq {α : Type} (l : List α) : ∀ (off m : Nat), cut l off m = (l.drop off).take m := by
  induction l with
  | nil => intro off m; cases off <;> simp [cut]
  | cons x r ih =>
    intro off m
    cases off with
    | zero => rfl
    | succ off => simp only [cut, List.drop_succ_cons]; exact ih off m
theorem dens_cut (θ : Th) (cs : List SC) (off m : Nat) : dens θ (cut cs off m) = ((dens θ cs).drop off).take m := by
  rw [cut_eq]; simp [dens, List.map_take, List.map_drop]
theorem isAggT_spec {t : TypeId} {b : Bool} (h : isAggT P t = some b) : ∃ d, P.underlying t = some d ∧ d.isRow = b := by
  unfold isAggT at h
  cases hu : P.underlying t with
  | none => rw [hu] at h; cases h
  | some d =>
    rw [hu] at h
    refine ⟨d, rfl, ?_⟩
    cases d <;> simp at h <;> subst h <;> rfl
theorem objRel_blk {id : Nat} {ty : TypeId} {cs : List (Nat × SC)} (h : objRel θ w id (.blk ty cs)) :
    ∃ b, (θ id).blk = some b ∧ w.heap[b]? = some (.cells (dens θ (untag cs)).toArray ty (0, 0)) := by
  obtain ⟨b, h1, h2⟩ := h
  exact ⟨b, by rw [h1]; rfl, h2⟩
theorem run_loadVar_plain {t : TypeId} {d : TypeDesc} (hu : P.underlying t = some d) (hd : d.isRow = false) {ad : Addr} {v : Value} (hc : w.cell? ad = some v) : (loadVar t ad).run P w = .ok v w := by
  have hagg : (isAgg t).run P w = .ok false w := by
    unfold isAgg
    rw [Sem.run_bind, run_underlying hu w]
    cases d <;> simp_all
  simp [loadVar, Sem.run_bind, hagg, go_sem, hc]

theorem snd_load {t : TypeId} {x : Operand} (ho : o.op = .load t x)
    (h : (match arg env g x, isAggT P t, P.info? t with
      | some (.one (.ptr id off)), some b, some i => match look mem id with
        | some (.blk _ cs) => bif b then
            (let r := untag (cut cs off i.size); bif Nat.beq r.length i.size then some (⟨some (.agg r), [id], [], [], [], [], n⟩ : Eff) else none)
          else (match cut cs off 1 with
            | [(_, c)] => some ⟨some (.one c), [id], [], [], [], [], n⟩
            | _ => none)
        | _ => none
      | _, _, _ => none) = some e)
    (hs : ∀ t ∈ slotsOf [x], ∀ y, look env t = some y → entRel θ a t y) (hg : holds a g) (hm : memRel θ (restrict mem e.rd) w)
    (hk : Then K o a n θ w (restrict mem e.touched) e) : o.wp P a w K Q := by
  split at h
  · rename_i id off b i h1 h2 h3
    obtain ⟨d, hu, hd⟩ := isAggT_spec h2
    have ha := arg_spec h1 hs hg
    split at h
    · rename_i ty cs hl
      cases b
      · simp only [cond_false] at h
        split at h
        · rename_i tg c hc
          cases h
          obtain ⟨bl, hb, hh⟩ := objRel_blk (hm.1 id (.blk ty cs) (by rw [look_restrict]; simp [hl]))
          have hcell : w.cell? ⟨bl, off, none⟩ = some (c.den θ) := by
            have h6 := untag_cut cs off 1
            rw [hc, cut_eq] at h6
            have h7 : (untag cs)[off]? = some c := by
              have := congrArg (fun l : List SC => l[0]?) h6
              simp only [untag_nil, untag_cons, List.getElem?_take, List.getElem?_drop] at this
              simpa using this.symm
            simp [World.cell?, hh, dens, h7]
          refine wp_value (v := c.den θ) (w' := w) ?_ (hk _ _ _ (EffRel.pure (x := .one c) rfl rfl))
          unfold execOp
          simp only [ho]
          refine run_v ?_
          simp only [Instr.loadAt, ha, SV.den, SC.den, hb, Option.map_some, Instr.sureAddr, Sem.run_bind, Sem.run_pure, Result.andThen_ok, run_loadVar_plain hu hd hcell]
        · cases h
      · simp only [cond_true] at h
        cases hq : Nat.beq (untag (cut cs off i.size)).length i.size
        · rw [hq] at h; cases h
        · rw [hq] at h; cases h
          have hlen := Nat.eq_of_beq_eq_true hq
          obtain ⟨bl, hb, hh⟩ := objRel_blk (hm.1 id (.blk ty cs) (by rw [look_restrict]; simp [hl]))
          have hrange : w.rangeAt bl off (dens θ (untag (cut cs off i.size))) := by
            intro j v hv
            rw [untag_cut, dens_cut] at hv
            have hv' : (dens θ (untag cs))[off + j]? = some v := by
              rw [List.getElem?_take] at hv
              split at hv
              · rw [List.getElem?_drop] at hv; exact hv
              · cases hv
            simp [World.cell?, hh, hv']
          refine wp_value (v := .agg (dens θ (untag (cut cs off i.size))).toArray) (w' := w) ?_ (hk _ _ _ (EffRel.pure (x := .agg _) rfl rfl))
          unfold execOp
          simp only [ho]
          refine run_v ?_
          simp only [ha, SV.den, SC.den, hb, Option.map_some]
          exact run_loadAt_mid w bl off t _ d hrange hu hd (by rw [h3]; simp [dens, hlen])
    · cases h
  · cases h

theorem paste_length {α : Type} (l : List α) : ∀ (off : Nat) (xs : List α), (paste l off xs).length = l.length := by
  induction l with
  | nil => intro off xs; cases off <;> cases xs <;> rfl
  | cons y r ih => intro off xs; cases off <;> cases xs <;> simp [paste, ih]
theorem paste_eq {α : Type} (l : List α) : ∀ (off : Nat) (xs : List α), off + xs.length ≤ l.length → paste l off xs = l.take off ++ xs ++ l.drop (off + xs.length) := by
  induction l with
  | nil => intro off xs h; cases xs <;> simp at h; subst h; rfl
  | cons y r ih =>
    intro off xs h
    cases off with
    | zero => cases xs with
      | nil => rfl
      | cons x xs => simp only [paste]; rw [ih 0 xs (by simp at h ⊢; omega)]; simp
    | succ off => simp only [paste]; rw [ih off xs (by simp at h ⊢; omega)]; simp [Nat.add_right_comm]
theorem untag_paste (cs : List (Nat × SC)) : ∀ (off : Nat) (xs : List (Nat × SC)), untag (paste cs off xs) = paste (untag cs) off (untag xs) := by
  induction cs with
  | nil => intro off xs; cases off <;> cases xs <;> rfl
  | cons p r ih => intro off xs; cases off <;> cases xs <;> simp [paste, untag_nil, untag_cons, ih]
theorem untag_length (cs : List (Nat × SC)) : (untag cs).length = cs.length := by
  induction cs with
  | nil => rfl
  | cons p r ih => simp [untag_nil, untag_cons, ih]
theorem SC.den_oneCell (θ : Th) (c : SC) : (c.den θ).oneCell' = true := by cases c <;> rfl

theorem snd_store {t : TypeId} {x y : Operand} (ho : o.op = .store t x y)
    (h : (match arg env g x, (arg env g y).bind SV.cells, P.info? t with
      | some (.one (.ptr id off)), some vs, some i => match look mem id with
        | some (.blk ty cs) => bif Nat.beq vs.length i.size && Nat.ble (off + vs.length) cs.length then
            some (⟨none, [id], [id], [(id, .blk ty (paste cs off (tagged n vs)))], [], [], n + vs.length⟩ : Eff) else none
        | _ => none
      | _, _, _ => none) = some e)
    (hs : ∀ t ∈ slotsOf [x, y], ∀ y, look env t = some y → entRel θ a t y) (hg : holds a g) (hm : memRel θ (restrict mem e.rd) w)
    (hk : Then K o a n θ w (restrict mem e.touched) e) : o.wp P a w K Q := by
  split at h
  · rename_i id off vs i h1 h2 h3
    have ha := arg_spec h1 (fun t ht => hs t (by rw [slotsOf_cons]; simp [ht])) hg
    cases h4 : arg env g y with
    | none => rw [h4] at h2; cases h2
    | some v =>
      rw [h4] at h2; simp only [Option.bind_some] at h2
      have hb := arg_spec h4 (fun t ht => hs t (by rw [slotsOf_cons]; simp [ht])) hg
      have hcells := SV.cells_den θ h2
      split at h
      · rename_i ty cs hl
        cases hq : (Nat.beq vs.length i.size && Nat.ble (off + vs.length) cs.length)
        · rw [hq] at h; cases h
        · rw [hq] at h; cases h
          simp only [Bool.and_eq_true] at hq
          have hlen := Nat.eq_of_beq_eq_true hq.1
          have hfit := Nat.le_of_ble_eq_true hq.2
          have hlr : look (restrict mem [id]) id = some (.blk ty cs) := by rw [look_restrict]; simp [hl]
          obtain ⟨bl, hbox, hh⟩ : ∃ b, θ id = Loc.box b ∧ w.heap[b]? = some (.cells (dens θ (untag cs)).toArray ty (0, 0)) := hm.1 id (.blk ty cs) hlr
          have hbl : (θ id).blk = some bl := by rw [hbox]; rfl
          have hst := run_storeCells_at P bl off ty (dens θ vs) 0 (dens θ (untag cs)).toArray w hh (by simp [dens, untag_length]; omega) (by
            intro v hv
            simp only [dens, List.mem_map] at hv
            obtain ⟨c, _, rfl⟩ := hv
            exact SC.den_oneCell θ c)
          have hnew : (List.take (off + 0) (dens θ (untag cs)) ++ dens θ vs ++ List.drop (off + 0 + (dens θ vs).length) (dens θ (untag cs))) = dens θ (untag (paste cs off (tagged n vs))) := by
            rw [untag_paste, untag_tagged, paste_eq _ _ _ (by rw [untag_length]; exact hfit)]
            simp [dens, List.map_take, List.map_drop]
          simp only at hst
          rw [hnew] at hst
          refine wp_skip' (w' := w.setRow bl (dens θ (untag (paste cs off (tagged n vs)))).toArray) ?_ (hk _ _ _ ⟨rfl, ⟨Agree.refl _ _, rfl, rfl, rfl, ?_, ?_, ?_, ?_⟩, ?_, ?_⟩)
          · unfold execOp
            simp only [ho]
            refine run_u ?_
            have hsz : (v.den θ).cells.size = i.size := by rw [hcells]; simp [dens, hlen]
            rw [hb]
            generalize v.den θ = vd at hcells hsz
            simp only [Instr.storeAt, ha, SV.den, SC.den, hbl, Option.map_some, Instr.sureAddr, Sem.run_bind, Sem.run_pure, Result.andThen_ok, storeVar, sizeOf, typeInfo, run_program, h3, hsz, ne_eq, not_true_eq_false, if_false]
            rw [hcells]
            exact hst
          · simp [World.setRow]
          · intro b hb' hno
            have hne : bl ≠ b := fun e => hno id _ hlr (e ▸ hbl)
            simp [World.setRow, Array.getElem?_modify, hne]
          · intro i' o' b hl' hb'
            obtain ⟨rfl, rfl⟩ := look_one hl'
            exact .inr ⟨_, _, hlr, hb'⟩
          · intro i' o' b hl' hb'
            obtain ⟨rfl, rfl⟩ := look_one hl'
            exact .inr ⟨_, _, hlr, hb'⟩
          · intro i' o' hl'
            obtain ⟨rfl, rfl⟩ := look_one hl'
            exact ⟨bl, hbox, setRow_heap w bl _ _ ty _ hh⟩
          · intro i1 i2 o1 o2 b hl1 hl2 hne
            obtain ⟨rfl, rfl⟩ := look_one hl1
            obtain ⟨rfl, rfl⟩ := look_one hl2
            exact absurd rfl hne
      · cases h
  · cases h

/-! #### Equality of structs -/
theorem kindEq_spec {k j : IntKind} (h : kindEq k j = true) : k = j := by cases k <;> cases j <;> first | rfl | cases h
theorem mkB_val (s x : Bool) : (mkB s x).val = x := by cases s <;> rfl
theorem mkI_val (s : Bool) (x : Int) : (mkI s x).val = x := by cases s <;> rfl
theorem andB_val (x y : SB) : (andB x y).val = (x.val && y.val) := by
  rcases x with b | b <;> rcases y with c | c <;> cases b <;> cases c <;> rfl
theorem notB_val (x : SB) : (notB x).val = !x.val := by cases x <;> rfl
theorem eqCs_append : ∀ {a c b d : List SC} {x : SB}, a.length = c.length → eqCs (a ++ b) (c ++ d) = some x → ∃ y z, eqCs a c = some y ∧ eqCs b d = some z ∧ x.val = (y.val && z.val)
  | [], [], b, d, x, _, h => ⟨.c true, x, rfl, h, by simp [SB.val]⟩
  | [], _ :: _, _, _, _, h, _ => by simp at h
  | _ :: _, [], _, _, _, h, _ => by simp at h
  | p :: a, q :: c, b, d, x, hl, h => by
    simp only [List.cons_append, eqCs] at h
    split at h
    · rename_i u v h1 h2
      cases h
      obtain ⟨y, z, h3, h4, h5⟩ := eqCs_append (by simpa using hl) h2
      exact ⟨andB u y, z, by simp [eqCs, h1, h3], h4, by rw [andB_val, andB_val, h5, Bool.and_assoc]⟩
    · cases h
/-- The value of a variable of these cells. -/
noncomputable def varOf (P : Program) (θ : Th) (t : TypeId) (cs : List SC) : Value :=
  match P.underlying t with
  | some (.struct _) => .agg (dens θ cs).toArray
  | some (.array _ _) => .agg (dens θ cs).toArray
  | _ => match cs with
    | [c] => c.den θ
    | _ => undef
theorem run_part {t : TypeId} {i : TypeInfo} (hi : P.info? t = some i) {d : TypeDesc} (hu : P.underlying t = some d) (h1 : d.isRow = false → i.size = 1) (cs : List SC) (o : Nat) (hlen : o + i.size ≤ cs.length) :
    (part t (dens θ cs).toArray o).run P w = .ok (varOf P θ t ((cs.drop o).take i.size)) w := by
  have hagg : (isAgg t).run P w = .ok d.isRow w := by
    unfold isAgg
    rw [Sem.run_bind, run_underlying hu w]
    cases d <;> rfl
  have hsz : (sizeOf t).run P w = .ok i.size w := by simp [sizeOf, typeInfo, go_sem, hi]
  unfold part varOf
  rw [Sem.run_bind, hagg, hu]
  cases hd : d.isRow
  · have h2 := h1 hd
    have h3 : o < cs.length := by omega
    have h4 : (cs.drop o).take i.size = [cs[o]] := by rw [h2, List.drop_eq_getElem_cons h3]; rfl
    rw [h4]
    have h5 : (dens θ cs).toArray[o]? = some (cs[o].den θ) := by simp [dens, h3]
    simp only [Result.andThen_ok, Bool.false_eq_true, if_false, h5, Sem.run_pure]
    cases d <;> simp at hd <;> rfl
  · simp only [Result.andThen_ok, if_true, Sem.run_bind, hsz, Sem.run_pure]
    have h5 : (dens θ cs).toArray.extract o (o + i.size) = (dens θ ((cs.drop o).take i.size)).toArray := by
      simp [dens, List.map_take, List.map_drop]
    rw [h5]
    cases d <;> simp at hd <;> rfl
theorem flatT_size : ∀ {d : Nat} {t : TypeId} {cs : List SC}, flatT P d t cs = true → ∃ de i, P.underlying t = some de ∧ P.info? t = some i ∧ (de.isRow = false → i.size = 1)
  | 0, _, _, h => by cases h
  | d + 1, t, cs, h => by
    unfold flatT at h
    split at h
    · rename_i fs i h1 h2; exact ⟨_, i, h1, h2, fun h => by cases h⟩
    · rename_i i h1 h2; simp only [Bool.and_eq_true] at h; exact ⟨_, i, h1, h2, fun _ => Nat.eq_of_beq_eq_true h.1⟩
    · rename_i i h1 h2; simp only [Bool.and_eq_true] at h; exact ⟨_, i, h1, h2, fun _ => Nat.eq_of_beq_eq_true h.1⟩
    · cases h
theorem flatFs_le {ft : TypeId → List SC → Bool} {cs : List SC} {tot : Nat} : ∀ {L : List Field} {o : Nat}, flatT.flatFs P ft L o tot cs = true → o ≤ tot
  | [], _, h => Nat.le_of_eq (Nat.eq_of_beq_eq_true h)
  | f :: L, o, h => by
    simp only [flatT.flatFs, Bool.and_eq_true] at h
    obtain ⟨_, _, h⟩ := h
    split at h
    · simp only [Bool.and_eq_true] at h
      exact Nat.le_trans (Nat.le_add_right _ _) (flatFs_le h.2)
    · cases h
theorem run_equalIn_flat : ∀ {d : Nat} {t : TypeId} {i : TypeInfo} {cs ds : List SC} {b : SB}, flatT P d t cs = true → P.info? t = some i → cs.length = i.size → ds.length = i.size → eqCs cs ds = some b →
    ∀ D, d ≤ D → (Op.equalIn D t (varOf P θ t cs) (varOf P θ t ds)).run P w = .ok b.val w
  | 0, _, _, _, _, _, h, _, _, _, _ => by cases h
  | d + 1, t, i, cs, ds, b, h, hi, hc, hd, he => by
    intro D hD
    obtain ⟨D, rfl⟩ : ∃ D', D = D' + 1 := ⟨D - 1, by omega⟩
    unfold flatT at h
    split at h
    · -- a struct
      rename_i fs i' hu hi'
      rw [hi] at hi'; cases hi'
      simp only [Bool.and_eq_true, Bool.not_eq_true'] at h
      obtain ⟨hstood, hfs⟩ := h
      unfold varOf
      simp only [hu]
      unfold Op.equalIn
      simp only [Sem.run_bind, run_underlying hu, Result.andThen_ok, run_program, hstood, Bool.false_eq_true, if_false]
      rw [← Array.forIn_toList]
      have key : ∀ (L : List Field) (o : Nat) (b : SB), flatT.flatFs P (flatT P d) L o i.size cs = true → eqCs (cs.drop o) (ds.drop o) = some b →
          (forIn L ((none : Option Bool), ()) (fun (f : Field) _ => if f.name ≠ "_" then do
                let x ← part f.type (dens θ cs).toArray f.offset
                let y ← part f.type (dens θ ds).toArray f.offset
                let z ← Op.equalIn D f.type x y
                if (!z) = true then pure (ForInStep.done (some false, ())) else pure (ForInStep.yield (none, ()))
              else pure (ForInStep.yield (none, ()))) : Sem (Option Bool × Unit)).run P w = .ok ((if b.val then none else some false), ()) w := by
        intro L
        induction L with
        | nil =>
          intro o b h1 h2
          have h3 : o = i.size := Nat.eq_of_beq_eq_true h1
          subst h3
          rw [List.drop_eq_nil_of_le (by omega), List.drop_eq_nil_of_le (by omega)] at h2
          cases h2
          simp [SB.val]
        | cons f L ih =>
          intro o b h1 h2
          simp only [flatT.flatFs, Bool.and_eq_true, bne_iff_ne, ne_eq] at h1
          obtain ⟨hn, ho, hr⟩ := h1
          have ho := Nat.eq_of_beq_eq_true ho
          split at hr
          · rename_i j hj
            simp only [Bool.and_eq_true] at hr
            obtain ⟨hft, hr⟩ := hr
            obtain ⟨de, j', hu', hj', hsz⟩ := flatT_size hft
            rw [hj] at hj'; cases hj'
            have hle' := flatFs_le hr
            have hsplit : ∀ l : List SC, l.drop o = (l.drop o).take j.size ++ l.drop (o + j.size) := fun l => by
              rw [← List.drop_drop, List.take_append_drop]
            rw [hsplit cs, hsplit ds] at h2
            obtain ⟨y, z, h3, h4, h5⟩ := eqCs_append (by simp; omega) h2
            have p1 := run_part (θ := θ) (w := w) hj hu' hsz cs o (by omega)
            have p2 := run_part (θ := θ) (w := w) hj hu' hsz ds o (by omega)
            have p3 := run_equalIn_flat hft hj (by simp; omega) (by simp; omega) h3 D (by omega)
            simp only [List.forIn_cons, Sem.run_bind, hn, ne_eq, not_false_eq_true, if_true, Result.andThen_ok, ho, p1, p2, p3]
            cases hy : y.val
            · simp [h5, hy]
            · simp only [Bool.not_true, Bool.false_eq_true, if_false, Sem.run_pure, Result.andThen_ok]
              have := ih (o + j.size) z hr h4
              simp only [h5, hy, Bool.true_and]
              exact this
          · cases hr
      have := key fs.toList 0 b hfs (by simpa using he)
      simp only [ne_eq] at this ⊢
      rw [this]
      cases hb : b.val <;> simp
    · rename_i i' hu hi'
      simp only [Bool.and_eq_true] at h
      obtain ⟨h1, h2⟩ := h
      split at h2
      · rename_i x
        rw [hi] at hi'; cases hi'
        match ds, hd.trans (Nat.eq_of_beq_eq_true h1) with
        | [e], _ =>
          simp only [eqCs] at he
          cases e <;> simp only [eqC] at he <;> cases he
          unfold varOf
          simp only [hu]
          unfold Op.equalIn
          simp only [Sem.run_bind, run_underlying hu, Result.andThen_ok, SC.den, Sem.run_pure, andB_val, mkB_val]
          simp [SB.val]
      · cases h2
    · rename_i i' hu hi'
      simp only [Bool.and_eq_true] at h
      obtain ⟨h1, h2⟩ := h
      split at h2
      · rename_i k x
        rw [hi] at hi'; cases hi'
        match ds, hd.trans (Nat.eq_of_beq_eq_true h1) with
        | [e], _ =>
          simp only [eqCs] at he
          obtain ⟨j, y, rfl⟩ : ∃ j y, e = .int j y := by
            cases e <;> simp only [eqC] at he <;> first | exact ⟨_, _, rfl⟩ | cases he
          simp only [eqC] at he
          cases hk : kindEq k j
          · rw [hk] at he; cases he
          · rw [hk] at he; cases he
            have := kindEq_spec hk; subst this
            unfold varOf
            simp only [hu]
            unfold Op.equalIn
            simp only [Sem.run_bind, run_underlying hu, Result.andThen_ok, SC.den, if_true, Sem.run_pure, andB_val, mkB_val]
            simp [SB.val]
      · cases h2
    · cases h
theorem eqGuardType_flat : ∀ {d : Nat} {t : TypeId} {cs : List SC}, flatT P d t cs = true → ∀ D, d ≤ D → P.eqGuardType D t = false
  | 0, _, _, h, _, _ => by cases h
  | d + 1, t, cs, h, D, hD => by
    obtain ⟨D, rfl⟩ : ∃ D', D = D' + 1 := ⟨D - 1, by omega⟩
    unfold flatT at h
    split at h
    · rename_i fs i hu hi
      simp only [Bool.and_eq_true] at h
      unfold Program.eqGuardType
      simp only [hu]
      rw [← Array.any_toList]
      have key : ∀ (L : List Field) (o : Nat), flatT.flatFs P (flatT P d) L o i.size cs = true → L.any (fun f => f.name != "_" && P.eqGuardType D f.type) = false := by
        intro L
        induction L with
        | nil => intro o _; rfl
        | cons f L ih =>
          intro o h1
          simp only [flatT.flatFs, Bool.and_eq_true] at h1
          obtain ⟨_, _, hr⟩ := h1
          split at hr
          · simp only [Bool.and_eq_true] at hr
            rw [List.any_cons, eqGuardType_flat hr.1 D (by omega), ih _ hr.2]
            simp
          · cases hr
      exact key _ _ h.2
    · rename_i i hu hi; unfold Program.eqGuardType; simp [hu]
    · rename_i i hu hi; unfold Program.eqGuardType; simp [hu]
    · cases h
end each
end Go.SX
