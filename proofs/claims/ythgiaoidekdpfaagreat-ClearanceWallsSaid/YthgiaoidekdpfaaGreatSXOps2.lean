/-
  EACH OPERATION, THE REST: arithmetic, comparison, fields, tuples, calls; and all of them together. Conditions: what is needed holds; the callees are right.
-/
import Derived.Test.YthgiaoidekdpfaaGreatSXOps
import Derived.Laws.Externs
set_option linter.all false
namespace Go.SX
open Go.RowKit

section each
variable {P : Program} {ce : CE} {o : Oper} {env : Env} {g : List (Nat × Bool)} {mem : Mem} {n : Nat} {e : Eff} {θ : Th} {a : Act} {w : World} {K : Act → World → Prop} {Q : Exit → Act → World → Prop}

theorem nz_spec {b : SI} {q : List Prop} (h : nz b = some q) (hq : ∀ p ∈ q, p) : b.val ≠ 0 := by
  cases b with
  | c m =>
    simp only [nz] at h
    by_cases hm : m = 0
    · simp [hm] at h
    · exact hm
  | v x => cases h; exact (show x ≠ 0 from hq _ (by simp))
theorem nonneg_spec {b : SI} {q : List Prop} (h : nonneg b = some q) (hq : ∀ p ∈ q, p) : 0 ≤ b.val := by
  cases b with
  | c m =>
    simp only [nonneg] at h
    by_cases hm : 0 ≤ m
    · exact hm
    · simp [hm] at h
  | v x => cases h; exact (show 0 ≤ x from hq _ (by simp))

theorem run_binI {op : BinOp} {t : TypeId} {k : IntKind} {x y : SI} {c : SC} {q : List Prop} (h : binI op k x y = some (c, q)) (hq : ∀ p ∈ q, p) :
    (Go.binOp op t (.int k x.val) (.int k y.val)).run P w = .ok (c.den θ) w := by
  have hshl : op ≠ .shl := by rintro rfl; simp [binI] at h
  have hshr : op ≠ .shr := by rintro rfl; simp [binI] at h
  cases op <;> simp only [binI, Option.some.injEq, Prod.mk.injEq, Option.map_eq_some_iff, reduceCtorEq] at h <;> try contradiction
  all_goals first
    | (obtain ⟨rfl, rfl⟩ := h
       simp [Go.binOp, Op.intArith, Op.intCmp, SC.den, mkI_val, mkB_val, Sem.run_pure]
       done)
    | (obtain ⟨rfl, rfl⟩ := h
       simp [Go.binOp, Op.intBits, SC.den, mkI_val, ibits, Sem.run_pure]
       done)
    | (obtain ⟨q', h1, rfl, rfl⟩ := h
       have := nz_spec h1 hq
       simp [Go.binOp, Op.intDiv, SC.den, mkI_val, Sem.run_pure, this])

theorem run_eqGuard_int (op : BinOp) (t : TypeId) (x y : Operand) (k : IntKind) (m : Int) (v : Value) : (eqGuard op t x y (.int k m) v).run P w = .ok () w := by
  unfold eqGuard
  cases op <;> simp [Sem.run_pure]
theorem run_eqGuard_bool (op : BinOp) (t : TypeId) (x y : Operand) (m : Bool) (v : Value) : (eqGuard op t x y (.bool m) v).run P w = .ok () w := by
  unfold eqGuard
  cases op <;> simp [Sem.run_pure]
theorem run_eqGuard_agg (op : BinOp) (t : TypeId) (x y : Operand) (u v : Array Value) (h : P.eqGuardType P.depth t = false) : (eqGuard op t x y (.agg u) (.agg v)).run P w = .ok () w := by
  unfold eqGuard
  cases op <;> simp [Sem.run_pure, Sem.run_bind, run_program, h]

theorem run_binop {op : BinOp} {t : TypeId} {x y : SV} {c : SC} {q : List Prop} (h : SX.binop P op t x y = some (c, q)) (hq : ∀ p ∈ q, p) (ox oy : Operand) :
    (do eqGuard op t ox oy (x.den θ) (y.den θ); Go.binOp op t (x.den θ) (y.den θ) : Sem Value).run P w = .ok (c.den θ) w := by
  unfold SX.binop at h
  split at h
  · rename_i k x j y
    rw [Sem.run_bind]
    simp only [SV.den, SC.den, run_eqGuard_int, Result.andThen_ok]
    split at h
    · simp only [Option.map_eq_some_iff, Prod.mk.injEq] at h
      obtain ⟨q', h1, rfl, rfl⟩ := h
      have h2 := nonneg_spec h1 hq
      have h3 : ¬ y.val < 0 := by omega
      simp [Go.binOp, Op.shift, mkI_val, ishift, Sem.run_pure, h3]
    · simp only [Option.map_eq_some_iff, Prod.mk.injEq] at h
      obtain ⟨q', h1, rfl, rfl⟩ := h
      have h2 := nonneg_spec h1 hq
      have h3 : ¬ y.val < 0 := by omega
      simp [Go.binOp, Op.shift, mkI_val, ishift, Sem.run_pure, h3]
    · cases hk : kindEq k j
      · rw [hk] at h; cases h
      · rw [hk] at h
        have := kindEq_spec hk; subst this
        exact run_binI h hq
  · rename_i x y
    rw [Sem.run_bind]
    simp only [SV.den, SC.den, run_eqGuard_bool, Result.andThen_ok]
    split at h
    · rename_i hu
      have he : ∀ d, (Op.equalIn (d + 1) t (.bool x.val) (.bool y.val)).run P w = .ok (x.val == y.val) w := fun d => by
        unfold Op.equalIn
        simp [run_underlying hu]
      split at h
      · cases h
        simp [Go.binOp, Op.equal, Op.maxDepth, he 9999, mkB_val]
      · cases h
        simp [Go.binOp, Op.equal, Op.maxDepth, he 9999, mkB_val]
      · cases h
    · cases h
  · rename_i cs ds
    split at h
    · rename_i fs i hu hi
      cases hc : (flatT P 20 t cs && (Nat.beq cs.length i.size && Nat.beq ds.length i.size))
      · rw [hc] at h; cases h
      · rw [hc] at h
        simp only [Bool.and_eq_true] at hc
        obtain ⟨hf, h1, h2⟩ := hc
        have h1 := Nat.eq_of_beq_eq_true h1
        have h2 := Nat.eq_of_beq_eq_true h2
        have hdep : 20 ≤ P.depth := by unfold Program.depth Made.depth; omega
        rw [Sem.run_bind]
        simp only [SV.den, run_eqGuard_agg _ _ _ _ _ _ (eqGuardType_flat hf _ hdep), Result.andThen_ok]
        have key : ∀ b, eqCs cs ds = some b → (Op.equal t (.agg (dens θ cs).toArray) (.agg (dens θ ds).toArray)).run P w = .ok b.val w := by
          intro b hb
          have := run_equalIn_flat (θ := θ) (w := w) hf hi h1 h2 hb 10000 (by omega)
          unfold varOf at this
          rw [hu] at this
          exact this
        simp only [cond_true] at h
        split at h
        · rename_i b hb
          cases h
          simp [Go.binOp, key b hb, SC.den]
        · rename_i b hb
          cases h
          simp [Go.binOp, key b hb, SC.den, notB_val]
        · cases h
    · cases h
  · cases h

theorem snd_binop {op : BinOp} {t yt : TypeId} {x y : Operand} (ho : o.op = .binOp op t x y yt)
    (h : (match arg env g x, arg env g y with
      | some a, some b => (SX.binop P op t a b).map fun (c, q) => (⟨some (.one c), [], [], [], q, [], n⟩ : Eff)
      | _, _ => none) = some e) (hn : ∀ p ∈ e.needs, p)
    (hs : ∀ t ∈ slotsOf [x, y], ∀ y, look env t = some y → entRel θ a t y) (hg : holds a g)
    (hk : Then K o a n θ w (restrict mem e.touched) e) : o.wp P a w K Q := by
  split at h
  · rename_i u v h1 h2
    simp only [Option.map_eq_some_iff, Prod.exists] at h
    obtain ⟨c, q, h3, rfl⟩ := h
    have ha := arg_spec h1 (fun t ht => hs t (by rw [slotsOf_cons]; simp [ht])) hg
    have hb := arg_spec h2 (fun t ht => hs t (by rw [slotsOf_cons]; simp [ht])) hg
    refine wp_value (v := c.den θ) (w' := w) ?_ (hk _ _ _ (EffRel.pure (x := .one c) rfl rfl))
    unfold execOp
    simp only [ho]
    refine run_v ?_
    rw [ha, hb]
    exact run_binop h3 hn x y
  · cases h

theorem snd_unop {op : UnOp} {t : TypeId} {x : Operand} (ho : o.op = .unOp op t x)
    (h : ((arg env g x).bind (unop op)).map (fun c => Eff.pure n (.one c)) = some e)
    (hs : ∀ t ∈ slotsOf [x], ∀ y, look env t = some y → entRel θ a t y) (hg : holds a g)
    (hk : Then K o a n θ w (restrict mem e.touched) e) : o.wp P a w K Q := by
  simp only [Option.map_eq_some_iff, Option.bind_eq_some_iff] at h
  obtain ⟨c, ⟨v, h1, h2⟩, rfl⟩ := h
  have ha := arg_spec h1 hs hg
  refine wp_value (v := c.den θ) (w' := w) ?_ (hk _ _ _ (EffRel.pure (x := .one c) rfl rfl))
  unfold execOp
  simp only [ho]
  refine run_v ?_
  rw [ha]
  unfold unop at h2
  split at h2
  · rename_i k m
    cases op <;> cases m <;> simp only [reduceCtorEq, Option.some.injEq] at h2 <;> subst h2 <;> simp [SV.den, SC.den, Op.unary, Op.intArith, SI.val]
  · rename_i b
    cases op <;> simp only [reduceCtorEq, Option.some.injEq] at h2
    subst h2
    simp [SV.den, SC.den, Op.unary, notB_val]
  · cases h2

theorem snd_convert {s d : TypeId} {x : Operand} (ho : o.op = .convert s d x)
    (h : (match P.underlying s, P.underlying d, arg env g x with
      | some _, some (.int k), some (.one (.int _ (.c m))) => some (Eff.pure n (.one (.int k (.c (k.wrap m)))))
      | some _, some (.int k), some (.one (.int _ (.v m))) => some (Eff.pure n (.one (.int k (.v (k.wrap m)))))
      | _, _, _ => none) = some e)
    (hs : ∀ t ∈ slotsOf [x], ∀ y, look env t = some y → entRel θ a t y) (hg : holds a g)
    (hk : Then K o a n θ w (restrict mem e.touched) e) : o.wp P a w K Q := by
  have key : ∀ (ds : TypeDesc) (k j : IntKind) (m : Int), P.underlying s = some ds → P.underlying d = some (.int k) → (Go.convert s d (.int j m)).run P w = .ok (.int k (k.wrap m)) w := by
    intro ds k j m h1 h2
    unfold Go.convert
    rw [Sem.run_bind, run_underlying h1, Result.andThen_ok, Sem.run_bind, run_underlying h2, Result.andThen_ok]
    simp [Conv.intToInt]
  split at h
  · rename_i ds k j m h1 h2 h3
    cases h
    have ha := arg_spec h3 hs hg
    refine wp_value (v := .int k (k.wrap m)) (w' := w) ?_ (hk _ _ _ (EffRel.pure (x := .one (.int k (.c (k.wrap m)))) rfl rfl))
    unfold execOp
    simp only [ho]
    refine run_v ?_
    rw [ha]
    exact key ds k j m h1 h2
  · rename_i ds k j m h1 h2 h3
    cases h
    have ha := arg_spec h3 hs hg
    refine wp_value (v := .int k (k.wrap m)) (w' := w) ?_ (hk _ _ _ (EffRel.pure (x := .one (.int k (.v (k.wrap m)))) rfl rfl))
    unfold execOp
    simp only [ho]
    refine run_v ?_
    rw [ha]
    exact key ds k j m h1 h2
  · cases h

theorem snd_nilCheck {x : Operand} (ho : o.op = .nilCheck x)
    (h : (match arg env g x with
      | some (.one (.ptr id off)) => match look mem id with
        | some (.blk _ _) => some (⟨some (.one (.ptr id off)), [id], [], [], [], [], n⟩ : Eff)
        | _ => none
      | _ => none) = some e) (hm : memRel θ (restrict mem e.rd) w)
    (hs : ∀ t ∈ slotsOf [x], ∀ y, look env t = some y → entRel θ a t y) (hg : holds a g)
    (hk : Then K o a n θ w (restrict mem e.touched) e) : o.wp P a w K Q := by
  split at h
  · rename_i id off h1
    split at h
    case h_2 => cases h
    rename_i ty cs hl
    cases h
    have ha := arg_spec h1 hs hg
    obtain ⟨b, hb, _⟩ := objRel_blk (hm.1 id (.blk ty cs) (by rw [look_restrict]; simp [hl]))
    refine wp_value (v := SV.den θ (.one (.ptr id off))) (w' := w) ?_ (hk _ _ _ (EffRel.pure (x := .one (.ptr id off)) rfl rfl))
    unfold execOp
    simp only [ho, ha, SV.den, SC.den, hb, Option.map_some, Sem.run_pure]
  · cases h

theorem toList_get {α : Type} (fs : Array α) (f : Nat) : fs.toList[f]? = fs[f]? := by simp

theorem snd_fieldAddr {t : TypeId} {x : Operand} {f : Nat} (ho : o.op = .fieldAddr t x f)
    (h : (match P.underlying t, arg env g x with
      | some (.struct fs), some (.one (.ptr id off)) => match fs.toList[f]? with
        | some fd => (match P.info? fd.type with
          | some i => (match look mem id with
            | some (.blk _ _) => bif Nat.beq i.size 0 then none else some (⟨some (.one (.ptr id (off + fd.offset))), [id], [], [], [], [], n⟩ : Eff)
            | _ => none)
          | none => none)
        | none => none
      | _, _ => none) = some e) (hm : memRel θ (restrict mem e.rd) w)
    (hs : ∀ t ∈ slotsOf [x], ∀ y, look env t = some y → entRel θ a t y) (hg : holds a g)
    (hk : Then K o a n θ w (restrict mem e.touched) e) : o.wp P a w K Q := by
  split at h
  · rename_i fs id off hu h1
    have ha := arg_spec h1 hs hg
    split at h
    · rename_i fd hf
      split at h
      · rename_i i hi
        split at h
        case h_2 => cases h
        rename_i ty cs hl
        cases hq : Nat.beq i.size 0
        · rw [hq] at h; cases h
          obtain ⟨b, hb, _⟩ := objRel_blk (hm.1 id (.blk ty cs) (by rw [look_restrict]; simp [hl]))
          have hne : i.size ≠ 0 := fun hz => by rw [hz] at hq; cases hq
          refine wp_value (v := SV.den θ (.one (.ptr id (off + fd.offset)))) (w' := w) ?_ (hk _ _ _ (EffRel.pure (x := .one (.ptr id (off + fd.offset))) rfl rfl))
          unfold execOp
          simp only [ho]
          refine run_v ?_
          rw [toList_get] at hf
          simp only [ha, SV.den, SC.den, hb, Option.map_some, Instr.fieldAt, Sem.run_bind, run_underlying hu, Result.andThen_ok, hf, Instr.sureAddr, Sem.run_pure, fieldPlace, sizeOf, typeInfo, run_program, hi, hne, if_false, Addr.add_mid]
        · rw [hq] at h; cases h
      · cases h
    · cases h
  · cases h

theorem snd_field {t : TypeId} {x : Operand} {f : Nat} (ho : o.op = .field t x f)
    (h : (match P.underlying t, arg env g x with
      | some (.struct fs), some (.agg cs) => match fs.toList[f]? with
        | some fd => (match isAggT P fd.type, P.info? fd.type with
          | some true, some i => (let r := cut cs fd.offset i.size; bif Nat.beq r.length i.size then some (Eff.pure n (.agg r)) else none)
          | some false, some _ => (match cut cs fd.offset 1 with
            | [c] => some (Eff.pure n (.one c))
            | _ => none)
          | _, _ => none)
        | none => none
      | _, _ => none) = some e)
    (hs : ∀ t ∈ slotsOf [x], ∀ y, look env t = some y → entRel θ a t y) (hg : holds a g)
    (hk : Then K o a n θ w (restrict mem e.touched) e) : o.wp P a w K Q := by
  split at h
  · rename_i fs cs hu h1
    have ha := arg_spec h1 hs hg
    split at h
    · rename_i fd hf
      rw [toList_get] at hf
      split at h
      · rename_i i h2 hi
        obtain ⟨d, hd, hrow⟩ := isAggT_spec h2
        simp only at h
        cases hq : Nat.beq (cut cs fd.offset i.size).length i.size
        · rw [hq] at h; cases h
        · rw [hq] at h; cases h
          have hagg : (isAgg fd.type).run P w = .ok true w := by
            unfold isAgg
            rw [Sem.run_bind, run_underlying hd w]
            cases d <;> simp_all
          refine wp_value (v := SV.den θ (.agg (cut cs fd.offset i.size))) (w' := w) ?_ (hk _ _ _ (EffRel.pure (x := .agg _) rfl rfl))
          unfold execOp
          simp only [ho]
          refine run_v ?_
          simp only [ha, SV.den, Instr.field, Sem.run_bind, run_underlying hu, Result.andThen_ok, hf, asAgg, Sem.run_pure, part, hagg, if_true, sizeOf, typeInfo, run_program, hi]
          congr 2
          simp [dens, cut_eq, List.map_take, List.map_drop]
      · rename_i i h2 hi
        obtain ⟨d, hd, hrow⟩ := isAggT_spec h2
        split at h
        · rename_i c hc
          cases h
          have hagg : (isAgg fd.type).run P w = .ok false w := by
            unfold isAgg
            rw [Sem.run_bind, run_underlying hd w]
            cases d <;> simp_all
          have h7 : cs[fd.offset]? = some c := by
            rw [cut_eq] at hc
            have := congrArg (fun l : List SC => l[0]?) hc
            simp only [List.getElem?_take, List.getElem?_drop] at this
            simpa using this
          refine wp_value (v := SV.den θ (.one c)) (w' := w) ?_ (hk _ _ _ (EffRel.pure (x := .one c) rfl rfl))
          unfold execOp
          simp only [ho]
          refine run_v ?_
          have h8 : (dens θ cs).toArray[fd.offset]? = some (c.den θ) := by simp [dens, h7]
          simp only [ha, SV.den, Instr.field, Sem.run_bind, run_underlying hu, Result.andThen_ok, hf, asAgg, Sem.run_pure, part, hagg, Bool.false_eq_true, if_false, h8]
        · cases h
      · cases h
    · cases h
  · cases h

theorem snd_extract {x : Operand} {k : Nat} (ho : o.op = .extract x k)
    (h : (match arg env g x with
      | some (.tup vs) => match vs[k]? with
        | some (true, cs) => some (Eff.pure n (.agg cs))
        | some (false, [c]) => some (Eff.pure n (.one c))
        | _ => none
      | _ => none) = some e)
    (hs : ∀ t ∈ slotsOf [x], ∀ y, look env t = some y → entRel θ a t y) (hg : holds a g)
    (hk : Then K o a n θ w (restrict mem e.touched) e) : o.wp P a w K Q := by
  split at h
  · rename_i vs h1
    have ha := arg_spec h1 hs hg
    have key : ∀ p, vs[k]? = some p → (Instr.extract (.tuple (vs.map (compDen θ)).toArray) k).run P w = .ok (compDen θ p) w := by
      intro p hp
      have : (vs.map (compDen θ)).toArray[k]? = some (compDen θ p) := by simp [hp]
      simp [Instr.extract, this]
    split at h
    · rename_i cs hv
      cases h
      refine wp_value (v := SV.den θ (.agg cs)) (w' := w) ?_ (hk _ _ _ (EffRel.pure (x := .agg cs) rfl rfl))
      unfold execOp
      simp only [ho]
      refine run_v ?_
      rw [ha]
      exact (key _ hv).trans (by cases cs with
        | nil => rfl
        | cons c r => rfl)
    · rename_i c hv
      cases h
      refine wp_value (v := SV.den θ (.one c)) (w' := w) ?_ (hk _ _ _ (EffRel.pure (x := .one c) rfl rfl))
      unfold execOp
      simp only [ho]
      refine run_v ?_
      rw [ha]
      exact key _ hv
    · cases h
  · cases h

theorem roMem_spec : ∀ {m : Mem}, roMem m = true → ∀ {id : Nat} {o : Obj}, look m id = some o → ∃ ty esz r, o = .row true ty esz r
  | [], _, id, o, h => by cases h
  | (i, x) :: r, hr, id, o, h => by
    unfold roMem at hr
    split at hr
    · rename_i heq; cases heq
    · rename_i i' ty esz rr rest heq
      cases heq
      rw [look_cons] at h
      cases hb : Nat.beq i id
      · rw [hb] at h; exact roMem_spec hr h
      · rw [hb] at h; cases h; exact ⟨_, _, _, rfl⟩
    · cases hr
theorem EVv_inj {x y : SV} (h : EV.v x = EV.v y) : x = y := by injection h
theorem eqCell_spec {x y : SC} {q : Eqs} (h : ∀ p ∈ eqCell x y q, p.1 = p.2) : x = y ∧ ∀ p ∈ q, p.1 = p.2 := by
  have gen : ∀ {x y : SC} {q : Eqs}, (∀ p ∈ ((EV.v (.one x), EV.v (.one y)) :: q : Eqs), p.1 = p.2) → x = y ∧ ∀ p ∈ q, p.1 = p.2 := fun {x y q} h => by
    have heq : SV.one x = SV.one y := EVv_inj (h (.v (.one x), .v (.one y)) (by simp))
    exact ⟨by injection heq, fun p hp => h p (by simp [hp])⟩
  unfold eqCell at h
  split at h
  · rename_i a b
    cases hb : Nat.beq a b
    · rw [hb] at h; exact gen h
    · rw [hb] at h
      have := Nat.eq_of_beq_eq_true hb; subst this
      exact ⟨rfl, h⟩
  · rename_i a o b p
    cases hb : (Nat.beq a b && Nat.beq o p)
    · rw [hb] at h; exact gen h
    · rw [hb] at h
      simp only [Bool.and_eq_true] at hb
      have := Nat.eq_of_beq_eq_true hb.1; subst this
      have := Nat.eq_of_beq_eq_true hb.2; subst this
      exact ⟨rfl, h⟩
  · exact gen h
theorem plainC_den (θ : Th) (c : SC) : (plainC c).den θ = c.den θ ∧ idsC (plainC c) = idsC c := by cases c <;> exact ⟨rfl, rfl⟩
theorem sameTC_spec : ∀ {x y : List (Nat × SC)} {q : Eqs}, sameTC x y = some q → (∀ p ∈ q, p.1 = p.2) → (∀ θ, dens θ (untag x) = dens θ (untag y)) ∧ idsCs (untag x) = idsCs (untag y)
  | [], [], _, _, _ => ⟨fun _ => rfl, rfl⟩
  | (a, x) :: r, (b, y) :: s, q, h, hq => by
    simp only [sameTC, Option.map_eq_some_iff] at h
    obtain ⟨q', h1, rfl⟩ := h
    obtain ⟨h2, hq'⟩ := eqCell_spec hq
    obtain ⟨h3, h4⟩ := sameTC_spec h1 hq'
    refine ⟨fun θ => ?_, ?_⟩
    · have := h3 θ
      simp only [untag_cons, dens, List.map_cons] at this ⊢
      rw [this, ← (plainC_den θ x).1, h2, (plainC_den θ y).1]
    · rw [untag_cons, untag_cons, idsCs_cons, idsCs_cons, h4, ← (plainC_den Th.none x).2, h2, (plainC_den Th.none y).2]
  | [], _ :: _, _, h, _ => by simp [sameTC] at h
  | _ :: _, [], _, h, _ => by simp [sameTC] at h
theorem stillO_spec {x : Obj} {y : Option Obj} {q : Eqs} (h : stillO x y = some q) (hq : ∀ p ∈ q, p.1 = p.2) :
    (∃ ty esz r, x = .row true ty esz r) ∨ ∃ t a b, x = .blk t a ∧ y = some (.blk t b) ∧ ∀ θ, dens θ (untag a) = dens θ (untag b) := by
  unfold stillO at h
  split at h
  · exact .inl ⟨_, _, _, rfl⟩
  · rename_i t a u b
    cases hb : Nat.beq t u
    · rw [hb] at h; cases h
    · rw [hb] at h
      have := Nat.eq_of_beq_eq_true hb; subst this
      exact .inr ⟨t, a, b, rfl, rfl, (sameTC_spec h hq).1⟩
  · cases h
theorem stillMem_spec {res : Mem} : ∀ {m : Mem} {q : Eqs}, stillMem res m = some q → (∀ p ∈ q, p.1 = p.2) → ∀ {id : Nat} {x : Obj}, look m id = some x →
    (∃ ty esz r, x = .row true ty esz r) ∨ ∃ t a b, x = .blk t a ∧ look res id = some (.blk t b) ∧ ∀ θ, dens θ (untag a) = dens θ (untag b)
  | [], _, _, _, id, x, h => by cases h
  | (i, o) :: r, q, hs, hq, id, x, h => by
    simp only [stillMem] at hs
    split at hs
    · rename_i a b h1 h2
      cases hs
      rw [look_cons] at h
      cases hb : Nat.beq i id
      · rw [hb] at h
        exact stillMem_spec h2 (fun p hp => hq p (List.mem_append.2 (.inr hp))) h
      · rw [hb] at h; cases h
        have := Nat.eq_of_beq_eq_true hb; subst this
        exact stillO_spec h1 fun p hp => hq p (List.mem_append.2 (.inl hp))
    · cases hs
/-- Where nothing has turned, the heap is as it was. -/
theorem still_heap {n : Nat} {θ θ' : Th} {sub res : Mem} {w w' : World} {q : Eqs} (hs : stillMem res sub = some q) (hq : ∀ p ∈ q, p.1 = p.2) (hwf : wfMem n sub) (hm : memRel θ sub w)
    (hg : Grew n θ sub w θ' res w') (hu : memRel θ' res w') (b : Nat) (hb : b < w.heap.size) : w'.heap[b]? = w.heap[b]? := by
  by_cases hno : ∀ id o, look sub id = some o → (θ id).blk ≠ some b
  · exact hg.heap b hb hno
  · obtain ⟨id, hno⟩ := Classical.not_forall.1 hno
    obtain ⟨o, hno⟩ := Classical.not_forall.1 hno
    simp only [Classical.not_imp, ne_eq, Classical.not_not] at hno
    obtain ⟨hl, hblk⟩ := hno
    rcases stillMem_spec hs hq hl with ⟨ty, es, r, rfl⟩ | ⟨t, x, y, rfl, hr, hxy⟩
    · have := (hm.1 id _ hl).2.1
      rw [this] at hblk; cases hblk
    · obtain ⟨b1, h1, h2⟩ := hm.1 id _ hl
      obtain ⟨b2, h3, h4⟩ := hu.1 id _ hr
      have ha := hg.agree id (hwf id _ hl).1
      rw [ha, h1] at h3
      have e1 : b1 = b2 := by injection h3 with h3; injection h3
      subst e1
      rw [h1] at hblk
      have e2 : b1 = b := by injection hblk
      subst e2
      rw [h2, h4, ← hxy, dens_agree hg.agree (hwf id _ hl).2]
theorem ownMem_spec : ∀ {m : Mem}, ownMem m = true → ∀ {id : Nat} {o : Obj}, look m id = some o → ownO o = true
  | (i, p) :: r, h, id, o, hl => by
    simp only [ownMem, Bool.and_eq_true] at h
    rw [look_cons] at hl
    cases hb : Nat.beq i id
    · rw [hb] at hl; exact ownMem_spec h.2 hl
    · rw [hb] at hl; cases hl; exact h.1
theorem freshC_spec {ce : CE} {h : FuncId} {n : Nat} {rd : List Nat} {sub res : Mem} (hf : freshC ce h n rd sub res = true) : roMem sub = true ∧ ownMem (delAll res rd) = true := by
  unfold freshC at hf
  split at hf
  · simpa only [Bool.and_eq_true] using hf
  · cases hf
/-- What sees a block of the call's own stands in it. -/
theorem own_eye {θ : Th} {w : World} {id b : Nat} {o : Obj} (ho : objRel θ w id o) (hr : ownO o = true) (he : (θ id).eye = some b) : (θ id).blk = some b := by
  have hrow : ∀ {l : Loc} {ty esz n : Nat} {cells : List Value}, ownRel l w ty esz n cells → l.eye = some b → l.blk = some b := fun h he => by
    rcases h.2.1 with ⟨_, h2, _⟩ | ⟨b', h1, h2, _⟩
    · rw [h2] at he; cases he
    · rw [h2] at he; cases he; exact h1
  cases o with
  | blk ty cells => obtain ⟨b', h1, _⟩ := ho; rw [h1] at he ⊢; exact he
  | row ro ty esz r =>
    cases ro
    · exact hrow ho.2 he
    · cases hr
  | crow ty esz len cells => exact hrow ho.2 he
  | clo caps => have h1 : θ id = _ := ho; rw [h1] at he; cases he
  | raw b' rs t L k => obtain ⟨h1, _⟩ := ho; rw [h1] at he ⊢; exact he
/-- THE STAND-IN for math/bits.Sub64. -/
def sub64E : Array Value → Sem Value := fun args => do
  let (x, y, b) ← Extern.MathBitsCarry.three "Sub64" args
  pure (Extern.MathBitsCarry.pair ((x + Extern.MathBitsCarry.m64 - y - b) % Extern.MathBitsCarry.m64) (if x < y + b then 1 else 0))
theorem run_sub64E (x y b : Nat) (hb : b ≤ 1) (w : World) :
    (sub64E #[.int .u64 x, .int .u64 y, .int .u64 b]).run P w =
      .ok (.tuple #[.int .u64 (((x + 18446744073709551616 - y - b) % 18446744073709551616 : Nat) : Int), .int .u64 ((if x < y + b then 1 else 0 : Nat) : Int)]) w := by
  have : b = 0 ∨ b = 1 := by omega
  rcases this with rfl | rfl <;> rfl
theorem find_sub64 {fn : Func} (h : fn.name = "math/bits.Sub64") (ho : fn.origin = "") : Extern.findNext fn = none ∧ Extern.find fn = some sub64E := by
  constructor
  · unfold Extern.findNext
    rw [h, ho]
    kernel_rfl
  · unfold Extern.find
    rw [h, ho]
    kernel_rfl
theorem run_sub64S {fid : FuncId} {vs : List SV} {n : Nat} {e : Eff} (hsb : isSub64 P fid = true) (h : subS vs n = some e) (hn : ∀ p ∈ e.needs, p) :
    ∃ v, e.val = some v ∧ e.ups = [] ∧ ∀ θ w, (callFunc fid (vs.map (SV.den θ)).toArray).run P w = .ok (.value (v.den θ)) w := by
  unfold isSub64 at hsb
  split at hsb
  case h_2 => cases hsb
  rename_i fn hfn
  split at hsb
  · cases hsb
  rename_i hbody
  simp only [Bool.and_eq_true, beq_iff_eq] at hsb
  obtain ⟨hname, horig⟩ := hsb
  obtain ⟨f1, f2⟩ := find_sub64 hname horig
  unfold subS at h
  split at h
  case h_2 => cases h
  rename_i x y b
  cases h
  have hx : 0 ≤ x.val := hn _ (by simp)
  have hy : 0 ≤ y.val := hn _ (by simp)
  have hb : 0 ≤ b.val ∧ b.val ≤ 1 := hn _ (by simp)
  refine ⟨_, rfl, rfl, fun θ w => ?_⟩
  rw [run_callFunc_extern hfn (by rw [hname]; decide) (by rw [hbody]; rfl) f1 f2]
  obtain ⟨i, hi⟩ := Int.eq_ofNat_of_zero_le hx
  obtain ⟨j, hj⟩ := Int.eq_ofNat_of_zero_le hy
  obtain ⟨k, hk⟩ := Int.eq_ofNat_of_zero_le hb.1
  have hval : ∀ (s : Bool) (z : Int), (mkI s z).val = z := fun s z => by cases s <;> rfl
  have hk1 : k ≤ 1 := by omega
  simp only [List.map_cons, List.map_nil, SV.den, SC.den, hi, hj, hk]
  have := run_sub64E (P := P) i j k hk1 w
  rw [this]
  simp only [Result.andThen, compDen, SC.den, List.map_cons, List.map_nil, hval, sub64v, sub64b, hi, hj, hk, Int.toNat_natCast, Bool.false_eq_true, if_false]
  try rfl
theorem snd_call {c : Call} (hp : PlainNames P) (hce : CESound P ce) (ho : o.op = .call c)
    (h : (match c.callee with
    | .value f => match arg env g f, args env g c.args.toList with
      | some (.one (.fn h)), some vs => callE P ce mem n h vs
      | _, _ => none
    | _ => none) = some e) (hn : ∀ p ∈ e.needs, p) (he : ∀ p ∈ e.eqs, p.1 = p.2)
    (hs : ∀ t ∈ slotsOf c.operands.toList, ∀ y, look env t = some y → entRel θ a t y) (hg : holds a g) (hids : ∀ t y, look env t = some y → ∀ id ∈ idsV y.val, id < n) (hwf : wfMem n mem)
    (hm : memRel θ (restrict mem e.rd) w) (hk : Then K o a n θ w (restrict mem e.touched) e) : o.wp P a w K Q := by
  split at h
  · rename_i f hc
    split at h
    · rename_i fid vs h1 h2
      unfold callE at h
      cases hsb : isSub64 P fid
      case true =>
        rw [hsb] at h
        simp only [cond_true] at h
        have hops : c.operands.toList = f :: c.args.toList := by simp [Call.operands, hc]
        rw [hops] at hs
        have hf := arg_spec h1 (fun t ht => hs t (by rw [slotsOf_cons]; simp [ht])) hg
        have has := args_spec h2 (fun t ht => hs t (by rw [slotsOf_cons]; simp [ht])) hg
        have hmap : c.args.map a.eval = (vs.map (SV.den θ)).toArray := by
          apply Array.toList_inj.1
          simp [has]
        obtain ⟨v, hv, hne, hcall⟩ := run_sub64S hsb h hn
        refine wp_value (v := SV.den θ v) (w' := w) ?_ (hk _ _ _ (EffRel.pure hv hne))
        have hcw := hcall θ w
        generalize SV.den θ v = z at hcw ⊢
        unfold execOp
        simp only [ho]
        simp only [resolve, hc, hf, SV.den, SC.den, Deferred.ofValue, Sem.run_bind, Sem.run_pure, Result.andThen_ok, hmap, invoke]
        simp [hcw]
      rw [hsb] at h
      simp only [cond_false] at h
      unfold callN at h
      cases hlt : Nat.blt fid 1000000
      · rw [hlt] at h; cases h
      rw [hlt] at h
      simp only [cond_true] at h
      have hlt : fid < 1000000 := by simpa using hlt
      split at h
      · rename_i r hr
        obtain ⟨rd, hrd⟩ : ∃ rd, rd = reach mem 3 (idsVs vs) := ⟨_, rfl⟩
        have hnd : e.needs = r.needs ∧ (∀ p ∈ r.eqs, p.1 = p.2) ∧ e.rd = rd ∧ e.val = some r.val ∧ ((e.touched = [] ∧ e.ups = [] ∧ (roMem (restrict mem rd) = true ∨ ∃ q, stillMem r.mem (restrict mem rd) = some q ∧ ∀ p ∈ q, p.1 = p.2)) ∨ (e.touched = [] ∧ e.ups = delAll r.mem rd ∧ roMem (restrict mem rd) = true ∧ ownMem (delAll r.mem rd) = true) ∨ (e.touched = rd ∧ e.ups = r.mem)) := by
          cases hro : (roMem (restrict mem (reach mem 3 (idsVs vs))) && subDom (reach mem 3 (idsVs vs)) r.mem)
          · rw [hro] at h
            simp only [cond_false] at h
            split at h
            · rename_i q hq
              cases h
              unfold stillC at hq
              split at hq
              · cases hsd : subDom (reach mem 3 (idsVs vs)) r.mem
                · rw [hsd] at hq; cases hq
                · rw [hsd] at hq
                  exact ⟨rfl, fun p hp => he p (List.mem_append.2 (.inl hp)), hrd.symm, rfl, .inl ⟨rfl, rfl, .inr ⟨q, by rw [hrd]; exact hq, fun p hp => he p (List.mem_append.2 (.inr hp))⟩⟩⟩
              · cases hq
            · cases hfr : freshC ce fid n (reach mem 3 (idsVs vs)) (restrict mem (reach mem 3 (idsVs vs))) r.mem
              · rw [hfr] at h; cases h; exact ⟨rfl, he, hrd.symm, rfl, .inr (.inr ⟨hrd.symm, rfl⟩)⟩
              · rw [hfr] at h; cases h
                obtain ⟨g1, g2⟩ := freshC_spec hfr
                exact ⟨rfl, he, hrd.symm, rfl, .inr (.inl ⟨rfl, by rw [hrd], by rw [hrd]; exact g1, by rw [hrd]; exact g2⟩)⟩
          · rw [hro] at h; cases h
            simp only [Bool.and_eq_true] at hro
            exact ⟨rfl, he, hrd.symm, rfl, .inl ⟨rfl, rfl, .inl (by rw [hrd]; exact hro.1)⟩⟩
        clear h
        obtain ⟨e1, e2, e3, e4, e5⟩ := hnd
        rw [e1] at hn
        replace he := e2
        rw [e3] at hm
        rw [← hrd] at hr
        have hops : c.operands.toList = f :: c.args.toList := by simp [Call.operands, hc]
        rw [hops] at hs
        have hf := arg_spec h1 (fun t ht => hs t (by rw [slotsOf_cons]; simp [ht])) hg
        have has := args_spec h2 (fun t ht => hs t (by rw [slotsOf_cons]; simp [ht])) hg
        have hwf' : wfMem n (restrict mem rd) := fun id ob hl => by
          rw [look_restrict] at hl
          split at hl
          · exact hwf id ob hl
          · cases hl
        obtain ⟨h34, h5⟩ := hce fid vs _ n r hr hn he hwf' (args_ids h2 hids) θ w hm
        obtain ⟨fn, h3, h4⟩ := h34 hlt
        have h5 := h5.1 hlt
        have hmap : c.args.map a.eval = (vs.map (SV.den θ)).toArray := by
          apply Array.toList_inj.1
          simp [has]
        have hrun : (execOp a.eval o).run P w = .ok (.enter fid (vs.map (SV.den θ)).toArray) w := by
          unfold execOp
          simp only [ho]
          simp only [resolve, hc, hf, SV.den, SC.den, Deferred.ofValue, Sem.run_bind, Sem.run_pure, Result.andThen_ok, hmap, invoke, run_callFunc hp h3 h4]
          simp
        unfold Oper.wp
        rw [hrun, Oper.upon_enter]
        refine h5.mono fun en w' hen => ?_
        obtain ⟨θ', rfl, h6, h7⟩ := hen
        rcases e5 with ⟨e5, e6, e7⟩ | ⟨e5, e6, e7, e8⟩ | ⟨e5, e6⟩
        · have hheap : ∀ b, b < w.heap.size → w'.heap[b]? = w.heap[b]? := by
            rcases e7 with e7 | ⟨q, e7, e8⟩
            · exact fun b hb => h6.heap b hb fun id ob hl hbk => by
                obtain ⟨ty, es, rw', rfl⟩ := roMem_spec e7 hl
                have := (hm.1 id _ hl).2.1
                rw [this] at hbk; cases hbk
            · exact still_heap e7 e8 hwf' hm h6 h7
          refine hk _ θ' w' ⟨by rw [e4], ⟨h6.agree, h6.os, h6.tape, h6.output, h6.size, fun b hb _ => hheap b hb, fun id o b hl => (by rw [e6] at hl; cases hl), fun id o b hl => (by rw [e6] at hl; cases hl)⟩, by rw [e6]; exact memRel_nil _ _⟩
        · have hno : ∀ id o b, look (restrict mem rd) id = some o → (θ id).blk ≠ some b := fun id ob b hl hbk => by
            obtain ⟨ty, es, rw', rfl⟩ := roMem_spec e7 hl
            have := (hm.1 id _ hl).2.1
            rw [this] at hbk; cases hbk
          have hsub : ∀ id o, look (delAll r.mem rd) id = some o → look r.mem id = some o := fun id o hl => by
            rw [look_delAll] at hl
            split at hl
            · cases hl
            · exact hl
          have hb : ∀ id o b, look (delAll r.mem rd) id = some o → (θ' id).blk = some b → w.heap.size ≤ b := fun id o b hl hbk => by
            rcases h6.blks id o b (hsub id o hl) hbk with g | ⟨id0, o0, g1, g2⟩
            · exact g
            · exact absurd g2 (hno id0 o0 b g1)
          refine hk _ θ' w' ⟨by rw [e4], ⟨h6.agree, h6.os, h6.tape, h6.output, h6.size, fun b hb _ => h6.heap b hb fun id o hl => hno id o b hl, fun id o b hl hbk => ?_, fun id o b hl hbk => ?_⟩, ?_⟩
          · rw [e6] at hl
            exact .inl (hb id o b hl hbk)
          · rw [e6] at hl
            exact .inl (hb id o b hl (own_eye (h7.1 id o (hsub id o hl)) (ownMem_spec e8 hl) hbk))
          · rw [e6]
            exact ⟨fun id o hl => h7.1 id o (hsub id o hl), fun id id' o o' b h1 h2 => h7.2 id id' o o' b (hsub id o h1) (hsub id' o' h2)⟩
        · refine hk _ θ' w' ⟨by rw [e4], by rw [e5, e6]; exact h6, by rw [e6]; exact h7⟩
      · cases h
    · cases h
  · cases h

/-! #### A struct or an array out of its parts -/
theorem foldl_put (vs : List Value) : ∀ (k off : Nat) (cells : Array Value), off + k + vs.length ≤ cells.size →
    ((vs.zipIdx k).foldl (fun cs (p : Value × Nat) => cs.setIfInBounds (off + p.2) p.1) cells).toList = paste cells.toList (off + k) vs := by
  induction vs with
  | nil => intro k off cells h; rw [paste_eq _ _ _ (by simpa using h)]; simp
  | cons v r ih =>
    intro k off cells h
    simp only [List.zipIdx_cons, List.foldl_cons]
    rw [ih (k + 1) off _ (by simp at h ⊢; omega), paste_eq _ _ _ (by simp at h ⊢; omega), paste_eq _ _ _ (by simp at h ⊢; omega)]
    simp only [Array.toList_setIfInBounds, List.length_cons]
    have e1 : off + (k + 1) = off + k + 1 := by omega
    have e2 : off + k + 1 + r.length = off + k + (r.length + 1) := by omega
    rw [e1, e2]
    generalize off + k = q at *
    have hq : q < cells.toList.length := by simp at h ⊢; omega
    rw [List.take_set, List.drop_set, if_pos (by omega), List.take_succ_eq_append_getElem hq, List.set_append_right _ _ (by simp; omega)]
    have : q - (cells.toList.take q).length = 0 := by simp; omega
    rw [this]
    simp
theorem fillS_spec {place : Nat → Option (Nat × Nat)} : ∀ {ps : List (Nat × List SC)} {cells out : List SC} {vs : List (Nat × Value)}, fillS place cells ps = some out →
    vs.map (fun p => (p.1, p.2.cells.toList)) = ps.map (fun p => (p.1, dens θ p.2)) → Instr.fill place (dens θ cells).toArray vs = some (dens θ out).toArray
  | [], cells, out, vs, h, hv => by
    cases h
    cases vs with
    | nil => rfl
    | cons _ _ => simp at hv
  | (i, v) :: ps, cells, out, vs, h, hv => by
    cases vs with
    | nil => simp at hv
    | cons q vs =>
      obtain ⟨i', v'⟩ := q
      simp only [List.map_cons, List.cons.injEq, Prod.mk.injEq] at hv
      obtain ⟨⟨rfl, hv1⟩, hv2⟩ := hv
      simp only [fillS] at h
      unfold Instr.fill
      split at h
      · cases h
      · rename_i off size hpl
        simp only [hpl]
        cases hq : (Nat.beq v.length size && Nat.ble (off + size) cells.length)
        · rw [hq] at h; cases h
        · rw [hq] at h
          simp only [Bool.and_eq_true] at hq
          have h1 := Nat.eq_of_beq_eq_true hq.1
          have h2 := Nat.le_of_ble_eq_true hq.2
          have hsz : v'.cells.size = v.length := by rw [← Array.length_toList, hv1]; simp [dens]
          have hc : ¬ ((decide (v'.cells.size ≠ size) || decide (off + v'.cells.size > (dens θ cells).toArray.size)) = true) := by
            simp [hsz, h1, dens]; omega
          rw [if_neg hc]
          simp only [cond_true] at h
          have := fillS_spec h hv2
          rw [← this]
          congr 1
          apply Array.toList_inj.1
          have e := foldl_put v'.cells.toList 0 off (dens θ cells).toArray (by simp only [Array.length_toList, hsz, dens, List.size_toArray, List.length_map]; omega)
          rw [← Array.foldl_toList, Array.toList_zipIdx]
          simp only [Nat.add_zero] at e
          rw [e, hv1]
          simp only [dens]
          rw [paste_eq _ _ _ (by simp; omega), paste_eq _ _ _ (by omega)]
          simp [List.map_take, List.map_drop]
theorem parts_spec : ∀ {ps : List (Nat × Operand)} {vs : List (Nat × List SC)}, parts env g ps = some vs → (∀ t ∈ slotsOf (ps.map (·.2)), ∀ e, look env t = some e → entRel θ a t e) → holds a g →
    (ps.map (fun p => (p.1, a.eval p.2))).map (fun p => (p.1, p.2.cells.toList)) = vs.map (fun p => (p.1, dens θ p.2))
  | [], vs, h, _, _ => by cases h; rfl
  | (i, x) :: r, vs, h, hr, hg => by
    simp only [parts] at h
    split at h
    · rename_i v vs' h1 h2
      cases h
      simp only [List.map_cons] at hr
      rw [slotsOf_cons] at hr
      simp only [Option.bind_eq_some_iff] at h1
      obtain ⟨u, h3, h4⟩ := h1
      have h5 := arg_spec h3 (fun t ht => hr t (by simp [ht])) hg
      have h6 := SV.cells_den θ h4
      simp only [List.map_cons, List.cons.injEq, Prod.mk.injEq, true_and]
      exact ⟨by rw [h5, h6], by simpa using parts_spec h2 (fun t ht => hr t (by simp [ht])) hg⟩
    · cases h
theorem getq_toArray (pl : List (Nat × Nat)) : (fun i : Nat => pl[i]?) = (fun i : Nat => pl.toArray[i]?) := by funext i; simp
theorem fieldPlaces_spec : ∀ {fs : List Field} {pl : List (Nat × Nat)}, fieldPlaces P fs = some pl →
    (fs.mapM (fun f => (do pure (f.offset, ← sizeOf f.type) : Sem (Nat × Nat)))).run P w = .ok pl w
  | [], pl, h => by cases h; rfl
  | f :: r, pl, h => by
    simp only [fieldPlaces] at h
    split at h
    · rename_i i ps h1 h2
      cases h
      have h3 : (sizeOf f.type).run P w = .ok i.size w := by simp [sizeOf, typeInfo, go_sem, h1]
      simp only [List.mapM_cons, Sem.run_bind, h3, Result.andThen_ok, Sem.run_pure, fieldPlaces_spec h2]
    · cases h

theorem snd_build {t : TypeId} {ps : Array (Nat × Operand)} (ho : o.op = .build t ps)
    (h : (match P.underlying t, (zeroOf P t).bind SV.cells, parts env g ps.toList with
      | some (.struct fs), some z, some vs => match fieldPlaces P fs.toList with
        | some pl => (fillS (fun i => pl[i]?) z vs).map fun cs => Eff.pure n (.agg cs)
        | none => none
      | some (.array _ e), some z, some vs => match P.info? e with
        | some i => (fillS (fun j => some (j * i.size, i.size)) z vs).map fun cs => Eff.pure n (.agg cs)
        | none => none
      | _, _, _ => none) = some e)
    (hs : ∀ t ∈ slotsOf (ps.toList.map (·.2)), ∀ y, look env t = some y → entRel θ a t y) (hg : holds a g)
    (hk : Then K o a n θ w (restrict mem e.touched) e) : o.wp P a w K Q := by
  have hparts : ∀ vs, parts env g ps.toList = some vs → (ps.map (fun (p : Nat × Operand) => (p.1, a.eval p.2))).toList.map (fun p => (p.1, p.2.cells.toList)) = vs.map (fun p => (p.1, dens θ p.2)) := by
    intro vs hv
    have := parts_spec (θ := θ) hv hs hg
    simpa using this
  have hzero : ∀ z, (zeroOf P t).bind SV.cells = some z → ∃ zv, (zeroValue t).run P w = .ok zv w ∧ zv.cells = (dens θ z).toArray := by
    intro z hz
    simp only [Option.bind_eq_some_iff] at hz
    obtain ⟨v, h1, h2⟩ := hz
    obtain ⟨i, zv, h3, h4, h5, _⟩ := zeroOf_spec h1 θ
    exact ⟨zv, run_zeroValue' h3 h4 w, by rw [← h5]; exact SV.cells_den θ h2⟩
  split at h
  · rename_i fs z vs hu hz hv
    obtain ⟨zv, h1, h2⟩ := hzero z hz
    split at h
    · rename_i pl hpl
      simp only [Option.map_eq_some_iff] at h
      obtain ⟨cs, h3, rfl⟩ := h
      refine wp_value (v := SV.den θ (.agg cs)) (w' := w) ?_ (hk _ _ _ (EffRel.pure (x := .agg cs) rfl rfl))
      unfold execOp
      simp only [ho]
      refine run_v ?_
      have hplaces : (fs.mapM (fun f => (do pure (f.offset, ← sizeOf f.type) : Sem (Nat × Nat)))).run P w = .ok pl.toArray w := by
        have := fieldPlaces_spec (w := w) hpl
        rw [← Array.toArray_toList (xs := fs), List.mapM_toArray]
        rw [Sem.run_map, this, Result.andThen_ok]
      have hfill := fillS_spec (θ := θ) (vs := (ps.map (fun (p : Nat × Operand) => (p.1, a.eval p.2))).toList) h3 (hparts vs hv)
      rw [getq_toArray] at hfill
      simp only [Instr.build, Sem.run_bind, h1, Result.andThen_ok, run_underlying hu, hplaces, h2, hfill, Sem.run_pure, SV.den]
    · cases h
  · rename_i e' z vs hu hz hv
    obtain ⟨zv, h1, h2⟩ := hzero z hz
    split at h
    · rename_i i hi
      simp only [Option.map_eq_some_iff] at h
      obtain ⟨cs, h3, rfl⟩ := h
      refine wp_value (v := SV.den θ (.agg cs)) (w' := w) ?_ (hk _ _ _ (EffRel.pure (x := .agg cs) rfl rfl))
      unfold execOp
      simp only [ho]
      refine run_v ?_
      have hfill := fillS_spec (θ := θ) (vs := (ps.map (fun (p : Nat × Operand) => (p.1, a.eval p.2))).toList) h3 (hparts vs hv)
      have hsz : (sizeOf e').run P w = .ok i.size w := by simp [sizeOf, typeInfo, go_sem, hi]
      simp only [Instr.build, Sem.run_bind, h1, Result.andThen_ok, run_underlying hu, hsz, h2, hfill, Sem.run_pure, SV.den]
    · cases h
  · cases h
end each
end Go.SX
