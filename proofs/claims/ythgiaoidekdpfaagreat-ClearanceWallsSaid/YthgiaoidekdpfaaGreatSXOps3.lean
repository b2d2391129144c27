/-
  THE OPERATIONS ON ROWS AND CLOSURES. Conditions: what is needed holds; the callees are right.
-/
import Derived.Test.YthgiaoidekdpfaaGreatSXRows
set_option linter.all false
namespace Go.SX
open Go.RowKit

section each
variable {P : Program} {ce : CE} {o : Oper} {env : Env} {g : List (Nat × Bool)} {mem : Mem} {n : Nat} {e : Eff} {θ : Th} {a : Act} {w : World} {K : Act → World → Prop} {Q : Exit → Act → World → Prop}

theorem eptrOf_spec {v : Option SV} {id esz off : Nat} {i : SN} (h : eptrOf v = some (id, esz, i, off)) : v = some (.one (.eptr id esz i off)) := by
  unfold eptrOf at h
  split at h
  · cases h; rfl
  · cases h
theorem cloOf_spec {v : Option SV} {f id : Nat} (h : cloOf v = some (f, id)) : v = some (.one (.clo f id)) := by
  unfold cloOf at h
  split at h
  · cases h; rfl
  · cases h
theorem run_loadVar_at {t : TypeId} {d : TypeDesc} {i : TypeInfo} {cs : List Value} {ad : Addr} (hu : P.underlying t = some d) (hd : d.isRow = true) (hi : P.info? t = some i) (hl : cs.length = i.size) (hc : ∀ j v, cs[j]? = some v → w.cell? (ad.add j) = some v) :
    (loadVar t ad).run P w = .ok (.agg cs.toArray) w := by
  have hl' : (loadCells ad cs.length).run P w = .ok cs.toArray w := run_loadCells_list (P := P) w ad cs hc
  have hagg : (isAgg t).run P w = .ok true w := by
    unfold isAgg
    rw [Sem.run_bind, run_underlying hu w]
    cases d <;> simp_all
  simp [loadVar, Sem.run_bind, hagg, sizeOf, typeInfo, hi, ← hl, hl']
theorem look_sub {id : Nat} {ob : Obj} (hl : look mem id = some ob) {rd : List Nat} (h : id ∈ rd) : look (restrict mem rd) id = some ob := by rw [look_restrict, if_pos h, hl]

theorem snd_loadE {t : TypeId} {x : Operand} {id esz off : Nat} {i : SN} (ho : o.op = .load t x) (hx : arg env g x = some (.one (.eptr id esz i off))) (h : loadE P t mem n id esz i off = some e) (hn : ∀ p ∈ e.needs, p)
    (hs : ∀ t ∈ slotsOf [x], ∀ y, look env t = some y → entRel θ a t y) (hg : holds a g) (hm : memRel θ (restrict mem e.rd) w)
    (hk : Then K o a n θ w (restrict mem e.touched) e) : o.wp P a w K Q := by
  have ha := arg_spec hx hs hg
  unfold loadE at h
  split at h
  case h_2 => cases h
  rename_i b inf ro ty m r h2 h3 hl
  obtain ⟨d, hu, hd⟩ := isAggT_spec h2
  cases hme : Nat.beq m esz
  · rw [hme] at h; cases h
  rw [hme] at h
  have := Nat.eq_of_beq_eq_true hme; subst this
  simp only [cond_true] at h
  split at h
  case h_2 => cases h
  rename_i cs q hr
  have run : ∀ v, (∀ ad, (θ id).ad = some ad → (loadVar t (ad.add (i.val * m + off))).run P w = .ok v w) → (∃ ad, (θ id).ad = some ad) → (execOp a.eval o).run P w = .ok (.value v) w := by
    intro v h1 ⟨ad, h2⟩
    unfold execOp
    simp only [ho]
    refine run_v ?_
    simp only [Instr.loadAt, ha, SV.den, SC.den, h2, Option.map_some, Instr.sureAddr, Sem.run_bind, Sem.run_pure, Result.andThen_ok, h1 ad h2]
  cases b
  · simp only [cond_false] at h
    split at h
    case h_2 => cases h
    rename_i c hc
    cases h
    have hob := hm.1 id _ (look_sub hl (by simp))
    obtain ⟨row, h4, h5, h6, h7⟩ := rowAt_spec hr hn (row_at hob).1
    obtain ⟨ad, h8, h9⟩ := elem_at hob (off := off) h4
    refine wp_value (v := c.den θ) (w' := w) (run _ (fun ad' had => ?_) ⟨ad, h8⟩) (hk _ _ _ (EffRel.pure (x := .one c) rfl rfl))
    rw [h8] at had; cases had
    refine run_loadVar_plain hu hd ?_
    have := h9 0 (c.den θ) ?_
    · simpa using this
    · rw [← h7 θ]
      rw [cut_eq] at hc
      have := congrArg (fun l : List SC => l[0]?) hc
      simp only [List.getElem?_take, List.getElem?_drop] at this
      simp only [dens, List.getElem?_drop, List.getElem?_map]
      simp at this
      simp [this]
  · simp only [cond_true] at h
    cases hq : Nat.beq (cut cs off inf.size).length inf.size
    · rw [hq] at h; cases h
    rw [hq] at h; cases h
    have hlen := Nat.eq_of_beq_eq_true hq
    have hob := hm.1 id _ (look_sub hl (by simp))
    obtain ⟨row, h4, h5, h6, h7⟩ := rowAt_spec hr hn (row_at hob).1
    obtain ⟨ad, h8, h9⟩ := elem_at hob (off := off) h4
    refine wp_value (v := .agg (dens θ (cut cs off inf.size)).toArray) (w' := w) (run _ (fun ad' had => ?_) ⟨ad, h8⟩) (hk _ _ _ (EffRel.pure (x := .agg _) rfl rfl))
    rw [h8] at had; cases had
    refine run_loadVar_at hu hd h3 (by simp [dens, hlen]) fun j u hu' => ?_
    rw [Addr.add_add]
    refine h9 j u ?_
    rw [dens_cut, List.getElem?_take] at hu'
    split at hu'
    · rw [← h7 θ]; exact hu'
    · cases hu'

theorem ltN_spec {x y : SN} {q : List Prop} (h : ltN x y = some q) (hq : ∀ p ∈ q, p) : x.val < y.val := by
  unfold ltN at h
  split at h
  · rename_i p r
    cases hb : Nat.blt p r
    · rw [hb] at h; cases h
    · exact Nat.le_of_ble_eq_true hb
  · cases h; exact hq _ (by simp)
theorem leN_spec {x y : SN} {q : List Prop} (h : leN x y = some q) (hq : ∀ p ∈ q, p) : x.val ≤ y.val := by
  unfold leN at h
  split at h
  · rename_i p r
    cases hb : Nat.ble p r
    · rw [hb] at h; cases h
    · exact Nat.le_of_ble_eq_true hb
  · cases h; exact hq _ (by simp)
theorem addN_val (x y : SN) : (addN x y).val = x.val + y.val := by
  unfold addN
  split
  · rfl
  · simp [SN.val]
  · rfl
theorem subN_val (x y : SN) : (subN x y).val = x.val - y.val := by
  unfold subN
  split <;> rfl
theorem natOf_spec {x : SI} {k : SN} {q : List Prop} (h : natOf x = some (k, q)) (hq : ∀ p ∈ q, p) : 0 ≤ x.val ∧ x.val.toNat = k.val := by
  cases x with
  | c m =>
    simp only [natOf] at h
    by_cases hm : 0 ≤ m
    · simp only [hm, decide_true, cond_true, Option.some.injEq, Prod.mk.injEq] at h
      obtain ⟨rfl, _⟩ := h
      exact ⟨hm, rfl⟩
    · simp [hm] at h
  | v m =>
    cases h
    exact ⟨hq (0 ≤ m) (by simp), rfl⟩

theorem crow_at {id ty esz len : Nat} {cs : List (Nat × SC)} (h : objRel θ w id (.crow ty esz len cs)) (hne : len ≠ 0) :
    ∃ a, (θ id).ad = some a ∧ ∀ (j : Nat) (u : Value), (dens θ (untag cs))[j]? = some u → w.cell? (a.add j) = some u := by
  obtain ⟨h0, h1, h2, h3⟩ := h
  rcases h2 with ⟨_, _, h4, _⟩ | ⟨b, _, _, h4⟩
  · exfalso
    rcases h3.2 with ⟨_, hn⟩ | ⟨g, cap, cur, hv, _⟩
    · exact hne hn
    · rw [h4] at hv; injection hv with hv; cases hv
  · exact ⟨⟨b, 0, none⟩, h4, h3.cells (by rw [h4]; rfl)⟩
theorem orO_cases {a b : Option Eff} {e : Eff} (h : orO a b = some e) : a = some e ∨ b = some e := by
  cases a with
  | none => exact .inr h
  | some x => exact .inl h
theorem snd_loadK {t : TypeId} {x : Operand} {id esz off : Nat} {i : SN} (ho : o.op = .load t x) (hx : arg env g x = some (.one (.eptr id esz i off))) (h : loadK P t mem n id esz i off = some e)
    (hs : ∀ t ∈ slotsOf [x], ∀ y, look env t = some y → entRel θ a t y) (hg : holds a g) (hm : memRel θ (restrict mem e.rd) w)
    (hk : Then K o a n θ w (restrict mem e.touched) e) : o.wp P a w K Q := by
  have ha := arg_spec hx hs hg
  unfold loadK at h
  split at h
  case h_2 => cases h
  rename_i b inf ty m len cs k h2 h3 hl
  obtain ⟨d, hu, hd⟩ := isAggT_spec h2
  cases hme : (Nat.beq m esz && Nat.blt k len)
  · rw [hme] at h; cases h
  rw [hme] at h
  simp only [Bool.and_eq_true] at hme
  have hms := Nat.eq_of_beq_eq_true hme.1
  subst hms
  have hkl : k < len := Nat.le_of_ble_eq_true hme.2
  have hne : len ≠ 0 := by omega
  simp only [cond_true] at h
  have run : ∀ v, (∀ ad, (θ id).ad = some ad → (loadVar t (ad.add (k * m + off))).run P w = .ok v w) → (∃ ad, (θ id).ad = some ad) → (execOp a.eval o).run P w = .ok (.value v) w := by
    intro v h1 ⟨ad, h2⟩
    unfold execOp
    simp only [ho]
    refine run_v ?_
    simp only [Instr.loadAt, ha, SV.den, SC.den, SN.val, h2, Option.map_some, Instr.sureAddr, Sem.run_bind, Sem.run_pure, Result.andThen_ok, h1 ad h2]
  cases b
  · simp only [cond_false] at h
    split at h
    case h_2 => cases h
    rename_i c hc
    cases h
    have hob := hm.1 id _ (look_sub hl (by simp))
    obtain ⟨ad, h8, h9⟩ := crow_at hob hne
    refine wp_value (v := c.den θ) (w' := w) (run _ (fun ad' had => ?_) ⟨ad, h8⟩) (hk _ _ _ (EffRel.pure (x := .one c) rfl rfl))
    rw [h8] at had; cases had
    refine run_loadVar_plain hu hd (h9 _ _ ?_)
    rw [cut_eq] at hc
    have := congrArg (fun l : List SC => l[0]?) hc
    simp only [List.getElem?_take, List.getElem?_drop] at this
    simp only [dens, List.getElem?_map]
    simp at this
    simp [this]
  · simp only [cond_true] at h
    cases hq : Nat.beq (cut (untag cs) (k * m + off) inf.size).length inf.size
    · rw [hq] at h; cases h
    rw [hq] at h; cases h
    have hlen := Nat.eq_of_beq_eq_true hq
    have hob := hm.1 id _ (look_sub hl (by simp))
    obtain ⟨ad, h8, h9⟩ := crow_at hob hne
    refine wp_value (v := .agg (dens θ (cut (untag cs) (k * m + off) inf.size)).toArray) (w' := w) (run _ (fun ad' had => ?_) ⟨ad, h8⟩) (hk _ _ _ (EffRel.pure (x := .agg _) rfl rfl))
    rw [h8] at had; cases had
    refine run_loadVar_at hu hd h3 (by simp [dens, hlen]) fun j u hu' => ?_
    rw [Addr.add_add]
    refine h9 _ u ?_
    rw [dens_cut, List.getElem?_take] at hu'
    split at hu'
    · rw [List.getElem?_drop] at hu'; exact hu'
    · cases hu'
theorem snd_indexK {t : TypeId} {x y : Operand} (ho : o.op = .indexAddr t x y) (h : indexK P t (arg env g x) (arg env g y) mem n = some e) (hm : memRel θ (restrict mem e.rd) w)
    (hs : ∀ t ∈ slotsOf [x, y], ∀ u, look env t = some u → entRel θ a t u) (hg : holds a g)
    (hk : Then K o a n θ w (restrict mem e.touched) e) : o.wp P a w K Q := by
  have hsx : ∀ t ∈ slotsOf [x], ∀ u, look env t = some u → entRel θ a t u := fun t ht => hs t (by rw [slotsOf_cons]; simp [ht])
  have hsy : ∀ t ∈ slotsOf [y], ∀ u, look env t = some u → entRel θ a t u := fun t ht => hs t (by rw [slotsOf_cons]; simp [ht])
  unfold indexK at h
  split at h
  case h_2 => cases h
  rename_i el id kd j hu hx hy
  have ha := arg_spec hx hsx hg
  have hb := arg_spec hy hsy hg
  split at h
  case h_2 => cases h
  rename_i inf ty m len cs hi hl
  cases hr : (Nat.beq inf.size m && (decide (0 ≤ j) && decide (j < (len : Int))))
  · rw [hr] at h; cases h
  rw [hr] at h; cases h
  simp only [Bool.and_eq_true, decide_eq_true_eq] at hr
  have hsz := Nat.eq_of_beq_eq_true hr.1
  have hr := hr.2
  have hob := hm.1 id _ (look_sub hl (by simp))
  obtain ⟨ad, h8, _⟩ := crow_at hob (by omega)
  have hl0 : (θ id).len = len := hob.2.1
  refine wp_value (v := SV.den θ (.one (.eptr id m (.c j.toNat) 0))) (w' := w) ?_ (hk _ _ _ (EffRel.pure (x := .one (.eptr id m (.c j.toNat) 0)) rfl rfl))
  unfold execOp
  simp only [ho]
  refine run_v ?_
  simp only [ha, hb, SV.den, SC.den, SI.val, SN.val, h8, hl0, Option.map_some, Instr.indexAt, asIntOf, Sem.run_bind, Sem.run_pure, Result.andThen_ok, run_underlying hu, hr, and_self, if_true, sizeOf, typeInfo, run_program, hi, hsz, Nat.add_zero]
theorem liveE_spec {id : Nat} {i : SN} {q : List Prop} (h : liveE mem id i = some q) (hq : ∀ p ∈ q, p) (hm : memRel θ (restrict mem [id]) w) : ∃ ad, (θ id).ad = some ad := by
  unfold liveE at h
  split at h
  · rename_i ro ty esz r hl
    have hob := hm.1 id _ (look_sub hl (by simp))
    have hlt := ltN_spec h hq
    rw [rowLen_val] at hlt
    obtain ⟨_, _, _, h3⟩ := row_at hob
    obtain ⟨ad, h4, _⟩ := h3 (fun e => by rw [e] at hlt; simp at hlt)
    exact ⟨ad, h4⟩
  · rename_i ty esz len cs hl
    have hob := hm.1 id _ (look_sub hl (by simp))
    have hlt : i.val < len := ltN_spec h hq
    obtain ⟨ad, h4, _⟩ := crow_at hob (by omega)
    exact ⟨ad, h4⟩
  · cases h
theorem run_eqGuard_else (op : BinOp) (t : TypeId) (x y : Operand) (u v : Value) (h1 : u ≠ .nilIface) (h2 : ∀ xs, u ≠ .agg xs) : (eqGuard op t x y u v).run P w = .ok () w := by
  unfold eqGuard
  cases op <;> simp [Sem.run_pure]
  all_goals (split <;> first | rfl | (exfalso; exact h1 rfl) | (exfalso; exact h2 _ rfl) | simp [Sem.run_pure])
theorem snd_nilEq {op : BinOp} {t yt : TypeId} {x y : Operand} (ho : o.op = .binOp op t x y yt) (h : nilEq P mem n op t (arg env g x) (arg env g y) = some e) (hn : ∀ p ∈ e.needs, p)
    (hm : memRel θ (restrict mem e.rd) w) (hs : ∀ t ∈ slotsOf [x, y], ∀ y, look env t = some y → entRel θ a t y) (hg : holds a g)
    (hk : Then K o a n θ w (restrict mem e.touched) e) : o.wp P a w K Q := by
  have hsx : ∀ t ∈ slotsOf [x], ∀ y, look env t = some y → entRel θ a t y := fun t ht => hs t (by rw [slotsOf_cons]; simp [ht])
  have hsy : ∀ t ∈ slotsOf [y], ∀ y, look env t = some y → entRel θ a t y := fun t ht => hs t (by rw [slotsOf_cons]; simp [ht])
  have fin : ∀ (b : Bool), e = ⟨some (.one (.bool (.c b))), e.rd, e.touched, [], e.needs, e.eqs, n⟩ → ((do eqGuard op t x y (a.eval x) (a.eval y); Go.binOp op t (a.eval x) (a.eval y) : Sem Value).run P w = .ok (.bool b) w) → o.wp P a w K Q := fun b he hr => by
    refine wp_value (v := SV.den θ (.one (.bool (.c b)))) (w' := w) ?_ (hk _ _ _ (EffRel.pure (x := .one (.bool (.c b))) (by rw [he]) (by rw [he])))
    unfold execOp
    simp only [ho]
    exact run_v hr
  have eqn : ∀ (u v : Value) (b : Bool), u ≠ .nilIface → (∀ xs, u ≠ .agg xs) → (∀ d, (Op.equalIn (d + 1) t u v).run P w = .ok b w) → ((do eqGuard .eql t x y u v; Op.equal t u v : Sem Bool).run P w = .ok b w) := fun u v b h1 h2 h3 => by
    rw [Sem.run_bind, run_eqGuard_else _ _ _ _ _ _ h1 h2]
    simp only [Result.andThen_ok, Op.equal, Op.maxDepth, h3 9999]
  unfold nilEq at h
  split at h
  · rename_i id off hx hy
    have hax := arg_spec hx hsx hg
    have hay := arg_spec hy hsy hg
    split at h
    · rename_i el ty cs hu hl
      cases h
      obtain ⟨b, hb, _⟩ := objRel_blk (hm.1 id (.blk ty cs) (by rw [look_restrict]; simp [hl]))
      refine fin false rfl ?_
      have h3 : ∀ d, (Op.equalIn (d + 1) t (.pointer (some ⟨b, off, .none⟩)) (.pointer none)).run P w = .ok false w := fun d => by
        unfold Op.equalIn
        simp [run_underlying hu]
      rw [hax, hay]
      simp only [SV.den, SC.den, hb, Option.map_some]
      rw [Sem.run_bind, run_eqGuard_else _ _ _ _ _ _ (by simp) (by simp)]
      simp [Go.binOp, Op.equal, Op.maxDepth, h3 9999]
    · rename_i el ty cs hu hl
      cases h
      obtain ⟨b, hb, _⟩ := objRel_blk (hm.1 id (.blk ty cs) (by rw [look_restrict]; simp [hl]))
      refine fin true rfl ?_
      have h3 : ∀ d, (Op.equalIn (d + 1) t (.pointer (some ⟨b, off, .none⟩)) (.pointer none)).run P w = .ok false w := fun d => by
        unfold Op.equalIn
        simp [run_underlying hu]
      rw [hax, hay]
      simp only [SV.den, SC.den, hb, Option.map_some]
      rw [Sem.run_bind, run_eqGuard_else _ _ _ _ _ _ (by simp) (by simp)]
      simp [Go.binOp, Op.equal, Op.maxDepth, h3 9999]
    · cases h
  · rename_i id hx hy
    have hax := arg_spec hx hsx hg
    have hay := arg_spec hy hsy hg
    split at h
    · rename_i el ob hu hl
      simp only [Option.map_eq_some_iff] at h
      obtain ⟨q, hq, rfl⟩ := h
      obtain ⟨ad, had⟩ := liveE_spec hq hn hm
      refine fin false rfl ?_
      have h3 : ∀ d, (Op.equalIn (d + 1) t (.slice (some ad) (θ id).len (θ id).cap) (.slice none 0 0)).run P w = .ok false w := fun d => by
        unfold Op.equalIn
        simp [run_underlying hu]
      rw [hax, hay]
      simp only [SV.den, SC.den, had]
      rw [Sem.run_bind, run_eqGuard_else _ _ _ _ _ _ (by simp) (by simp)]
      simp [Go.binOp, Op.equal, Op.maxDepth, h3 9999]
    · cases h
  · rename_i hx hy
    have hax := arg_spec hx hsx hg
    have hay := arg_spec hy hsy hg
    split at h
    · rename_i el hu
      cases h
      refine fin true rfl ?_
      have h3 : ∀ d, (Op.equalIn (d + 1) t (.slice none 0 0) (.slice none 0 0)).run P w = .ok true w := fun d => by
        unfold Op.equalIn
        simp [run_underlying hu]
      rw [hax, hay]
      simp only [SV.den, SC.den]
      rw [Sem.run_bind, run_eqGuard_else _ _ _ _ _ _ (by simp) (by simp)]
      simp [Go.binOp, Op.equal, Op.maxDepth, h3 9999]
    · cases h
  · cases h
theorem snd_nilE {x : Operand} {id esz off : Nat} {i : SN} (ho : o.op = .nilCheck x) (hx : arg env g x = some (.one (.eptr id esz i off)))
    (h : (liveE mem id i).map (fun q => (⟨some (.one (.eptr id esz i off)), [id], [], [], q, [], n⟩ : Eff)) = some e) (hn : ∀ p ∈ e.needs, p) (hm : memRel θ (restrict mem e.rd) w)
    (hs : ∀ t ∈ slotsOf [x], ∀ y, look env t = some y → entRel θ a t y) (hg : holds a g)
    (hk : Then K o a n θ w (restrict mem e.touched) e) : o.wp P a w K Q := by
  have ha := arg_spec hx hs hg
  simp only [Option.map_eq_some_iff] at h
  obtain ⟨q, h1, rfl⟩ := h
  obtain ⟨ad, h2⟩ := liveE_spec h1 hn hm
  refine wp_value (v := SV.den θ (.one (.eptr id esz i off))) (w' := w) ?_ (hk _ _ _ (EffRel.pure (x := .one (.eptr id esz i off)) rfl rfl))
  unfold execOp
  simp only [ho, ha, SV.den, SC.den, h2, Option.map_some, Sem.run_pure]
theorem snd_fieldE {t : TypeId} {x : Operand} {f id esz off : Nat} {i : SN} (ho : o.op = .fieldAddr t x f) (hx : arg env g x = some (.one (.eptr id esz i off)))
    (h : fieldE P t f mem n id esz i off = some e) (hn : ∀ p ∈ e.needs, p) (hm : memRel θ (restrict mem e.rd) w)
    (hs : ∀ t ∈ slotsOf [x], ∀ y, look env t = some y → entRel θ a t y) (hg : holds a g)
    (hk : Then K o a n θ w (restrict mem e.touched) e) : o.wp P a w K Q := by
  have ha := arg_spec hx hs hg
  unfold fieldE at h
  split at h
  case h_2 => cases h
  rename_i fs q hu h1
  split at h
  case h_2 => cases h
  rename_i fd hf
  split at h
  case h_2 => cases h
  rename_i inf hi
  cases hz : Nat.beq inf.size 0
  · rw [hz] at h
    cases h
    obtain ⟨ad, h2⟩ := liveE_spec h1 hn hm
    have hne : inf.size ≠ 0 := fun he => by rw [he] at hz; cases hz
    refine wp_value (v := SV.den θ (.one (.eptr id esz i (off + fd.offset)))) (w' := w) ?_ (hk _ _ _ (EffRel.pure (x := .one (.eptr id esz i (off + fd.offset))) rfl rfl))
    unfold execOp
    simp only [ho]
    refine run_v ?_
    rw [toList_get] at hf
    simp only [ha, SV.den, SC.den, h2, Option.map_some, Instr.fieldAt, Sem.run_bind, run_underlying hu, Result.andThen_ok, hf, Instr.sureAddr, Sem.run_pure, fieldPlace, sizeOf, typeInfo, run_program, hi, hne, if_false, Addr.add_add, Nat.add_assoc]
  · rw [hz] at h; cases h

theorem arg2 {x y : Operand} (hs : ∀ t ∈ slotsOf [x, y], ∀ u, look env t = some u → entRel θ a t u) : (∀ t ∈ slotsOf [x], ∀ u, look env t = some u → entRel θ a t u) ∧ ∀ t ∈ slotsOf [y], ∀ u, look env t = some u → entRel θ a t u :=
  ⟨fun t ht => hs t (by rw [slotsOf_cons]; simp [ht]), fun t ht => hs t (by rw [slotsOf_cons]; simp [ht])⟩

theorem snd_indexA {t : TypeId} {x y : Operand} (ho : o.op = .indexAddr t x y) (h : indexA P t (arg env g x) (arg env g y) mem n = some e) (hn : ∀ p ∈ e.needs, p) (hm : memRel θ (restrict mem e.rd) w)
    (hs : ∀ t ∈ slotsOf [x, y], ∀ u, look env t = some u → entRel θ a t u) (hg : holds a g)
    (hk : Then K o a n θ w (restrict mem e.touched) e) : o.wp P a w K Q := by
  obtain ⟨hsx, hsy⟩ := arg2 hs
  unfold indexA at h
  split at h
  · rename_i el id k iv hu hx hy
    have ha := arg_spec hx hsx hg
    have hb := arg_spec hy hsy hg
    split at h
    case h_2 => cases h
    rename_i inf ro ty m r kk q1 hi hl h1
    cases hsz : Nat.beq inf.size m
    · rw [hsz] at h; cases h
    rw [hsz] at h
    have hsz := Nat.eq_of_beq_eq_true hsz
    simp only [cond_true] at h
    split at h
    case h_2 => cases h
    rename_i q2 h2
    cases h
    simp only [List.mem_append] at hn
    obtain ⟨h3, h4⟩ := natOf_spec h1 fun p hp => hn p (.inl hp)
    have h5 := ltN_spec h2 fun p hp => hn p (.inr hp)
    rw [rowLen_val] at h5
    obtain ⟨_, h6, _, h7⟩ := row_at (hm.1 id _ (look_sub hl (by simp)))
    obtain ⟨ad, h8, _⟩ := h7 (fun e => by rw [e] at h5; simp at h5)
    refine wp_value (v := SV.den θ (.one (.eptr id m kk 0))) (w' := w) ?_ (hk _ _ _ (EffRel.pure (x := .one (.eptr id m kk 0)) rfl rfl))
    unfold execOp
    simp only [ho]
    refine run_v ?_
    have hrange : 0 ≤ iv.val ∧ iv.val < ((θ id).len : Int) := ⟨h3, by rw [h6]; omega⟩
    simp only [ha, hb, SV.den, SC.den, h8, Option.map_some, Instr.indexAt, asIntOf, Sem.run_bind, Sem.run_pure, Result.andThen_ok, run_underlying hu, hrange, and_self, if_true, sizeOf, typeInfo, run_program, hi, h4, hsz, Nat.add_zero]
  · rename_i el id esz off len k iv hu hx hy
    have ha := arg_spec hx hsx hg
    have hb := arg_spec hy hsy hg
    split at h
    case h_2 => cases h
    rename_i inf ro ty m r kk q1 hi hl h1
    cases hsz : (Nat.beq inf.size m && Nat.beq esz m)
    · rw [hsz] at h; cases h
    rw [hsz] at h
    simp only [Bool.and_eq_true] at hsz
    have hes := Nat.eq_of_beq_eq_true hsz.2
    have hsz := Nat.eq_of_beq_eq_true hsz.1
    subst hes
    simp only [cond_true] at h
    split at h
    case h_2 => cases h
    rename_i q2 q3 h2 h2'
    cases h
    simp only [List.mem_append] at hn
    obtain ⟨h3, h4⟩ := natOf_spec h1 fun p hp => hn p (.inl (.inl hp))
    have h5 := ltN_spec h2 fun p hp => hn p (.inl (.inr hp))
    have h5' := ltN_spec h2' fun p hp => hn p (.inr hp)
    rw [rowLen_val, addN_val] at h5'
    obtain ⟨_, h6, hcap, h7⟩ := row_at (hm.1 id _ (look_sub hl (by simp)))
    obtain ⟨ad, h8, _⟩ := h7 (fun e => by rw [e] at h5'; simp at h5')
    refine wp_value (v := SV.den θ (.one (.eptr id esz (addN off kk) 0))) (w' := w) ?_ (hk _ _ _ (EffRel.pure (x := .one (.eptr id esz (addN off kk) 0)) rfl rfl))
    unfold execOp
    simp only [ho]
    refine run_v ?_
    have hrange : 0 ≤ iv.val ∧ iv.val < (len.val : Int) := ⟨h3, by omega⟩
    have hne : (θ id).cap ≠ off.val := by omega
    simp only [ha, hb, SV.den, SC.den, h8, Option.map_some, Instr.indexAt, asIntOf, Sem.run_bind, Sem.run_pure, Result.andThen_ok, run_underlying hu, hrange, and_self, if_true, sizeOf, typeInfo, run_program, hi, h4, hsz, Nat.add_zero, hne, if_false, Addr.add_add, addN_val, Nat.add_mul]
  · rename_i len el id off k j hu hx hy
    have ha := arg_spec hx hsx hg
    have hb := arg_spec hy hsy hg
    split at h
    case h_2 => cases h
    rename_i inf ty cs hi hl
    cases hr : (decide (0 ≤ j) && decide (j < (len : Int)))
    · rw [hr] at h; cases h
    rw [hr] at h; cases h
    simp only [Bool.and_eq_true, decide_eq_true_eq] at hr
    obtain ⟨b, hb', _⟩ := objRel_blk (hm.1 id (.blk ty cs) (look_sub hl (by simp)))
    refine wp_value (v := SV.den θ (.one (.ptr id (off + j.toNat * inf.size)))) (w' := w) ?_ (hk _ _ _ (EffRel.pure (x := .one (.ptr id (off + j.toNat * inf.size))) rfl rfl))
    unfold execOp
    simp only [ho]
    refine run_v ?_
    simp only [ha, hb, SV.den, SC.den, SI.val, hb', Option.map_some, Instr.indexAt, asIntOf, Sem.run_bind, Sem.run_pure, Result.andThen_ok, run_underlying hu, hr, and_self, if_true, sizeOf, typeInfo, run_program, hi, Instr.sureAddr, Addr.add_mid]
  · rename_i el id len k j hu hx hy
    have ha := arg_spec hx hsx hg
    have hb := arg_spec hy hsy hg
    split at h
    case h_2 => cases h
    rename_i inf ty cs hi hl
    cases hr : (decide (0 ≤ j) && decide (j < (len : Int)))
    · rw [hr] at h; cases h
    rw [hr] at h; cases h
    simp only [Bool.and_eq_true, decide_eq_true_eq] at hr
    obtain ⟨b, hb', _⟩ := objRel_blk (hm.1 id (.blk ty cs) (look_sub hl (by simp)))
    refine wp_value (v := SV.den θ (.one (.ptr id (j.toNat * inf.size)))) (w' := w) ?_ (hk _ _ _ (EffRel.pure (x := .one (.ptr id (j.toNat * inf.size))) rfl rfl))
    unfold execOp
    simp only [ho]
    refine run_v ?_
    simp only [ha, hb, SV.den, SC.den, SI.val, hb', Option.map_some, Instr.indexAt, asIntOf, Sem.run_bind, Sem.run_pure, Result.andThen_ok, run_underlying hu, hr, and_self, if_true, sizeOf, typeInfo, run_program, hi, Addr.add_mid, Nat.zero_add]
  · cases h

theorem snd_indexV {t : TypeId} {x y : Operand} (ho : o.op = .index t x y) (h : indexV P t (arg env g x) (arg env g y) n = some e)
    (hs : ∀ t ∈ slotsOf [x, y], ∀ u, look env t = some u → entRel θ a t u) (hg : holds a g)
    (hk : Then K o a n θ w (restrict mem e.touched) e) : o.wp P a w K Q := by
  obtain ⟨hsx, hsy⟩ := arg2 hs
  unfold indexV at h
  split at h
  case h_2 => cases h
  rename_i len el cs k j hu hx hy
  have ha := arg_spec hx hsx hg
  have hb := arg_spec hy hsy hg
  split at h
  case h_2 => cases h
  rename_i b inf h2 hi
  obtain ⟨d, hd, hrow⟩ := isAggT_spec h2
  have hagg : (isAgg el).run P w = .ok b w := by
    unfold isAgg
    rw [Sem.run_bind, run_underlying hd w]
    cases d <;> simp_all
  cases hr : (decide (0 ≤ j) && decide (j < (len : Int)))
  · rw [hr] at h; cases h
  rw [hr] at h
  simp only [Bool.and_eq_true, decide_eq_true_eq] at hr
  simp only [cond_true] at h
  cases b
  · simp only [cond_false] at h
    split at h
    case h_2 => cases h
    rename_i c hc
    cases h
    have h7 : cs[j.toNat * inf.size]? = some c := by
      rw [cut_eq] at hc
      have := congrArg (fun l : List SC => l[0]?) hc
      simp only [List.getElem?_take, List.getElem?_drop] at this
      simpa using this
    have h8 : (dens θ cs).toArray[j.toNat * inf.size]? = some (c.den θ) := by simp [dens, h7]
    refine wp_value (v := SV.den θ (.one c)) (w' := w) ?_ (hk _ _ _ (EffRel.pure (x := .one c) rfl rfl))
    unfold execOp
    simp only [ho]
    refine run_v ?_
    simp only [ha, hb, SV.den, SC.den, SI.val, Instr.index, asIntOf, Sem.run_bind, Sem.run_pure, Result.andThen_ok, run_underlying hu, hr, and_self, if_true, sizeOf, typeInfo, run_program, hi, part, hagg, Bool.false_eq_true, if_false, h8]
  · simp only [cond_true] at h
    cases hq : Nat.beq (cut cs (j.toNat * inf.size) inf.size).length inf.size
    · rw [hq] at h; cases h
    rw [hq] at h; cases h
    refine wp_value (v := SV.den θ (.agg (cut cs (j.toNat * inf.size) inf.size))) (w' := w) ?_ (hk _ _ _ (EffRel.pure (x := .agg _) rfl rfl))
    unfold execOp
    simp only [ho]
    refine run_v ?_
    simp only [ha, hb, SV.den, SC.den, SI.val, Instr.index, asIntOf, Sem.run_bind, Sem.run_pure, Result.andThen_ok, run_underlying hu, hr, and_self, if_true, sizeOf, typeInfo, run_program, hi, part, hagg]
    congr 2
    simp [dens, cut_eq, List.map_take, List.map_drop]

theorem strOf_spec {x : Operand} {s : ByteArray} (h : strOf x = some s) : x = .const (.string s) := by
  unfold strOf at h
  split at h
  · cases h; rfl
  · cases h
theorem snd_indexStr {t : TypeId} {x y : Operand} {s : ByteArray} (ho : o.op = .index t x y) (hx : x = .const (.string s)) (h : indexStr P t s (arg env g y) n = some e) (hn : ∀ p ∈ e.needs, p)
    (hs : ∀ t ∈ slotsOf [x, y], ∀ u, look env t = some u → entRel θ a t u) (hg : holds a g)
    (hk : Then K o a n θ w (restrict mem e.touched) e) : o.wp P a w K Q := by
  obtain ⟨hsx, hsy⟩ := arg2 hs
  unfold indexStr at h
  split at h
  case h_2 => cases h
  rename_i kd iv hu hy
  have hb := arg_spec hy hsy hg
  split at h
  case h_2 => cases h
  rename_i k q hq
  cases h
  obtain ⟨h1, h2⟩ := natOf_spec hq (fun p hp => hn p (by simp [hp]))
  have h3 : k.val < s.size := hn _ (by simp)
  refine wp_value (v := .int .u8 (strAt s k.val)) (w' := w) ?_ (hk _ _ _ (EffRel.pure (x := .one (.int .u8 (.v (strAt s k.val)))) rfl rfl))
  unfold execOp
  simp only [ho]
  refine run_v ?_
  have hxe : a.eval x = .string s := by rw [hx]; rfl
  have hs1 : s[k.val]? = some s[k.val] := by simp [h3]
  have hs2 : strAt s k.val = (s[k.val].toNat : Int) := by unfold strAt; rw [hs1]
  rw [hs2]
  simp only [hxe, hb, SV.den, SC.den, Instr.index, asIntOf, Sem.run_bind, Sem.run_pure, Result.andThen_ok, run_underlying hu, h1, if_true, h2, hs1]
theorem boundOf_none {d : SN} {p : SN × List Prop} (h : boundOf env g d none = some p) : p = (d, []) := by cases h; rfl
theorem boundOf_some {d k : SN} {q : List Prop} {x : Operand} (h : boundOf env g d (some x) = some (k, q)) (hq : ∀ p ∈ q, p) (hs : ∀ t ∈ slotsOf [x], ∀ u, look env t = some u → entRel θ a t u) (hg : holds a g) :
    ∃ j i, a.eval x = .int j i ∧ 0 ≤ i ∧ i.toNat = k.val := by
  simp only [boundOf] at h
  split at h
  · rename_i j iv hx
    have ha := arg_spec (a := a) (θ := θ) hx hs hg
    obtain ⟨h1, h2⟩ := natOf_spec h hq
    exact ⟨j, iv.val, ha, h1, h2⟩
  · cases h
theorem SN.val_c (k : Nat) : (SN.c k).val = k := rfl
theorem slots_slice {t : TypeId} {lo hi : Option Operand} {x : Operand} : (∀ y, lo = some y → ∀ t' ∈ slotsOf [y], t' ∈ slotsOf (Op.slice t x lo hi none).operands.toList) ∧ (∀ y, hi = some y → ∀ t' ∈ slotsOf [y], t' ∈ slotsOf (Op.slice t x lo hi none).operands.toList) ∧ ∀ t' ∈ slotsOf [x], t' ∈ slotsOf (Op.slice t x lo hi none).operands.toList := by
  have e : (Op.slice t x lo hi none).operands.toList = x :: (lo.toList ++ hi.toList) := by
    simp [Op.operands]
  rw [e]
  refine ⟨?_, ?_, ?_⟩
  · rintro y rfl t' ht
    simp only [Option.toList_some, List.cons_append, List.nil_append]
    rw [slotsOf_cons, slotsOf_cons y]
    simp [ht]
  · rintro y rfl t' ht
    rw [slotsOf_cons]
    cases lo with
    | none => simp [ht]
    | some z =>
      simp only [Option.toList_some, List.cons_append, List.nil_append]
      rw [slotsOf_cons z]
      simp [ht]
  · intro t' ht
    rw [slotsOf_cons]
    simp [ht]
theorem snd_sliceS {t : TypeId} {x : Operand} {lo hi : Option Operand} (ho : o.op = .slice t x lo hi none) (h : sliceS P t (arg env g x) (fun d => boundOf env g d lo) (fun d => boundOf env g d hi) mem n = some e) (hn : ∀ p ∈ e.needs, p) (hm : memRel θ (restrict mem e.rd) w)
    (hs : ∀ t' ∈ slotsOf (Op.slice t x lo hi none).operands.toList, ∀ u, look env t' = some u → entRel θ a t' u) (hg : holds a g)
    (hk : Then K o a n θ w (restrict mem e.touched) e) : o.wp P a w K Q := by
  obtain ⟨hlo, hhi, hx⟩ := slots_slice (t := t) (lo := lo) (hi := hi) (x := x)
  unfold sliceS at h
  split at h
  case h_2 => cases h
  rename_i el id hu h1
  have ha := arg_spec h1 (fun t ht => hs t (hx t ht)) hg
  split at h
  case h_2 => cases h
  rename_i inf ro ty m r hi' hl
  cases hsz : Nat.beq inf.size m
  · rw [hsz] at h; cases h
  rw [hsz] at h
  have hsz := Nat.eq_of_beq_eq_true hsz
  simp only [cond_true] at h
  split at h
  case h_2 => cases h
  rename_i l q1 hh q2 h2 h3
  split at h
  case h_2 => cases h
  rename_i q3 q4 h4 h5
  cases h
  simp only [List.mem_append] at hn
  have h4 := leN_spec h4 fun p hp => hn p (.inl (.inr hp))
  have h5 := leN_spec h5 fun p hp => hn p (.inr hp)
  rw [rowLen_val] at h5
  obtain ⟨_, h6, hcap, _⟩ := row_at (hm.1 id _ (look_sub hl (by simp)))
  refine wp_value (v := SV.den θ (.one (.sl id m l (subN hh l)))) (w' := w) ?_ (hk _ _ _ (EffRel.pure (x := .one (.sl id m l (subN hh l))) rfl rfl))
  unfold execOp
  simp only [ho]
  refine run_v ?_
  have hbounds : (Instr.sliceBounds true (θ id).len (θ id).cap (lo.map a.eval) (hi.map a.eval) none).run P w = .ok (l.val, hh.val, (θ id).cap) w := by
    have bnd : ∀ (j : IntKind) (i : Int) (y k : Nat) (c : BoundsCode), 0 ≤ i → i.toNat = k → k ≤ y → (Instr.sliceBound (.int j i) y c).run P w = .ok k w := by
      intro j i y k c h0 h1 h2
      rw [run_sliceBound w j i y c h0 (by omega), h1]
    cases lo with
    | none =>
      cases boundOf_none h2
      cases hi with
      | none =>
        cases boundOf_none h3
        simp [Instr.sliceBounds, SN.val_c, rowLen_val, h6]
      | some y =>
        obtain ⟨j, i, e1, e2, e3⟩ := boundOf_some h3 (fun p hp => hn p (.inl (.inl (.inr hp)))) (fun t ht => hs t (hhi y rfl t ht)) hg
        simp [Instr.sliceBounds, SN.val_c, e1, bnd j i _ _ _ e2 e3 (Nat.le_trans h5 hcap)]
    | some z =>
      obtain ⟨j, i, e1, e2, e3⟩ := boundOf_some h2 (fun p hp => hn p (.inl (.inl (.inl hp)))) (fun t ht => hs t (hlo z rfl t ht)) hg
      cases hi with
      | none =>
        cases boundOf_none h3
        rw [rowLen_val] at h4
        simp [Instr.sliceBounds, e1, h6, bnd j i r.rows.length _ _ e2 e3 h4, rowLen_val]
      | some y =>
        obtain ⟨j', i', e1', e2', e3'⟩ := boundOf_some h3 (fun p hp => hn p (.inl (.inl (.inr hp)))) (fun t ht => hs t (hhi y rfl t ht)) hg
        simp [Instr.sliceBounds, e1, e1', bnd j i _ _ _ e2 e3 h4, bnd j' i' _ _ _ e2' e3' (Nat.le_trans h5 hcap)]
  simp only [ha, SV.den, SC.den, Instr.sliceAt, Sem.run_bind, run_underlying hu, Result.andThen_ok, Instr.slice, Option.map_none, hbounds, sizeOf, typeInfo, run_program, hi', Sem.run_pure, hsz, subN_val]
  congr 2
  split
  · cases (θ id).ad <;> rfl
  · rfl

theorem Addr.add_none (a : Addr) : a.add 0 = a := by simp [Addr.add]
theorem snd_sliceK {t : TypeId} {x : Operand} {lo hi : Option Operand} (ho : o.op = .slice t x lo hi none) (h : sliceK P t (arg env g x) (fun d => boundOf env g d lo) (fun d => boundOf env g d hi) mem n = some e) (hn : ∀ p ∈ e.needs, p) (hm : memRel θ (restrict mem e.rd) w)
    (hs : ∀ t' ∈ slotsOf (Op.slice t x lo hi none).operands.toList, ∀ u, look env t' = some u → entRel θ a t' u) (hg : holds a g)
    (hk : Then K o a n θ w (restrict mem e.touched) e) : o.wp P a w K Q := by
  obtain ⟨hlo, hhi, hx⟩ := slots_slice (t := t) (lo := lo) (hi := hi) (x := x)
  unfold sliceK at h
  split at h
  case h_2 => cases h
  rename_i el id esz len hu h1
  have ha := arg_spec h1 (fun t ht => hs t (hx t ht)) hg
  split at h
  case h_2 => cases h
  rename_i inf ro ty m r hi' hl
  cases hsz : (Nat.beq inf.size m && Nat.beq esz m)
  · rw [hsz] at h; cases h
  rw [hsz] at h
  simp only [Bool.and_eq_true] at hsz
  have hsz := Nat.eq_of_beq_eq_true hsz.1
  simp only [cond_true] at h
  split at h
  case h_2 => cases h
  rename_i l q1 hh q2 h2 h3
  split at h
  case h_2 => cases h
  rename_i q3 q4 q5 h4 h5 h5b
  cases h
  simp only [List.mem_append] at hn
  have h4 := leN_spec h4 fun p hp => hn p (.inl (.inl (.inr hp)))
  have h5 := leN_spec h5 fun p hp => hn p (.inl (.inr hp))
  have h5b := leN_spec h5b fun p hp => hn p (.inr hp)
  rw [rowLen_val] at h5b
  obtain ⟨_, _, hcap0, _⟩ := row_at (hm.1 id _ (look_sub hl (by simp)))
  have hcap : len.val ≤ (θ id).cap := Nat.le_trans h5b hcap0
  refine wp_value (v := SV.den θ (.one (.sl id m l (subN hh l)))) (w' := w) ?_ (hk _ _ _ (EffRel.pure (x := .one (.sl id m l (subN hh l))) rfl rfl))
  unfold execOp
  simp only [ho]
  refine run_v ?_
  have hbounds : (Instr.sliceBounds true len.val (θ id).cap (lo.map a.eval) (hi.map a.eval) none).run P w = .ok (l.val, hh.val, (θ id).cap) w := by
    have bnd : ∀ (j : IntKind) (i : Int) (y k : Nat) (c : BoundsCode), 0 ≤ i → i.toNat = k → k ≤ y → (Instr.sliceBound (.int j i) y c).run P w = .ok k w := by
      intro j i y k c h0 h1 h2
      rw [run_sliceBound w j i y c h0 (by omega), h1]
    cases lo with
    | none =>
      cases boundOf_none h2
      cases hi with
      | none =>
        cases boundOf_none h3
        simp [Instr.sliceBounds, SN.val_c]
      | some y =>
        obtain ⟨j, i, e1, e2, e3⟩ := boundOf_some h3 (fun p hp => hn p (.inl (.inl (.inl (.inr hp))))) (fun t ht => hs t (hhi y rfl t ht)) hg
        simp [Instr.sliceBounds, SN.val_c, e1, bnd j i _ _ _ e2 e3 (Nat.le_trans h5 hcap)]
    | some z =>
      obtain ⟨j, i, e1, e2, e3⟩ := boundOf_some h2 (fun p hp => hn p (.inl (.inl (.inl (.inl hp))))) (fun t ht => hs t (hlo z rfl t ht)) hg
      cases hi with
      | none =>
        cases boundOf_none h3
        simp [Instr.sliceBounds, e1, bnd j i len.val _ _ e2 e3 h4]
      | some y =>
        obtain ⟨j', i', e1', e2', e3'⟩ := boundOf_some h3 (fun p hp => hn p (.inl (.inl (.inl (.inr hp))))) (fun t ht => hs t (hhi y rfl t ht)) hg
        simp [Instr.sliceBounds, e1, e1', bnd j i _ _ _ e2 e3 h4, bnd j' i' _ _ _ e2' e3' (Nat.le_trans h5 hcap)]
  have hbase : ((θ id).ad.map fun a => if (θ id).cap = (SN.c 0).val then a else a.add ((SN.c 0).val * esz)) = (θ id).ad := by
    cases (θ id).ad with
    | none => rfl
    | some ad => simp [SN.val, Addr.add_none]
  have hc0 : (θ id).cap - (SN.c 0).val = (θ id).cap := rfl
  simp only [ha, SV.den, SC.den, hbase, hc0, Instr.sliceAt, Sem.run_bind, run_underlying hu, Result.andThen_ok, Instr.slice, Option.map_none, hbounds, sizeOf, typeInfo, run_program, hi', Sem.run_pure, hsz, subN_val]
  congr 2
  split
  · cases (θ id).ad <;> rfl
  · rfl

/-! #### Builtins -/
theorem run_builtin {c : Call} {b : Builtin} (hc : c.callee = .builtin b) (ho : o.op = .call c) {v : Value} {w' : World}
    (h : (Go.builtin b c.argTypes o.type (c.args.map fun | .const _ => true | _ => false) (c.args.map a.eval)).run P w = .ok (.value v) w') : (execOp a.eval o).run P w = .ok (.value v) w' := by
  unfold execOp
  simp only [ho, resolve, hc, Sem.run_bind, Sem.run_pure, Result.andThen_ok, invoke]
  exact h
theorem args_map {xs : Array Operand} {vs : List SV} (h : args env g xs.toList = some vs) (hr : ∀ t ∈ slotsOf xs.toList, ∀ e, look env t = some e → entRel θ a t e) (hg : holds a g) : xs.map a.eval = (vs.map (SV.den θ)).toArray := by
  apply Array.toList_inj.1
  simp [args_spec (θ := θ) h hr hg]
theorem argTypes_one {ts : Array TypeId} {t : TypeId} (h : ts.toList = [t]) : ts = #[t] := by
  apply Array.toList_inj.1; simpa using h
theorem argTypes_two {ts : Array TypeId} {t u : TypeId} (h : ts.toList = [t, u]) : ts = #[t, u] := by
  apply Array.toList_inj.1; simpa using h
theorem intOfN_val (x : SN) : (intOfN x).val = Int.ofNat x.val := by cases x <;> rfl
theorem snd_lenK {c : Call} {t : TypeId} {x : SV} (ho : o.op = .call c) (hc : c.callee = .builtin .len) (ht : c.argTypes.toList = [t]) (hx : args env g c.args.toList = some [x]) (h : lenK P t (some x) mem n = some e) (hm : memRel θ (restrict mem e.rd) w)
    (hs : ∀ t ∈ slotsOf c.args.toList, ∀ u, look env t = some u → entRel θ a t u) (hg : holds a g)
    (hk : Then K o a n θ w (restrict mem e.touched) e) : o.wp P a w K Q := by
  have ha := args_map (θ := θ) hx hs hg
  have ht := argTypes_one ht
  unfold lenK at h
  split at h
  case h_2 => cases h
  rename_i el id hu hv
  cases hv
  split at h
  case h_2 => cases h
  rename_i ty m len cs hl
  cases h
  refine wp_value (v := SV.den θ (.one (.int .i64 (.c (Int.ofNat len))))) (w' := w) ?_ (hk _ _ _ (EffRel.pure rfl rfl))
  refine run_builtin hc ho ?_
  rw [ha, ht]
  unfold Go.builtin
  simp only [List.map_cons, List.map_nil]
  refine run_v ?_
  have : (θ id).len = len := (hm.1 id _ (look_sub hl (by simp))).2.1
  simp [Builtin.len_, run_underlying hu, SV.den, SC.den, SI.val, this, goInt]
theorem snd_lenS {c : Call} {t : TypeId} {x : SV} (ho : o.op = .call c) (hc : c.callee = .builtin .len) (ht : c.argTypes.toList = [t]) (hx : args env g c.args.toList = some [x]) (h : lenS P t (some x) mem n = some e) (hm : memRel θ (restrict mem e.rd) w)
    (hs : ∀ t ∈ slotsOf c.args.toList, ∀ u, look env t = some u → entRel θ a t u) (hg : holds a g)
    (hk : Then K o a n θ w (restrict mem e.touched) e) : o.wp P a w K Q := by
  have ha := args_map (θ := θ) hx hs hg
  have ht := argTypes_one ht
  have fin : ∀ (y : SI), e.val = some (.one (.int .i64 y)) → e.ups = [] → (Builtin.len_ #[t] o.type #[x.den θ]).run P w = .ok (.int .i64 y.val) w → o.wp P a w K Q := by
    intro y h1 h2 h3
    refine wp_value (v := SV.den θ (.one (.int .i64 y))) (w' := w) ?_ (hk _ _ _ (EffRel.pure h1 h2))
    refine run_builtin hc ho ?_
    rw [ha, ht]
    unfold Go.builtin
    simp only [List.map_cons, List.map_nil]
    exact run_v h3
  unfold lenS at h
  split at h
  · rename_i el hu hv
    cases hv; cases h
    refine fin (.c 0) rfl rfl ?_
    simp [Builtin.len_, run_underlying hu, SV.den, SC.den, SI.val, goInt]
  · rename_i el id hu hv
    cases hv
    split at h
    case h_2 => cases h
    rename_i ro ty m r hl
    cases h
    refine fin (intOfN (rowLen r)) rfl rfl ?_
    have := (row_at (hm.1 id _ (look_sub hl (by simp)))).2.1
    simp [Builtin.len_, run_underlying hu, SV.den, SC.den, intOfN_val, rowLen_val, this, goInt]
  · rename_i el id esz off len hu hv
    cases hv; cases h
    refine fin (intOfN len) rfl rfl ?_
    simp [Builtin.len_, run_underlying hu, SV.den, SC.den, intOfN_val, goInt]
  · rename_i el id len hu hv
    cases hv; cases h
    refine fin (.c (Int.ofNat len)) rfl rfl ?_
    simp [Builtin.len_, run_underlying hu, SV.den, SC.den, SI.val, goInt]
  · rename_i m el v hu hv
    cases hv; cases h
    refine fin (.c (Int.ofNat m)) rfl rfl ?_
    simp [Builtin.len_, run_underlying hu, SI.val, goInt]
  · cases h
theorem minI_val (x y : SI) : (minI x y).val = if y.val < x.val then y.val else x.val := by
  unfold minI; split <;> rfl
theorem maxI_val (x y : SI) : (maxI x y).val = if y.val > x.val then y.val else x.val := by
  unfold maxI; split <;> rfl
theorem foldI_run {f : SI → SI → SI} {m2 : Value → Value → Sem Value} (hf : ∀ k j x y, (m2 (.int k x.val) (.int j y.val)).run P w = .ok (.int k (f x y).val) w) (k : IntKind) : ∀ {vs : List SV} {x y : SI}, foldI f k x vs = some y →
    ((vs.map (SV.den θ)).foldlM m2 (.int k x.val)).run P w = .ok (.int k y.val) w
  | [], x, y, h => by cases h; rfl
  | v :: r, x, y, h => by
    unfold foldI at h
    split at h
    · rename_i heq; cases heq
    · rename_i j b r' heq
      cases heq
      cases hk : kindEq k j
      · rw [hk] at h; cases h
      rw [hk] at h
      simp only [List.map_cons, List.foldlM_cons, Sem.run_bind, SV.den, SC.den, hf, Result.andThen_ok]
      exact foldI_run hf k h
    · cases h
theorem snd_minmax {c : Call} {b : Builtin} {f : SI → SI → SI} {m2 : Value → Value → Sem Value} (ho : o.op = .call c) (hc : c.callee = .builtin b)
    (hb : ∀ x r, (Go.builtin b c.argTypes o.type (c.args.map fun | .const _ => true | _ => false) (x :: r).toArray).run P w = (do pure (Next.value (← r.foldlM m2 x)) : Sem Next).run P w)
    (hf : ∀ k j x y, (m2 (.int k x.val) (.int j y.val)).run P w = .ok (.int k (f x y).val) w) (h : minmaxS f n (args env g c.args.toList) = some e)
    (hs : ∀ t ∈ slotsOf c.args.toList, ∀ u, look env t = some u → entRel θ a t u) (hg : holds a g)
    (hk : Then K o a n θ w (restrict mem e.touched) e) : o.wp P a w K Q := by
  unfold minmaxS at h
  split at h
  case h_2 => cases h
  rename_i k x r hx
  simp only [Option.map_eq_some_iff] at h
  obtain ⟨y, h1, rfl⟩ := h
  have ha := args_map (θ := θ) hx hs hg
  refine wp_value (v := SV.den θ (.one (.int k y))) (w' := w) ?_ (hk _ _ _ (EffRel.pure (x := .one (.int k y)) rfl rfl))
  refine run_builtin hc ho ?_
  rw [ha, List.map_cons, hb]
  exact run_v (foldI_run hf k h1)
theorem snd_makeF {f : FuncId} {caps : Array Operand} (ho : o.op = .makeFunc (.func f) #[] caps) (h : (args env g caps.toList).map (makeF n f) = some e)
    (hs : ∀ t ∈ slotsOf caps.toList, ∀ u, look env t = some u → entRel θ a t u) (hg : holds a g) (hids : ∀ t y, look env t = some y → ∀ id ∈ idsV y.val, id < n)
    (hk : Then K o a n θ w (restrict mem e.touched) e) : o.wp P a w K Q := by
  simp only [Option.map_eq_some_iff] at h
  obtain ⟨vs, h1, rfl⟩ := h
  have ha := args_map (θ := θ) h1 hs hg
  have hrun : (execOp a.eval o).run P w = .ok (.value (.func (.func f) #[] (vs.map (SV.den θ)).toArray)) w := by
    unfold execOp
    simp only [ho]
    refine run_v ?_
    simp [Instr.makeFunc, ha]
  cases vs with
  | nil =>
    exact wp_value hrun (hk _ _ _ (EffRel.pure (x := .one (.fn f)) rfl rfl))
  | cons v r =>
    refine wp_value hrun (hk _ _ _ (new_obj (Loc.clo (((v :: r).map (SV.den θ)).toArray)) _ rfl rfl ?_ ?_ rfl rfl rfl (Nat.le_refl _) (fun _ _ => rfl) (fun b hb => by cases hb)))
    · simp [SV.den, SC.den, Th.set_same, Loc.clo]
    · show Th.set θ n _ n = _
      rw [Th.set_same, SVs_agree (Th.set_agree θ n _) (args_ids h1 hids)]
theorem mem_addAll : ∀ {l acc : List Nat} {x : Nat}, x ∈ acc → x ∈ addAll acc l
  | [], _, _, h => h
  | a :: r, acc, x, h => by
    simp only [addAll_nil, addAll_cons]
    refine mem_addAll ?_
    cases has acc a <;> simp [h]
theorem mem_foldl_addAll (mem : Mem) : ∀ (l acc : List Nat) {x : Nat}, x ∈ acc → x ∈ l.foldl (fun acc id => match look mem id with | some o => addAll acc (idsO o) | none => acc) acc
  | [], _, _, h => h
  | a :: r, acc, x, h => by
    simp only [List.foldl_cons]
    refine mem_foldl_addAll mem r _ ?_
    split
    · exact mem_addAll h
    · exact h
theorem mem_reach (mem : Mem) : ∀ (k : Nat) {l : List Nat} {x : Nat}, x ∈ l → x ∈ reach mem k l
  | 0, _, _, h => h
  | k + 1, l, x, h => by
    simp only [reach]
    exact mem_reach mem k (mem_foldl_addAll mem l l h)
theorem snd_callC {c : Call} {f : Operand} {fid id : Nat} {vs : List SV} (hp : PlainNames P) (hce : CESound P ce) (ho : o.op = .call c) (hc : c.callee = .value f) (h1 : arg env g f = some (.one (.clo fid id))) (h2 : args env g c.args.toList = some vs)
    (h : callC ce mem n fid id vs = some e) (hn : ∀ p ∈ e.needs, p) (he : ∀ p ∈ e.eqs, p.1 = p.2)
    (hs : ∀ t ∈ slotsOf c.operands.toList, ∀ y, look env t = some y → entRel θ a t y) (hg : holds a g) (hids : ∀ t y, look env t = some y → ∀ id ∈ idsV y.val, id < n) (hwf : wfMem n mem)
    (hm : memRel θ (restrict mem e.rd) w) (hk : Then K o a n θ w (restrict mem e.touched) e) : o.wp P a w K Q := by
  unfold callC at h
  split at h
  case h_2 => cases h
  rename_i caps hl
  cases hlt : Nat.blt fid 1000000
  · rw [hlt] at h; cases h
  rw [hlt] at h
  simp only [cond_true] at h
  have hlt : fid < 1000000 := by simpa using hlt
  split at h
  case h_2 => cases h
  rename_i r hr
  cases h
  have hops : c.operands.toList = f :: c.args.toList := by simp [Call.operands, hc]
  rw [hops] at hs
  have hf := arg_spec h1 (fun t ht => hs t (by rw [slotsOf_cons]; simp [ht])) hg
  have has := args_spec (θ := θ) h2 (fun t ht => hs t (by rw [slotsOf_cons]; simp [ht])) hg
  have hclo : θ id = Loc.clo (caps.map (SV.den θ)).toArray := hm.1 id _ (look_sub hl (mem_reach _ _ (by simp)))
  have hwf' : wfMem n (restrict mem (reach mem 3 (id :: idsVs vs))) := fun id ob hl => by
    rw [look_restrict] at hl
    split at hl
    · exact hwf id ob hl
    · cases hl
  have happ : ∀ a b : List SV, idsVs (a ++ b) = idsVs a ++ idsVs b := by
    intro a b
    induction a with
    | nil => rfl
    | cons v r ih => simp [idsVs, ih]
  obtain ⟨h34, h5⟩ := hce fid (vs ++ caps) _ n r hr hn he hwf' (fun i hi => by
    rw [happ, List.mem_append] at hi
    exact hi.elim (args_ids h2 hids i) ((hwf id _ hl).2 i)) θ w hm
  obtain ⟨fn, h3, h4⟩ := h34 hlt
  have h5 := h5.1 hlt
  have hmap : c.args.map a.eval ++ (caps.map (SV.den θ)).toArray = ((vs ++ caps).map (SV.den θ)).toArray := by
    apply Array.toList_inj.1
    simp [has]
  have hrun : (execOp a.eval o).run P w = .ok (.enter fid ((vs ++ caps).map (SV.den θ)).toArray) w := by
    unfold execOp
    simp only [ho]
    simp only [resolve, hc, hf, SV.den, SC.den, hclo, Loc.clo, Deferred.ofValue, Sem.run_bind, Sem.run_pure, Result.andThen_ok, invoke, Array.empty_append, hmap, run_callFunc hp h3 h4]
  unfold Oper.wp
  rw [hrun, Oper.upon_enter]
  refine h5.mono fun en w' hen => ?_
  obtain ⟨θ', rfl, h6, h7⟩ := hen
  obtain ⟨h8, h9⟩ := keepC_rel hwf hm h6 h7
  exact hk _ _ _ ⟨rfl, h8, h9⟩
theorem yldOf_spec {v : Option SV} {y id : Nat} (h : yldOf v = some (y, id)) : v = some (.one (.yld y id)) := by
  unfold yldOf at h
  split at h
  · cases h; rfl
  · cases h
/-- A call of a loop's yield. -/
theorem snd_yldC {c : Call} {f : Operand} {y id : Nat} {vs : List SV} (hce : CESound P ce) (ho : o.op = .call c) (hc : c.callee = .value f) (h1 : arg env g f = some (.one (.yld y id))) (h2 : args env g c.args.toList = some vs)
    (h : yldC ce mem n y id vs = some e) (hn : ∀ p ∈ e.needs, p) (he : ∀ p ∈ e.eqs, p.1 = p.2)
    (hs : ∀ t ∈ slotsOf c.operands.toList, ∀ y, look env t = some y → entRel θ a t y) (hg : holds a g) (hids : ∀ t y, look env t = some y → ∀ id ∈ idsV y.val, id < n) (hwf : wfMem n mem)
    (hm : memRel θ (restrict mem e.rd) w) (hk : Then K o a n θ w (restrict mem e.touched) e) : o.wpIn Fence.wide 0 P a w K Q := by
  unfold yldC at h
  cases hle : Nat.ble 1000000 y
  · rw [hle] at h; cases h
  rw [hle] at h
  simp only [cond_true] at h
  have hle := Nat.le_of_ble_eq_true hle
  split at h
  case h_2 => cases h
  rename_i r hr
  cases h
  have hops : c.operands.toList = f :: c.args.toList := by simp [Call.operands, hc]
  rw [hops] at hs
  have hf := arg_spec h1 (fun t ht => hs t (by rw [slotsOf_cons]; simp [ht])) hg
  have has := args_spec (θ := θ) h2 (fun t ht => hs t (by rw [slotsOf_cons]; simp [ht])) hg
  have hwf' : wfMem n (restrict mem (reach mem 3 (id :: idsVs vs))) := fun id ob hl => by
    rw [look_restrict] at hl
    split at hl
    · exact hwf id ob hl
    · cases hl
  obtain ⟨_, h5⟩ := hce y (.one (.yld y id) :: vs) _ n r hr hn he hwf' (fun i hi => by
    simp only [idsVs, List.mem_append] at hi
    exact hi.elim (arg_ids h1 hids i) (args_ids h2 hids i)) θ w hm
  obtain ⟨l, as, h6, fn, tmps, assign, body, h7, h8⟩ := h5.2 hle
  have hmap : (c.args.map a.eval) = (vs.map (SV.den θ)).toArray := by
    apply Array.toList_inj.1
    simp [has]
  have hl : (.func (.yield ((θ id).blk.getD 0)) #[] #[] : Value) = .func (.yield l) #[] #[] ∧ (vs.map (SV.den θ)).toArray = as := by
    have := congrArg Array.toList h6
    simp only [List.map_cons, Array.toList_append, List.cons_append, List.nil_append, List.cons.injEq] at this
    exact ⟨this.1, Array.toList_inj.1 (by simpa using this.2)⟩
  have hrun : (execOp a.eval o).run P w = .ok (.round l fn tmps assign body) w := by
    unfold execOp
    simp only [ho]
    simp only [resolve, hc, hf, SV.den, SC.den, hl.1, Deferred.ofValue, Sem.run_bind, Sem.run_pure, Result.andThen_ok, invoke, Array.empty_append, hmap, hl.2]
    exact h7
  refine ⟨fun _ _ => trivial, ?_⟩
  rw [show Fence.wide.round = none from rfl, Oper.semAt_none, hrun, Oper.uponIn_round]
  refine ⟨fun h => (by cases h), h8.mono fun en w' hen => ?_⟩
  obtain ⟨θ', rfl, h9, h10⟩ := hen
  exact hk _ _ _ ⟨rfl, h9, h10⟩
end each
end Go.SX
