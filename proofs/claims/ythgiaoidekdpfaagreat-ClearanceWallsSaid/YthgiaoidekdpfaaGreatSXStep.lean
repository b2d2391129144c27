/-
  ONE OPERATION OF A REGION, guards and all: what it needs of the state before it, and what stands after it. Conditions: what is needed holds; the callees are right.
-/
import Derived.Test.YthgiaoidekdpfaaGreatSXOps4
set_option linter.all false
namespace Go.SX
open Go.RowKit

section step
variable {P : Program} {ce : CE} {o : Oper} {env : Env} {g : List (Nat × Bool)} {mem : Mem} {n : Nat} {e : Eff} {θ : Th} {a : Act} {w : World} {K : Act → World → Prop} {Q : Exit → Act → World → Prop}

theorem snd_pick {c x y : Operand} (ho : o.op = .pick c x y) (h : (pickV env g c x y).map (Eff.pure n) = some e)
    (hs : ∀ t ∈ slotsOf [c, x, y], ∀ y, look env t = some y → entRel θ a t y) (hg : holds a g) (hk : Then K o a n θ w (restrict mem e.touched) e) : o.wp P a w K Q := by
  simp only [Option.map_eq_some_iff] at h
  obtain ⟨v, h, rfl⟩ := h
  have hsc : ∀ t ∈ slotsOf [c], ∀ y, look env t = some y → entRel θ a t y := fun t ht => hs t (by rw [slotsOf_cons]; simp [ht])
  have hsx : ∀ t ∈ slotsOf [x], ∀ y, look env t = some y → entRel θ a t y := fun t ht => hs t (by rw [slotsOf_cons c, slotsOf_cons x [y]]; simp [ht])
  have hsy : ∀ t ∈ slotsOf [y], ∀ y, look env t = some y → entRel θ a t y := fun t ht => hs t (by rw [slotsOf_cons c, slotsOf_cons x [y]]; simp [ht])
  have key : (execOp a.eval o).run P w = .ok (.value (v.den θ)) w := by
    unfold pickV at h
    split at h
    · rename_i d
      split at h
      · rename_i en hen
        cases hq : gsub en.g g
        · rw [hq] at h; cases h
        · rw [hq] at h
          simp only [cond_true] at h
          have hd := ((hsc d (by simp [slotsOf]) en hen).1 (holds_sub hq hg)).1
          have hev : a.eval (.tmp d) = en.val.den θ := by simp [Act.eval, hd]
          split at h
          · rename_i b hb
            rw [hb] at hev
            have hev : a.eval (.tmp d) = .bool b := hev
            unfold execOp
            simp only [ho, hev, asBool, Sem.run_bind, Sem.run_pure, Result.andThen_ok]
            cases b
            · simp only [cond_false] at h
              simp [arg_spec h hsy hg]
            · simp only [cond_true] at h
              simp [arg_spec h hsx hg]
          · rename_i b hb
            rw [hb] at hev hd
            split at h
            · rename_i va vb h1 h2
              have hev : a.eval (.tmp d) = .bool b := hev
              unfold execOp
              simp only [ho, hev, asBool, Sem.run_bind, Sem.run_pure, Result.andThen_ok]
              obtain ⟨h3, _⟩ := mergeV_den θ b h
              simp only [SV.den, SC.den, SB.val] at hd
              cases b
              · have := arg_spec h2 hsy (fun p hp => by
                  rcases List.mem_cons.1 hp with rfl | hp
                  · exact hd
                  · exact hg p hp)
                simp [this, h3]
              · have := arg_spec h1 hsx (fun p hp => by
                  rcases List.mem_cons.1 hp with rfl | hp
                  · exact hd
                  · exact hg p hp)
                simp [this, h3]
            · cases h
          · cases h
      · cases h
    · cases h
  exact wp_value key (hk _ _ _ (EffRel.pure (x := v) rfl rfl))

theorem operands_toList_2 (x y : Operand) : (#[x, y] : Array Operand).toList = [x, y] := rfl

theorem wpIn_of_wp (h : o.wp P a w K Q) : o.wpIn Fence.wide 0 P a w K Q := by
  refine ⟨fun _ _ => trivial, ?_⟩
  rw [show Fence.wide.round = none from rfl, Oper.semAt_none]
  unfold Oper.wp at h
  generalize (execOp a.eval o).run P w = r at h
  unfold Oper.upon at h
  unfold Oper.uponIn
  split at h
  · exact h
  · exact h
  · exact h
  · exact ⟨fun h => (by cases h), callsIn_wide.2 h⟩
  · exact ⟨fun h => (by cases h), fun c cs _ => let ⟨v, w', r, s⟩ := h c cs; ⟨v, w', r, stepsIn_wide.2 s⟩⟩
  · exact h
  · exact h.elim
theorem step1_sound (hp : PlainNames P) (hce : CESound P ce) (h : step1 P ce o env g mem n = some e) (hn : ∀ p ∈ e.needs, p) (he : ∀ p ∈ e.eqs, p.1 = p.2)
    (hs : ∀ t ∈ slotsOf o.op.operands.toList, ∀ y, look env t = some y → entRel θ a t y) (hg : holds a g) (hids : ∀ t y, look env t = some y → ∀ id ∈ idsV y.val, id < n) (hwf : wfMem n mem)
    (hm : memRel θ (restrict mem e.rd) w) (hk : Then K o a n θ w (restrict mem e.touched) e) : o.wpIn Fence.wide 0 P a w K Q := by
  unfold step1 at h
  split at h
  · rename_i c x y ho
    rw [ho] at hs
    exact wpIn_of_wp (snd_pick ho h hs hg hk)
  · unfold opExec at h
    split at h
    case h_1 x ho => rw [ho] at hs; exact wpIn_of_wp (snd_move (.inl ho) h hs hg hk)
    case h_2 x ho => rw [ho] at hs; exact wpIn_of_wp (snd_move (.inr ho) h hs hg hk)
    case h_3 t ho => exact wpIn_of_wp (snd_alloc ho h hk)
    case h_4 t x ho => rw [ho] at hs; exact wpIn_of_wp (snd_box ho h hs hg hids hk)
    case h_5 t ps ho => rw [ho] at hs; exact wpIn_of_wp (snd_build ho h (by simpa [Op.operands] using hs) hg hk)
    case h_6 t x ho =>
      rw [ho] at hs
      split at h
      · rename_i id esz i off hx
        rcases orO_cases h with h | h
        · exact wpIn_of_wp (snd_loadE ho (eptrOf_spec hx) h hn hs hg hm hk)
        · exact wpIn_of_wp (snd_loadK ho (eptrOf_spec hx) h hs hg hm hk)
      · exact wpIn_of_wp (snd_load ho h hs hg hm hk)
    case h_7 t x y ho =>
      rw [ho] at hs
      split at h
      · rename_i id esz i off hx
        split at h
        · rename_i vs hv
          rcases orO_cases h with h | h
          · exact wpIn_of_wp (snd_storeE ho (eptrOf_spec hx) hv h hn hs hg hm hk)
          · exact wpIn_of_wp (snd_storeK ho (eptrOf_spec hx) hv h hs hg hm hk)
        · cases h
      · exact wpIn_of_wp (snd_store ho h hs hg hm hk)
    case h_8 x ho =>
      rw [ho] at hs
      split at h
      · rename_i id esz i off hx
        exact wpIn_of_wp (snd_nilE ho (eptrOf_spec hx) h hn hm hs hg hk)
      · exact wpIn_of_wp (snd_nilCheck ho h hm hs hg hk)
    case h_9 op t x y yt ho =>
      rw [ho] at hs
      split at h
      · rename_i e' hx
        cases h
        exact wpIn_of_wp (snd_nilEq ho hx hn hm hs hg hk)
      · exact wpIn_of_wp (snd_binop ho h hn hs hg hk)
    case h_10 op t x ho => rw [ho] at hs; exact wpIn_of_wp (snd_unop ho h hs hg hk)
    case h_11 s d x ho => rw [ho] at hs; exact wpIn_of_wp (snd_convert ho h hs hg hk)
    case h_12 t x f ho =>
      rw [ho] at hs
      split at h
      · rename_i id esz i off hx
        exact wpIn_of_wp (snd_fieldE ho (eptrOf_spec hx) h hn hm hs hg hk)
      · exact wpIn_of_wp (snd_fieldAddr ho h hm hs hg hk)
    case h_13 t x f ho => rw [ho] at hs; exact wpIn_of_wp (snd_field ho h hs hg hk)
    case h_14 x k ho => rw [ho] at hs; exact wpIn_of_wp (snd_extract ho h hs hg hk)
    case h_15 t len ps ho => rw [ho] at hs; exact wpIn_of_wp (snd_buildS ho h (by simpa [Op.operands] using hs) hg hk)
    case h_16 t x i ho => rw [ho] at hs; exact (orO_cases h).elim (fun h => wpIn_of_wp (snd_indexA ho h hn hm hs hg hk)) (fun h => wpIn_of_wp (snd_indexK ho h hm hs hg hk))
    case h_17 t x i ho =>
      rw [ho] at hs
      split at h
      · rename_i s hst
        exact wpIn_of_wp (snd_indexStr ho (strOf_spec hst) h hn hs hg hk)
      · exact wpIn_of_wp (snd_indexV ho h hs hg hk)
    case h_18 t x lo hi ho => rw [ho] at hs; exact wpIn_of_wp (snd_sliceOrCut ho h hn hm hs hg hk)
    case h_19 t x y ho => rw [ho] at hs; exact wpIn_of_wp (snd_makeS ho h hn (by simpa [Op.operands] using hs) hg hk)
    case h_20 f caps ho => rw [ho] at hs; exact wpIn_of_wp (snd_makeF ho h (by simpa [Op.operands] using hs) hg hids hk)
    case h_21 c ho =>
      rw [ho] at hs
      split at h
      · rename_i b hc
        have hs' : ∀ t ∈ slotsOf c.args.toList, ∀ y, look env t = some y → entRel θ a t y := by simpa [Op.operands, Call.operands, hc] using hs
        exact wpIn_of_wp (snd_builtin ho hc h hn hm hs' hg hk)
      · rename_i f hc
        split at h
        · rename_i fid id hf
          split at h
          · rename_i vs hv
            exact wpIn_of_wp (snd_callC hp hce ho hc (cloOf_spec hf) hv h hn he hs hg hids hwf hm hk)
          · cases h
        · split at h
          · rename_i y id hf
            split at h
            · rename_i vs hv
              exact snd_yldC hce ho hc (yldOf_spec hf) hv h hn he hs hg hids hwf hm hk
            · cases h
          · exact wpIn_of_wp (snd_call hp hce ho (by simp only [hc]; exact h) hn he hs hg hids hwf hm hk)
      · cases h
    case h_22 => cases h
end step

/-! ### A state of the evaluator and its frame -/
noncomputable def envRel (θ : Th) (a : Act) (env : Env) : Prop := ∀ t e, look env t = some e → entRel θ a t e
noncomputable def wfEnv (n : Nat) (env : Env) : Prop := ∀ t e, look env t = some e → ∀ id ∈ idsV e.val, id < n
theorem wfEnv.mono {n m : Nat} {env : Env} (h : wfEnv n env) (hn : n ≤ m) : wfEnv m env := fun t e hl id hi => Nat.lt_of_lt_of_le (h t e hl id hi) hn

theorem mem_q0 {t : Nat} {l : List Nat} : 4 * t ∈ q0 l ↔ t ∈ l := by
  induction l with
  | nil => simp [q0]
  | cons a r ih => simp only [q0, List.mem_cons, ih, show (4 * t = 4 * a) ↔ t = a from by omega]
theorem mem_q1 {t : Nat} {l : List Nat} : 4 * t + 1 ∈ q1 l ↔ t ∈ l := by
  induction l with
  | nil => simp [q1]
  | cons a r ih => simp only [q1, List.mem_cons, ih, show (4 * t + 1 = 4 * a + 1) ↔ t = a from by omega]
theorem mem_q2 {t : Nat} {l : List Nat} : 4 * t + 2 ∈ q2 l ↔ t ∈ l := by
  induction l with
  | nil => simp [q2]
  | cons a r ih => simp only [q2, List.mem_cons, ih, show (4 * t + 2 = 4 * a + 2) ↔ t = a from by omega]
theorem allIn_spec {n : Nat} {dom : List Nat} : ∀ {l : List Nat}, allIn n dom l = true → ∀ id ∈ l, id < n ∨ id ∈ dom
  | [], _, _, h => by cases h
  | a :: r, h, id, hm => by
    simp only [allIn_nil, allIn_cons, Bool.and_eq_true, Bool.or_eq_true, Nat.blt_eq] at h
    rcases List.mem_cons.1 hm with rfl | hm
    · exact h.1.imp (fun h => h) has_iff.1
    · exact allIn_spec h.2 id hm
theorem freeOf_spec {d : Nat} : ∀ {g : List (Nat × Bool)}, freeOf d g = true → ∀ p ∈ g, p.1 ≠ d
  | [], _, _, h => by cases h
  | q :: r, h, p, hp => by
    simp only [freeOf_nil, freeOf_cons, Bool.and_eq_true, Bool.not_eq_true'] at h
    rcases List.mem_cons.1 hp with rfl | hp
    · intro he; rw [he] at h; simp at h
    · exact freeOf_spec h.2 p hp
theorem noGuardOn_spec {d : Nat} : ∀ {env : Env}, noGuardOn d env = true → ∀ t e, look env t = some e → ∀ p ∈ e.g, p.1 ≠ d
  | [], _, _, _, h => by cases h
  | (k, x) :: r, h, t, e, hl => by
    simp only [noGuardOn_nil, noGuardOn_cons, Bool.and_eq_true] at h
    simp only [look_nil, look_cons] at hl
    cases hq : Nat.beq k t
    · rw [hq] at hl; exact noGuardOn_spec h.2 t e hl
    · rw [hq] at hl; cases hl; exact freeOf_spec h.1
theorem under_spec {gx : List (Bool × Bool)} {p : Prop} (h : under gx p) (hg : gxs gx) : p := by
  induction gx with
  | nil => exact h
  | cons q r ih => exact ih (h (hg q (by simp))) fun x hx => hg x (by simp [hx])
theorem underAll_spec {gx : List (Bool × Bool)} : ∀ {l : List Prop}, (∀ p ∈ underAll gx l, p) → gxs gx → ∀ p ∈ l, p
  | [], _, _, _, h => by cases h
  | q :: r, h, hg, p, hp => by
    rcases List.mem_cons.1 hp with rfl | hp
    · exact under_spec (h _ (by simp [underAll])) hg
    · exact underAll_spec (fun p hp => h p (by simp [underAll, hp])) hg p hp

/-- A frame with one slot written. -/
theorem put_get_ne {a : Act} {d t : Nat} (v : Value) (h : d ≠ t) : (a.put (some d) v).tmps[t]? = a.tmps[t]? := by
  simp [Act.put, Array.getElem?_setIfInBounds_ne h]
theorem put_get_same {a : Act} {d : Nat} (v : Value) (h : d < a.tmps.size) : (a.put (some d) v).tmps[d]? = some v := by
  simp [Act.put, h]
theorem holds_put {a : Act} {d : Nat} {v : Value} {g : List (Nat × Bool)} (hf : ∀ p ∈ g, p.1 ≠ d) : holds (a.put (some d) v) g ↔ holds a g := by
  unfold holds
  constructor <;> intro h p hp <;> have := h p hp
  · rwa [put_get_ne v (Ne.symm (hf p hp))] at this
  · rw [put_get_ne v (Ne.symm (hf p hp))]; exact this

/-- WHAT ONE OPERATION DOES: from a frame that fits what it looks at to a frame that fits what it writes. -/
structure Did (θ : Th) (a : Act) (w : World) (n : Nat) (sub : Mem) (x : Fx) (θ' : Th) (v : Value) (w' : World) : Prop where
  same : ∀ id, id < n ∨ id ∉ domain x.ups → θ' id = θ id
  ent : ∀ d e, x.dst = some d → x.ent = some e → entRel θ' (a.put (some d) v) d e
  grew : Grew n θ sub w θ' x.ups w'
  mem : memRel θ' x.ups w'

section transfer
variable {n : Nat} {θ θ' : Th} {dom : List Nat} (hs : ∀ id, id < n ∨ id ∈ dom → θ' id = θ id)
include hs
theorem SC.den_tr {c : SC} (hc : ∀ i ∈ idsC c, i < n ∨ i ∈ dom) : c.den θ' = c.den θ := by
  cases c <;> simp [SC.den, idsC] at hc ⊢ <;> simp [hs _ hc]
theorem dens_tr : ∀ {cs : List SC}, (∀ i ∈ idsCs cs, i < n ∨ i ∈ dom) → dens θ' cs = dens θ cs
  | [], _ => rfl
  | c :: r, hc => by
    simp only [dens, List.map_cons, List.cons.injEq]
    exact ⟨SC.den_tr hs fun i hi => hc i (by simp [idsCs_nil, idsCs_cons, hi]), dens_tr fun i hi => hc i (by simp [idsCs_nil, idsCs_cons, hi])⟩
theorem tup_tr : ∀ {vs : List (Bool × List SC)}, (∀ i ∈ idsTup vs, i < n ∨ i ∈ dom) → vs.map (compDen θ') = vs.map (compDen θ)
  | [], _ => rfl
  | (b, cs) :: r, hc => by
    simp only [List.map_cons, List.cons.injEq]
    exact ⟨by rw [compDen_eq, compDen_eq, dens_tr hs fun i hi => hc i (by simp [idsTup, hi])], tup_tr fun i hi => hc i (by simp [idsTup, hi])⟩
theorem SV.den_tr {c : SV} (hc : ∀ i ∈ idsV c, i < n ∨ i ∈ dom) : c.den θ' = c.den θ := by
  cases c with
  | one c => exact SC.den_tr hs hc
  | agg cs => simp only [SV.den, dens_tr hs hc]
  | tup vs => simp only [SV.den, tup_tr hs hc]
theorem SVs_tr : ∀ {vs : List SV}, (∀ i ∈ idsVs vs, i < n ∨ i ∈ dom) → vs.map (SV.den θ') = vs.map (SV.den θ)
  | [], _ => rfl
  | c :: r, hc => by
    simp only [List.map_cons, List.cons.injEq]
    exact ⟨SV.den_tr hs fun i hi => hc i (by simp [idsVs, hi]), SVs_tr fun i hi => hc i (by simp [idsVs, hi])⟩
/-- An object at another placement, and in another world with the same block. -/
theorem objRel_tr {w w' : World} {id : Nat} {o : Obj} (he : θ' id = θ id) (hi : ∀ i ∈ idsO o, i < n ∨ i ∈ dom) (hb : ∀ b, (θ id).eye = some b → w'.heap[b]? = w.heap[b]?) (h0 : objRel θ w id o) : objRel θ' w' id o := by
  cases o with
  | blk ty cells =>
    obtain ⟨b, h1, h2⟩ := h0
    exact ⟨b, by rw [he, h1], by rw [hb b (by rw [h1]; rfl), h2, dens_tr hs hi]⟩
  | row ro ty esz r =>
    cases ro
    · exact ⟨h0.1, by rw [he, dens_plain (θ := θ) h0.1.ids]; exact ownRel_keep hb h0.2⟩
    · exact ⟨h0.1, by rw [he, dens_plain (θ := θ) h0.1.ids]; exact seeRel_keep hb h0.2⟩
  | crow ty esz len cs => exact ⟨h0.1, by rw [he, dens_tr hs hi]; exact ownRel_keep hb h0.2⟩
  | clo caps => show θ' id = _; rw [he, show θ id = _ from h0, SVs_tr hs hi]
  | raw b rs t L k => exact ⟨he.trans h0.1, (hb b (by rw [h0.1]; rfl)).trans h0.2⟩
theorem memRel_tr {mem : Mem} {w : World} (hd : ∀ id, id ∈ domain mem → id < n ∨ id ∈ dom) (h : memRel θ mem w) (hids : ∀ id o, look mem id = some o → ∀ i ∈ idsO o, i < n ∨ i ∈ dom) : memRel θ' mem w :=
  ⟨fun id o hl => objRel_tr hs (hs id (hd id (look_domain.2 ⟨o, hl⟩))) (hids id o hl) (fun _ _ => rfl) (h.1 id o hl), fun id id' o o' b hl hl' hne hb => by
    rw [hs id (hd id (look_domain.2 ⟨o, hl⟩))] at hb
    rw [hs id' (hd id' (look_domain.2 ⟨o', hl'⟩))]
    exact h.2 id id' o o' b hl hl' hne hb⟩
end transfer

theorem delAll_nil (mem : Mem) : delAll mem [] = mem := by
  induction mem with
  | nil => rfl
  | cons p r ih => obtain ⟨k, x⟩ := p; simp [delAll, has_nil, has_cons, ih]

/-- What is known of a part of memory. -/
noncomputable def memOn (S : List Nat) (θ : Th) (mem : Mem) (w : World) : Prop :=
  (∀ id o, 4 * id + 1 ∈ S → look mem id = some o → objRel θ w id o) ∧
  (∀ id id' o o' b, 4 * id + 1 ∈ S → 4 * id' + 1 ∈ S → look mem id = some o → look mem id' = some o' → id ≠ id' → (θ id).blk = some b → (θ id').eye ≠ some b)
theorem memOn_restrict {S rd : List Nat} {θ : Th} {mem : Mem} {w : World} (h : memOn S θ mem w) (hrd : ∀ id ∈ rd, 4 * id + 1 ∈ S) : memRel θ (restrict mem rd) w := by
  refine ⟨fun id o hl => ?_, fun id id' o o' b hl hl' => ?_⟩
  · rw [look_restrict] at hl
    split at hl
    · rename_i hm; exact h.1 id o (hrd id hm) hl
    · cases hl
  · rw [look_restrict] at hl hl'
    split at hl
    · rename_i hm
      split at hl'
      · rename_i hm'; exact h.2 id id' o o' b (hrd id hm) (hrd id' hm') hl hl'
      · cases hl'
    · cases hl

/-- What an operation's effect is good for, in whatever order it comes. -/
structure Local (P : Program) (ops : Array Oper) (nt : Nat) (o : Oper) (i : Nat) (s s' : RS) (x : Fx) (rs ws gs : List Nat) : Prop where
  fps : s'.fps = s.fps ++ [⟨rs, ws, gs, dstL o⟩]
  env : s'.env = x.env s.env
  mem : s'.mem = x.mem s.mem
  dst : x.dst = o.dst
  ok : dstOk nt o s.env = true
  up : s.n ≤ s'.n
  wfEnt : ∀ e, x.ent = some e → ∀ id ∈ idsV e.val, id < s.n ∨ id ∈ domain x.ups
  wfUps : ∀ id o, look x.ups id = some o → ∀ j ∈ idsO o, j < s.n ∨ j ∈ domain x.ups
  domUps : ∀ id ∈ domain x.ups, id < s'.n
  wDst : ∀ d, o.dst = some d → 4 * d ∈ ws
  wMem : ∀ id, id ∈ x.touched ++ domain x.ups → 4 * id + 1 ∈ ws
  wNew : ∀ id, id ∈ domain x.ups → s.n ≤ id → 4 * id + 2 ∈ ws
  rGrd : ∀ e, x.ent = some e → ∀ p ∈ e.g, 4 * p.1 ∈ rs ∧ p.1 ∈ gs
  rEnt : ∀ e, x.ent = some e → ∀ id ∈ idsV e.val, 4 * id + 2 ∈ rs
  rUps : ∀ id o, look x.ups id = some o → ∀ j ∈ idsO o, 4 * j + 2 ∈ rs
  rMem : ∀ id ∈ x.touched, 4 * id + 1 ∈ rs
  free : ∀ e, x.ent = some e → ∀ d, o.dst = some d → ∀ p ∈ e.g, p.1 ≠ d
  run : ∀ (θ : Th) (a : Act) (w : World) (K : Act → World → Prop) (Q : Exit → Act → World → Prop), a.tmps.size = nt →
    (∀ t e, 4 * t ∈ rs → look s.env t = some e → entRel θ a t e) → memOn rs θ s.mem w →
    (∀ θ' v w', Did θ a w s.n (restrict s.mem x.touched) x θ' v w' → K (a.put o.dst v) w') → wpOpIn Fence.wide 0 P ops Q i K a w

theorem mem_gslots {p : Nat × Bool} : ∀ {g : List (Nat × Bool)}, p ∈ g → p.1 ∈ gslots g
  | [], h => by cases h
  | q :: r, h => by
    rcases List.mem_cons.1 h with rfl | h
    · simp [gslots]
    · simp [gslots, mem_gslots h]
theorem mem_evens_l {t : Nat} {l r : List Nat} (h : t ∈ l) : 4 * t ∈ q0 l ++ r := List.mem_append.2 (.inl (mem_q0.2 h))

theorem eqVal_spec {x y : SV} {q : Eqs} (h : ∀ p ∈ eqVal x y q, p.1 = p.2) : x = y ∧ ∀ p ∈ q, p.1 = p.2 := by
  unfold eqVal at h
  split at h
  · obtain ⟨h1, h2⟩ := eqCell_spec h
    exact ⟨by rw [h1], h2⟩
  · exact ⟨EVv_inj (h _ (List.mem_cons_self ..)), fun p hp => h p (List.mem_cons_of_mem _ hp)⟩
theorem tupR_eq {a b : List (List SC)} (h : tupR a = tupR b) : a = b := by
  unfold tupR at h
  injection h with h
  have := congrArg (List.map Prod.snd) h
  simpa [List.map_map, Function.comp_def] using this
theorem sameR_spec {x y : RowC} {q : Eqs} (h : sameR x y = some q) (hq : ∀ p ∈ q, p.1 = p.2) : x.rows = y.rows := by
  unfold sameR at h
  split at h
  · cases h
    have h2 := hq _ List.mem_cons_self
    injection h2 with h2
    exact tupR_eq h2
  · rename_i ks xs _ js ys
    cases hk : cksEq ks js
    · rw [hk] at h; cases h
    · rw [hk] at h
      cases h
      have h2 := hq _ List.mem_cons_self
      injection h2 with h2
      have := cksEq_spec hk
      show xs.map (decode ks) = ys.map (decode js)
      rw [h2, this]
  · cases h
    have h2 := hq _ List.mem_cons_self
    injection h2 with h2
    show [] = List.map _ _
    rw [← h2]; rfl
  · cases h
    have h2 := hq _ List.mem_cons_self
    injection h2 with h2
    show List.map _ _ = []
    rw [h2]; rfl
  · cases h
theorem sameObj_spec {x y : Obj} {q : Eqs} (h : sameObj x y = some q) (hq : ∀ p ∈ q, p.1 = p.2) : idsO x = idsO y ∧ ∀ (θ : Th) (w : World) (id : Nat), objRel θ w id y → objRel θ w id x := by
  unfold sameObj at h
  split at h
  · rename_i t cx u cy
    cases hb : Nat.beq t u
    · rw [hb] at h; cases h
    · rw [hb] at h
      have := Nat.eq_of_beq_eq_true hb; subst this
      have hu := sameTC_spec h hq
      refine ⟨hu.2, fun θ w id ho => ?_⟩
      obtain ⟨b, h1, h2⟩ := ho
      exact ⟨b, h1, by rw [hu.1 θ]; exact h2⟩
  · rename_i p t m rx q' u k ry
    cases hb : ((p == q') && (Nat.beq t u && Nat.beq m k))
    · rw [hb] at h; cases h
    · rw [hb] at h
      simp only [Bool.and_eq_true, beq_iff_eq] at hb
      obtain ⟨rfl, h1, h2⟩ := hb
      have := Nat.eq_of_beq_eq_true h1; subst this
      have := Nat.eq_of_beq_eq_true h2; subst this
      have hr := sameR_spec h hq
      refine ⟨rfl, fun θ w id ho => ?_⟩
      cases p
      · exact ⟨by rw [hr]; exact ho.1, by rw [hr]; exact ho.2⟩
      · exact ⟨by rw [hr]; exact ho.1, by rw [hr]; exact ho.2⟩
  · cases h
theorem sameMem_spec {mem ups : Mem} : ∀ {l : List Nat} {q : Eqs}, sameMem mem ups l = some q → (∀ p ∈ q, p.1 = p.2) → ∀ id ∈ l, ∃ o o', look mem id = some o ∧ look ups id = some o' ∧
    (idsO o = idsO o' ∧ ∀ (θ : Th) (w : World) (id : Nat), objRel θ w id o' → objRel θ w id o)
  | [], _, _, _, id, hid => by cases hid
  | i :: r, q, h, hq, id, hid => by
    unfold sameMem at h
    split at h
    · rename_i o o' h1 h2
      split at h
      · rename_i a b ha hb
        cases h
        rcases List.mem_cons.1 hid with rfl | hid
        · exact ⟨o, o', h1, h2, sameObj_spec ha fun p hp => hq p (List.mem_append.2 (.inl hp))⟩
        · exact sameMem_spec hb (fun p hp => hq p (List.mem_append.2 (.inr hp))) id hid
      · cases h
    · cases h
theorem opStep_local {P : Program} {ce : CE} (hp : PlainNames P) (hce : CESound P ce) {nt : Nat} {ops : Array Oper} {o : Oper} {i : Nat} {s s' : RS} (h : opStep P ce nt ops.toList o s = some s')
    (hn : ∀ p ∈ s'.needs, p) (he : ∀ p ∈ s'.eqs, p.1 = p.2) (hi : ops[i]? = some o) (hwe : wfEnv s.n s.env) (hwm : wfMem s.n s.mem) :
    (∀ p ∈ s.needs, p) ∧ (∀ p ∈ s.eqs, p.1 = p.2) ∧ ∃ x rs ws gs, Local P ops nt o i s s' x rs ws gs := by
  unfold opStep at h
  cases hok : dstOk nt o s.env
  · rw [hok] at h; cases h
  rw [hok] at h
  simp only [cond_true] at h
  have hdst : ∀ d, o.dst = some d → d < nt ∧ ∀ t e, look s.env t = some e → ∀ p ∈ e.g, p.1 ≠ d := by
    intro d hd
    simp only [dstOk, hd, Bool.and_eq_true, Nat.blt_eq] at hok
    exact ⟨hok.1, fun t e hl => noGuardOn_spec hok.2 t e hl⟩
  split at h
  · cases h
  · -- it never runs
    rename_i hw
    cases h
    refine ⟨hn, he, ⟨o.dst, none, [], []⟩, q0 (guardSlot ops.toList o), q0 (dstL o), [], ?_⟩
    refine { fps := rfl, env := rfl, mem := ?_, dst := rfl, ok := hok, up := Nat.le_refl _, wfEnt := (fun e h => by cases h), wfUps := (fun _ _ h => by cases h), domUps := (fun _ h => by cases h),
             wDst := (fun d hd => by simp [dstL, hd, q0]), wMem := (fun _ h => by cases h), wNew := (fun _ h _ => by cases h), rGrd := (fun _ h => by cases h), rEnt := (fun _ h => by cases h), rUps := (fun _ _ h => by cases h), rMem := (fun _ h => by cases h), free := (fun _ h => by cases h), run := ?_ }
    · show s.mem = [] ++ delAll s.mem ([] ++ domain [])
      simp [domain, delAll_nil]
    · intro θ a w K Q hsz hr hm hk
      have hno : Region.wanted o (yielded ops a.tmps) = false := by
        unfold wants at hw
        split at hw
        · cases hw
        · rename_i j wt hg
          split at hw
          · cases hw
          · rename_i d hd
            have hd' : (ops[j]?).bind (·.dst) = some d := by simpa using hd
            split at hw
            · cases hw
            · rename_i en hen
              have her := hr d en (by rw [mem_q0]; simp [guardSlot, hg, hd']) hen
              split at hw
              · rename_i b hb
                cases hbw : (b == wt)
                · unfold Region.wanted
                  simp only [hg]
                  unfold yielded
                  rw [hd']
                  by_cases hh : holds a en.g
                  · have := (her.1 hh).1
                    rw [hb] at this
                    simp [this, SV.den, SC.den, SB.val, hbw]
                  · have := her.2 hh
                    simp [this, undef]
                · rw [hbw] at hw; cases hw
              · cases hw
              · cases hw
      unfold wpOpIn
      simp only [hi, hno, Bool.false_eq_true, if_false]
      exact ⟨fun _ _ => trivial, hk θ undef w ⟨fun _ _ => rfl, (fun d e _ h => by cases h), Grew.none _ _ _ _, memRel_nil _ _⟩⟩
  · -- it runs under a guard
    rename_i g gx hw
    split at h
    · cases h
    rename_i e hst
    split at h
    · cases h
    rename_i qs hq
    cases hc : (Nat.ble s.n e.nx && (dstFree o g && allIn 0 e.rd e.touched && (allIn s.n (domain e.ups) (idsE e.val ++ idsMem e.ups) && noNew e.nx (domain e.ups))))
    · rw [hc] at h; cases h
    rw [hc] at h
    simp only [cond_true, Option.some.injEq] at h
    subst h
    simp only [Bool.and_eq_true] at hc
    obtain ⟨hnx, ⟨hdf, htr⟩, hall, hnew⟩ := hc
    have hnx := Nat.le_of_ble_eq_true hnx
    have hall := allIn_spec hall
    have hnew := noNew_spec hnew
    simp only [List.mem_append] at hn he
    have hval : ∀ v, e.val = some v → ∀ id ∈ idsV v, id < s.n ∨ id ∈ domain e.ups := fun v hv id hi => hall id (by simp [idsE, hv, hi])
    have hups : ∀ id ob, look e.ups id = some ob → ∀ j ∈ idsO ob, j < s.n ∨ j ∈ domain e.ups := fun id ob hl j hj => hall j (by simp [(look_ids hl).2 j hj])
    have hfree : ∀ d, o.dst = some d → ∀ p ∈ g, p.1 ≠ d := fun d hd => by simp only [dstFree, hd] at hdf; exact freeOf_spec hdf
    -- the guard, as the model reads it
    have hguard : ∀ (θ : Th) (a : Act), (∀ t en, 4 * t ∈ q0 (slotsOf o.op.operands.toList ++ (guardSlot ops.toList o ++ gslots g)) → look s.env t = some en → entRel θ a t en) →
        (Region.wanted o (yielded ops a.tmps) = true → holds a g ∧ gxs gx) ∧ (Region.wanted o (yielded ops a.tmps) = false → ¬ holds a g) := by
      intro θ a hr
      unfold wants at hw
      split at hw
      · rename_i hg
        cases hw
        simp [Region.wanted, hg, holds, gxs]
      · rename_i j wt hg
        split at hw
        · cases hw
        · rename_i d hd
          have hd' : (ops[j]?).bind (·.dst) = some d := by simpa using hd
          split at hw
          · cases hw
          · rename_i en hen
            have her := hr d en (by rw [mem_q0]; simp [guardSlot, hg, hd']) hen
            have hy : yielded ops a.tmps j = match a.tmps[d]? with | some (.bool b) => some b | _ => none := by unfold yielded; rw [hd']; rfl
            split at hw
            · rename_i b hb
              cases hbw : (b == wt)
              · rw [hbw] at hw; cases hw
              · rw [hbw] at hw
                simp only [cond_true, Wt.yes.injEq] at hw
                obtain ⟨rfl, rfl⟩ := hw
                have hbe := eq_of_beq hbw
                unfold Region.wanted
                simp only [hg, hy]
                by_cases hh : holds a en.g
                · have := (her.1 hh)
                  rw [hb] at this
                  simp only [SV.den, SC.den, SB.val] at this
                  simp [this.1, hbe, hh, this.2]
                · have := her.2 hh
                  simp [this, undef, hh]
            · rename_i b hb
              simp only [Wt.yes.injEq] at hw
              obtain ⟨rfl, rfl⟩ := hw
              unfold Region.wanted
              simp only [hg, hy]
              by_cases hh : holds a en.g
              · have hth := (her.1 hh)
                rw [hb] at hth
                simp only [SV.den, SC.den, SB.val] at hth
                refine ⟨fun h => ?_, fun h hd2 => ?_⟩
                · rw [hth.1] at h
                  have hbw : b = wt := by simpa using h
                  refine ⟨fun p hp => ?_, fun p hp => ?_⟩
                  · rcases List.mem_cons.1 hp with rfl | hp
                    · rw [hth.1, hbw]
                    · exact hh p hp
                  · rcases List.mem_cons.1 hp with rfl | hp
                    · exact hbw
                    · exact hth.2 p hp
                · have := hd2 (d, wt) (by simp)
                  simp only at this
                  rw [this] at h
                  simp at h
              · have := her.2 hh
                refine ⟨fun h => ?_, fun h hd2 => ?_⟩
                · rw [this] at h; simp [undef] at h
                · exact hh fun p hp => hd2 p (by simp [hp])
            · cases hw
    refine ⟨fun p h => hn p (.inl h), fun p h => he p (.inl h), fxOf o g gx e s.mem, reads ops.toList o g e, writes s.n o e, gslots g, ?_⟩
    have hfxd : (fxOf o g gx e s.mem).dst = o.dst := by unfold fxOf; split <;> rfl
    have hfxe : ∀ en, (fxOf o g gx e s.mem).ent = some en → ∃ v, e.val = some v ∧ en.val = v ∧ en.g = g ∧ (en.gx = gx ∨ g = [] ∧ en.gx = []) := by
      intro en hen
      unfold fxOf at hen
      split at hen
      · simp only [Option.map_eq_some_iff] at hen
        obtain ⟨v, h1, rfl⟩ := hen
        exact ⟨v, h1, rfl, rfl, .inr ⟨rfl, rfl⟩⟩
      · simp only [Option.map_eq_some_iff] at hen
        obtain ⟨v, h1, rfl⟩ := hen
        exact ⟨v, h1, rfl, rfl, .inl rfl⟩
    have hfxm : g = [] ∧ (fxOf o g gx e s.mem).touched = e.touched ∧ (fxOf o g gx e s.mem).ups = e.ups ∨ g ≠ [] ∧ (fxOf o g gx e s.mem).touched = e.touched ∧ (fxOf o g gx e s.mem).ups = restrict s.mem e.touched := by
      cases g with
      | nil => exact .inl ⟨rfl, rfl, rfl⟩
      | cons p r => exact .inr ⟨by simp, rfl, rfl⟩
    have hqv : g ≠ [] → sameMem s.mem e.ups e.touched = some qs ∧ ∃ v, e.val = some v ∧ ∀ id ∈ idsV v, id < s.n := by
      intro hg
      unfold quietly at hq
      split at hq
      · exact absurd rfl hg
      · split at hq
        · rename_i v hv
          cases hnn : noNew s.n (idsV v)
          · rw [hnn] at hq; cases hq
          · rw [hnn] at hq
            exact ⟨hq, v, hv, noNew_spec hnn⟩
        · cases hq
    have hqs : ∀ p ∈ qs, p.1 = p.2 := fun p hp => he p (.inr (.inr hp))
    have hres : ∀ {id ob}, look (restrict s.mem e.touched) id = some ob → look s.mem id = some ob ∧ id ∈ e.touched := by
      intro id ob hl
      rw [look_restrict] at hl
      split at hl
      · rename_i hm; exact ⟨hl, hm⟩
      · cases hl
    have hdomfx : ∀ id, id ∈ domain (fxOf o g gx e s.mem).ups → (id ∈ domain e.ups ∨ (id < s.n ∧ id ∈ e.touched)) := by
      intro id hid
      rcases hfxm with ⟨_, _, h2⟩ | ⟨_, _, h2⟩ <;> rw [h2] at hid
      · exact .inl hid
      · obtain ⟨ob, hl⟩ := look_domain.1 hid
        exact .inr ⟨(hwm id ob (hres hl).1).1, (hres hl).2⟩
    have hlookfx : ∀ id ob, look (fxOf o g gx e s.mem).ups id = some ob → ∃ ob', look e.ups id = some ob' ∧ idsO ob = idsO ob' := by
      intro id ob hid
      rcases hfxm with ⟨_, _, h2⟩ | ⟨hg, _, h2⟩ <;> rw [h2] at hid
      · exact ⟨ob, hid, rfl⟩
      · obtain ⟨h3, h4⟩ := hres hid
        obtain ⟨o1, o2, h5, h6, h7⟩ := sameMem_spec (hqv hg).1 hqs id h4
        rw [h3] at h5; cases h5
        exact ⟨o2, h6, h7.1⟩
    have htouchfx : ∀ id, id ∈ (fxOf o g gx e s.mem).touched → id ∈ e.touched := by
      intro id hid
      rcases hfxm with ⟨_, h2, _⟩ | ⟨_, h2, _⟩ <;> rw [h2] at hid <;> exact hid
    have hwfEnt : ∀ en, (fxOf o g gx e s.mem).ent = some en → ∀ id ∈ idsV en.val, id < s.n ∨ id ∈ domain (fxOf o g gx e s.mem).ups := by
      intro en hen id hid
      obtain ⟨v, h1, h2, _⟩ := hfxe en hen
      rw [h2] at hid
      rcases hfxm with ⟨_, _, h3⟩ | ⟨hg, _, _⟩
      · rw [h3]; exact hval v h1 id hid
      · obtain ⟨_, v', h4, h5⟩ := hqv hg
        rw [h1] at h4; cases h4
        exact .inl (h5 id hid)
    refine { fps := rfl, env := rfl, mem := rfl, dst := hfxd, ok := hok, up := Nat.le_succ_of_le hnx, wfEnt := hwfEnt, wfUps := ?_, domUps := ?_, wDst := ?_, wMem := ?_, wNew := ?_, rGrd := ?_, rEnt := ?_, rUps := ?_, rMem := ?_, free := ?_, run := ?_ }
    · intro id ob hl j hj
      rcases hfxm with ⟨_, _, h2⟩ | ⟨_, _, h2⟩
      · rw [h2] at hl ⊢; exact hups id ob hl j hj
      · rw [h2] at hl; exact .inl ((hwm id ob (hres hl).1).2 j hj)
    · intro id hid
      rcases hdomfx id hid with h | ⟨h, _⟩
      · exact Nat.lt_succ_of_lt (hnew id h)
      · exact Nat.lt_succ_of_le (Nat.le_trans (Nat.le_of_lt h) hnx)
    · intro d hd
      unfold writes
      exact mem_evens_l (by simp [dstL, hd])
    · intro id hid
      unfold writes
      simp only [List.mem_append]
      refine .inr (.inl (mem_q1.2 ?_))
      simp only [List.mem_append] at hid ⊢
      rcases hid with h | h
      · exact .inl (htouchfx id h)
      · rcases hdomfx id h with h | ⟨_, h⟩
        · exact .inr h
        · exact .inl h
    · intro id hid hge
      unfold writes
      simp only [List.mem_append]
      rcases hdomfx id hid with h | ⟨h, _⟩
      · exact .inr (.inr (mem_q2.2 (mem_newOf h hge)))
      · omega
    · intro en hen p hp
      obtain ⟨v, _, _, h3, _⟩ := hfxe en hen
      rw [h3] at hp
      refine ⟨?_, mem_gslots hp⟩
      unfold reads
      refine mem_evens_l ?_
      simp only [List.mem_append]
      exact .inr (.inr (mem_gslots hp))
    · intro en hen id hid
      obtain ⟨v, h1, h2, _⟩ := hfxe en hen
      unfold reads
      simp only [List.mem_append]
      refine .inr (.inr (mem_q2.2 ?_))
      rw [h2] at hid
      simp [idsE, h1, hid]
    · intro id ob hl j hj
      unfold reads
      simp only [List.mem_append]
      refine .inr (.inr (mem_q2.2 ?_))
      obtain ⟨ob', h1, h2⟩ := hlookfx id ob hl
      rw [h2] at hj
      simp [(look_ids h1).2 j hj]
    · intro id hid
      have hrd : id ∈ e.rd := (allIn_spec htr id (htouchfx id hid)).resolve_left (by omega)
      unfold reads
      simp only [List.mem_append]
      exact .inr (.inl (mem_q1.2 hrd))
    · intro en hen d hd p hp
      obtain ⟨v, _, _, h3, _⟩ := hfxe en hen
      rw [h3] at hp
      exact hfree d hd p hp
    · intro θ a w K Q hsz hr hm hk
      have hr' : ∀ t en, 4 * t ∈ q0 (slotsOf o.op.operands.toList ++ (guardSlot ops.toList o ++ gslots g)) → look s.env t = some en → entRel θ a t en := fun t en ht => hr t en (List.mem_append.2 (.inl ht))
      obtain ⟨hg1, hg2⟩ := hguard θ a hr'
      unfold wpOpIn
      simp only [hi]
      cases hwant : Region.wanted o (yielded ops a.tmps)
      · -- skipped
        have hnh := hg2 hwant
        simp only [Bool.false_eq_true, if_false]
        have hgne : g ≠ [] := fun h0 => hnh (by rw [h0]; intro p hp; cases hp)
        obtain ⟨h1, h2⟩ : (fxOf o g gx e s.mem).touched = e.touched ∧ (fxOf o g gx e s.mem).ups = restrict s.mem e.touched := by
          rcases hfxm with ⟨h0, _⟩ | ⟨_, h1, h2⟩
          · exact absurd h0 hgne
          · exact ⟨h1, h2⟩
        refine ⟨fun _ _ => trivial, hk θ undef w ⟨fun _ _ => rfl, fun d en hd hen => ?_, by rw [h1, h2]; exact Grew.refl _ _ _ _, by
          rw [h2]
          refine memOn_restrict hm fun id hid => ?_
          have hrd : id ∈ e.rd := (allIn_spec htr id hid).resolve_left (by omega)
          unfold reads
          simp only [List.mem_append]
          exact .inr (.inl (mem_q1.2 hrd))⟩⟩
        rw [hfxd] at hd
        obtain ⟨v, _, _, h3, _⟩ := hfxe en hen
        have hf := hfree d hd
        refine ⟨fun hh => ?_, fun _ => put_get_same _ (by rw [hsz]; exact (hdst d hd).1)⟩
        rw [h3, holds_put hf] at hh
        exact absurd hh hnh
      · obtain ⟨hh, hgx⟩ := hg1 hwant
        simp only [if_true]
        have hsub : memRel θ (restrict s.mem e.rd) w := memOn_restrict hm fun id hid => by
          unfold reads
          simp only [List.mem_append]
          exact .inr (.inl (mem_q1.2 hid))
        refine step1_sound hp hce hst (fun p hp' => underAll_spec (fun p hp => hn p (.inr hp)) hgx p hp') (fun p hp => he p (.inr (.inl hp))) (fun t ht y hl => hr' t y (mem_q0.2 (by simp [ht])) hl) hh hwe hwm hsub ?_
        intro v θ1 w' hef
        -- the new placement: only at what is new
        have hsame1 : ∀ id, id < s.n → θ1 id = θ id := hef.grew.agree
        rcases hfxm with ⟨hg0, ht0, hu0⟩ | ⟨hgne, ht0, hu0⟩
        · have htr : ∀ id, id < s.n ∨ id ∈ domain e.ups → (fun id => if id < s.n ∨ id ∉ domain e.ups then θ id else θ1 id) id = θ1 id := by
            intro id hid
            by_cases hlt : id < s.n
            · simp [hlt, hsame1 id hlt]
            · have hd := hid.resolve_left hlt
              simp [hlt, hd]
          refine hk (fun id => if id < s.n ∨ id ∉ domain e.ups then θ id else θ1 id) v w' ⟨fun id hid => ?_, fun d en hd hen => ?_, ?_, ?_⟩
          · rw [hu0] at hid; simp only [hid, if_true]
          · rw [hfxd] at hd
            obtain ⟨x, h1, h2, h3, h4⟩ := hfxe en hen
            have hgx' : gxs en.gx := by
              rcases h4 with h4 | ⟨_, h4⟩ <;> rw [h4]
              · exact hgx
              · intro p hp; cases hp
            refine ⟨fun _ => ⟨?_, hgx'⟩, fun hnh => absurd (by rw [h3, hg0]; intro p hp; cases hp) hnh⟩
            rw [put_get_same _ (by rw [hsz]; exact (hdst d hd).1), hef.val, h1, h2]
            simp only
            rw [SV.den_tr htr (hval x h1)]
          · rw [ht0, hu0]
            refine { hef.grew with agree := fun id hid => by simp [hid], blks := fun id ob b hl hb => ?_, eyes := fun id ob b hl hb => ?_ }
            · have hb1 := htr id (.inr (look_domain.2 ⟨ob, hl⟩))
              simp only at hb1 hb
              rw [hb1] at hb
              exact hef.grew.blks id ob b hl hb
            · have hb1 := htr id (.inr (look_domain.2 ⟨ob, hl⟩))
              simp only at hb1 hb
              rw [hb1] at hb
              exact hef.grew.eyes id ob b hl hb
          · rw [hu0]
            exact memRel_tr htr (fun id hid => .inr hid) hef.mem hups
        · obtain ⟨hsm, x, hx, hxi⟩ := hqv hgne
          have hsame : ∀ {id ob}, look (restrict s.mem e.touched) id = some ob → ∃ ob', look e.ups id = some ob' ∧ ∀ (θ : Th) (w : World), objRel θ w id ob' → objRel θ w id ob := by
            intro id ob hl
            obtain ⟨h3, h4⟩ := hres hl
            obtain ⟨o1, o2, h5, h6, h7⟩ := sameMem_spec hsm hqs id h4
            rw [h3] at h5; cases h5
            exact ⟨o2, h6, fun θ w => h7.2 θ w id⟩
          have hlt : ∀ {id ob}, look (restrict s.mem e.touched) id = some ob → id < s.n := fun hl => (hwm _ _ (hres hl).1).1
          refine hk θ v w' ⟨fun _ _ => rfl, fun d en hd hen => ?_, ?_, ?_⟩
          · rw [hfxd] at hd
            obtain ⟨x', h1, h2, h3, h4⟩ := hfxe en hen
            rw [hx] at h1; cases h1
            have hf := hfree d hd
            have hgx' : gxs en.gx := by
              rcases h4 with h4 | ⟨h4, _⟩
              · rw [h4]; exact hgx
              · exact absurd h4 hgne
            refine ⟨fun _ => ⟨?_, hgx'⟩, fun hnh => absurd (by rw [h3, holds_put hf]; exact hh) hnh⟩
            rw [put_get_same _ (by rw [hsz]; exact (hdst d hd).1), hef.val, hx, h2]
            simp only
            rw [SV.den_agree hef.grew.agree hxi]
          · rw [ht0, hu0]
            refine { agree := Agree.refl _ _, os := hef.grew.os, tape := hef.grew.tape, output := hef.grew.output, size := hef.grew.size, heap := hef.grew.heap, blks := (fun id ob b hl hb => ?_), eyes := (fun id ob b hl hb => ?_) }
            · obtain ⟨ob', h1, _⟩ := hsame hl
              exact hef.grew.blks id ob' b h1 (by rw [hsame1 id (hlt hl)]; exact hb)
            · obtain ⟨ob', h1, _⟩ := hsame hl
              exact hef.grew.eyes id ob' b h1 (by rw [hsame1 id (hlt hl)]; exact hb)
          · rw [hu0]
            refine ⟨fun id ob hl => ?_, fun id id' ob ob' b hl hl' hne hb => ?_⟩
            · obtain ⟨o2, h1, h2⟩ := hsame hl
              have h3 := h2 _ _ (hef.mem.1 id o2 h1)
              refine objRel_tr (n := s.n) (dom := []) (θ := θ1) (fun i hi => ?_) (hsame1 id (hlt hl)).symm (fun i hi => .inl ((hwm id ob (hres hl).1).2 i hi)) (fun _ _ => rfl) h3
              exact (hsame1 i (hi.resolve_right (by simp))).symm
            · obtain ⟨o2, h1, _⟩ := hsame hl
              obtain ⟨o3, h2, _⟩ := hsame hl'
              have := hef.mem.2 id id' o2 o3 b h1 h2 hne (by rw [hsame1 id (hlt hl)]; exact hb)
              rw [hsame1 id' (hlt hl')] at this
              exact this
end Go.SX
