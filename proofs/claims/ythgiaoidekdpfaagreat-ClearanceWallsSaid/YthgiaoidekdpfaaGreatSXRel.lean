/-
  WHAT THE EVALUATOR'S VALUES STAND FOR, and the relation between its state and a frame of the model over a world. Conditions: none.
-/
import Derived.Test.YthgiaoidekdpfaaGreatSXDef
import Derived.Below
import Derived.OrdersIn
import Derived.RangeFuncIn
import Derived.Laws.AppendOwn
import Derived.Maps.AppendAt
set_option linter.all false
namespace Go.SX
open Go.RowKit

/-- Where an object lies: the block that is the call's own, the block that it looks at, a row's address, length and capacity; what a closure holds. -/
structure Loc where
  blk : Option Nat
  eye : Option Nat
  ad : Option Addr
  len : Nat
  cap : Nat
  caps : Array Value
noncomputable def Loc.none : Loc := ⟨.none, .none, .none, 0, 0, #[]⟩
/-- A block of the call's own. -/
noncomputable def Loc.box (b : Nat) : Loc := ⟨some b, some b, some ⟨b, 0, .none⟩, 0, 0, #[]⟩
noncomputable def Loc.row (b len cap : Nat) : Loc := ⟨some b, some b, some ⟨b, 0, .none⟩, len, cap, #[]⟩
noncomputable def Loc.clo (caps : Array Value) : Loc := ⟨.none, .none, .none, 0, 0, caps⟩
abbrev Th := Nat → Loc
noncomputable def Th.none : Th := fun _ => Loc.none

noncomputable def SC.den (θ : Th) : SC → Value
  | .int k n => .int k n.val
  | .bool b => .bool b.val
  | .ptr id off => .pointer ((θ id).blk.map fun b => ⟨b, off, .none⟩)
  | .eptr id esz i off => .pointer ((θ id).ad.map fun a => a.add (i.val * esz + off))
  | .wh id => .slice (θ id).ad (θ id).len (θ id).cap
  | .sl id esz off len => .slice ((θ id).ad.map fun a => if (θ id).cap = off.val then a else a.add (off.val * esz)) len.val ((θ id).cap - off.val)
  | .bs id len => .slice ((θ id).blk.map fun b => ⟨b, 0, .none⟩) len len
  | .nilp => .pointer .none
  | .nilsl => .slice .none 0 0
  | .fn f => .func (.func f) #[] #[]
  | .clo f id => .func (.func f) #[] (θ id).caps
  | .yld _ id => .func (.yield ((θ id).blk.getD 0)) #[] #[]
  | .nilf => .nilFunc
noncomputable def dens (θ : Th) (cs : List SC) : List Value := cs.map (SC.den θ)
noncomputable def compDen (θ : Th) : Bool × List SC → Value
  | (false, [c]) => c.den θ
  | (_, cs) => .agg (dens θ cs).toArray
noncomputable def SV.den (θ : Th) : SV → Value
  | .one c => c.den θ
  | .agg cs => .agg (dens θ cs).toArray
  | .tup vs => .tuple (vs.map (compDen θ)).toArray

/-- A cell's value is no struct and no tuple. -/
theorem SC.den_one (θ : Th) (c : SC) : (c.den θ).cells = #[c.den θ] := by cases c <;> rfl
theorem SC.den_ne_agg (θ : Th) (c : SC) (cs : Array Value) : c.den θ ≠ .agg cs := by cases c <;> simp [SC.den]
theorem SC.den_ne_tuple (θ : Th) (c : SC) (cs : Array Value) : c.den θ ≠ .tuple cs := by cases c <;> simp [SC.den]

/-! ### The agreement of two placements -/
noncomputable def Agree (n : Nat) (θ θ' : Th) : Prop := ∀ id, id < n → θ' id = θ id
theorem Agree.refl (n : Nat) (θ : Th) : Agree n θ θ := fun _ _ => rfl
theorem Agree.trans {n m : Nat} {a b c : Th} (h : Agree n a b) (k : Agree m b c) (hn : n ≤ m) : Agree n a c := fun id hi => (k id (Nat.lt_of_lt_of_le hi hn)).trans (h id hi)
theorem Agree.mono {n m : Nat} {a b : Th} (h : Agree m a b) (hn : n ≤ m) : Agree n a b := fun id hi => h id (Nat.lt_of_lt_of_le hi hn)

theorem noNew_spec {n : Nat} : ∀ {l : List Nat}, noNew n l = true → ∀ id ∈ l, id < n
  | [], _, _, h => by cases h
  | a :: r, h, id, hm => by
    simp only [noNew_nil, noNew_cons, Bool.and_eq_true, Nat.blt_eq] at h
    rcases List.mem_cons.1 hm with rfl | hm
    · exact h.1
    · exact noNew_spec h.2 id hm
theorem noNew_of {n : Nat} : ∀ {l : List Nat}, (∀ id ∈ l, id < n) → noNew n l = true
  | [], _ => rfl
  | a :: r, h => by
    simp only [noNew_nil, noNew_cons, Bool.and_eq_true, Nat.blt_eq]
    exact ⟨h a (by simp), noNew_of fun id hi => h id (by simp [hi])⟩

section agree
variable {n : Nat} {θ θ' : Th} (ha : Agree n θ θ')
include ha
theorem SC.den_agree {c : SC} (h : ∀ id ∈ idsC c, id < n) : c.den θ' = c.den θ := by
  cases c <;> simp [SC.den, idsC] at h ⊢ <;> simp [ha _ h]
theorem dens_agree : ∀ {cs : List SC}, (∀ id ∈ idsCs cs, id < n) → dens θ' cs = dens θ cs
  | [], _ => rfl
  | c :: r, h => by
    simp only [dens, List.map_cons, List.cons.injEq]
    exact ⟨SC.den_agree ha fun id hi => h id (by simp [idsCs_nil, idsCs_cons, hi]), dens_agree fun id hi => h id (by simp [idsCs_nil, idsCs_cons, hi])⟩
theorem compDen_agree {x : Bool × List SC} (h : ∀ id ∈ idsCs x.2, id < n) : compDen θ' x = compDen θ x := by
  obtain ⟨b, cs⟩ := x
  unfold compDen
  split
  · rename_i c he; cases he; exact SC.den_agree ha fun id hi => h id (by simp [idsCs_nil, idsCs_cons, hi])
  · rename_i cs' _ he; cases he; rw [dens_agree ha h]
theorem tup_agree : ∀ {vs : List (Bool × List SC)}, (∀ id ∈ idsTup vs, id < n) → vs.map (compDen θ') = vs.map (compDen θ)
  | [], _ => rfl
  | (b, cs) :: r, h => by
    simp only [List.map_cons, List.cons.injEq]
    exact ⟨compDen_agree ha fun id hi => h id (by simp [idsTup, hi]), tup_agree fun id hi => h id (by simp [idsTup, hi])⟩
theorem SV.den_agree {v : SV} (h : ∀ id ∈ idsV v, id < n) : v.den θ' = v.den θ := by
  cases v with
  | one c => exact SC.den_agree ha h
  | agg cs => simp only [SV.den]; rw [dens_agree ha h]
  | tup vs => simp only [SV.den]; rw [tup_agree ha h]
theorem SVs_agree : ∀ {vs : List SV}, (∀ id ∈ idsVs vs, id < n) → vs.map (SV.den θ') = vs.map (SV.den θ)
  | [], _ => rfl
  | v :: r, h => by
    simp only [List.map_cons, List.cons.injEq]
    exact ⟨SV.den_agree ha fun id hi => h id (by simp [idsVs, hi]), SVs_agree fun id hi => h id (by simp [idsVs, hi])⟩
end agree

/-! ### Objects -/
noncomputable def RowC.rows : RowC → List (List SC)
  | .lit _ rows => rows
  | .lst _ ks xs => xs.map (decode ks)
/-- The elements of a row have one size and are integers and truth values. -/
noncomputable def rowOk (esz : Nat) (rows : List (List SC)) : Prop := 0 < esz ∧ ∀ r ∈ rows, r.length = esz ∧ idsCs r = []
/-- A row of the call's own: it may have no block if it is empty. -/
noncomputable def ownRel (l : Loc) (w : World) (ty esz n : Nat) (cells : List Value) : Prop :=
  l.len = n ∧ (l.blk = none ∧ l.eye = none ∧ l.ad = none ∧ l.cap = 0 ∨ ∃ b, l.blk = some b ∧ l.eye = some b ∧ l.ad = some ⟨b, 0, none⟩) ∧ w.ownsRow 0 ty esz (.slice l.ad l.len l.cap) n cells
/-- A row that is only read. -/
noncomputable def seeRel (l : Loc) (w : World) (n : Nat) (cells : List Value) : Prop :=
  l.blk = none ∧ l.len = n ∧ n ≤ l.cap ∧ ((cells = [] ∧ l.eye = none ∧ n = 0) ∨ ∃ a, l.ad = some a ∧ l.eye = some a.block ∧ cells ≠ [] ∧ ∀ (j : Nat) (u : Value), cells[j]? = some u → w.cell? (a.add j) = some u)
noncomputable def objRel (θ : Th) (w : World) (id : Nat) : Obj → Prop
  | .blk ty cells => ∃ b, θ id = Loc.box b ∧ w.heap[b]? = some (.cells (dens θ (untag cells)).toArray ty (0, 0))
  | .row false ty esz r => rowOk esz r.rows ∧ ownRel (θ id) w ty esz r.rows.length (dens θ r.rows.flatten)
  | .row true _ esz r => rowOk esz r.rows ∧ seeRel (θ id) w r.rows.length (dens θ r.rows.flatten)
  | .crow ty esz len cells => 0 < esz ∧ ownRel (θ id) w ty esz len (dens θ (untag cells))
  | .clo caps => θ id = Loc.clo (caps.map (SV.den θ)).toArray
  | .raw b _ _ L k => θ id = Loc.box b ∧ w.heap[b]? = some (L k.val)

theorem idsCs_append (a b : List SC) : idsCs (a ++ b) = idsCs a ++ idsCs b := by
  induction a with
  | nil => rfl
  | cons c r ih => simp [idsCs_nil, idsCs_cons, ih]
theorem idsCs_flatten : ∀ {rows : List (List SC)}, (∀ r ∈ rows, idsCs r = []) → idsCs rows.flatten = []
  | [], _ => rfl
  | r :: rs, h => by rw [List.flatten_cons, idsCs_append, h r (by simp), idsCs_flatten fun r hr => h r (by simp [hr])]; rfl
theorem rowOk.ids {esz : Nat} {rows : List (List SC)} (h : rowOk esz rows) : idsCs rows.flatten = [] := idsCs_flatten fun r hr => (h.2 r hr).2
theorem dens_plain {θ θ' : Th} {cs : List SC} (h : idsCs cs = []) : dens θ' cs = dens θ cs := by
  induction cs with
  | nil => rfl
  | cons c r ih =>
    simp only [idsCs_nil, idsCs_cons, List.append_eq_nil_iff] at h
    simp only [dens, List.map_cons, List.cons.injEq] at ih ⊢
    exact ⟨by cases c <;> simp [idsC] at h <;> rfl, ih h.2⟩

theorem ownRel_eye {l : Loc} {w : World} {ty esz n : Nat} {cells : List Value} (h : ownRel l w ty esz n cells) : l.blk = l.eye := by
  rcases h.2.1 with ⟨h1, h2, _⟩ | ⟨b, h1, h2, _⟩ <;> rw [h1, h2]
theorem objRel_eye {θ : Th} {w : World} {id b : Nat} {o : Obj} (h : objRel θ w id o) (hb : (θ id).blk = some b) : (θ id).eye = some b := by
  cases o with
  | blk ty cells => obtain ⟨b', h1, _⟩ := h; rw [h1] at hb ⊢; exact hb
  | row ro ty esz r =>
    cases ro
    · rw [← ownRel_eye h.2]; exact hb
    · rw [h.2.1] at hb; cases hb
  | crow ty esz len cs => rw [← ownRel_eye h.2]; exact hb
  | clo caps => rw [show θ id = _ from h] at hb; cases hb
  | raw b0 rs t L k => rw [h.1] at hb ⊢; exact hb
theorem cell_same {w w' : World} {a : Addr} (j : Nat) (h : w'.heap[a.block]? = w.heap[a.block]?) : w'.cell? (a.add j) = w.cell? (a.add j) :=
  World.cell?_of_block (by rw [show (a.add j).block = a.block from by unfold Addr.add; split <;> rfl]; exact h)
theorem ownRel_keep {l : Loc} {w w' : World} {ty esz n : Nat} {cells : List Value} (hb : ∀ b, l.eye = some b → w'.heap[b]? = w.heap[b]?) (h : ownRel l w ty esz n cells) : ownRel l w' ty esz n cells := by
  refine ⟨h.1, h.2.1, h.2.2.1, ?_⟩
  rcases h.2.2.2 with hn | ⟨g, cap, cur, h1, h2, h3, h4⟩
  · exact .inl hn
  · refine .inr ⟨g, cap, cur, h1, h2, ?_, h4⟩
    rcases h.2.1 with ⟨_, _, h5, _⟩ | ⟨b, _, h5, h6⟩
    · rw [h5] at h1; cases h1
    · rw [h6] at h1
      have : b = g := by injection h1 with h1; injection h1 with h1; injection h1
      subst this
      rw [hb _ h5]; exact h3
theorem seeRel_keep {l : Loc} {w w' : World} {n : Nat} {cells : List Value} (hb : ∀ b, l.eye = some b → w'.heap[b]? = w.heap[b]?) (h : seeRel l w n cells) : seeRel l w' n cells := by
  refine ⟨h.1, h.2.1, h.2.2.1, h.2.2.2.imp (fun h => h) fun ⟨a, h1, h2, h3, h4⟩ => ⟨a, h1, h2, h3, fun j u hu => ?_⟩⟩
  rw [cell_same j (hb _ h2)]
  exact h4 j u hu
/-- An object stays what it is where its place and its block stay. -/
theorem objRel_keep {n : Nat} {θ θ' : Th} {w w' : World} {id : Nat} {o : Obj} (ha : Agree n θ θ') (hid : id < n) (ho : ∀ i ∈ idsO o, i < n)
    (hb : ∀ b, (θ id).eye = some b → w'.heap[b]? = w.heap[b]?) (h : objRel θ w id o) : objRel θ' w' id o := by
  have he := ha id hid
  cases o with
  | blk ty cells =>
    obtain ⟨b, h1, h2⟩ := h
    exact ⟨b, by rw [he, h1], by rw [hb b (by rw [h1]; rfl), h2, dens_agree ha ho]⟩
  | row ro ty esz r =>
    cases ro
    · exact ⟨h.1, by rw [he, dens_plain (θ := θ) h.1.ids]; exact ownRel_keep hb h.2⟩
    · exact ⟨h.1, by rw [he, dens_plain (θ := θ) h.1.ids]; exact seeRel_keep hb h.2⟩
  | crow ty esz len cs => exact ⟨h.1, by rw [he, dens_agree ha ho]; exact ownRel_keep hb h.2⟩
  | clo caps => show θ' id = _; rw [he, show θ id = _ from h, SVs_agree ha ho]
  | raw b rs t L k => exact ⟨he.trans h.1, (hb b (by rw [h.1]; rfl)).trans h.2⟩

/-! ### Lists of pairs -/
theorem look_del_same {α : Type} (l : List (Nat × α)) (t : Nat) : look (del l t) t = none := by
  induction l with
  | nil => rfl
  | cons p r ih =>
    obtain ⟨k, x⟩ := p
    simp only [del_nil, del_cons]
    cases h : Nat.beq k t <;> simp [look_nil, look_cons, h, ih]
theorem look_del_ne {α : Type} (l : List (Nat × α)) {t u : Nat} (h : t ≠ u) : look (del l t) u = look l u := by
  induction l with
  | nil => rfl
  | cons p r ih =>
    obtain ⟨k, x⟩ := p
    simp only [del_nil, del_cons]
    cases h1 : Nat.beq k t
    · simp [look_nil, look_cons, ih]
    · have : k = t := Nat.eq_of_beq_eq_true h1
      subst this
      simp only [cond_true, look_nil, look_cons]
      have : Nat.beq k u = false := by
        cases h2 : Nat.beq k u
        · rfl
        · exact absurd (Nat.eq_of_beq_eq_true h2) h
      simp [this, ih]
theorem beq_self (t : Nat) : Nat.beq t t = true := by simp
theorem beq_ne {t u : Nat} (h : t ≠ u) : Nat.beq t u = false := by
  cases h2 : Nat.beq t u
  · rfl
  · exact absurd (Nat.eq_of_beq_eq_true h2) h
theorem look_rem_same {α : Type} (l : List (Nat × α)) (t : Nat) : look (rem l t) t = none := by
  unfold rem
  split
  · assumption
  · exact look_del_same l t
theorem look_rem_ne {α : Type} (l : List (Nat × α)) {t u : Nat} (h : t ≠ u) : look (rem l t) u = look l u := by
  unfold rem
  split
  · rfl
  · exact look_del_ne l h
theorem look_put_same {α : Type} (l : List (Nat × α)) (t : Nat) (x : α) : look (put l t x) t = some x := by simp [put, look_nil, look_cons]
theorem look_put_ne {α : Type} (l : List (Nat × α)) {t u : Nat} (x : α) (h : t ≠ u) : look (put l t x) u = look l u := by
  simp [put, look_nil, look_cons, beq_ne h, look_rem_ne l h]
theorem look_append {α : Type} (a b : List (Nat × α)) (t : Nat) : look (a ++ b) t = match look a t with | some x => some x | none => look b t := by
  induction a with
  | nil => rfl
  | cons p r ih =>
    obtain ⟨k, x⟩ := p
    simp only [List.cons_append, look_nil, look_cons]
    cases Nat.beq k t <;> simp [ih]
theorem has_iff {l : List Nat} {n : Nat} : has l n = true ↔ n ∈ l := by
  induction l with
  | nil => simp [has_nil, has_cons]
  | cons a r ih => simp only [has_nil, has_cons, Bool.or_eq_true, ih, List.mem_cons]; exact ⟨fun h => h.imp (fun e => (Nat.eq_of_beq_eq_true e).symm) id, fun h => h.imp (fun e => by rw [e]; exact Nat.beq_refl a) id⟩
theorem look_delAll (mem : Mem) (l : List Nat) (t : Nat) : look (delAll mem l) t = if t ∈ l then none else look mem t := by
  induction mem with
  | nil => simp [delAll, look_nil, look_cons]
  | cons p r ih =>
    obtain ⟨k, x⟩ := p
    simp only [delAll]
    cases h : has l k
    · have hk : k ∉ l := fun hm => by rw [has_iff.2 hm] at h; cases h
      simp only [cond_false, look_nil, look_cons]
      cases h1 : Nat.beq k t
      · simp [ih]
      · have := Nat.eq_of_beq_eq_true h1; subst this
        simp [hk]
    · have hk : k ∈ l := has_iff.1 h
      simp only [cond_true, look_nil, look_cons, ih]
      cases h1 : Nat.beq k t
      · simp
      · have := Nat.eq_of_beq_eq_true h1; subst this
        simp [hk]
theorem look_restrict (mem : Mem) (l : List Nat) (t : Nat) : look (restrict mem l) t = if t ∈ l then look mem t else none := by
  induction mem with
  | nil => simp [restrict, look_nil, look_cons]
  | cons p r ih =>
    obtain ⟨k, x⟩ := p
    simp only [restrict]
    cases h : has l k
    · have hk : k ∉ l := fun hm => by rw [has_iff.2 hm] at h; cases h
      simp only [cond_false, look_nil, look_cons, ih]
      cases h1 : Nat.beq k t
      · simp
      · have := Nat.eq_of_beq_eq_true h1; subst this
        simp [hk]
    · have hk : k ∈ l := has_iff.1 h
      simp only [cond_true, look_nil, look_cons]
      cases h1 : Nat.beq k t
      · simp [ih]
      · have := Nat.eq_of_beq_eq_true h1; subst this
        simp [hk]
theorem look_domain {mem : Mem} {t : Nat} : t ∈ domain mem ↔ ∃ o, look mem t = some o := by
  induction mem with
  | nil => simp [domain, look_nil, look_cons]
  | cons p r ih =>
    obtain ⟨k, x⟩ := p
    simp only [domain, List.mem_cons, look_nil, look_cons, ih]
    by_cases h : k = t
    · subst h; simp
    · simp [beq_ne h, Ne.symm h]
theorem look_ids {mem : Mem} {t : Nat} {o : Obj} (h : look mem t = some o) : t ∈ idsMem mem ∧ ∀ i ∈ idsO o, i ∈ idsMem mem := by
  induction mem with
  | nil => cases h
  | cons p r ih =>
    obtain ⟨k, x⟩ := p
    simp only [look_nil, look_cons] at h
    cases h1 : Nat.beq k t
    · rw [h1] at h
      obtain ⟨a, b⟩ := ih h
      exact ⟨by simp [idsMem, a], fun i hi => by simp [idsMem, b i hi]⟩
    · rw [h1] at h
      cases h
      have := Nat.eq_of_beq_eq_true h1; subst this
      exact ⟨by simp [idsMem], fun i hi => by simp [idsMem, hi]⟩

/-! ### Memory -/
noncomputable def memRel (θ : Th) (mem : Mem) (w : World) : Prop :=
  (∀ id o, look mem id = some o → objRel θ w id o) ∧
  (∀ id id' o o' b, look mem id = some o → look mem id' = some o' → id ≠ id' → (θ id).blk = some b → (θ id').eye ≠ some b)
noncomputable def wfMem (n : Nat) (mem : Mem) : Prop := ∀ id o, look mem id = some o → id < n ∧ ∀ i ∈ idsO o, i < n
theorem wfMem.mono {n m : Nat} {mem : Mem} (h : wfMem n mem) (hn : n ≤ m) : wfMem m mem :=
  fun id o hl => ⟨Nat.lt_of_lt_of_le (h id o hl).1 hn, fun i hi => Nat.lt_of_lt_of_le ((h id o hl).2 i hi) hn⟩

/-- How the world may have turned: what is not among the given objects is as it was; what stands in the new memory is one of the given blocks, or new. -/
structure Grew (n : Nat) (θ : Th) (mem : Mem) (w : World) (θ' : Th) (mem' : Mem) (w' : World) : Prop where
  agree : Agree n θ θ'
  os : w'.os = w.os
  tape : w'.tape = w.tape
  output : w'.output = w.output
  size : w.heap.size ≤ w'.heap.size
  heap : ∀ b, b < w.heap.size → (∀ id o, look mem id = some o → (θ id).blk ≠ some b) → w'.heap[b]? = w.heap[b]?
  blks : ∀ id o b, look mem' id = some o → (θ' id).blk = some b → w.heap.size ≤ b ∨ ∃ id0 o0, look mem id0 = some o0 ∧ (θ id0).blk = some b
  eyes : ∀ id o b, look mem' id = some o → (θ' id).eye = some b → w.heap.size ≤ b ∨ ∃ id0 o0, look mem id0 = some o0 ∧ (θ id0).eye = some b

theorem Grew.refl (n : Nat) (θ : Th) (mem : Mem) (w : World) : Grew n θ mem w θ mem w :=
  ⟨Agree.refl _ _, rfl, rfl, rfl, Nat.le_refl _, fun _ _ _ => rfl, fun id o _ h hb => .inr ⟨id, o, h, hb⟩, fun id o _ h hb => .inr ⟨id, o, h, hb⟩⟩
theorem Grew.trans {n m : Nat} {θ₁ θ₂ θ₃ : Th} {m₁ m₂ m₃ : Mem} {w₁ w₂ w₃ : World} (h : Grew n θ₁ m₁ w₁ θ₂ m₂ w₂) (k : Grew m θ₂ m₂ w₂ θ₃ m₃ w₃) (hn : n ≤ m) :
    Grew n θ₁ m₁ w₁ θ₃ m₃ w₃ where
  agree := h.agree.trans k.agree hn
  os := k.os.trans h.os
  tape := k.tape.trans h.tape
  output := k.output.trans h.output
  size := Nat.le_trans h.size k.size
  heap b hb hno := by
    rw [k.heap b (Nat.lt_of_lt_of_le hb h.size) fun id o hl he => ?_, h.heap b hb hno]
    rcases h.blks id o b hl he with h1 | ⟨id0, o0, h1, h2⟩
    · omega
    · exact hno id0 o0 h1 h2
  blks id o b hl he := by
    rcases k.blks id o b hl he with h1 | ⟨id0, o0, h1, h2⟩
    · exact .inl (Nat.le_trans h.size h1)
    · exact h.blks id0 o0 b h1 h2
  eyes id o b hl he := by
    rcases k.eyes id o b hl he with h1 | ⟨id0, o0, h1, h2⟩
    · exact .inl (Nat.le_trans h.size h1)
    · exact h.eyes id0 o0 b h1 h2
theorem Grew.mono {n m : Nat} {θ θ' : Th} {mem mem' : Mem} {w w' : World} (h : Grew m θ mem w θ' mem' w') (hn : n ≤ m) : Grew n θ mem w θ' mem' w' :=
  { h with agree := h.agree.mono hn }
/-- Fewer objects are of interest afterwards. -/
theorem Grew.sub {n : Nat} {θ θ' : Th} {mem mem' mem'' : Mem} {w w' : World} (h : Grew n θ mem w θ' mem' w') (hs : ∀ id o, look mem'' id = some o → ∃ o', look mem' id = some o') : Grew n θ mem w θ' mem'' w' :=
  { h with blks := fun id o b hl he => by obtain ⟨o', h'⟩ := hs id o hl; exact h.blks id o' b h' he, eyes := fun id o b hl he => by obtain ⟨o', h'⟩ := hs id o hl; exact h.eyes id o' b h' he }
theorem objRel_lt {θ : Th} {w : World} {id : Nat} {o : Obj} {b : Nat} (h : objRel θ w id o) (hb : (θ id).eye = some b) : b < w.heap.size := by
  have key : ∀ x, w.heap[b]? = some x → b < w.heap.size := fun x hx => by
    rcases Nat.lt_or_ge b w.heap.size with h' | h'
    · exact h'
    · simp [h'] at hx
  cases o with
  | blk ty cells => obtain ⟨b', h1, h2⟩ := h; rw [h1] at hb; cases hb; exact key _ h2
  | row ro ty esz r =>
    cases ro
    · rcases h.2.2.1 with ⟨_, h1, _⟩ | ⟨b', _, h1, h2⟩
      · rw [h1] at hb; cases hb
      · rw [h1] at hb; cases hb
        exact (h.2.2.2.lt b (by rw [h2]; rfl)).2
    · rcases h.2.2.2.2 with ⟨_, h1, _⟩ | ⟨a, _, h1, h2, h3⟩
      · rw [h1] at hb; cases hb
      · rw [h1] at hb; cases hb
        cases hc : dens θ r.rows.flatten with
        | nil => exact absurd hc h2
        | cons u l =>
          have := World.block_lt_of_cell? w _ (h3 0 u (by rw [hc]; rfl))
          simpa [Addr.add] using this
  | crow ty esz len cs =>
    rcases h.2.2.1 with ⟨_, h1, _⟩ | ⟨b', _, h1, h2⟩
    · rw [h1] at hb; cases hb
    · rw [h1] at hb; cases hb
      exact (h.2.2.2.lt b (by rw [h2]; rfl)).2
  | clo caps => rw [show θ id = _ from h] at hb; cases hb
  | raw b0 rs t L k => rw [h.1] at hb; cases hb; exact key _ h.2

/-- THE STEP OF MEMORY: an effect that knows only the objects that it touched. -/
theorem memRel_after {n : Nat} {θ θ' : Th} {mem sub ups : Mem} {w w' : World} {touched : List Nat} (hwf : wfMem n mem) (hm : memRel θ mem w)
    (hsub : ∀ id o, look sub id = some o → look mem id = some o) (htouch : ∀ id o, look sub id = some o → id ∈ touched)
    (hg : Grew n θ sub w θ' ups w') (hu : memRel θ' ups w') :
    memRel θ' (ups ++ delAll mem (touched ++ domain ups)) w' ∧ Grew n θ mem w θ' (ups ++ delAll mem (touched ++ domain ups)) w' := by
  have hlook : ∀ id o, look (ups ++ delAll mem (touched ++ domain ups)) id = some o → look ups id = some o ∨ (look mem id = some o ∧ id ∉ touched ∧ look ups id = none) := by
    intro id o h
    rw [look_append] at h
    cases h1 : look ups id with
    | some x => rw [h1] at h; exact .inl h
    | none =>
      rw [h1] at h
      simp only [look_delAll] at h
      split at h
      · cases h
      · rename_i hno
        exact .inr ⟨h, fun ht => hno (by simp [ht]), rfl⟩
  -- what was not touched
  have old : ∀ id o b, look mem id = some o → id ∉ touched → (θ id).eye = some b → b < w.heap.size ∧ (∀ i x, look sub i = some x → (θ i).blk ≠ some b) := by
    intro id o b hl hn hb
    refine ⟨objRel_lt (hm.1 id o hl) hb, fun i x hi he => ?_⟩
    have hne : i ≠ id := fun e => hn (e ▸ htouch i x hi)
    exact hm.2 i id x o b (hsub i x hi) hl hne he hb
  have keep : ∀ id o, look mem id = some o → id ∉ touched → objRel θ' w' id o := by
    intro id o hl hn
    refine objRel_keep hg.agree (hwf id o hl).1 (hwf id o hl).2 (fun b hb => ?_) (hm.1 id o hl)
    obtain ⟨h1, h2⟩ := old id o b hl hn hb
    exact hg.heap b h1 h2
  have part : ∀ id id' o o' b, look ups id = some o → look mem id' = some o' → id' ∉ touched → (θ' id).blk = some b → (θ' id').eye ≠ some b := by
    intro id id' o o' b h1 h2 h3 h4 h5
    rw [hg.agree id' (hwf id' o' h2).1] at h5
    obtain ⟨h6, h7⟩ := old id' o' b h2 h3 h5
    rcases hg.blks id o b h1 h4 with h8 | ⟨i, x, h8, h9⟩
    · omega
    · exact h7 i x h8 h9
  have part' : ∀ id id' o o' b, look ups id = some o → look mem id' = some o' → id' ∉ touched → (θ' id').blk = some b → (θ' id).eye ≠ some b := by
    intro id id' o o' b h1 h2 h3 h4 h5
    rw [hg.agree id' (hwf id' o' h2).1] at h4
    have h6 := objRel_lt (hm.1 id' o' h2) (objRel_eye (hm.1 id' o' h2) h4)
    rcases hg.eyes id o b h1 h5 with h8 | ⟨i, x, h8, h9⟩
    · omega
    · exact hm.2 id' i o' x b h2 (hsub i x h8) (fun e => h3 (e ▸ htouch i x h8)) h4 h9
  refine ⟨⟨fun id o h => ?_, fun id id' o o' b h h' hne hb hb' => ?_⟩, ?_⟩
  · rcases hlook id o h with h | ⟨h, hn, _⟩
    · exact hu.1 id o h
    · exact keep id o h hn
  · rcases hlook id o h with h | ⟨h, hn, _⟩ <;> rcases hlook id' o' h' with h' | ⟨h', hn', _⟩
    · exact hu.2 id id' o o' b h h' hne hb hb'
    · exact part id id' o o' b h h' hn' hb hb'
    · exact part' id' id o' o b h' h hn hb hb'
    · rw [hg.agree id (hwf id o h).1] at hb
      rw [hg.agree id' (hwf id' o' h').1] at hb'
      exact hm.2 id id' o o' b h h' hne hb hb'
  · refine { hg with heap := fun b hb hno => hg.heap b hb fun id o hl => hno id o (hsub id o hl), blks := fun id o b hl he => ?_, eyes := fun id o b hl he => ?_ }
    · rcases hlook id o hl with h | ⟨h, hn, _⟩
      · rcases hg.blks id o b h he with h8 | ⟨i, x, h8, h9⟩
        · exact .inl h8
        · exact .inr ⟨i, x, hsub i x h8, h9⟩
      · rw [hg.agree id (hwf id o h).1] at he
        exact .inr ⟨id, o, h, he⟩
    · rcases hlook id o hl with h | ⟨h, hn, _⟩
      · rcases hg.eyes id o b h he with h8 | ⟨i, x, h8, h9⟩
        · exact .inl h8
        · exact .inr ⟨i, x, hsub i x h8, h9⟩
      · rw [hg.agree id (hwf id o h).1] at he
        exact .inr ⟨id, o, h, he⟩
/-! ### What is captured stands -/
theorem look_keepC {mem m : Mem} {i : Nat} {o : Obj} : ∀ {l : List Nat}, look (keepC mem l m) i = some o → look m i = some o ∨ (i ∈ l ∧ look mem i = some o ∧ ∃ caps, o = .clo caps)
  | [], h => .inl h
  | id :: r, h => by
    unfold keepC at h
    split at h
    · rename_i caps h1 h2
      rw [look_cons] at h
      cases hb : Nat.beq id i
      · rw [hb] at h
        rcases look_keepC h with g | ⟨g1, g2⟩
        · exact .inl g
        · exact .inr ⟨List.mem_cons_of_mem _ g1, g2⟩
      · rw [hb] at h
        have := Nat.eq_of_beq_eq_true hb
        subst this
        cases h
        exact .inr ⟨List.mem_cons_self, h1, caps, rfl⟩
    · rcases look_keepC h with g | ⟨g1, g2⟩
      · exact .inl g
      · exact .inr ⟨List.mem_cons_of_mem _ g1, g2⟩
theorem keepC_rel {n : Nat} {θ θ' : Th} {mem m : Mem} {l : List Nat} {w w' : World} (hwf : wfMem n mem) (hm : memRel θ (restrict mem l) w) (hg : Grew n θ (restrict mem l) w θ' m w') (hm' : memRel θ' m w') :
    Grew n θ (restrict mem l) w θ' (keepC mem l m) w' ∧ memRel θ' (keepC mem l m) w' := by
  have key : ∀ {i o}, look (keepC mem l m) i = some o → look m i = some o ∨ (objRel θ' w' i o ∧ (θ' i).blk = none ∧ (θ' i).eye = none) := fun {i o} h => by
    rcases look_keepC h with g | ⟨g1, g2, caps, rfl⟩
    · exact .inl g
    · right
      have h1 : θ i = Loc.clo (caps.map (SV.den θ)).toArray := hm.1 i (.clo caps) (by rw [look_restrict, if_pos g1, g2])
      have h2 := hg.agree i (hwf i _ g2).1
      have h3 : caps.map (SV.den θ') = caps.map (SV.den θ) := SVs_agree hg.agree fun j hj => (hwf i _ g2).2 j hj
      refine ⟨?_, by rw [h2, h1]; rfl, by rw [h2, h1]; rfl⟩
      show θ' i = Loc.clo (caps.map (SV.den θ')).toArray
      rw [h3, h2, h1]
  refine ⟨{ hg with blks := fun id o b h hb => ?_, eyes := fun id o b h hb => ?_ }, fun id o h => ?_, fun id id' o o' b h h' hne hb => ?_⟩
  · rcases key h with g | ⟨_, g, _⟩
    · exact hg.blks id o b g hb
    · rw [g] at hb; cases hb
  · rcases key h with g | ⟨_, _, g⟩
    · exact hg.eyes id o b g hb
    · rw [g] at hb; cases hb
  · rcases key h with g | ⟨g, _⟩
    · exact hm'.1 id o g
    · exact g
  · rcases key h with g | ⟨_, g, _⟩
    · rcases key h' with g' | ⟨_, _, g'⟩
      · exact hm'.2 id id' o o' b g g' hne hb
      · rw [g']; intro hh; cases hh
    · rw [g] at hb; cases hb
end Go.SX
