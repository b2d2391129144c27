/-
  ROWS: what an element of a row is, where its cells lie, and what a row is with one element changed. Conditions: none.
-/
import Derived.Test.YthgiaoidekdpfaaGreatSXOps2
import Derived.DataElems
set_option linter.all false
namespace Go.SX
open Go.RowKit

/-! ### Merging two values -/
theorem mergeI_val (c : Bool) (x y : SI) : (mergeI c x y).val = cond c x.val y.val := by
  cases x <;> cases y <;> try rfl
  rename_i a b
  simp only [mergeI]
  by_cases h : a = b
  · subst h; cases c <;> simp [SI.val]
  · simp [h, SI.val]
theorem mergeB_val (c : Bool) (x y : SB) : (mergeB c x y).val = cond c x.val y.val := by
  cases c <;> rcases x with a | a <;> rcases y with b | b <;> cases a <;> cases b <;> rfl
theorem mergeC_den (θ : Th) (c : Bool) {x y z : SC} (h : mergeC c x y = some z) : z.den θ = cond c (x.den θ) (y.den θ) ∧ ∀ id ∈ idsC z, id ∈ idsC x ∧ id ∈ idsC y := by
  cases x <;> cases y <;> simp only [mergeC, reduceCtorEq] at h
  · rename_i k x j y
    cases hk : kindEq k j
    · rw [hk] at h; cases h
    · rw [hk] at h; cases h
      have := kindEq_spec hk; subst this
      exact ⟨by simp only [SC.den, mergeI_val]; cases c <;> rfl, by simp [idsC]⟩
  · cases h
    exact ⟨by simp only [SC.den, mergeB_val]; cases c <;> rfl, by simp [idsC]⟩
  · rename_i i o j p
    cases hk : (Nat.beq i j && Nat.beq o p)
    · rw [hk] at h; cases h
    · rw [hk] at h; cases h
      simp only [Bool.and_eq_true] at hk
      have h1 := Nat.eq_of_beq_eq_true hk.1
      have h2 := Nat.eq_of_beq_eq_true hk.2
      subst h1; subst h2
      exact ⟨by cases c <;> rfl, fun _ h => ⟨h, h⟩⟩
  · rename_i i j
    cases hk : Nat.beq i j
    · rw [hk] at h; cases h
    · rw [hk] at h; cases h
      have h1 := Nat.eq_of_beq_eq_true hk
      subst h1
      exact ⟨by cases c <;> rfl, fun _ h => ⟨h, h⟩⟩
  · cases h; exact ⟨by cases c <;> rfl, fun _ h => ⟨h, h⟩⟩
  · cases h; exact ⟨by cases c <;> rfl, fun _ h => ⟨h, h⟩⟩
  · rename_i f j
    cases hk : Nat.beq f j
    · rw [hk] at h; cases h
    · rw [hk] at h; cases h
      have h1 := Nat.eq_of_beq_eq_true hk
      subst h1
      exact ⟨by cases c <;> rfl, fun _ h => ⟨h, h⟩⟩
theorem mergeCs_den (θ : Th) (c : Bool) : ∀ {x y z : List SC}, mergeCs c x y = some z → dens θ z = cond c (dens θ x) (dens θ y) ∧ z.length = x.length ∧ z.length = y.length ∧ ∀ id ∈ idsCs z, id ∈ idsCs x ∧ id ∈ idsCs y
  | [], [], z, h => by cases h; exact ⟨by cases c <;> rfl, rfl, rfl, fun _ h => ⟨h, h⟩⟩
  | [], _ :: _, _, h => by cases h
  | _ :: _, [], _, h => by cases h
  | x :: r, y :: s, z, h => by
    simp only [mergeCs] at h
    split at h
    · rename_i u t h1 h2
      cases h
      obtain ⟨h3, h4⟩ := mergeC_den θ c h1
      obtain ⟨h5, h6, h7, h8⟩ := mergeCs_den θ c h2
      refine ⟨?_, by simp [h6], by simp [h7], fun id hi => ?_⟩
      · simp only [dens, List.map_cons] at h5 ⊢
        rw [h3, h5]; cases c <;> rfl
      · simp only [idsCs_nil, idsCs_cons, List.mem_append] at hi ⊢
        rcases hi with hi | hi
        · exact ⟨.inl (h4 id hi).1, .inl (h4 id hi).2⟩
        · exact ⟨.inr (h8 id hi).1, .inr (h8 id hi).2⟩
    · cases h
theorem compDen_eq (θ : Th) (b : Bool) (cs : List SC) : compDen θ (b, cs) = (match b, dens θ cs with | false, [v] => v | _, l => .agg l.toArray) := by
  cases b
  · match cs with
    | [] => rfl
    | [c] => rfl
    | c :: d :: r => rfl
  · simp [compDen]
theorem mergeTup_den (θ : Th) (c : Bool) : ∀ {x y z : List (Bool × List SC)}, mergeTup c x y = some z → z.map (compDen θ) = cond c (x.map (compDen θ)) (y.map (compDen θ)) ∧ ∀ id ∈ idsTup z, id ∈ idsTup x ∧ id ∈ idsTup y
  | [], [], z, h => by cases h; exact ⟨by cases c <;> rfl, fun _ h => ⟨h, h⟩⟩
  | [], _ :: _, _, h => by cases h
  | _ :: _, [], _, h => by cases h
  | (p, x) :: r, (q, y) :: s, z, h => by
    simp only [mergeTup] at h
    cases hpq : (p == q)
    · rw [hpq] at h; cases h
    · rw [hpq] at h
      have := eq_of_beq hpq; subst this
      simp only [cond_true] at h
      split at h
      · rename_i u t h1 h2
        cases h
        obtain ⟨h3, _, _, h6⟩ := mergeCs_den θ c h1
        obtain ⟨h4, h5⟩ := mergeTup_den θ c h2
        refine ⟨?_, fun id hi => ?_⟩
        · simp only [List.map_cons, compDen_eq, h3, h4]
          cases c <;> rfl
        · simp only [idsTup, List.mem_append] at hi ⊢
          rcases hi with hi | hi
          · exact ⟨.inl (h6 id hi).1, .inl (h6 id hi).2⟩
          · exact ⟨.inr (h5 id hi).1, .inr (h5 id hi).2⟩
      · cases h
theorem mergeV_den (θ : Th) (c : Bool) {x y z : SV} (h : mergeV c x y = some z) : z.den θ = cond c (x.den θ) (y.den θ) ∧ ∀ id ∈ idsV z, id ∈ idsV x ∧ id ∈ idsV y := by
  cases x <;> cases y <;> simp only [mergeV, reduceCtorEq, Option.map_eq_some_iff] at h
  · obtain ⟨u, h1, rfl⟩ := h
    exact mergeC_den θ c h1
  · obtain ⟨u, h1, rfl⟩ := h
    obtain ⟨h2, _, _, h3⟩ := mergeCs_den θ c h1
    exact ⟨by simp only [SV.den, h2]; cases c <;> rfl, h3⟩
  · obtain ⟨u, h1, rfl⟩ := h
    obtain ⟨h2, h3⟩ := mergeTup_den θ c h1
    exact ⟨by simp only [SV.den, h2]; cases c <;> rfl, h3⟩


/-! ### Elements -/
theorem encC_ids {c : SC} {x : CK × Int} (h : encC c = some x) : idsC c = [] := by
  cases c <;> first | rfl | (simp [encC] at h)
theorem encCs_ids : ∀ {cs : List SC} {l : List (CK × Int)}, encCs cs = some l → idsCs cs = []
  | [], _, _ => rfl
  | c :: r, l, h => by
    simp only [encCs] at h
    split at h
    · rename_i x xs h1 h2
      simp [idsCs_nil, idsCs_cons, encC_ids h1, encCs_ids h2]
    · cases h
theorem encCs_length : ∀ {cs : List SC} {l : List (CK × Int)}, encCs cs = some l → l.length = cs.length
  | [], _, h => by cases h; rfl
  | c :: r, l, h => by
    simp only [encCs] at h
    split at h
    · rename_i x xs h1 h2
      cases h
      simp [encCs_length h2]
    · cases h
theorem decodeF_length : ∀ (ks : List CK) (xs : List Int) (j : Nat), (decodeF ks xs j).length = ks.length
  | [], _, _ => rfl
  | _ :: r, xs, j => by simp [decodeF, decodeF_length r]
theorem decodeF_ids : ∀ (ks : List CK) (xs : List Int) (j : Nat), idsCs (decodeF ks xs j) = []
  | [], _, _ => rfl
  | k :: r, xs, j => by cases k <;> simp [decodeF, idsCs_nil, idsCs_cons, decodeF_ids r, CK.cell, idsC]
theorem rowLen_val (r : RowC) : (rowLen r).val = r.rows.length := by
  cases r <;> simp [rowLen, RowC.rows, SN.val]
theorem chain_spec (i : Nat) : ∀ {rows : List (List SC)} {k : Nat} {t : List SC}, chain i rows k = some t → k ≤ i → i < k + rows.length →
    ∃ row, rows[i - k]? = some row ∧ t.length = row.length ∧ (∀ θ, dens θ t = dens θ row) ∧ ((∀ r ∈ rows, idsCs r = []) → idsCs t = [])
  | [], _, _, h, _, _ => by cases h
  | [r], k, t, h, h1, h2 => by
    simp only [chain, Option.some.injEq] at h
    subst h
    have : i - k = 0 := by simp at h2; omega
    exact ⟨r, by rw [this]; rfl, rfl, fun _ => rfl, fun h => h r (by simp)⟩
  | r :: s :: rest, k, t, h, h1, h2 => by
    simp only [chain] at h
    split at h
    · rename_i u hu
      have hm := fun θ => mergeCs_den θ _ h
      have hid : idsCs r = [] → idsCs t = [] := fun hr => List.eq_nil_iff_forall_not_mem.2 fun x hx => by
        have := ((hm Th.none).2.2.2 x hx).1
        rw [hr] at this; cases this
      by_cases hik : i = k
      · subst hik
        refine ⟨r, by simp, (hm Th.none).2.1, fun θ => by rw [(hm θ).1]; simp, fun hids => hid (hids r (by simp))⟩
      · obtain ⟨row, h3, h4, h5, h6⟩ := chain_spec i hu (by omega) (by simp at h2 ⊢; omega)
        refine ⟨row, ?_, by rw [(hm Th.none).2.2.1, h4], fun θ => ?_, fun hids => hid (hids r (by simp))⟩
        · rw [show i - k = (i - (k + 1)) + 1 from by omega]
          simpa using h3
        · rw [(hm θ).1, beq_ne hik]; exact h5 θ
    · cases h
theorem rowAt_spec {r : RowC} {i : SN} {cs : List SC} {q : List Prop} {esz : Nat} (h : rowAt r i = some (cs, q)) (hq : ∀ p ∈ q, p) (hok : rowOk esz r.rows) :
    ∃ row, r.rows[i.val]? = some row ∧ cs.length = row.length ∧ idsCs cs = [] ∧ ∀ θ, dens θ cs = dens θ row := by
  unfold rowAt at h
  split at h
  · rename_i tg rows k
    split at h
    · rename_i row hr
      cases h
      exact ⟨cs, hr, rfl, (hok.2 _ (List.mem_of_getElem? hr)).2, fun _ => rfl⟩
    · cases h
  · rename_i tg rows k
    split at h
    · rename_i t ht
      cases h
      have hlt : k < rows.length := hq _ (by simp)
      obtain ⟨row, h1, h2, h3, h4⟩ := chain_spec k ht (Nat.zero_le _) (by omega)
      exact ⟨row, h1, h2, h4 fun r hr => (hok.2 r hr).2, h3⟩
    · cases h
  · rename_i tag ks xs
    cases h
    have hlt : i.val < xs.length := hq _ (by simp)
    refine ⟨decode ks xs[i.val], ?_, ?_, decodeF_ids _ _ _, fun θ => ?_⟩
    · simp [RowC.rows, hlt]
    · simp [decode, decodeF_length]
    · rw [List.getD_eq_getElem?_getD, List.getElem?_eq_getElem hlt]; rfl
theorem flatten_get {α : Type} {esz : Nat} : ∀ {rows : List (List α)} {i : Nat} {row : List α} {k : Nat}, (∀ r ∈ rows, r.length = esz) → rows[i]? = some row → k < esz → rows.flatten[i * esz + k]? = row[k]?
  | [], _, _, _, _, h, _ => by simp at h
  | r :: rs, 0, row, k, hl, h, hk => by
    simp only [List.getElem?_cons_zero, Option.some.injEq] at h
    subst h
    have := hl r (by simp)
    simp only [List.flatten_cons, Nat.zero_mul, Nat.zero_add]
    rw [List.getElem?_append_left (by omega)]
  | r :: rs, i + 1, row, k, hl, h, hk => by
    have h1 := hl r (by simp)
    simp only [List.flatten_cons]
    rw [List.getElem?_append_right (by rw [h1, Nat.add_mul]; omega), h1, show (i + 1) * esz + k - esz = i * esz + k from by rw [Nat.add_mul]; omega]
    exact flatten_get (fun r hr => hl r (by simp [hr])) (by simpa using h) hk
theorem flatten_length {α : Type} {esz : Nat} : ∀ {rows : List (List α)}, (∀ r ∈ rows, r.length = esz) → rows.flatten.length = rows.length * esz
  | [], _ => by simp
  | r :: rs, h => by
    rw [List.flatten_cons, List.length_append, h r (by simp), flatten_length fun r hr => h r (by simp [hr]), List.length_cons, Nat.add_mul]
    omega

/-- Where a row's cells lie. -/
theorem row_at {θ : Th} {w : World} {id ty esz : Nat} {ro : Bool} {r : RowC} (h : objRel θ w id (.row ro ty esz r)) :
    rowOk esz r.rows ∧ (θ id).len = r.rows.length ∧ r.rows.length ≤ (θ id).cap ∧ (r.rows ≠ [] → ∃ a, (θ id).ad = some a ∧ ∀ (j : Nat) (u : Value), (dens θ r.rows.flatten)[j]? = some u → w.cell? (a.add j) = some u) := by
  cases ro
  · obtain ⟨h0, h1, h2, h3⟩ := h
    refine ⟨h0, h1, ?_, fun hne => ?_⟩
    · rcases h3.2 with ⟨_, hn⟩ | ⟨g, cap, cur, hv, _, _, h4, _⟩
      · omega
      · injection hv with _ _ hc
        omega
    · rcases h2 with ⟨_, _, h4, _⟩ | ⟨b, _, _, h4⟩
      · exfalso
        rcases h3.2 with ⟨_, hn⟩ | ⟨g, cap, cur, hv, _⟩
        · exact hne (List.eq_nil_of_length_eq_zero hn)
        · rw [h4] at hv; injection hv with hv; cases hv
      · exact ⟨⟨b, 0, none⟩, h4, h3.cells (by rw [h4]; rfl)⟩
  · obtain ⟨h0, _, h1, h2, h3⟩ := h
    refine ⟨h0, h1, h2, fun hne => ?_⟩
    rcases h3 with ⟨_, _, hn⟩ | ⟨a, h4, _, _, h5⟩
    · exact absurd (List.eq_nil_of_length_eq_zero hn) hne
    · exact ⟨a, h4, h5⟩
theorem elem_at {θ : Th} {w : World} {id ty esz : Nat} {ro : Bool} {r : RowC} (h : objRel θ w id (.row ro ty esz r)) {i off : Nat} {row : List SC} (hi : r.rows[i]? = some row) :
    ∃ a, (θ id).ad = some a ∧ ∀ (j : Nat) (u : Value), ((dens θ row).drop off)[j]? = some u → w.cell? (a.add (i * esz + off + j)) = some u := by
  obtain ⟨h0, _, _, h3⟩ := row_at h
  obtain ⟨a, h4, h5⟩ := h3 (fun e => by rw [e] at hi; simp at hi)
  refine ⟨a, h4, fun j u hu => h5 _ u ?_⟩
  rw [List.getElem?_drop] at hu
  have hlen := (h0.2 row (List.mem_of_getElem? hi)).1
  have hk : off + j < esz := by
    have := (List.getElem?_eq_some_iff.1 hu).1
    simp only [dens, List.length_map] at this
    omega
  have := flatten_get (fun r hr => (h0.2 r hr).1) hi hk
  simp only [dens, List.getElem?_map, Nat.add_assoc] at hu ⊢
  rw [this]
  exact hu

/-! ### Lists of integers -/
theorem decodeF_get : ∀ (ks : List CK) (L : List Int) (j i : Nat), (decodeF ks L j)[i]? = (ks[i]?).map fun k => k.cell (L.getD (j + i) 0)
  | [], _, _, _ => by simp [decodeF]
  | k :: r, L, j, 0 => by simp [decodeF]
  | k :: r, L, j, i + 1 => by
    simp only [decodeF, List.getElem?_cons_succ]
    rw [decodeF_get r L (j + 1) i, show j + 1 + i = j + (i + 1) from by omega]
theorem encC_den {c : SC} {k j : CK} {x : Int} (h : encC c = some (j, x)) (hk : ckEq k j = true) (θ : Th) : (k.cell x).den θ = c.den θ := by
  cases c <;> simp only [encC, reduceCtorEq, Option.some.injEq, Prod.mk.injEq] at h
  · obtain ⟨rfl, rfl⟩ := h
    cases k <;> simp only [ckEq, Bool.false_eq_true] at hk
    rw [kindEq_spec hk]; rfl
  · rename_i b
    cases b with
    | c b =>
      simp only [Option.some.injEq, Prod.mk.injEq] at h
      obtain ⟨rfl, rfl⟩ := h
      cases k <;> simp only [ckEq, Bool.false_eq_true] at hk
      cases b <;> rfl
    | v b =>
      simp only [Option.some.injEq, Prod.mk.injEq] at h
      obtain ⟨rfl, rfl⟩ := h
      cases k <;> simp only [ckEq, Bool.false_eq_true] at hk
      cases b <;> rfl
theorem fit_den : ∀ {ks : List CK} {cs : List SC} {l : List (CK × Int)} {xs L : List Int} {j : Nat}, encCs cs = some l → fitK ks l = some xs → (∀ i, L.getD (j + i) 0 = xs.getD i 0) →
    ks.length = cs.length ∧ xs.length = cs.length ∧ ∀ θ, dens θ (decodeF ks L j) = dens θ cs
  | [], cs, l, xs, L, j, h, hf, _ => by
    cases l with
    | nil =>
      cases cs with
      | nil => simp only [fitK, Option.some.injEq] at hf; subst hf; exact ⟨rfl, rfl, fun _ => rfl⟩
      | cons c r =>
        simp only [encCs] at h
        split at h <;> cases h
    | cons _ _ => cases hf
  | k :: ks, cs, l, xs, L, j, h, hf, hL => by
    cases l with
    | nil => cases hf
    | cons p l =>
      obtain ⟨kj, x⟩ := p
      simp only [fitK] at hf
      cases hk : ckEq k kj
      · rw [hk] at hf; cases hf
      rw [hk] at hf
      simp only [cond_true, Option.map_eq_some_iff] at hf
      obtain ⟨ys, h1, rfl⟩ := hf
      cases cs with
      | nil => simp [encCs] at h
      | cons c r =>
        simp only [encCs] at h
        split at h
        · rename_i y yl h2 h3
          simp only [Option.some.injEq, List.cons.injEq] at h
          obtain ⟨rfl, rfl⟩ := h
          obtain ⟨h4, h5, h6⟩ := fit_den (L := L) (j := j + 1) h3 h1 fun i => by
            have := hL (i + 1)
            rw [show j + (i + 1) = j + 1 + i from by omega] at this
            simpa using this
          refine ⟨by simp [h4], by simp [h5], fun θ => ?_⟩
          simp only [decodeF, dens, List.map_cons, List.cons.injEq]
          refine ⟨?_, h6 θ⟩
          have := hL 0
          simp only [Nat.add_zero, List.getD_cons_zero] at this
          rw [this]
          exact encC_den h2 hk θ
        · cases h
theorem fit_dec {ks : List CK} {cs : List SC} {xs : List Int} (h : (encCs cs).bind (fitK ks) = some xs) : ks.length = cs.length ∧ xs.length = cs.length ∧ ∀ θ, dens θ (decode ks xs) = dens θ cs := by
  simp only [Option.bind_eq_some_iff] at h
  obtain ⟨l, h1, h2⟩ := h
  exact fit_den h1 h2 fun i => by simp
theorem ckEq_spec {a b : CK} (h : ckEq a b = true) : a = b := by
  cases a <;> cases b <;> simp only [ckEq, Bool.false_eq_true] at h
  · rw [kindEq_spec h]
  · rfl
theorem cksEq_spec : ∀ {a b : List CK}, cksEq a b = true → a = b
  | [], [], _ => rfl
  | [], _ :: _, h => by cases h
  | _ :: _, [], h => by cases h
  | a :: r, b :: s, h => by
    simp only [cksEq, Bool.and_eq_true] at h
    rw [ckEq_spec h.1, cksEq_spec h.2]
theorem dens_flatten (θ : Th) (rows : List (List SC)) : dens θ rows.flatten = (rows.map (dens θ)).flatten := by
  induction rows with
  | nil => rfl
  | cons r rs ih => simp only [List.flatten_cons, List.map_cons, ← ih, dens, List.map_append]
theorem encRows_spec {ks : List CK} {esz : Nat} : ∀ {rows : List (List SC)} {xs : List (List Int)}, encRows ks rows = some xs → (∀ r ∈ rows, r.length = esz) →
    xs.length = rows.length ∧ (∀ r ∈ xs.map (decode ks), r.length = esz ∧ idsCs r = []) ∧ ∀ θ, (xs.map (decode ks)).map (dens θ) = rows.map (dens θ)
  | [], xs, h, _ => by cases h; exact ⟨rfl, by simp, fun _ => rfl⟩
  | r :: rs, xs, h, hl => by
    simp only [encRows] at h
    split at h
    · rename_i x ys h1 h2
      cases h
      obtain ⟨h3, h4, h5⟩ := fit_dec h1
      obtain ⟨h6, h7, h8⟩ := encRows_spec h2 fun r hr => hl r (by simp [hr])
      refine ⟨by simp [h6], fun q hq => ?_, fun θ => ?_⟩
      · simp only [List.map_cons, List.mem_cons] at hq
        rcases hq with rfl | hq
        · exact ⟨by rw [decode, decodeF_length, h3]; exact hl _ (by simp), decodeF_ids _ _ _⟩
        · exact h7 q hq
      · simp only [List.map_cons, List.cons.injEq]
        exact ⟨h5 θ, h8 θ⟩
    · cases h
/-- Row behind row. -/
theorem joinRows_spec {n esz : Nat} {r1 r2 r : RowC} (h : joinRows n r1 r2 = some r) (h1 : rowOk esz r1.rows) (h2 : rowOk esz r2.rows) :
    rowOk esz r.rows ∧ r.rows.length = r1.rows.length + r2.rows.length ∧ ∀ θ, r.rows.map (dens θ) = r1.rows.map (dens θ) ++ r2.rows.map (dens θ) := by
  have both : ∀ {a b c : List (List SC)}, rowOk esz a → (∀ r ∈ b, r.length = esz ∧ idsCs r = []) → c = a ++ b → rowOk esz c := fun ha hb hc => ⟨ha.1, fun r hr => by
    rw [hc, List.mem_append] at hr
    exact hr.elim (ha.2 r) (hb r)⟩
  cases r1 <;> cases r2 <;> simp only [joinRows, Option.some.injEq, Option.map_eq_some_iff] at h
  · subst h
    exact ⟨both h1 h2.2 (by simp [RowC.rows]), by simp [RowC.rows], fun θ => by simp [RowC.rows]⟩
  · obtain ⟨xs, h3, rfl⟩ := h
    obtain ⟨h4, h5, h6⟩ := encRows_spec h3 fun r hr => (h1.2 r hr).1
    refine ⟨⟨h1.1, fun r hr => ?_⟩, by simp [RowC.rows, h4], fun θ => ?_⟩
    · simp only [RowC.rows, List.map_append, List.mem_append] at hr
      exact hr.elim (h5 r) (h2.2 r)
    · have := h6 θ
      simp only [RowC.rows, List.map_append] at this ⊢
      rw [this]
  · obtain ⟨xs, h3, rfl⟩ := h
    obtain ⟨h4, h5, h6⟩ := encRows_spec h3 fun r hr => (h2.2 r hr).1
    refine ⟨⟨h1.1, fun r hr => ?_⟩, by simp [RowC.rows, h4], fun θ => ?_⟩
    · simp only [RowC.rows, List.map_append, List.mem_append] at hr
      exact hr.elim (h1.2 r) (h5 r)
    · have := h6 θ
      simp only [RowC.rows, List.map_append] at this ⊢
      rw [this]
  · rename_i t1 ks xs t2 js ys
    cases hk : cksEq ks js
    · rw [hk] at h; cases h
    rw [hk] at h
    have := cksEq_spec hk; subst this
    cases h
    exact ⟨both h1 h2.2 (by simp [RowC.rows]), by simp [RowC.rows], fun θ => by simp [RowC.rows]⟩
/-- A part of a row. -/
theorem partRow_spec {t : Nat} {r r' : RowC} {o m : SN} (h : partRow t r o m = some r') : r'.rows = (r.rows.drop o.val).take m.val := by
  unfold partRow at h
  split at h
  · cases h; simp [RowC.rows, SN.val, List.map_take, List.map_drop]
  · cases h
  · cases h; simp [RowC.rows, List.map_take, List.map_drop]
theorem flatten_part {α : Type} {esz : Nat} {rows : List (List α)} (h : ∀ r ∈ rows, r.length = esz) (o m : Nat) : ((rows.drop o).take m).flatten = (rows.flatten.drop (o * esz)).take (m * esz) := by
  have hd : ∀ {rows : List (List α)} (o : Nat), (∀ r ∈ rows, r.length = esz) → (rows.drop o).flatten = rows.flatten.drop (o * esz) := by
    intro rows
    induction rows with
    | nil => intro o _; simp
    | cons r rs ih =>
      intro o h
      cases o with
      | zero => simp
      | succ o =>
        have := h r (by simp)
        have e1 : r.drop ((o + 1) * esz) = [] := List.drop_eq_nil_of_le (by rw [this, Nat.add_mul]; omega)
        have e2 : (o + 1) * esz - esz = o * esz := by rw [Nat.add_mul]; omega
        rw [List.drop_succ_cons, ih o fun r hr => h r (by simp [hr]), List.flatten_cons, List.drop_append, this, e1, e2, List.nil_append]
  have ht : ∀ {rows : List (List α)} (m : Nat), (∀ r ∈ rows, r.length = esz) → (rows.take m).flatten = rows.flatten.take (m * esz) := by
    intro rows
    induction rows with
    | nil => intro m _; simp
    | cons r rs ih =>
      intro m h
      cases m with
      | zero => simp
      | succ m =>
        have := h r (by simp)
        have e1 : r.take ((m + 1) * esz) = r := List.take_of_length_le (by rw [this, Nat.add_mul]; omega)
        have e2 : (m + 1) * esz - esz = m * esz := by rw [Nat.add_mul]; omega
        rw [List.take_succ_cons, List.flatten_cons, ih m fun r hr => h r (by simp [hr]), List.flatten_cons, List.take_append, this, e1, e2]
  rw [ht m fun r hr => h r (List.mem_of_mem_drop hr), hd o h]
/-- A row with one element changed. -/
theorem flatten_set {α : Type} {esz : Nat} : ∀ {rows : List (List α)} {i : Nat} {row row' : List α}, (∀ r ∈ rows, r.length = esz) → rows[i]? = some row → row'.length = esz →
    (rows.set i row').flatten = rows.flatten.take (i * esz) ++ row' ++ rows.flatten.drop (i * esz + esz)
  | [], _, _, _, _, h, _ => by simp at h
  | r :: rs, 0, row, row', hl, h, h' => by
    have := hl r (by simp)
    simp only [List.set_cons_zero, List.flatten_cons, Nat.zero_mul, List.take_zero, List.nil_append, Nat.zero_add]
    rw [List.drop_append, this, List.drop_eq_nil_of_le (by omega)]
    simp
  | r :: rs, i + 1, row, row', hl, h, h' => by
    have h1 := hl r (by simp)
    simp only [List.set_cons_succ, List.flatten_cons]
    have e1 : r.take ((i + 1) * esz) = r := List.take_of_length_le (by rw [h1, Nat.add_mul]; omega)
    have e2 : r.drop ((i + 1) * esz + esz) = [] := List.drop_eq_nil_of_le (by rw [h1, Nat.add_mul]; omega)
    have e3 : (i + 1) * esz - esz = i * esz := by rw [Nat.add_mul]; omega
    have e4 : (i + 1) * esz + esz - esz = i * esz + esz := by rw [Nat.add_mul]; omega
    rw [flatten_set (esz := esz) (fun r hr => hl r (by simp [hr])) (by simpa using h) h', List.take_append, List.drop_append, h1, e1, e2, e3, e4]
    simp
theorem overF_get (off : Nat) (ys row : List Int) : ∀ (m j i : Nat), i < m → (overF m j off ys row).getD i 0 = if off ≤ j + i ∧ j + i < off + ys.length then ys.getD (j + i - off) 0 else row.getD (j + i) 0
  | 0, _, _, h => by omega
  | m + 1, j, 0, _ => by
    simp only [overF, List.getD_cons_zero, Nat.add_zero]
    by_cases h : off ≤ j ∧ j < off + ys.length
    · rw [if_pos h]
      have : (Nat.ble off j && Nat.blt j (off + ys.length)) = true := by
        simp only [Bool.and_eq_true, Nat.blt_eq]
        exact ⟨Nat.ble_eq_true_of_le h.1, h.2⟩
      rw [this]; rfl
    · rw [if_neg h]
      have : (Nat.ble off j && Nat.blt j (off + ys.length)) = false := by
        rw [Bool.eq_false_iff]
        intro h'
        simp only [Bool.and_eq_true, Nat.blt_eq] at h'
        exact h ⟨Nat.le_of_ble_eq_true h'.1, h'.2⟩
      rw [this]; rfl
  | m + 1, j, i + 1, h => by
    simp only [overF, List.getD_cons_succ]
    rw [overF_get off ys row m (j + 1) i (by omega), show j + 1 + i = j + (i + 1) from by omega]
theorem storeR_spec {n esz off : Nat} {i : SN} {vs : List SC} {r r' : RowC} {q : List Prop} (h : storeR n esz i off vs r = some (r', q)) (hq : ∀ p ∈ q, p) (hok : rowOk esz r.rows) :
    ∃ row row', r.rows[i.val]? = some row ∧ off + vs.length ≤ esz ∧ r'.rows = r.rows.set i.val row' ∧ row'.length = esz ∧ idsCs row' = [] ∧ ∀ θ, dens θ row' = (dens θ row).take off ++ dens θ vs ++ (dens θ row).drop (off + vs.length) := by
  unfold storeR at h
  split at h
  · rename_i tg rows
    split at h
    case h_2 => cases h
    rename_i k
    split at h
    case h_2 => cases h
    rename_i row hr
    cases hc : (Nat.ble (off + vs.length) row.length && (encCs vs).isSome)
    · rw [hc] at h; cases h
    rw [hc] at h; cases h
    simp only [Bool.and_eq_true] at hc
    have hfit := Nat.le_of_ble_eq_true hc.1
    have hids : idsCs vs = [] := by
      obtain ⟨l, hl⟩ := Option.isSome_iff_exists.1 hc.2
      exact encCs_ids hl
    obtain ⟨h1, h2⟩ := hok.2 _ (List.mem_of_getElem? hr)
    have hnew : paste row off vs = row.take off ++ vs ++ row.drop (off + vs.length) := paste_eq _ _ _ hfit
    refine ⟨row, paste row off vs, hr, by omega, rfl, ?_, ?_, fun θ => ?_⟩
    · rw [paste_length, h1]
    · rw [hnew, idsCs_append, idsCs_append, hids]
      have hsub : ∀ l : List SC, idsCs l = [] → ∀ k, idsCs (l.take k) = [] ∧ idsCs (l.drop k) = [] := by
        intro l
        induction l with
        | nil => intro _ k; simp [idsCs_nil]
        | cons c r ih =>
          intro hl k
          simp only [idsCs_cons, List.append_eq_nil_iff] at hl
          cases k with
          | zero => simp [idsCs_nil, idsCs_cons, hl]
          | succ k => simp [idsCs_cons, hl.1, ih hl.2 k]
      rw [(hsub _ h2 off).1, (hsub _ h2 _).2]; rfl
    · rw [hnew]; simp [dens, List.map_take, List.map_drop]
  · rename_i tag ks xs
    split at h
    case h_2 => cases h
    rename_i ys hy
    cases hc : (Nat.beq ks.length esz && Nat.ble (off + vs.length) esz)
    · rw [hc] at h; cases h
    rw [hc] at h; cases h
    simp only [Bool.and_eq_true] at hc
    have hks := Nat.eq_of_beq_eq_true hc.1
    have hfit := Nat.le_of_ble_eq_true hc.2
    have hlt : i.val < xs.length := hq _ (by simp)
    obtain ⟨h3, h4, h5⟩ := fit_dec hy
    refine ⟨decode ks xs[i.val], decode ks (overF esz 0 off ys (xs.getD i.val [])), by simp [RowC.rows, hlt], hfit, by simp [RowC.rows, List.map_set], by rw [decode, decodeF_length, hks], decodeF_ids _ _ _, fun θ => ?_⟩
    rw [← h5 θ, List.getD_eq_getElem?_getD, List.getElem?_eq_getElem hlt, Option.getD_some]
    have hlen : (dens θ (decode ks xs[i.val])).length = esz := by rw [dens, List.length_map, decode, decodeF_length, hks]
    have hvl : (dens θ (decode (cut ks off vs.length) ys)).length = vs.length := by rw [h5 θ]; simp [dens]
    apply List.ext_getElem?
    intro j
    have hget : ∀ (ks : List CK) (L : List Int) (j : Nat), (dens θ (decode ks L))[j]? = (ks[j]?).map fun k => (k.cell (L.getD j 0)).den θ := by
      intro ks L j
      simp only [dens, decode, List.getElem?_map, decodeF_get, Nat.zero_add, Option.map_map]
      rfl
    by_cases hj : j < esz
    · rw [hget, overF_get off ys _ esz 0 j hj]
      simp only [Nat.zero_add]
      have hkj : j < ks.length := by omega
      rw [List.getElem?_eq_getElem hkj]
      by_cases h6 : j < off
      · rw [List.append_assoc, List.getElem?_append_left (by simp [hlen]; omega), List.getElem?_take, if_pos h6, hget, if_neg (by omega), List.getElem?_eq_getElem hkj]
      · by_cases h7 : j < off + vs.length
        · rw [List.append_assoc, List.getElem?_append_right (by simp; omega), List.getElem?_append_left (by simp [hvl, hlen]; omega), hget, if_pos (by omega), cut_eq]
          have e1 : j - (List.take off (dens θ (decode ks xs[i.val]))).length = j - off := by simp [hlen]; omega
          rw [e1, List.getElem?_take, if_pos (by omega), List.getElem?_drop, show off + (j - off) = j from by omega, List.getElem?_eq_getElem hkj]
        · rw [List.getElem?_append_right (by simp [hvl, hlen]; omega), List.getElem?_drop, if_neg (by omega)]
          have e1 : off + vs.length + (j - (List.take off (dens θ (decode ks xs[i.val])) ++ dens θ (decode (cut ks off vs.length) ys)).length) = j := by
            simp only [List.length_append, List.length_take, hlen, hvl]; omega
          rw [e1, hget, List.getElem?_eq_getElem hkj]
    · rw [List.getElem?_eq_none (by rw [dens, List.length_map, decode, decodeF_length]; omega), List.getElem?_eq_none (by simp only [List.length_append, List.length_take, List.length_drop, hlen, hvl]; omega)]
end Go.SX
