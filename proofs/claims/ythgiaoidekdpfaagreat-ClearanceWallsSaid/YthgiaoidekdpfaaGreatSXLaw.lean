/-
  FROM A RUN TO A LAW'S STATEMENT: what the arguments are read as gives the pattern's values and rows; behind the call they read as before. Conditions: none.
-/
import Derived.Test.YthgiaoidekdpfaaGreatSXTpl
import Derived.ProofKit
import Derived.Carry
import Derived.ChangeOld
import Derived.ChangeArms
import Derived.DataElems
set_option linter.all false
namespace Go.SX
open Go.RowKit Go.WideElems Go.ChangeShapes

/-! ### Types of integers and truth values -/
noncomputable def flatFs (P : Program) (rec' : TypeId → Option (List CK)) : List Field → Nat → Option (List CK)
  | [], _ => some []
  | f :: r, o => match rec' f.type with
    | some ks => bif Nat.beq f.offset o && Nat.beq ks.length (P.cellsOf f.type) then (flatFs P rec' r (o + ks.length)).map (ks ++ ·) else none
    | none => none
noncomputable def flatK (P : Program) : Nat → TypeId → Option (List CK)
  | 0, _ => none
  | d + 1, t => match P.underlying t with
    | some .bool => some [.bool]
    | some (.int k) => some [.int k]
    | some (.struct fs) => match flatFs P (flatK P d) fs.toList 0 with
      | some ks => bif Nat.beq ks.length (P.cellsOf t) then some ks else none
      | none => none
    | _ => none
noncomputable def okV : CK → Value → Prop
  | .int k, v => ∃ n, v = .int k n
  | .bool, v => ∃ b, v = .bool b
noncomputable def okL : List CK → List Value → Prop
  | [], [] => True
  | k :: ks, v :: vs => okV k v ∧ okL ks vs
  | _, _ => False
theorem okL_length : ∀ {ks : List CK} {vs : List Value}, okL ks vs → vs.length = ks.length
  | [], [], _ => rfl
  | [], _ :: _, h => h.elim
  | _ :: _, [], h => h.elim
  | _ :: _, _ :: _, h => by simp [okL_length h.2]
theorem okL_append : ∀ {ks js : List CK} {vs ws : List Value}, okL ks vs → okL js ws → okL (ks ++ js) (vs ++ ws)
  | [], _, [], _, _, h => h
  | [], _, _ :: _, _, h, _ => h.elim
  | _ :: _, _, [], _, h, _ => h.elim
  | _ :: _, _, _ :: _, _, h, k => ⟨h.1, okL_append h.2 k⟩
section
variable {H : Type} {enc : TypeId × Value → H} {P : Program} {w : World} {base : Nat} {spare : Nat → Bool} {held : Bool}
theorem take_split (l : List Value) (o a b : Nat) : (l.drop o).take (a + b) = (l.drop o).take a ++ (l.drop (o + a)).take b := by
  rw [List.take_add, List.drop_drop]
theorem flatFs_ok {rec' : TypeId → Option (List CK)} {n : Nat} {cs : List Value} (hrec : ∀ t ks ds x, rec' t = some ks → DataW.trod enc P w base spare held n t ds = some x → okL ks ds) :
    ∀ {fs : List Field} {o : Nat} {ks : List CK}, flatFs P rec' fs o = some ks → (∀ f ∈ fs, ∃ x, DataW.trod enc P w base spare held n f.type ((cs.drop f.offset).take (P.cellsOf f.type)) = some x) → okL ks ((cs.drop o).take ks.length)
  | [], o, ks, h, _ => by cases h; simp [okL]
  | f :: r, o, ks, h, hx => by
    simp only [flatFs] at h
    split at h
    · rename_i k1 h1
      cases hb : (Nat.beq f.offset o && Nat.beq k1.length (P.cellsOf f.type))
      · rw [hb] at h; cases h
      rw [hb] at h
      simp only [Bool.and_eq_true] at hb
      have e1 := Nat.eq_of_beq_eq_true hb.1
      have e2 := Nat.eq_of_beq_eq_true hb.2
      simp only [cond_true, Option.map_eq_some_iff] at h
      obtain ⟨k2, h2, rfl⟩ := h
      obtain ⟨x, hx1⟩ := hx f (by simp)
      have q1 := hrec _ _ _ _ h1 hx1
      rw [e1, ← e2] at q1
      have q2 := flatFs_ok hrec h2 (fun g hg => hx g (by simp [hg]))
      rw [List.length_append, take_split]
      exact okL_append q1 q2
    · cases h
theorem flat_ok : ∀ {d : Nat} {t : TypeId} {ks : List CK}, flatK P d t = some ks → ∀ {n : Nat} {cs : List Value} {x : DataW H × List MemPlace}, DataW.trod enc P w base spare held n t cs = some x → okL ks cs
  | 0, _, _, h, _, _, _, _ => by cases h
  | d + 1, t, ks, h, n, cs, x, hx => by
    simp only [flatK] at h
    split at h
    · rename_i hu
      cases h
      obtain ⟨b, rfl, _⟩ := DataW.trod_bool hu hx
      exact ⟨⟨b, rfl⟩, trivial⟩
    · rename_i k hu
      cases h
      obtain ⟨b, rfl, _⟩ := DataW.trod_int hu hx
      exact ⟨⟨b, rfl⟩, trivial⟩
    · rename_i fs hu
      split at h
      · rename_i js hj
        cases hb : Nat.beq js.length (P.cellsOf t)
        · rw [hb] at h; cases h
        rw [hb] at h
        cases h
        have e := Nat.eq_of_beq_eq_true hb
        obtain ⟨xs, m, rfl, _, hlen, hxl, hf⟩ := DataW.trod_struct hu hx
        have := flatFs_ok (P := P) (enc := enc) (w := w) (base := base) (spare := spare) (held := held) (n := m) (cs := cs) (fun t ks ds x h1 h2 => flat_ok h1 h2) hj (fun f hfm => by
          obtain ⟨i, hi⟩ := List.getElem?_of_mem hfm
          have hi' : fs[i]? = some f := by simpa using hi
          have hlt : i < xs.length := by
            rw [hxl]
            exact (Array.getElem?_eq_some_iff.1 hi').1
          exact ⟨xs[i], by rw [hf i f hi', List.getElem?_eq_getElem hlt]⟩)
        simp only [List.drop_zero] at this
        rwa [List.take_of_length_le (by omega)] at this
      · cases h
    · cases h
end

/-! ### Values of such types -/
noncomputable def pcOf : CK → PC
  | .int k => .int k
  | .bool => .bool
/-- The kinds of what is open. -/
noncomputable def PmOk : List CK → List Pm → Prop
  | [], [] => True
  | .int _ :: ks, .i _ :: ps => PmOk ks ps
  | .bool :: ks, .b _ :: ps => PmOk ks ps
  | _, _ => False
theorem PmOk.append : ∀ {ks js : List CK} {ps qs : List Pm}, PmOk ks ps → PmOk js qs → PmOk (ks ++ js) (ps ++ qs)
  | [], _, [], _, _, h => h
  | [], _, _ :: _, _, h, _ => h.elim
  | .int _ :: ks, js, .i _ :: ps, qs, h, k => PmOk.append (ks := ks) (js := js) (ps := ps) (qs := qs) h k
  | .bool :: ks, js, .b _ :: ps, qs, h, k => PmOk.append (ks := ks) (js := js) (ps := ps) (qs := qs) h k
  | .int _ :: _, _, [], _, h, _ => h.elim
  | .bool :: _, _, [], _, h, _ => h.elim
  | .int _ :: _, _, .b _ :: _, _, h, _ => h.elim
  | .bool :: _, _, .i _ :: _, _, h, _ => h.elim
theorem pm_nil {ps : List Pm} (h : PmOk [] ps) : ps = [] := by cases ps with | nil => rfl | cons => exact h.elim
theorem pm_i {k : IntKind} {ks : List CK} {ps : List Pm} (h : PmOk (.int k :: ks) ps) : ∃ n q, ps = .i n :: q ∧ PmOk ks q := by
  cases ps with
  | nil => exact h.elim
  | cons p q => cases p with
    | i n => exact ⟨n, q, rfl, h⟩
    | b x => exact h.elim
theorem pm_b {ks : List CK} {ps : List Pm} (h : PmOk (.bool :: ks) ps) : ∃ n q, ps = .b n :: q ∧ PmOk ks q := by
  cases ps with
  | nil => exact h.elim
  | cons p q => cases p with
    | b n => exact ⟨n, q, rfl, h⟩
    | i x => exact h.elim
theorem okL_pm : ∀ {ks : List CK} {vs : List Value}, okL ks vs → ∃ ps, PmOk ks ps ∧ ∀ rest, ∃ xs, mkCs (ks.map pcOf) (ps ++ rest) = (xs, rest) ∧ (∀ θ, dens θ xs = vs) ∧ idsCs xs = []
  | [], [], _ => ⟨[], trivial, fun rest => ⟨[], rfl, fun _ => rfl, rfl⟩⟩
  | [], _ :: _, h => h.elim
  | _ :: _, [], h => h.elim
  | .int k :: ks, v :: vs, h => by
    obtain ⟨⟨n, rfl⟩, h2⟩ := h
    obtain ⟨ps, h3, h4⟩ := okL_pm h2
    refine ⟨.i n :: ps, h3, fun rest => ?_⟩
    obtain ⟨xs, h5, h6, h7⟩ := h4 rest
    refine ⟨.int k (.v n) :: xs, ?_, fun θ => ?_, by rw [idsCs_cons, h7]; rfl⟩
    · simp only [List.map_cons, pcOf, mkCs, List.cons_append, PC.mk, h5]
    · have := h6 θ
      simp only [dens, List.map_cons] at this ⊢
      rw [this]; rfl
  | .bool :: ks, v :: vs, h => by
    obtain ⟨⟨n, rfl⟩, h2⟩ := h
    obtain ⟨ps, h3, h4⟩ := okL_pm h2
    refine ⟨.b n :: ps, h3, fun rest => ?_⟩
    obtain ⟨xs, h5, h6, h7⟩ := h4 rest
    refine ⟨.bool (.v n) :: xs, ?_, fun θ => ?_, by rw [idsCs_cons, h7]; rfl⟩
    · simp only [List.map_cons, pcOf, mkCs, List.cons_append, PC.mk, h5]
    · have := h6 θ
      simp only [dens, List.map_cons] at this ⊢
      rw [this]; rfl
/-- As integers. -/
theorem okL_ints : ∀ {ks : List CK} {vs : List Value}, okL ks vs → ∃ xs : List Int, xs.length = ks.length ∧ ∀ (pre : List Int) θ, dens θ (decodeF ks (pre ++ xs) pre.length) = vs
  | [], [], _ => ⟨[], rfl, fun _ _ => rfl⟩
  | [], _ :: _, h => h.elim
  | _ :: _, [], h => h.elim
  | .int k :: ks, v :: vs, h => by
    obtain ⟨⟨n, rfl⟩, h2⟩ := h
    obtain ⟨xs, h3, h4⟩ := okL_ints h2
    refine ⟨n :: xs, by simp [h3], fun pre θ => ?_⟩
    have := h4 (pre ++ [n]) θ
    simp only [List.append_assoc, List.singleton_append, List.length_append, List.length_cons, List.length_nil, Nat.zero_add] at this
    simp only [decodeF, dens, List.map_cons] at this ⊢
    rw [this]
    simp [CK.cell, SC.den, SI.val, List.getD]
  | .bool :: ks, v :: vs, h => by
    obtain ⟨⟨b, rfl⟩, h2⟩ := h
    obtain ⟨xs, h3, h4⟩ := okL_ints h2
    refine ⟨(bif b then 1 else 0) :: xs, by simp [h3], fun pre θ => ?_⟩
    have := h4 (pre ++ [bif b then 1 else 0]) θ
    simp only [List.append_assoc, List.singleton_append, List.length_append, List.length_cons, List.length_nil, Nat.zero_add] at this
    simp only [decodeF, dens, List.map_cons] at this ⊢
    rw [this]
    cases b <;> simp [CK.cell, SC.den, SB.val, List.getD]

/-! ### Parameters -/
inductive PS where
  | agg (ks : List CK) | one (k : CK) | row (e : TypeId) (ks : List CK)
noncomputable def psVs : List PS → Nat → List PV
  | [], _ => []
  | .agg ks :: r, id => .agg (ks.map pcOf) :: psVs r id
  | .one k :: r, id => .one (pcOf k) :: psVs r id
  | .row _ _ :: r, id => .one (.wh id) :: psVs r (id + 1)
noncomputable def psM : List PS → Nat → Nat → List (Nat × PO)
  | [], _, _ => []
  | .agg _ :: r, id, t => psM r id t
  | .one _ :: r, id, t => psM r id t
  | .row e ks :: r, id, t => (id, .row true e ks.length t ks) :: psM r (id + 1) (t + 1)
noncomputable def psK : List PS → List CK
  | [] => []
  | .agg ks :: r => ks ++ psK r
  | .one k :: r => k :: psK r
  | .row _ _ :: r => psK r
noncomputable def psR : List PS → Nat
  | [] => 0
  | .row _ _ :: r => psR r + 1
  | _ :: r => psR r
noncomputable def rowsM : List PS → Nat → Nat → Lss → Mem
  | [], _, _, _ => []
  | .agg _ :: r, id, t, ls => rowsM r id t ls
  | .one _ :: r, id, t, ls => rowsM r id t ls
  | .row e ks :: r, id, t, xs :: ls => (id, .row true e ks.length (.lst t ks xs)) :: rowsM r (id + 1) (t + 1) ls
  | .row _ _ :: _, _, _, [] => []
noncomputable def psOk1 (P : Program) : PS → TypeId → Bool
  | .agg ks, t => (match P.underlying t with | some (.struct _) => true | _ => false) && (match flatK P 20 t with | some js => cksEq ks js | none => false)
  | .one k, t => (match P.underlying t with | some (.int j) => ckEq k (.int j) | some .bool => ckEq k .bool | _ => false)
  | .row e ks, t => (match P.underlying t with | some (.slice u) => Nat.beq e u | _ => false) && ((match flatK P 20 e with | some js => cksEq ks js | none => false) && (Nat.beq ks.length (P.cellsOf e) && Nat.blt 0 ks.length))
noncomputable def psOk (P : Program) : List PS → List TypeId → Bool
  | [], [] => true
  | s :: r, t :: ts => psOk1 P s t && psOk P r ts
  | _, _ => false
theorem mkMem_rows : ∀ {pss : List PS} {id t : Nat} {r : List Pm} {ls : Lss}, ls.length = psR pss → mkMem (psM pss id t) r ls = rowsM pss id t ls
  | [], _, _, _, _, _ => rfl
  | .agg _ :: r, _, _, _, _, h => mkMem_rows (pss := r) h
  | .one _ :: r, _, _, _, _, h => mkMem_rows (pss := r) h
  | .row e ks :: r, id, t, q, xs :: ls, h => by
    simp only [psM, mkMem, PO.mk, rowsM]
    rw [mkMem_rows (by simpa [psR] using h)]
  | .row e ks :: r, id, t, q, [], h => by simp [psR] at h
section
variable {H : Type} {enc : TypeId × Value → H} {P : Program} {w : World}
theorem cells_one {v : Value} (h : ∀ cs, v ≠ .agg cs) : v.cells.toList = [v] := by cases v <;> first | rfl | exact absurd rfl (h _)
/-- A slice that is read. -/
theorem open_row {t e : TypeId} {ks : List CK} {n : Nat} {v : Value} {x : DataW H × List MemPlace} (hu : P.underlying t = some (.slice e)) (hf : flatK P 20 e = some ks) (hc : ks.length = P.cellsOf e) (hpos : 0 < ks.length)
    (h : DataW.trod enc P w 0 (fun _ => true) true n t v.cells.toList = some x) (hv : ∀ cs, v ≠ .agg cs) :
    ∃ (xs : List (List Int)) (l : Loc), v = .slice l.ad l.len l.cap ∧ rowOk ks.length (xs.map (decode ks)) ∧ ∀ θ : Th, seeRel l w xs.length (dens θ (xs.map (decode ks)).flatten) := by
  rw [cells_one hv] at h
  rcases DataW.trod_slice hu h with ⟨h0, _⟩ | ⟨a, len, cap, elems, rest, m, _, h1, _, _, hle, _, hlen, hel, _⟩
  · simp only [List.cons.injEq, and_true] at h0
    subst h0
    exact ⟨[], Loc.none, rfl, ⟨hpos, fun _ h => by cases h⟩, fun θ => ⟨rfl, rfl, Nat.le_refl _, .inl ⟨rfl, rfl, rfl⟩⟩⟩
  · simp only [List.cons.injEq, and_true] at h1
    subst h1
    have each : ∀ i, i < len → ∃ zs : List Int, zs.length = ks.length ∧ ∀ (θ : Th) (j : Nat) (u : Value), (dens θ (decode ks zs))[j]? = some u → w.cell? (a.add (i * ks.length + j)) = some u := by
      intro i hi
      have h2 := hel i hi
      rw [List.getElem?_eq_getElem (by omega)] at h2
      obtain ⟨cs, h3, h4⟩ := Option.bind_eq_some_iff.1 h2
      obtain ⟨_, h5, h6⟩ := World.cells?_some h3
      obtain ⟨zs, h7, h8⟩ := okL_ints (flat_ok hf h4)
      refine ⟨zs, h7, fun θ j u hu => ?_⟩
      have h9 := h8 [] θ
      simp only [List.nil_append, List.length_nil] at h9
      rw [decode, h9] at hu
      have hj : j < cs.length := (List.getElem?_eq_some_iff.1 hu).1
      have := h6 j (by omega)
      rw [hu, ← hc] at this
      rw [← this, Addr.add_add]
    obtain ⟨xs, hx1, hx2⟩ : ∃ xs : List (List Int), xs.length = len ∧ ∀ i zs, xs[i]? = some zs → zs.length = ks.length ∧ ∀ (θ : Th) (j : Nat) (u : Value), (dens θ (decode ks zs))[j]? = some u → w.cell? (a.add (i * ks.length + j)) = some u := by
      have : ∀ m, m ≤ len → ∃ xs : List (List Int), xs.length = m ∧ ∀ i zs, xs[i]? = some zs → zs.length = ks.length ∧ ∀ (θ : Th) (j : Nat) (u : Value), (dens θ (decode ks zs))[j]? = some u → w.cell? (a.add (i * ks.length + j)) = some u := by
        intro m
        induction m with
        | zero => exact fun _ => ⟨[], rfl, fun i zs h => by simp at h⟩
        | succ m ih =>
          intro hm
          obtain ⟨xs, h2, h3⟩ := ih (by omega)
          obtain ⟨zs, h4, h5⟩ := each m (by omega)
          refine ⟨xs ++ [zs], by simp [h2], fun i ys hi => ?_⟩
          by_cases him : i < m
          · rw [List.getElem?_append_left (by omega)] at hi
            exact h3 i ys hi
          · have hlt := (List.getElem?_eq_some_iff.1 hi).1
            simp at hlt
            have : i = m := by omega
            subst this
            rw [List.getElem?_append_right (by omega)] at hi
            simp [h2] at hi
            subst hi
            exact ⟨h4, h5⟩
      exact this len (Nat.le_refl _)
    have hrow : rowOk ks.length (xs.map (decode ks)) := ⟨hpos, fun r hr => by
      obtain ⟨zs, _, rfl⟩ := List.mem_map.1 hr
      exact ⟨by rw [decode, decodeF_length], decodeF_ids _ _ _⟩⟩
    have flat : ∀ (θ : Th) (ys : List (List Int)) (b : Nat), (∀ i zs, ys[i]? = some zs → ∀ (j : Nat) (u : Value), (dens θ (decode ks zs))[j]? = some u → w.cell? (a.add ((b + i) * ks.length + j)) = some u) → ∀ (j : Nat) (u : Value), (dens θ (ys.map (decode ks)).flatten)[j]? = some u → w.cell? (a.add (b * ks.length + j)) = some u := by
      intro θ ys
      induction ys with
      | nil => intro b _ j u h; simp [dens] at h
      | cons z ys ih =>
        intro b hz j u hj
        simp only [List.map_cons, List.flatten_cons, dens, List.map_append] at hj
        have hdl : (List.map (SC.den θ) (decode ks z)).length = ks.length := by rw [List.length_map, decode, decodeF_length]
        by_cases hlt : j < ks.length
        · rw [List.getElem?_append_left (by omega)] at hj
          exact hz 0 z rfl j u hj
        · rw [List.getElem?_append_right (by omega), hdl] at hj
          have := ih (b + 1) (fun i zs hi j u hj => by
            have := hz (i + 1) zs (by simpa using hi) j u hj
            rwa [show b + (i + 1) = b + 1 + i from by omega] at this) (j - ks.length) u hj
          rw [← this]
          congr 2
          rw [Nat.add_mul, Nat.one_mul]; omega
    by_cases hl0 : len = 0
    · subst hl0
      have : xs = [] := List.length_eq_zero_iff.1 hx1
      subst this
      exact ⟨[], ⟨.none, .none, some a, 0, cap, #[]⟩, rfl, hrow, fun θ => ⟨rfl, rfl, Nat.zero_le _, .inl ⟨rfl, rfl, rfl⟩⟩⟩
    · refine ⟨xs, ⟨.none, some a.block, some a, len, cap, #[]⟩, rfl, hrow, fun θ => ⟨rfl, hx1.symm, by rw [hx1]; exact hle, .inr ⟨a, rfl, rfl, ?_, fun j u hj => ?_⟩⟩⟩
      · intro h0
        have := congrArg List.length h0
        obtain ⟨z, zs, rfl⟩ : ∃ z zs, xs = z :: zs := by
          cases xs with
          | nil => exact absurd hx1 (fun h => hl0 h.symm)
          | cons z zs => exact ⟨z, zs, rfl⟩
        simp only [dens, List.map_cons, List.flatten_cons, List.map_append, List.length_append, List.length_map, decode, decodeF_length, List.length_nil] at this
        omega
      · have := flat θ xs 0 (fun i zs hi j u hj => by
          have := (hx2 i zs hi).2 θ j u hj
          simpa using this) j u hj
        simpa using this
/-- The arguments are those of a pattern. -/
theorem open_args {b0 : Nat} : ∀ {pss : List PS} {ts : List TypeId} {vs : List Value} {ds : List (DataW H)} {p : List MemPlace}, psOk P pss ts = true → DataW.TrodAll enc P w 0 (fun _ => true) true ts vs ds p →
    (∀ (j : Nat) t v, ts[j]? = some t → vs[j]? = some v → Value.okWide P w .any b0 t v) →
    ∃ (ps : List Pm) (ls : Lss) (locs : List Loc), PmOk (psK pss) ps ∧ ls.length = psR pss ∧ locs.length = psR pss ∧
      ∀ (id : Nat) (θ : Th), (∀ i l, locs[i]? = some l → θ (id + i) = l) → (∀ rest, ∃ A, mkPs (psVs pss id) (ps ++ rest) = (A, rest) ∧ A.map (SV.den θ) = vs ∧ (∀ i ∈ idsVs A, i < id + psR pss)) ∧
        ∀ t i o, look (rowsM pss id t ls) i = some o → objRel θ w i o ∧ (θ i).blk = none ∧ id ≤ i ∧ i < id + psR pss ∧ idsO o = []
  | [], [], vs, ds, p, _, h, _ => by
    obtain ⟨rfl, _, _⟩ := trodAll_nil h
    exact ⟨[], [], [], trivial, rfl, rfl, fun id θ _ => ⟨fun rest => ⟨[], rfl, rfl, fun _ h => by cases h⟩, fun t i o h => by cases h⟩⟩
  | [], _ :: _, _, _, _, h, _, _ => by cases h
  | _ :: _, [], _, _, _, h, _, _ => by cases h
  | s :: r, t :: ts, vs, ds, p, hok, h, hw => by
    obtain ⟨v, vs', d, ds', p1, p2, rfl, rfl, rfl, ⟨n, h1⟩, h2⟩ := trodAll_cons h
    simp only [psOk, Bool.and_eq_true] at hok
    obtain ⟨ps, ls, locs, q1, q2, q3, q4⟩ := open_args hok.2 h2 (fun j t v hj hv => hw (j + 1) t v (by simpa using hj) (by simpa using hv))
    have hv := hw 0 t v rfl rfl
    have hok1 := hok.1
    cases s with
    | agg ks =>
      simp only [psOk1, Bool.and_eq_true] at hok1
      obtain ⟨k1, k2⟩ := hok1
      have hst : ∃ fs, P.underlying t = some (.struct fs) := by
        split at k1
        · exact ⟨_, by assumption⟩
        · cases k1
      obtain ⟨fs, hst⟩ := hst
      have hfl : flatK P 20 t = some ks := by
        split at k2
        · rename_i js hj; rw [hj, cksEq_spec k2]
        · cases k2
      unfold Value.okWide at hv
      rw [hst] at hv
      obtain ⟨cs, rfl, _⟩ := hv
      obtain ⟨qs, m1, m2⟩ := okL_pm (flat_ok hfl h1)
      refine ⟨qs ++ ps, ls, locs, PmOk.append m1 q1, q2, q3, fun id θ hθ => ?_⟩
      obtain ⟨z1, z2⟩ := q4 id θ hθ
      refine ⟨fun rest => ?_, fun t i o ho => z2 t i o ho⟩
      obtain ⟨xs, e1, e2, e3⟩ := m2 (ps ++ rest)
      obtain ⟨A, e4, e5, e6⟩ := z1 rest
      refine ⟨.agg xs :: A, by simp only [psVs, mkPs, PV.mk, List.append_assoc, e1, e4], ?_, fun i hi => ?_⟩
      · simp only [List.map_cons, e5, SV.den, e2 θ]
        simp [Value.cells]
      · simp only [idsVs, idsV, e3, List.nil_append] at hi
        exact e6 i hi
    | one k =>
      simp only [psOk1] at hok1
      have hone : (∀ cs, v ≠ .agg cs) ∧ flatK P 20 t = some [k] := by
        unfold Value.okWide Cell.okWide Cell.ok at hv
        split at hok1
        · rename_i j hu
          rw [hu] at hv
          refine ⟨fun cs hc => ?_, ?_⟩
          · subst hc; exact hv.elim
          · simp only [flatK, hu]; rw [ckEq_spec hok1]
        · rename_i hu
          rw [hu] at hv
          refine ⟨fun cs hc => ?_, ?_⟩
          · subst hc; exact hv.elim
          · simp only [flatK, hu]; rw [ckEq_spec hok1]
        · cases hok1
      obtain ⟨ho1, hfl⟩ := hone
      rw [cells_one ho1] at h1
      obtain ⟨qs, m1, m2⟩ := okL_pm (flat_ok hfl h1)
      refine ⟨qs ++ ps, ls, locs, PmOk.append (ks := [k]) m1 q1, q2, q3, fun id θ hθ => ?_⟩
      obtain ⟨z1, z2⟩ := q4 id θ hθ
      refine ⟨fun rest => ?_, fun t i o ho => z2 t i o ho⟩
      obtain ⟨xs, e1, e2, e3⟩ := m2 (ps ++ rest)
      obtain ⟨A, e4, e5, e6⟩ := z1 rest
      have e7 := e2 θ
      have hxl : ∃ c, xs = [c] := by
        have := congrArg List.length e7
        simp [dens] at this
        match xs, this with
        | [c], _ => exact ⟨c, rfl⟩
      obtain ⟨c, rfl⟩ := hxl
      simp only [List.map_cons, List.map_nil, mkCs, Prod.mk.injEq, List.cons.injEq, and_true] at e1
      refine ⟨.one c :: A, ?_, ?_, fun i hi => ?_⟩
      · simp only [psVs, mkPs, PV.mk, List.append_assoc, e1.1, e1.2, e4]
      · simp only [dens, List.map_cons, List.map_nil, List.cons.injEq, and_true] at e7
        simp only [List.map_cons, e5, SV.den, e7]
      · simp only [idsVs, idsV, List.mem_append] at hi
        rcases hi with hi | hi
        · rw [idsCs_cons] at e3
          simp [List.append_eq_nil_iff] at e3
          rw [e3.1] at hi; cases hi
        · exact e6 i hi
    | row e ks =>
      simp only [psOk1, Bool.and_eq_true] at hok1
      obtain ⟨k1, k2, k3, k4⟩ := hok1
      have hst : P.underlying t = some (.slice e) := by
        split at k1
        · rename_i u hu; rw [hu, Nat.eq_of_beq_eq_true k1]
        · cases k1
      have hfl : flatK P 20 e = some ks := by
        split at k2
        · rename_i js hj; rw [hj, cksEq_spec k2]
        · cases k2
      have hna : ∀ cs, v ≠ .agg cs := fun cs hc => by
        unfold Value.okWide Cell.okWide Cell.ok at hv
        rw [hst] at hv
        subst hc; exact hv.elim
      obtain ⟨xs, l, m1, m2, m3⟩ := open_row hst hfl (Nat.eq_of_beq_eq_true k3) (by rwa [Nat.blt_eq] at k4) h1 hna
      refine ⟨ps, xs :: ls, l :: locs, q1, by simp [psR, q2], by simp [psR, q3], fun id θ hθ => ?_⟩
      have hl : θ id = l := hθ 0 l rfl
      obtain ⟨z1, z2⟩ := q4 (id + 1) θ (fun i l hi => by
        have := hθ (i + 1) l (by simpa using hi)
        rwa [show id + (i + 1) = id + 1 + i from by omega] at this)
      refine ⟨fun rest => ?_, fun t i o ho => ?_⟩
      · obtain ⟨A, e4, e5, e6⟩ := z1 rest
        refine ⟨.one (.wh id) :: A, by simp only [psVs, mkPs, PV.mk, PC.mk, e4], ?_, fun i hi => ?_⟩
        · simp only [List.map_cons, e5, SV.den, SC.den, hl, m1]
        · simp only [idsVs, idsV, idsC, List.singleton_append, List.mem_cons] at hi
          simp only [psR]
          rcases hi with rfl | hi
          · omega
          · have := e6 i hi; omega
      · simp only [rowsM, look_cons] at ho
        cases hb : Nat.beq id i
        · rw [hb] at ho
          obtain ⟨y1, y2, y3, y4, y5⟩ := z2 (t + 1) i o ho
          simp only [psR]
          exact ⟨y1, y2, by omega, by omega, y5⟩
        · rw [hb] at ho
          cases ho
          have := Nat.eq_of_beq_eq_true hb; subst this
          simp only [psR]
          refine ⟨⟨m2, ?_⟩, by rw [hl]; exact (m3 θ).1, Nat.le_refl _, by omega, rfl⟩
          rw [hl]
          simpa [RowC.rows] using m3 θ
/-- Behind the call the arguments read as before. -/
theorem args_stay (hl : laidOutB P = true) {W W' : World} (hb : Below W.heap.size W W') : ∀ {ts : List TypeId} {vs : List Value} {ds : List (DataW H)} {ps : List MemPlace},
    (ts.all fun t => P.readableRec t && decide (t < P.types.size)) = true → DataW.TrodAll enc P W 0 (fun _ => true) true ts vs ds ps → (∀ x ∈ ps, x.block < W.heap.size) → DataW.TrodAll enc P W' 0 (fun b => decide (b < W.heap.size)) true ts vs ds ps
  | [], vs, ds, ps, _, h, _ => by
    obtain ⟨rfl, rfl, rfl⟩ := trodAll_nil h
    rfl
  | t :: ts, vs, ds, ps, hr, h, hp => by
    obtain ⟨v, vs', d, ds', p1, p2, rfl, rfl, rfl, ⟨n, h1⟩, h2⟩ := trodAll_cons h
    simp only [List.all_cons, Bool.and_eq_true, decide_eq_true_eq] at hr
    exact ⟨p1, p2, ⟨n, DataW.trod_stays (kids_book hl hr.1.1) (book_sized hr.1.1) (fun h => by cases h) ⟨hr.1.2, book_self t⟩ h1 (fun x hx => hb.same (hp x (by simp [hx]))) (fun x hx => by simpa using hp x (by simp [hx]))⟩,
      args_stay hl hb (by simpa using hr.2) h2 (fun x hx => hp x (by simp [hx])), rfl⟩
theorem Below.kept {W W' : World} (hb : Below W.heap.size W W') (may : MemPlace → Prop) : W.keptBut W' may := by
  refine ⟨hb.os, hb.output, fun i hi => ?_⟩
  rw [hb.block i hi]
  cases h : W.heap[i]? with
  | none => rfl
  | some o => cases o <;> simp
/-- A LAW'S STEP: the frame of its statement. -/
theorem law_post {f : Func} {s : ChangeSpec} {W W' : World} {args : Array Value} {bt : TypeId} {ds : List (DataW H)} {before p q : List MemPlace} {gs : List (DataW H)} (hvars : s.vars = []) (hbt : P.underlying bt = some .bool) (hres : f.resultTypes = #[bt])
    (hfn : s.fn H (ds ++ []) = { results := [.lit (.bool true)], args := ds }) (hl : laidOutB P = true) (hr : (f.params.toList.all fun t => P.readableRec t && decide (t < P.types.size)) = true)
    (hW : DataW.Whole enc P f.params.toList s.vars false W args.toList ds gs before) (hA : DataW.TrodAll enc P W 0 (fun _ => true) true f.params.toList args.toList ds p) (hV : DataW.TrodVars enc P W (fun _ => true) s.vars gs q) (hpq : before = p ++ q)
    (hb : Below W.heap.size W W') : s.post enc P f false true false false W args (.bool true) W' := by
  rw [hvars] at hV
  obtain ⟨rfl, rfl⟩ := trodVars_none hV
  refine ⟨ds, [], before, [], p, [], hW, ?_, ?_, ?_, Below.kept hb _, fun h => by cases h⟩
  · rw [hfn, hres]
    exact trodAll_mk1 (shut_bool hbt true)
  · rw [hfn]
    exact args_stay hl hb hr hA (fun x hx => hW.lt x (by rw [hpq]; simp [hx]))
  · rw [hfn, hvars]
    rfl
end
/-- What a run of a law says of its call. -/
theorem law_calls {P : Program} {f : FuncId} {g : Summ} (hg : FOk P f g) {tpl : Tpl} {ps : List Pm} {ls : Lss} {v : SV} {m : Mem} (h : Runs g (tpl.args ps) (tpl.memo ps ls) tpl.n v m) (hv : ∀ θ, v.den θ = .bool true)
    {pss : List PS} {P' : Program} {w : World} {vs : List Value} {θ : Th} (hA : (tpl.args ps).map (SV.den θ) = vs) (hi : ∀ i ∈ idsVs (tpl.args ps), i < tpl.n)
    (hM : ∀ i o, look (tpl.memo ps ls) i = some o → objRel θ w i o ∧ (θ i).blk = none ∧ i < tpl.n ∧ idsO o = []) (hf : f < 1000000 := by decide) :
    Calls P f vs.toArray w fun e w' => e = .returned (.bool true) ∧ Below w.heap.size w w' := by
  have := calls_runs hg h (fun i o ho => ⟨(hM i o ho).2.2.1, fun j hj => by rw [(hM i o ho).2.2.2] at hj; cases hj⟩) hi (θ := θ) (w := w) ⟨fun i o ho => (hM i o ho).1, fun i i' o o' b ho _ _ hb => by rw [(hM i o ho).2.1] at hb; cases hb⟩ hf
  rw [hA] at this
  refine this.mono fun e w' ⟨θ', h1, h2, _⟩ => ⟨by rw [h1, hv], h2.os, h2.tape, h2.output, h2.size, fun b hb => h2.heap b hb fun i o ho he => ?_⟩
  rw [(hM i o ho).2.1] at he; cases he
end Go.SX
