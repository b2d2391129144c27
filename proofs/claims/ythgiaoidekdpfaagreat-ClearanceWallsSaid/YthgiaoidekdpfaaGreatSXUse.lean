/-
  HOW THE EVALUATOR IS USED: what a function has been shown to return becomes a summary of it. Conditions: none.
-/
import Derived.Test.YthgiaoidekdpfaaGreatSXLoop
set_option linter.all false
namespace Go.SX
open Go.RowKit

/-- An argument's form: a struct of such cells, or one cell. -/
abbrev Shape := List (Bool × List CK)
noncomputable def shapeV (s : Bool × List CK) (xs : List Int) : SV :=
  match s.1, decode s.2 xs with
  | false, [c] => .one c
  | _, cs => .agg cs
noncomputable def shapeVs : Shape → List (List Int) → List SV
  | s :: r, x :: xs => shapeV s x :: shapeVs r xs
  | _, _ => []
noncomputable def fitV (s : Bool × List CK) (v : SV) : Option (List Int) :=
  match s.1, v with
  | true, .agg cs => (encCs cs).bind (fitK s.2)
  | false, .one c => (encCs [c]).bind (fitK s.2)
  | _, _ => none
noncomputable def fitVs : Shape → List SV → Option (List (List Int))
  | [], [] => some []
  | s :: r, v :: vs => match fitV s v, fitVs r vs with
    | some x, some xs => some (x :: xs)
    | _, _ => none
  | _, _ => none
/-- A function of integers and truth values. -/
noncomputable def valS (sh : Shape) (out : List (List Int) → Option CRes) : Summ := fun vs mem n =>
  match mem, n with
  | [], 0 => (match fitVs sh vs with
    | some xs => out xs
    | none => none)
  | _, _ => none
/-- Lists that have a shape. -/
noncomputable def Fits : Shape → List (List Int) → Prop
  | [], [] => True
  | s :: r, x :: xs => x.length = s.2.length ∧ Fits r xs
  | _, _ => False
theorem fitV_spec {s : Bool × List CK} {v : SV} {x : List Int} (h : fitV s v = some x) : x.length = s.2.length ∧ ∀ θ, v.den θ = (shapeV s x).den θ := by
  unfold fitV at h
  split at h
  · rename_i cs hs
    obtain ⟨h1, h2, h3⟩ := fit_dec h
    refine ⟨by rw [h2, h1], fun θ => ?_⟩
    simp only [shapeV, hs, SV.den, h3 θ]
  · rename_i c hs
    obtain ⟨h1, h2, h3⟩ := fit_dec h
    have hd : (decode s.2 x).length = 1 := by rw [decode, decodeF_length, h1]; rfl
    refine ⟨by rw [h2, h1], fun θ => ?_⟩
    match hq : decode s.2 x, hd with
    | [d], _ =>
      have := h3 θ
      rw [hq] at this
      simp only [dens, List.map_cons, List.map_nil, List.cons.injEq, and_true] at this
      simp only [shapeV, hs, hq, SV.den, this]
  · cases h
theorem fitVs_spec : ∀ {sh : Shape} {vs : List SV} {xs : List (List Int)}, fitVs sh vs = some xs → Fits sh xs ∧ ∀ θ, vs.map (SV.den θ) = (shapeVs sh xs).map (SV.den θ)
  | [], [], xs, h => by cases h; exact ⟨trivial, fun _ => rfl⟩
  | [], _ :: _, _, h => by cases h
  | _ :: _, [], _, h => by cases h
  | s :: r, v :: vs, xs, h => by
    simp only [fitVs] at h
    split at h
    · rename_i x ys h1 h2
      cases h
      obtain ⟨h3, h4⟩ := fitV_spec h1
      obtain ⟨h5, h6⟩ := fitVs_spec h2
      refine ⟨⟨h3, h5⟩, fun θ => ?_⟩
      simp only [shapeVs, List.map_cons, h4 θ, h6 θ]
    · cases h
theorem shapeV_ids (s : Bool × List CK) (x : List Int) : idsV (shapeV s x) = [] := by
  have hd := decodeF_ids s.2 x 0
  unfold shapeV
  split
  · rename_i c hc
    rw [decode] at hc
    rw [hc] at hd
    simpa [idsCs, idsV] using hd
  · exact hd
theorem shapeVs_ids : ∀ (sh : Shape) (xs : List (List Int)), idsVs (shapeVs sh xs) = []
  | [], _ => rfl
  | _ :: _, [] => rfl
  | s :: r, x :: xs => by simp [shapeVs, idsVs, shapeV_ids, shapeVs_ids r xs]

/-- What a run has come to. -/
structure Runs (g : Summ) (vs : List SV) (mem : Mem) (n : Nat) (v : SV) (m : Mem) : Prop where
  run : ∃ r, g vs mem n = some r ∧ (∀ p ∈ r.needs, p) ∧ (∀ p ∈ r.eqs, p.1 = p.2) ∧ r.val = v ∧ r.mem = m
theorem Runs.of {g : Summ} {vs : List SV} {mem : Mem} {n : Nat} {v : SV} {m : Mem} {ps : List Prop} (h1 : (g vs mem n).map (fun r => (r.val, r.mem, r.needs)) = some (v, m, ps))
    (h2 : (g vs mem n).map (fun r => r.eqs.map (·.1)) = (g vs mem n).map (fun r => r.eqs.map (·.2))) (h3 : ∀ p ∈ ps, p) : Runs g vs mem n v m := by
  cases h : g vs mem n with
  | none => rw [h] at h1; cases h1
  | some r =>
    rw [h] at h1 h2
    simp only [Option.map_some, Option.some.injEq, Prod.mk.injEq] at h1 h2
    obtain ⟨rfl, rfl, rfl⟩ := h1
    refine ⟨r, h, h3, fun p hp => ?_, rfl, rfl⟩
    obtain ⟨i, hi⟩ := List.getElem?_of_mem hp
    have := congrArg (fun l : List EV => l[i]?) h2
    simp only [List.getElem?_map, hi, Option.map_some, Option.some.injEq] at this
    exact this
/-! What is looked at first: the same again. -/
noncomputable def forceN : Nat → Nat | 0 => 0 | n + 1 => n + 1
noncomputable def forceI : SI → SI | .c x => .c x | .v x => .v x
noncomputable def forceB : SB → SB | .c x => .c x | .v x => .v x
noncomputable def forceC : SC → SC
  | .int k n => .int k (forceI n)
  | .bool b => .bool (forceB b)
  | .wh a => .wh (forceN a)
  | .ptr a o => .ptr (forceN a) (forceN o)
  | c => c
noncomputable def forceCs : List SC → List SC
  | [] => []
  | c :: r => forceC c :: forceCs r
noncomputable def forceT : List (Nat × SC) → List (Nat × SC)
  | [] => []
  | (t, c) :: r => (forceN t, forceC c) :: forceT r
noncomputable def forceTup : List (Bool × List SC) → List (Bool × List SC)
  | [] => []
  | (b, c) :: r => (b, forceCs c) :: forceTup r
noncomputable def forceV : SV → SV
  | .one c => .one (forceC c)
  | .agg cs => .agg (forceCs cs)
  | .tup vs => .tup (forceTup vs)
noncomputable def forceR : RowC → RowC
  | .lit t rows => .lit (forceN t) rows
  | .lst t ks xs => .lst (forceN t) ks xs
noncomputable def forceO : Obj → Obj
  | .blk t cs => .blk t (forceT cs)
  | .row ro ty esz r => .row ro ty esz (forceR r)
  | .crow ty esz len cs => .crow ty esz len (forceT cs)
  | o => o
noncomputable def forceM : Mem → Mem
  | [] => []
  | (id, o) :: r => (forceN id, forceO o) :: forceM r
theorem forceN_eq (x : Nat) : forceN x = x := by cases x <;> rfl
theorem forceI_eq (x : SI) : forceI x = x := by cases x <;> rfl
theorem forceB_eq (x : SB) : forceB x = x := by cases x <;> rfl
theorem forceC_eq (x : SC) : forceC x = x := by cases x <;> simp only [forceC, forceI_eq, forceB_eq, forceN_eq]
theorem forceCs_eq : ∀ l : List SC, forceCs l = l
  | [] => rfl
  | c :: r => by simp only [forceCs, forceC_eq, forceCs_eq r]
theorem forceT_eq : ∀ l : List (Nat × SC), forceT l = l
  | [] => rfl
  | (t, c) :: r => by simp only [forceT, forceC_eq, forceN_eq, forceT_eq r]
theorem forceTup_eq : ∀ l : List (Bool × List SC), forceTup l = l
  | [] => rfl
  | (b, c) :: r => by simp only [forceTup, forceCs_eq, forceTup_eq r]
theorem forceV_eq (v : SV) : forceV v = v := by cases v <;> simp only [forceV, forceC_eq, forceCs_eq, forceTup_eq]
theorem forceR_eq (r : RowC) : forceR r = r := by cases r <;> simp only [forceR, forceN_eq]
theorem forceO_eq (o : Obj) : forceO o = o := by cases o <;> simp only [forceO, forceT_eq, forceR_eq]
theorem forceM_eq : ∀ m : Mem, forceM m = m
  | [] => rfl
  | (id, o) :: r => by simp only [forceM, forceO_eq, forceN_eq, forceM_eq r]
/-- Both in one: the run is evaluated once. -/
noncomputable def ranL : Option CRes → Bool × SV × Mem × List Prop × List EV
  | some r => (true, forceV r.val, forceM r.mem, r.needs, r.eqs.map (·.1))
  | none => (true, .agg [], [], [], [])
noncomputable def ranR (v : SV) (m : Mem) (ps : List Prop) : Option CRes → Bool × SV × Mem × List Prop × List EV
  | some r => (true, v, m, ps, r.eqs.map (·.2))
  | none => (false, .agg [], [], [], [])
theorem Runs.of1 {g : Summ} {vs : List SV} {mem : Mem} {n : Nat} {v : SV} {m : Mem} {ps : List Prop} (h : ranL (g vs mem n) = ranR v m ps (g vs mem n)) (h3 : ∀ p ∈ ps, p) : Runs g vs mem n v m := by
  cases hr : g vs mem n with
  | none => rw [hr] at h; simp [ranL, ranR] at h
  | some r =>
    rw [hr] at h
    simp only [ranL, ranR, forceV_eq, forceM_eq, Prod.mk.injEq, true_and] at h
    obtain ⟨h1, h2, h4, h5⟩ := h
    exact Runs.of (ps := ps) (by rw [hr, Option.map_some, h1, h2, h4]) (by rw [hr, Option.map_some, Option.map_some, h5]) h3
theorem Runs.to {g : Summ} {vs : List SV} {mem : Mem} {n : Nat} {v v' : SV} {m m' : Mem} (h : Runs g vs mem n v m) (hv : v = v') (hm : m = m') : Runs g vs mem n v' m' := by subst hv; subst hm; exact h
/-- A round is right. -/
noncomputable def RoundOk (r : Option (List Prop × Eqs)) : Prop := ∃ p q, r = some (p, q) ∧ (∀ x ∈ p, x) ∧ ∀ x ∈ q, x.1 = x.2
theorem RoundOk.of {r : Option (List Prop × Eqs)} {ps : List Prop} (h1 : r.map (·.1) = some ps) (h2 : r.map (fun x => x.2.map (·.1)) = r.map (fun x => x.2.map (·.2))) (h3 : ∀ p ∈ ps, p) : RoundOk r := by
  cases r with
  | none => cases h1
  | some x =>
    simp only [Option.map_some, Option.some.injEq] at h1 h2
    subst h1
    refine ⟨x.1, x.2, rfl, h3, fun p hp => ?_⟩
    obtain ⟨i, hi⟩ := List.getElem?_of_mem hp
    have := congrArg (fun l : List EV => l[i]?) h2
    simp only [List.getElem?_map, hi, Option.map_some, Option.some.injEq] at this
    exact this
section use
variable {P : Program}
/-- A SUMMARY OF A FUNCTION OF VALUES. -/
theorem valS_ok' {f : FuncId} {g : Summ} (hg : FOk P f g) {sh : Shape} {out : List (List Int) → Option CRes}
    (h : ∀ xs r, Fits sh xs → out xs = some r → (∀ p ∈ r.needs, p) → (∀ p ∈ r.eqs, p.1 = p.2) → ∃ v m, Runs g (shapeVs sh xs) [] 0 v m ∧ (∀ θ, v.den θ = r.val.den θ) ∧ m = r.mem) : FOk P f (valS sh out) := by
  intro vs mem n r hr hn he hwf hids θ w hm
  unfold valS at hr
  split at hr
  · split at hr
    · rename_i xs hx
      obtain ⟨h1, h2⟩ := fitVs_spec hx
      obtain ⟨v, m, hrun, hv, rfl⟩ := h xs r h1 hr hn he
      obtain ⟨r', h3, h4, h5, h6, h7⟩ := hrun.run
      have := hg _ _ _ r' h3 h4 h5 (fun _ _ h => by cases h) (by rw [shapeVs_ids]; simp) θ w hm
      rw [h2 θ, ← h7]
      refine ⟨this.1, this.2.mono fun e w' ⟨θ', q1, q2, q3⟩ => ⟨θ', by rw [q1, h6, hv], q2, q3⟩⟩
    · cases hr
  · cases hr
theorem valS_ok {f : FuncId} {g : Summ} (hg : FOk P f g) {sh : Shape} {out : List (List Int) → Option CRes}
    (h : ∀ xs r, Fits sh xs → out xs = some r → (∀ p ∈ r.needs, p) → (∀ p ∈ r.eqs, p.1 = p.2) → Runs g (shapeVs sh xs) [] 0 r.val r.mem) : FOk P f (valS sh out) :=
  valS_ok' hg fun xs r h1 h2 h3 h4 => ⟨r.val, r.mem, h xs r h1 h2 h3 h4, fun _ => rfl, rfl⟩
/-- A call that returns a value. -/
theorem calls_runs {f : FuncId} {g : Summ} (hg : FOk P f g) {vs : List SV} {mem m : Mem} {n : Nat} {v : SV} (h : Runs g vs mem n v m) (hwf : wfMem n mem) (hi : ∀ id ∈ idsVs vs, id < n) {θ : Th} {w : World} (hm : memRel θ mem w) (hf : f < 1000000 := by decide) :
    Calls P f (vs.map (SV.den θ)).toArray w fun e w' => ∃ θ', e = .returned (v.den θ') ∧ Grew n θ mem w θ' m w' ∧ memRel θ' m w' := by
  obtain ⟨r, h3, h4, h5, rfl, rfl⟩ := h.run
  exact (hg _ _ _ r h3 h4 h5 hwf hi θ w hm).2.1 hf
/-! ### Loops of a function -/
noncomputable def loopList (P : Program) (f : FuncId) : List Code := match P.funcs[f]? with
  | some fn => (match fn.body with
    | some b => loopsOf b
    | none => [])
  | none => []
noncomputable def loopOf (P : Program) (f i : Nat) : Code := ((loopList P f)[i]?).getD .skip
noncomputable def ntOf (P : Program) (f : FuncId) : Nat := match P.funcs[f]? with
  | some fn => fn.ntmps
  | none => 0
noncomputable def cfgOf (P : Program) (f : FuncId) (L : Nat → Option LoopS) : Cfg := match P.funcs[f]? with
  | some fn => (match fn.body with
    | some b => ⟨mask (codeReads b ++ resReads fn.results.toList), fn.ntmps, 100, L⟩
    | none => ⟨0, fn.ntmps, 100, L⟩)
  | none => ⟨0, 0, 100, L⟩
/-- A loop's body, run. -/
noncomputable def bodyOf (P : Program) (S : FuncId → Option Summ) (L : FuncId → Nat → Option LoopS) (f i : Nat) : LoopS := execC P (evalC P S L 100 10) (cfgOf P f (L f)) (loopOf P f i)
theorem loopsOf_sub : ∀ {c b : Code}, b ∈ loopsOf c → ∀ d ∈ loopsOf b, d ∈ loopsOf c
  | .seq x y, b, h, d, hd => by
    simp only [loopsOf, List.mem_append] at h ⊢
    exact h.imp (fun h => loopsOf_sub h d hd) fun h => loopsOf_sub h d hd
  | .cond _ x y, b, h, d, hd => by
    simp only [loopsOf, List.mem_append] at h ⊢
    exact h.imp (fun h => loopsOf_sub h d hd) fun h => loopsOf_sub h d hd
  | .block _ x, b, h, d, hd => loopsOf_sub (c := x) h d hd
  | .loop x, b, h, d, hd => by
    simp only [loopsOf, List.mem_cons] at h ⊢
    rcases h with rfl | h
    · exact .inr hd
    · exact .inr (loopsOf_sub h d hd)
  | .skip, _, h, _, _ => by cases h
  | .region .., _, h, _, _ => by cases h
  | .exit _, _, h, _, _ => by cases h
  | .ret, _, h, _, _ => by cases h
  | .rangeFunc .., _, h, _, _ => by cases h
  | .scope _, _, h, _, _ => by cases h
  | .label _, _, h, _, _ => by cases h
  | .goto _, _, h, _, _ => by cases h
  | .refuse _, _, h, _, _ => by cases h
theorem loopList_of {f : FuncId} {fn : Func} {b : Code} (hf : P.funcs[f]? = some fn) (hb : fn.body = some b) : loopList P f = loopsOf b ∧ ntOf P f = fn.ntmps := by
  unfold loopList ntOf
  simp only [hf, hb, and_self]
theorem bodyOf_ok (hp : PlainNames P) {S : FuncId → Option Summ} {L : FuncId → Nat → Option LoopS} (hk : Known P S L) {f i : Nat} (hi : i < (loopList P f).length) : CodeOk P (ntOf P f) (loopOf P f i) (bodyOf P S L f i) := by
  unfold bodyOf
  cases hf : P.funcs[f]? with
  | none => unfold loopList at hi; rw [hf] at hi; simp at hi
  | some fn =>
    cases hb : fn.body with
    | none => unfold loopList at hi; simp only [hf, hb] at hi; simp at hi
    | some b =>
      obtain ⟨h1, h2⟩ := loopList_of hf hb
      have hm : loopOf P f i ∈ loopsOf b := by
        unfold loopOf
        rw [List.getElem?_eq_getElem hi, Option.getD_some, ← h1]
        exact List.getElem_mem hi
      have hcfg : cfgOf P f (L f) = ⟨mask (codeReads b ++ resReads fn.results.toList), fn.ntmps, 100, L f⟩ := by unfold cfgOf; simp only [hf, hb]
      have := execC_ok (cfg := cfgOf P f (L f)) hp (evalC_ok hp hk 100 10) (loopOf P f i) (fun d hd k s h3 h4 => by
        rw [hcfg] at h4 ⊢
        exact hk.loops f fn b hf hb d (loopsOf_sub hm d hd) k s h3 h4)
      rw [h2]
      rw [hcfg] at this ⊢
      exact this
theorem loopsOkF_of {f : FuncId} {L : Nat → Option LoopS} (h : ∀ i, i < (loopList P f).length → ∀ k s, firstR (loopOf P f i) = some k → L k = some s → CodeOk P (ntOf P f) (.loop (loopOf P f i)) s) : LoopsOkF P f L := by
  intro fn b hf hb c hc k s h1 h2
  obtain ⟨h3, h4⟩ := loopList_of hf hb
  rw [← h3] at hc
  obtain ⟨i, hi⟩ := List.getElem?_of_mem hc
  have hlt : i < (loopList P f).length := (List.getElem?_eq_some_iff.1 hi).1
  have he : loopOf P f i = c := by unfold loopOf; rw [hi]; rfl
  have := h i hlt k s (by rw [he]; exact h1) h2
  rw [he, h4] at this
  exact this
end use
end Go.SX
