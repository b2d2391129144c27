/-
  A LOOP OVER A FUNCTION'S YIELDS: one round of 'for c := range .. { if c < 0 (or > 0) { return false } }'. Conditions: the record stands ready.
-/
import Derived.Test.YthgiaoidekdpfaaGreatCW
import Derived.RangeFuncRecord
set_option linter.all false
namespace Go.Proofs.YthgiaoidekdpfaaGreat
open Go.SX Go.RowKit
noncomputable abbrev o7 (p : String) : Oper := { dst := some 7, op := Op.assign (Operand.tmp 12), type := 3, pos := p, after := #[], guard := none }
noncomputable abbrev o13 (p : String) : Oper := { dst := some 13, op := Op.move (Operand.tmp 7), type := 3, pos := p, after := #[], guard := none }
noncomputable abbrev o14 (op : BinOp) (p : String) : Oper := { dst := some 14, op := Op.binOp op 3 (Operand.tmp 13) (Operand.const (Value.int IntKind.i64 0)) 3, type := 4, pos := p, after := #[{ on := 0, ground := Ground.data }], guard := none }
noncomputable abbrev oSt (b : Bool) (p : String) : Oper := { dst := none, op := Op.store 4 (Operand.tmp 6) (Operand.const (Value.bool b)), type := 0, pos := p, after := #[], guard := none }
noncomputable def asg (p : String) : Code := .region 2 #[{ dst := some 7, op := Op.assign (Operand.tmp 12), type := 3, pos := p, after := #[], guard := none }] false
noncomputable def bdy (op : BinOp) (p q : String) : Code := .block 1 ((Code.region 3
  #[{ dst := some 13, op := Op.move (Operand.tmp 7), type := 3, pos := p, after := #[], guard := none },
    { dst := some 14, op := Op.binOp op 3 (Operand.tmp 13) (Operand.const (Value.int IntKind.i64 0)) 3, type := 4, pos := p, after := #[{ on := 0, ground := Ground.data }], guard := none }] false).seq
  (Code.cond (Operand.tmp 14) ((Code.region 4 #[{ dst := none, op := Op.store 4 (Operand.tmp 6) (Operand.const (Value.bool false)), type := 0, pos := q, after := #[], guard := none }] false).seq Code.ret) Code.skip))
/-- The record of the loop: ready, or done with a return pending. -/
noncomputable def recO (fn : FuncId) (T : Array Value) (A B : Code) (D : Nat) (k : Bool) : Go.Obj :=
  .loop { state := bif k then .done else .ready, pending := bif k then some .ret else none, fn, tmps := T, params := #[12], assign := A, body := B, defers := D }
/-- The result's cell. -/
noncomputable def resO (_ : Bool) : Go.Obj := .cells #[.bool false] 4 (0, 0)
/-- What a yield comes to. -/
noncomputable def yldS (op : BinOp) (p q r : String) (C : Int → Bool) : Summ := fun vs mem n => match vs, mem with
  | [.one (.yld y i), .one (.int .i64 c)], [(i', .raw l [j'] t L k), (j, .raw R [] t' M m)] =>
    bif Nat.beq i 0 && (Nat.beq i' 0 && (Nat.beq j' 1 && (Nat.beq j 1 && (Nat.beq t 2 && (Nat.beq t' 3 && Nat.beq n 4))))) then
      some ⟨.one (.bool (.v (!(C c.val)))), [(0, .raw l [1] 2 L (.v (C c.val))), (1, .raw R [] 3 M m)],
        [k.val = false, ∃ fn T D, L = recO fn T (asg p) (bdy op q r) D ∧ T.size = 15 ∧ T[6]? = some (.pointer (some ⟨R, 0, none⟩)) ∧ M = resO], [], 4⟩ else none
  | _, _ => none

section ops
variable {F : Fence} {n : Nat} {P : Program} {o : Oper} {ops : Array Oper} {a : Act} {w w' : World} {next : Act → World → Prop} {Q : Exit → Act → World → Prop}
theorem in_value {v : Value} (hF : ∀ f, F.fn f) (hno : ∀ c, o.op ≠ .defer c) (h : (execOp a.eval o).run P w = .ok (.value v) w') (hk : next (a.put o.dst v) w') : o.wpIn F n P a w next Q :=
  ⟨fun f _ => hF f, by rw [Oper.semAt_eq _ _ _ hno, h]; exact hk⟩
theorem in_skip (hF : ∀ f, F.fn f) (hno : ∀ c, o.op ≠ .defer c) (h : (execOp a.eval o).run P w = .ok .skip w') (hk : next (a.put o.dst undef) w') : o.wpIn F n P a w next Q :=
  ⟨fun f _ => hF f, by rw [Oper.semAt_eq _ _ _ hno, h]; exact hk⟩
theorem ops_go {i : Nat} {rest : List Nat} (ho : ops[i]? = some o) (hg : o.guard = none) (h : o.wpIn F n P a w (wpOpsIn F n P ops Q rest) Q) : wpOpsIn F n P ops Q (i :: rest) a w := by
  rw [wpOpsIn_cons]
  unfold wpOpIn
  simp only [ho]
  rw [if_pos (by simp [Region.wanted, hg])]
  exact h
end ops
theorem put_eval_same {a : Act} {d : Nat} (v : Value) (h : d < a.tmps.size) : (a.put (some d) v).eval (.tmp d) = v := by simp [Act.eval, SX.put_get_same v h]
theorem put_eval_ne {a : Act} {d t : Nat} (v : Value) (h : d ≠ t) : (a.put (some d) v).eval (.tmp t) = a.eval (.tmp t) := by simp [Act.eval, SX.put_get_ne v h]

/-- ONE ROUND. -/
theorem round_in {fn : FuncId} {T : Array Value} {op : BinOp} {p q r : String} {C : Int → Bool} {D R l : Nat} {c : Int} {w : World}
    (hop : ∀ (ox oy : Operand) (w : World), (do eqGuard op 3 ox oy (.int .i64 c) (.int .i64 0); Go.binOp op 3 (.int .i64 c) (.int .i64 0) : Sem Value).run Tryz.prog w = .ok (.bool (C c)) w)
    (hT : T.size = 15) (hT6 : T[6]? = some (.pointer (some ⟨R, 0, none⟩))) (hl : w.heap[l]? = some (recO fn T (asg p) (bdy op q r) D false)) (hR : w.heap[R]? = some (resO false)) (hne : l ≠ R) :
    RoundIn Fence.wide 0 Tryz.prog l fn (T.setIfInBounds 12 (.int .i64 c)) (asg p) (bdy op q r) w fun e w' => e = .returned (.bool (!(C c))) ∧ w'.os = w.os ∧ w'.tape = w.tape ∧ w'.output = w.output ∧ w'.heap.size = w.heap.size ∧
      w'.heap[l]? = some (recO fn T (asg p) (bdy op q r) D (C c)) ∧ ∀ b, b ≠ l → w'.heap[b]? = w.heap[b]? := by
  have hll : l < w.heap.size := (Array.getElem?_eq_some_iff.1 hl).1
  refine roundIn_of_wpIn trivial ?_
  refine wpIn_region (ops_go (o := o7 p) (i := 0) (rest := []) rfl rfl (in_value (v := .int .i64 c) (w' := w) (fun _ => trivial) (by simp) ?_ ?_))
  · unfold execOp
    simp [Sem.run_pure, Act.eval, hT]
  · refine ⟨_, run_beginRound hl rfl, ?_⟩
    obtain ⟨a1, ha1⟩ : ∃ a1 : Act, a1 = ({ tmps := T.setIfInBounds 12 (.int .i64 c), defers := [] } : Act).put (some 7) (.int .i64 c) := ⟨_, rfl⟩
    have hs1 : a1.tmps.size = 15 := by rw [ha1]; simp [SX.put_size, hT]
    have e7 : a1.eval (.tmp 7) = .int .i64 c := by rw [ha1]; exact put_eval_same _ (by simp [hT])
    have e6 : a1.eval (.tmp 6) = .pointer (some ⟨R, 0, none⟩) := by
      rw [ha1, put_eval_ne _ (by omega)]
      simp [Act.eval, hT6]
    obtain ⟨w1, hw1⟩ : ∃ w1, w1 = w.putObj l (.loop { state := .busy, pending := none, fn, tmps := T, params := #[12], assign := asg p, body := bdy op q r, defers := D }) := ⟨_, rfl⟩
    have h1l : w1.heap[l]? = some (.loop { state := .busy, pending := none, fn, tmps := T, params := #[12], assign := asg p, body := bdy op q r, defers := D }) := by rw [hw1]; exact World.putObj_heap_same hll
    have h1o : ∀ b, b ≠ l → w1.heap[b]? = w.heap[b]? := fun b hb => by rw [hw1]; exact World.putObj_heap_other hb
    have h1s : w1.heap.size = w.heap.size := by rw [hw1]; simp
    have h1w : w1.os = w.os ∧ w1.tape = w.tape ∧ w1.output = w.output := by rw [hw1]; exact ⟨rfl, rfl, rfl⟩
    show (bdy op q r).wpIn (Fence.wide.inRound l) 0 Tryz.prog (roundPost Tryz.prog l _) (({ tmps := T.setIfInBounds 12 (.int .i64 c), defers := [] } : Act).put (some 7) (.int .i64 c)) (w.putObj l (.loop { state := .busy, pending := none, fn, tmps := T, params := #[12], assign := asg p, body := bdy op q r, defers := D }))
    rw [← hw1, ← ha1]
    clear hw1 ha1
    refine wpIn_block (wpIn_seq (wpIn_region (ops_go (o := o13 q) (i := 0) (rest := [1]) rfl rfl (in_value (v := .int .i64 c) (w' := w1) (fun _ => trivial) (by simp) ?_ (ops_go (o := o14 op q) (i := 1) (rest := []) rfl rfl (in_value (v := .bool (C c)) (w' := w1) (fun _ => trivial) (by simp) ?_ ?_))))))
    · unfold execOp
      simp [Sem.run_pure, e7]
    · unfold execOp
      refine SX.run_v ?_
      rw [put_eval_same _ (by rw [hs1]; omega)]
      exact hop _ _ _
    · refine wpIn_cond_split (t := C c) (put_eval_same _ (by rw [SX.put_size, hs1]; omega)) (fun hc => ?_) (fun hc => ?_)
      · -- it returns
        have e6' : ((a1.put (some 13) (.int .i64 c)).put (some 14) (.bool (C c))).eval (.tmp 6) = .pointer (some ⟨R, 0, none⟩) := by
          rw [put_eval_ne _ (by omega), put_eval_ne _ (by omega), e6]
        have h1R : w1.heap[R]? = some (.cells #[.bool false] 4 (0, 0)) := (h1o R (Ne.symm hne)).trans hR
        have hst := run_storeCells_at Tryz.prog R 0 4 [.bool false] 0 #[.bool false] w1 h1R (by simp) (by intro v hv; simp at hv; subst hv; rfl)
        refine wpIn_seq (wpIn_region (ops_go (o := oSt false r) (i := 0) (rest := []) rfl rfl (in_skip (w' := w1.setRow R #[.bool false]) (fun _ => trivial) (by simp) ?_ (wpIn_ret ?_))))
        · unfold execOp
          refine SX.run_u ?_
          simp only [Instr.storeAt, e6', Instr.sureAddr, Sem.run_bind, Sem.run_pure, Result.andThen_ok, storeVar]
          rw [Tryz.sizeOf4]
          exact hst
        · show ∃ v w', _
          obtain ⟨W3, hW3⟩ : ∃ W3, W3 = w1.setRow R #[.bool false] := ⟨_, rfl⟩
          rw [← hW3]
          have h3 : ∀ b, W3.heap[b]? = w1.heap[b]? := fun b => by
            rw [hW3]
            by_cases hb : R = b
            · subst hb
              rw [h1R]
              exact setRow_heap w1 R _ _ 4 _ h1R
            · simp [World.setRow, Array.getElem?_modify, hb]
          have h3s : W3.heap.size = w1.heap.size := by rw [hW3]; simp [World.setRow]
          have h3w : W3.os = w1.os ∧ W3.tape = w1.tape ∧ W3.output = w1.output := by rw [hW3]; exact ⟨rfl, rfl, rfl⟩
          refine ⟨_, _, run_endRound (some .ret) ((h3 l).trans h1l), ?_⟩
          rw [hc]
          refine ⟨rfl, by simpa [World.putObj] using h3w.1.trans h1w.1, by simpa [World.putObj] using h3w.2.1.trans h1w.2.1, by simpa [World.putObj] using h3w.2.2.trans h1w.2.2, by rw [World.putObj_size, h3s, h1s], ?_, fun b hb => ?_⟩
          · rw [World.putObj_heap_same (by rw [h3s, h1s]; exact hll)]; rfl
          · rw [World.putObj_heap_other hb, h3 b, h1o b hb]
      · refine wpIn_skip ?_
        show ∃ v w', _
        refine ⟨_, _, run_endRound none h1l, ?_⟩
        rw [hc]
        refine ⟨rfl, by simpa [World.putObj] using h1w.1, by simpa [World.putObj] using h1w.2.1, by simpa [World.putObj] using h1w.2.2, by rw [World.putObj_size, h1s], ?_, fun b hb => ?_⟩
        · rw [World.putObj_heap_same (by rw [h1s]; exact hll)]; rfl
        · rw [World.putObj_heap_other hb, h1o b hb]
theorem look_two {α : Type} {x y o : α} {id : Nat} (h : SX.look [(0, x), (1, y)] id = some o) : (id = 0 ∧ o = x) ∨ (id = 1 ∧ o = y) := by
  rw [SX.look_cons, SX.look_cons, SX.look_nil] at h
  rcases id with _ | _ | id
  · cases h; exact .inl ⟨rfl, rfl⟩
  · cases h; exact .inr ⟨rfl, rfl⟩
  · cases h
/-- THE YIELDS OF THE LOOP. -/
theorem yldS_ok {Y : FuncId} (hY : 1000000 ≤ Y) {op : BinOp} {p q r : String} {C : Int → Bool}
    (hop : ∀ (c : Int) (ox oy : Operand) (w : World), (do eqGuard op 3 ox oy (.int .i64 c) (.int .i64 0); Go.binOp op 3 (.int .i64 c) (.int .i64 0) : Sem Value).run Tryz.prog w = .ok (.bool (C c)) w) :
    FOk Tryz.prog Y (yldS op p q r C) := by
  intro vs mem n x h hn he hwf hids θ w hm
  refine ⟨fun hf => absurd hf (Nat.not_lt.2 hY), fun hf => absurd hf (Nat.not_lt.2 hY), fun _ => ?_⟩
  unfold yldS at h
  split at h
  · rename_i y i c i' l j' t L k j R t' M m
    cases hq : (Nat.beq i 0 && (Nat.beq i' 0 && (Nat.beq j' 1 && (Nat.beq j 1 && (Nat.beq t 2 && (Nat.beq t' 3 && Nat.beq n 4))))))
    · rw [hq] at h; cases h
    rw [hq] at h
    simp only [Bool.and_eq_true] at hq
    obtain ⟨q1, q2, q3, q4, q5, q6, q7⟩ := hq
    have q1 := Nat.eq_of_beq_eq_true q1
    have q2 := Nat.eq_of_beq_eq_true q2
    have q3 := Nat.eq_of_beq_eq_true q3
    have q4 := Nat.eq_of_beq_eq_true q4
    have q5 := Nat.eq_of_beq_eq_true q5
    have q6 := Nat.eq_of_beq_eq_true q6
    have q7 := Nat.eq_of_beq_eq_true q7
    subst q1 q2 q3 q4 q5 q6 q7
    cases h
    have hk : k.val = false := hn _ (by simp)
    obtain ⟨fn, T, D, hL, hT, hT6, hM⟩ : ∃ fn T D, L = recO fn T (asg p) (bdy op q r) D ∧ T.size = 15 ∧ T[6]? = some (.pointer (some ⟨R, 0, none⟩)) ∧ M = resO := hn (∃ fn T D, L = recO fn T (asg p) (bdy op q r) D ∧ T.size = 15 ∧ T[6]? = some (.pointer (some ⟨R, 0, none⟩)) ∧ M = resO) (by simp)
    have o0 : θ 0 = Loc.box l ∧ w.heap[l]? = some (L k.val) := hm.1 0 _ rfl
    have o1 : θ 1 = Loc.box R ∧ w.heap[R]? = some (M m.val) := hm.1 1 _ rfl
    have hne : l ≠ R := fun e => hm.2 0 1 _ _ l rfl rfl (by decide) (by rw [o0.1]; rfl) (by rw [o1.1, e]; rfl)
    subst hL hM
    rw [hk] at o0
    refine ⟨l, #[.int .i64 c.val], ?_, fn, T.setIfInBounds 12 (.int .i64 c.val), asg p, bdy op q r, (by have := run_yield (P := Tryz.prog) (args := #[.int .i64 c.val]) o0.2 rfl; simpa using this), (round_in (hop c.val) hT hT6 o0.2 o1.2 hne).mono ?_⟩
    · simp [SV.den, SC.den, o0.1, Loc.box]
    · rintro e w' ⟨rfl, h1, h2, h3, h4, h5, h6⟩
      refine ⟨θ, rfl, ⟨Agree.refl _ _, h1, h2, h3, by omega, fun b hb hno => h6 b fun e => hno 0 _ rfl (by rw [o0.1, e]; rfl), fun id o b hl hb => ?_, fun id o b hl hb => ?_⟩, fun id o hl => ?_, fun id id' o o' b hl hl' hne' => ?_⟩
      · rcases look_two hl with ⟨rfl, rfl⟩ | ⟨rfl, rfl⟩
        · exact .inr ⟨0, _, rfl, hb⟩
        · exact .inr ⟨1, _, rfl, hb⟩
      · rcases look_two hl with ⟨rfl, rfl⟩ | ⟨rfl, rfl⟩
        · exact .inr ⟨0, _, rfl, hb⟩
        · exact .inr ⟨1, _, rfl, hb⟩
      · rcases look_two hl with ⟨rfl, rfl⟩ | ⟨rfl, rfl⟩
        · exact ⟨o0.1, h5⟩
        · exact ⟨o1.1, (h6 R (Ne.symm hne)).trans o1.2⟩
      · rcases look_two hl with ⟨rfl, rfl⟩ | ⟨rfl, rfl⟩ <;> rcases look_two hl' with ⟨rfl, rfl⟩ | ⟨rfl, rfl⟩
        · exact absurd rfl hne'
        · exact hm.2 0 1 _ _ b rfl rfl (by decide)
        · exact hm.2 1 0 _ _ b rfl rfl (by decide)
        · exact absurd rfl hne'
  · cases h
end Go.Proofs.YthgiaoidekdpfaaGreat
