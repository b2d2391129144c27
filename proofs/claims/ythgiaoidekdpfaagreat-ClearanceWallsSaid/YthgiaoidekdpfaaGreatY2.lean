/-
  FAR AND NEAR: functions that range over the distances: what they return. Conditions: none.
-/
import Derived.Test.YthgiaoidekdpfaaGreatY1
import Derived.Test.YthgiaoidekdpfaaGreatCW
set_option linter.all false
namespace Go.Proofs.YthgiaoidekdpfaaGreat
open Go.SX Go.RowKit
section dist
variable (C : Int → Bool) (a0 a1 a2 a3 a4 a5 a6 : Int) (a7 : Bool) (y z d : Int)
/-- Beside an arc. -/
noncomputable def isB : Bool := a6 != 0 && (y == a4 && z == a5 || inside_0 a0 a1 0 a2 a3 0 17 a4 a5 0 a6 a7 (minus_0 y a4) (minus_0 z a5))
/-- Beside a segment. -/
noncomputable def isS : Bool := a6 == 0 && decide (vinner_0 (minus_0 y a0) (minus_0 z a1) (minus_0 a2 a0) (minus_0 a3 a1) > 0) &&
  decide (vinner_0 (minus_0 y a0) (minus_0 z a1) (minus_0 a2 a0) (minus_0 a3 a1) < vinner_0 (minus_0 a2 a0) (minus_0 a3 a1) (minus_0 a2 a0) (minus_0 a3 a1))
noncomputable def dv1 : Int := cdiff_0 (vinner_0 (minus_0 y a4) (minus_0 z a5) (minus_0 y a4) (minus_0 z a5)) (vinner_0 (minus_0 a0 a4) (minus_0 a1 a5) (minus_0 a0 a4) (minus_0 a1 a5)) d
noncomputable def dv2 : Int := cdiff_0 (vinner_0 (minus_0 y a4) (minus_0 z a5) (minus_0 y a4) (minus_0 z a5)) (vinner_0 (minus_0 a2 a4) (minus_0 a3 a5) (minus_0 a2 a4) (minus_0 a3 a5)) d
noncomputable def dv3 : Int := wcmp_0 (vcross_0 (minus_0 a2 a0) (minus_0 a3 a1) (minus_0 y a0) (minus_0 z a1)) (vcross_0 (minus_0 a2 a0) (minus_0 a3 a1) (minus_0 y a0) (minus_0 z a1)) (IntKind.i64.wrap (d * d)) (vinner_0 (minus_0 a2 a0) (minus_0 a3 a1) (minus_0 a2 a0) (minus_0 a3 a1))
noncomputable def dv4 : Int := wcmp_0 (if vinner_0 (minus_0 y a2) (minus_0 z a3) (minus_0 y a2) (minus_0 z a3) < vinner_0 (minus_0 y a0) (minus_0 z a1) (minus_0 y a0) (minus_0 z a1) then vinner_0 (minus_0 y a2) (minus_0 z a3) (minus_0 y a2) (minus_0 z a3) else vinner_0 (minus_0 y a0) (minus_0 z a1) (minus_0 y a0) (minus_0 z a1)) 1 d d
/-- Is one of the comparisons of that kind? -/
noncomputable def dstC : Bool := bif isB a0 a1 a2 a3 a4 a5 a6 a7 y z then (bif !(C (dv1 a0 a1 a4 a5 y z d)) then C (dv2 a2 a3 a4 a5 y z d) else C (dv1 a0 a1 a4 a5 y z d)) else
  bif isS a0 a1 a2 a3 a6 y z then C (dv3 a0 a1 a2 a3 y z d) else C (dv4 a0 a1 a2 a3 y z d)
end dist
noncomputable def RecOk (op : BinOp) (p q r : String) (L : Bool → Go.Obj) (R : Nat) : Prop := ∃ fn T D, L = recO fn T (asg p) (bdy op q r) D ∧ T.size = 15 ∧ T[6]? = some (.pointer (some ⟨R, 0, none⟩)) ∧ resO = resO
noncomputable def K_y (op : BinOp) (p q r : String) (C : Int → Bool) : List (Nat × Summ) := (1000000, yldS op p q r C) :: K_citem
noncomputable def yM (l R : Nat) (L : Bool → Go.Obj) (k : SB) (a0 a1 a2 a3 a4 a5 a6 : Int) (a7 : Bool) (y z d : Int) : Mem := [(0, .raw l [1] 10 L k), (1, .raw R [] 11 resO (.c false)),
  (2, .blk 34 [(12, I a0), (13, I a1), (14, I a2), (15, I a3), (16, I a4), (17, I a5), (18, I a6), (19, .bool (.v a7))]), (3, .blk 23 [(20, I y), (21, I z)]), (4, .blk 3 [(22, I d)])]
noncomputable def yA : List SV := [.one (.yld 1000000 0), .one (.ptr 2 0), .one (.ptr 3 0), .one (.ptr 4 0)]
/-- THE CLOSURE'S RUN. -/
theorem dist_runs (op : BinOp) (p q r : String) (C : Int → Bool) (l R : Nat) (L : Bool → Go.Obj) (a0 a1 a2 a3 a4 a5 a6 : Int) (a7 : Bool) (y z d : Int) (hL : RecOk op p q r L R) :
    Runs (runF (sums (K_y op p q r C)) L_st 65) yA (yM l R L (.c false) a0 a1 a2 a3 a4 a5 a6 a7 y z d) 30 (.tup []) (yM l R L (.v (dstC C a0 a1 a2 a3 a4 a5 a6 a7 y z d)) a0 a1 a2 a3 a4 a5 a6 a7 y z d) :=
  Runs.of (ps := [isB a0 a1 a2 a3 a4 a5 a6 a7 y z = true → false = false ∧ RecOk op p q r L R ∧ ((!(C (dv1 a0 a1 a4 a5 y z d))) = true → C (dv1 a0 a1 a4 a5 y z d) = false ∧ RecOk op p q r L R),
    isB a0 a1 a2 a3 a4 a5 a6 a7 y z = false → (isS a0 a1 a2 a3 a6 y z = true → false = false ∧ RecOk op p q r L R) ∧ (isS a0 a1 a2 a3 a6 y z = false → false = false ∧ RecOk op p q r L R)])
    (by kernel_rfl) (by kernel_rfl) (by
      intro x hx
      simp only [List.mem_cons, List.not_mem_nil, or_false] at hx
      rcases hx with rfl | rfl
      · exact fun _ => ⟨trivial, hL, fun h => ⟨by simpa using h, hL⟩⟩
      · exact fun _ => ⟨fun _ => ⟨trivial, hL⟩, fun _ => ⟨trivial, hL⟩⟩)
/-! ### The statement -/
noncomputable def opsA (p : String) : Array Oper := #[{ dst := some 3, op := Op.box 34 (Operand.tmp 0), type := 0, pos := p, after := #[], guard := none }, { dst := some 4, op := Op.box 23 (Operand.tmp 1), type := 0, pos := p, after := #[], guard := none }, { dst := some 6, op := Op.alloc 4, type := 0, pos := p, after := #[], guard := none }]
noncomputable def opsB (p : String) : Array Oper := #[{ dst := some 8, op := Op.load 34 (Operand.tmp 3), type := 34, pos := p, after := #[], guard := none }, { dst := some 9, op := Op.load 23 (Operand.tmp 4), type := 23, pos := p, after := #[], guard := none }, { dst := some 10, op := Op.move (Operand.tmp 2), type := 3, pos := p, after := #[], guard := none },
  { dst := some 11, op := Op.call { callee := Callee.value (Operand.func 48), args := #[Operand.tmp 8, Operand.tmp 9, Operand.tmp 10], argTypes := #[34, 23, 3] }, type := 87, pos := p, after := #[{ on := 0, ground := Ground.data }, { on := 1, ground := Ground.data }, { on := 2, ground := Ground.data }], guard := none }]
noncomputable def rgC (op : BinOp) (p0 p q r s : String) : Code := (Code.region 0 (opsA p0) false).seq (((Code.region 1 (opsB p) false).seq (Code.block 0 (Code.rangeFunc (Operand.tmp 11) #[12] (asg p) (bdy op q r)))).seq ((Code.region 5 #[oSt true s] false).seq Code.ret))
noncomputable def ceB := evalC Tryz.prog (sums K_citem) L_st 100 10
theorem ceB_ok : CESound Tryz.prog ceB := evalC_ok plainN known_citem 100 10
section runs
variable (p : String) (a0 a1 a2 a3 a4 a5 a6 : Int) (a7 : Bool) (y z d : Int)
noncomputable def fA : List SV := [.agg [I a0, I a1, I a2, I a3, I a4, I a5, I a6, .bool (.v a7)], .agg [I y, I z], .one (I d)]
noncomputable def env1 : Env := [(6, ent 16 (.one (.ptr 14 0))), (4, ent 13 (.one (.ptr 10 0))), (3, ent 9 (.one (.ptr 0 0))), (2, ent 4 (.one (I d)))]
noncomputable def mem1 : Mem := [(14, .blk 4 [(15, .bool (.c false))]), (10, .blk 23 [(11, I y), (12, I z)]), (0, .blk 34 [(1, I a0), (2, I a1), (3, I a2), (4, I a3), (5, I a4), (6, I a5), (7, I a6), (8, .bool (.v a7))])]
noncomputable def env2 : Env := [(11, ent 41 (.one (.clo 65 38))), (6, ent 16 (.one (.ptr 14 0)))]
noncomputable def mem2 : Mem := [(38, .clo [.one (.ptr 20 0), .one (.ptr 30 0), .one (.ptr 34 0)]), (34, .blk 3 [(35, I d)]), (30, .blk 23 [(31, I y), (32, I z)]),
  (20, .blk 34 [(21, I a0), (22, I a1), (23, I a2), (24, I a3), (25, I a4), (26, I a5), (27, I a6), (28, .bool (.v a7))]),
  (14, .blk 4 [(15, .bool (.c false))]), (10, .blk 23 [(11, I y), (12, I z)]), (0, .blk 34 [(1, I a0), (2, I a1), (3, I a2), (4, I a3), (5, I a4), (6, I a5), (7, I a6), (8, .bool (.v a7))])]
theorem runA : regionC Tryz.prog ceB ⟨mask [2, 3, 4, 6], 15, 40, fun _ => none⟩ (opsA p).toList false (initEnv (fA a0 a1 a2 a3 a4 a5 a6 a7 y z d) 0) [] 0 = some ⟨.leaf .normal (env1 d) (mem1 a0 a1 a2 a3 a4 a5 a6 a7 y z), [], [], 17⟩ := by kernel_rfl
theorem runB : regionC Tryz.prog ceB ⟨mask [6, 11], 15, 40, fun _ => none⟩ (opsB p).toList false (env1 d) (mem1 a0 a1 a2 a3 a4 a5 a6 a7 y z) 17 = some ⟨.leaf .normal env2 (mem2 a0 a1 a2 a3 a4 a5 a6 a7 y z d), [], [], 42⟩ := by kernel_rfl
end runs
theorem rel0 (a0 a1 a2 a3 a4 a5 a6 : Int) (a7 : Bool) (y z d : Int) (w : World) (tm : Array Value) (ht : tm.size = 15) (h : ∀ (i : Nat) (v : SV), (fA a0 a1 a2 a3 a4 a5 a6 a7 y z d)[i]? = some v → tm[i]? = some (v.den Th.none)) :
    Rel 15 0 Th.none (initEnv (fA a0 a1 a2 a3 a4 a5 a6 a7 y z d) 0) [] { tmps := tm, defers := [] } w := by
  refine ⟨ht, rfl, fun t e hl id hid => ?_, fun _ _ h => (by cases h), fun t e hl => ?_, memRel_nil _ _⟩
  · obtain ⟨_, _, _, h4⟩ := initEnv_look hl
    have := idsVs_mem (List.mem_of_getElem? h4) id hid
    simp [fA, idsVs, idsV, idsCs_cons, idsCs_nil, idsC, I] at this
  · obtain ⟨h1, h2, _, h4⟩ := initEnv_look hl
    have h3 := h t e.val (by simpa using h4)
    obtain ⟨g, gx, tag, val⟩ := e
    simp only at h1 h2; subst h1; subst h2
    exact entRel_of h3
theorem run_res {fn : Func} {tmps : Array Value} {R : Nat} {b : Bool} {w : World} (hres : fn.results = #[.cell 6 4]) (h6 : tmps[6]? = some (.pointer (some ⟨R, 0, none⟩))) (hR : w.heap[R]? = some (.cells #[.bool b] 4 (0, 0))) :
    (results fn tmps).run Tryz.prog w = .ok (.bool b) w := by
  have hc : w.cell? ⟨R, 0, none⟩ = some (.bool b) := by simp [World.cell?, hR]
  have hd : tmps.getD 6 undef = .pointer (some ⟨R, 0, none⟩) := by rw [Array.getD_eq_getD_getElem?, h6]; rfl
  unfold results
  rw [hres]
  simp [Sem.run_bind, h6, asAddr, run_loadVar_plain Tryz.underlying4 rfl hc, Result.andThen, Sem.run_pure]
/-- The placement of the closure's objects. -/
noncomputable def phi (l R b1 b2 b3 : Nat) : Th := fun id => match id with
  | 0 => Loc.box l
  | 1 => Loc.box R
  | 2 => Loc.box b1
  | 3 => Loc.box b2
  | 4 => Loc.box b3
  | _ => Loc.none
theorem look_yM {l R : Nat} {L : Bool → Go.Obj} {k : SB} {a0 a1 a2 a3 a4 a5 a6 : Int} {a7 : Bool} {y z d : Int} {id : Nat} {o : SX.Obj} (h : SX.look (yM l R L k a0 a1 a2 a3 a4 a5 a6 a7 y z d) id = some o) :
    (id = 0 ∧ o = .raw l [1] 10 L k) ∨ (id = 1 ∧ o = .raw R [] 11 resO (.c false)) ∨ (id = 2 ∧ o = .blk 34 [(12, I a0), (13, I a1), (14, I a2), (15, I a3), (16, I a4), (17, I a5), (18, I a6), (19, .bool (.v a7))]) ∨ (id = 3 ∧ o = .blk 23 [(20, I y), (21, I z)]) ∨ (id = 4 ∧ o = .blk 3 [(22, I d)]) := by
  unfold yM at h
  rw [SX.look_cons, SX.look_cons, SX.look_cons, SX.look_cons, SX.look_cons, SX.look_nil] at h
  rcases id with _ | _ | _ | _ | _ | id
  · cases h; exact .inl ⟨rfl, rfl⟩
  · cases h; exact .inr (.inl ⟨rfl, rfl⟩)
  · cases h; exact .inr (.inr (.inl ⟨rfl, rfl⟩))
  · cases h; exact .inr (.inr (.inr (.inl ⟨rfl, rfl⟩)))
  · cases h; exact .inr (.inr (.inr (.inr ⟨rfl, rfl⟩)))
  · cases h
/-- THE CLOSURE, CALLED. -/
theorem clo_calls {op : BinOp} {p q r : String} {C : Int → Bool}
    (hop : ∀ (c : Int) (ox oy : Operand) (w : World), (do eqGuard op 3 ox oy (.int .i64 c) (.int .i64 0); Go.binOp op 3 (.int .i64 c) (.int .i64 0) : Sem Value).run Tryz.prog w = .ok (.bool (C c)) w)
    {l R b1 b2 b3 : Nat} {fn : FuncId} {T : Array Value} {D : Nat} (hT : T.size = 15) (hT6 : T[6]? = some (.pointer (some ⟨R, 0, none⟩))) {a0 a1 a2 a3 a4 a5 a6 : Int} {a7 : Bool} {y z d : Int} {w : World}
    (hl : w.heap[l]? = some (recO fn T (asg p) (bdy op q r) D false)) (hR : w.heap[R]? = some (resO false)) (h1 : w.heap[b1]? = some (.cells #[.int .i64 a0, .int .i64 a1, .int .i64 a2, .int .i64 a3, .int .i64 a4, .int .i64 a5, .int .i64 a6, .bool a7] 34 (0, 0)))
    (h2 : w.heap[b2]? = some (.cells #[.int .i64 y, .int .i64 z] 23 (0, 0))) (h3 : w.heap[b3]? = some (.cells #[.int .i64 d] 3 (0, 0))) (hd : [l, R, b1, b2, b3].Nodup) :
    Calls Tryz.prog 65 #[.func (.yield l) #[] #[], .pointer (some ⟨b1, 0, none⟩), .pointer (some ⟨b2, 0, none⟩), .pointer (some ⟨b3, 0, none⟩)] w fun e w' => e = .returned (.tuple #[]) ∧ w'.os = w.os ∧ w'.tape = w.tape ∧ w'.output = w.output ∧ w.heap.size ≤ w'.heap.size ∧
      w'.heap[l]? = some (recO fn T (asg p) (bdy op q r) D (dstC C a0 a1 a2 a3 a4 a5 a6 a7 y z d)) ∧ ∀ b, b < w.heap.size → b ≠ l → w'.heap[b]? = w.heap[b]? := by
  have hm : memRel (phi l R b1 b2 b3) (yM l R (recO fn T (asg p) (bdy op q r) D) (.c false) a0 a1 a2 a3 a4 a5 a6 a7 y z d) w := by
    refine ⟨fun id o h => ?_, fun id id' o o' b h h' hne hb hb' => ?_⟩
    · rcases look_yM h with ⟨rfl, rfl⟩ | ⟨rfl, rfl⟩ | ⟨rfl, rfl⟩ | ⟨rfl, rfl⟩ | ⟨rfl, rfl⟩
      · exact ⟨rfl, hl⟩
      · exact ⟨rfl, hR⟩
      · exact ⟨b1, rfl, h1⟩
      · exact ⟨b2, rfl, h2⟩
      · exact ⟨b3, rfl, h3⟩
    · simp only [List.nodup_cons, List.mem_cons, List.not_mem_nil, or_false, not_or] at hd
      rcases look_yM h with ⟨rfl, rfl⟩ | ⟨rfl, rfl⟩ | ⟨rfl, rfl⟩ | ⟨rfl, rfl⟩ | ⟨rfl, rfl⟩ <;> rcases look_yM h' with ⟨rfl, rfl⟩ | ⟨rfl, rfl⟩ | ⟨rfl, rfl⟩ | ⟨rfl, rfl⟩ | ⟨rfl, rfl⟩ <;>
        simp only [phi, Loc.box, Option.some.injEq] at hb hb' <;> omega
  have hrun := dist_runs op p q r C l R (recO fn T (asg p) (bdy op q r) D) a0 a1 a2 a3 a4 a5 a6 a7 y z d ⟨fn, T, D, rfl, hT, hT6, rfl⟩
  have hc := calls_runs (runF_ok (known_cons known_citem (yldS_ok (op := op) (p := p) (q := q) (r := r) (C := C) (by decide) hop)) 65) hrun (fun id o h => by
    rcases look_yM h with ⟨rfl, rfl⟩ | ⟨rfl, rfl⟩ | ⟨rfl, rfl⟩ | ⟨rfl, rfl⟩ | ⟨rfl, rfl⟩
    · exact ⟨by omega, fun i hi => by simp [idsO] at hi; omega⟩
    · exact ⟨by omega, fun i hi => by simp [idsO] at hi⟩
    · exact ⟨by omega, fun i hi => by simp [idsO, untag_cons, untag_nil, idsCs_cons, idsCs_nil, idsC, I] at hi⟩
    · exact ⟨by omega, fun i hi => by simp [idsO, untag_cons, untag_nil, idsCs_cons, idsCs_nil, idsC, I] at hi⟩
    · exact ⟨by omega, fun i hi => by simp [idsO, untag_cons, untag_nil, idsCs_cons, idsCs_nil, idsC, I] at hi⟩)
    (fun i hi => by simp [yA, idsVs, idsV, idsC] at hi; omega) hm
  refine hc.mono ?_
  rintro e w' ⟨θ', rfl, G, M⟩
  have e0 : θ' 0 = Loc.box l := G.agree 0 (by omega)
  have m0 := M.1 0 _ rfl
  refine ⟨rfl, G.os, G.tape, G.output, G.size, m0.2, fun b hb hne => ?_⟩
  -- a block of the others stands
  have m1 := M.1 1 _ rfl
  have m2 := M.1 2 _ rfl
  have m3 := M.1 3 _ rfl
  have m4 := M.1 4 _ rfl
  have f2 : θ' 2 = Loc.box b1 := G.agree 2 (by omega)
  have f3 : θ' 3 = Loc.box b2 := G.agree 3 (by omega)
  have f4 : θ' 4 = Loc.box b3 := G.agree 4 (by omega)
  by_cases q1 : b = R
  · rw [q1, hR]; exact m1.2
  by_cases q2 : b = b1
  · obtain ⟨x, hx, hh⟩ := m2
    rw [f2] at hx
    have : b1 = x := by injection hx with hx; injection hx
    rw [q2, h1, this]; exact hh
  by_cases q3 : b = b2
  · obtain ⟨x, hx, hh⟩ := m3
    rw [f3] at hx
    have : b2 = x := by injection hx with hx; injection hx
    rw [q3, h2, this]; exact hh
  by_cases q4 : b = b3
  · obtain ⟨x, hx, hh⟩ := m4
    rw [f4] at hx
    have : b3 = x := by injection hx with hx; injection hx
    rw [q4, h3, this]; exact hh
  refine G.heap b hb fun id o h he => ?_
  rcases look_yM h with ⟨rfl, rfl⟩ | ⟨rfl, rfl⟩ | ⟨rfl, rfl⟩ | ⟨rfl, rfl⟩ | ⟨rfl, rfl⟩ <;> simp only [phi, Loc.box, Option.some.injEq] at he <;> omega
/-- FAR AND NEAR. -/
theorem ranged {f : FuncId} {fn : Func} {op : BinOp} {p0 p q r s : String} {C : Int → Bool} (hf : Tryz.prog.funcs[f]? = some fn) (hn : fn.ntmps = 15) (hres : fn.results = #[.cell 6 4]) (hb : fn.body = some (rgC op p0 p q r s))
    (hop : ∀ (c : Int) (ox oy : Operand) (w : World), (do eqGuard op 3 ox oy (.int .i64 c) (.int .i64 0); Go.binOp op 3 (.int .i64 c) (.int .i64 0) : Sem Value).run Tryz.prog w = .ok (.bool (C c)) w)
    (a0 a1 a2 a3 a4 a5 a6 : Int) (a7 : Bool) (y z d : Int) (w : World) :
    Calls Tryz.prog f ((fA a0 a1 a2 a3 a4 a5 a6 a7 y z d).map (SV.den Th.none)).toArray w fun e w' => e = .returned (.bool (!(dstC C a0 a1 a2 a3 a4 a5 a6 a7 y z d))) ∧ Below w.heap.size w w' := by
  refine callsIn_wide.1 (callsIn_of_wp_marks (n := 0) hf hb trivial ?_)
  rw [hn]
  have hR := rel0 a0 a1 a2 a3 a4 a5 a6 a7 y z d w (((fA a0 a1 a2 a3 a4 a5 a6 a7 y z d).map (SV.den Th.none)).toArray ++ Array.replicate (15 - ((fA a0 a1 a2 a3 a4 a5 a6 a7 y z d).map (SV.den Th.none)).toArray.size) undef) (by simp [fA]) (fun i v h => by
    have hlt : i < (fA a0 a1 a2 a3 a4 a5 a6 a7 y z d).length := (List.getElem?_eq_some_iff.1 h).1
    rw [Array.getElem?_append_left (by simpa using hlt)]
    simp [h])
  generalize (((fA a0 a1 a2 a3 a4 a5 a6 a7 y z d).map (SV.den Th.none)).toArray ++ Array.replicate (15 - ((fA a0 a1 a2 a3 a4 a5 a6 a7 y z d).map (SV.den Th.none)).toArray.size) undef) = tm at hR
  refine wpIn_seq (wpIn_wide.2 (wp_mono (((region_ok (cfg := ⟨mask [2, 3, 4, 6], 15, 40, fun _ => none⟩) plainN ceB_ok 0 (opsA p0) false) _ _ _ _ (runA p0 a0 a1 a2 a3 a4 a5 a6 a7 y z d) (by simp)).2 (by simp) _ _ _ hR fun t e hl => (initEnv_look hl).1) ?_))
  rintro x a1' w1 ⟨rfl, θ1, R1, P1, G1⟩
  refine wpIn_seq (wpIn_seq (wpIn_wide.2 (wp_mono (((region_ok (cfg := ⟨mask [6, 11], 15, 40, fun _ => none⟩) plainN ceB_ok 1 (opsB p) false) _ _ _ _ (runB p a0 a1 a2 a3 a4 a5 a6 a7 y z d) (by simp)).2 (by simp) _ _ _ R1 P1) ?_)))
  rintro x A w2 ⟨rfl, θ2, R2, P2, G2⟩
  have G := G1.trans G2 (Nat.zero_le _)
  -- what stands there
  have h11 : A.tmps[11]? = some (.func (.func 65) #[] (θ2 38).caps) := ((R2.env 11 _ rfl).1 (fun p hp => by cases hp)).1
  have h6 : A.tmps[6]? = some (.pointer ((θ2 14).blk.map fun b => ⟨b, 0, .none⟩)) := ((R2.env 6 _ rfl).1 (fun p hp => by cases hp)).1
  have hclo : θ2 38 = Loc.clo #[.pointer ((θ2 20).blk.map fun b => ⟨b, 0, .none⟩), .pointer ((θ2 30).blk.map fun b => ⟨b, 0, .none⟩), .pointer ((θ2 34).blk.map fun b => ⟨b, 0, .none⟩)] := R2.mem.1 38 _ rfl
  have o14 := R2.mem.1 14 _ rfl
  have o20 := R2.mem.1 20 _ rfl
  have o30 := R2.mem.1 30 _ rfl
  have o34 := R2.mem.1 34 _ rfl
  obtain ⟨bR, t14, c14⟩ := o14
  obtain ⟨b1, t20, c20⟩ := o20
  obtain ⟨b2, t30, c30⟩ := o30
  obtain ⟨b3, t34, c34⟩ := o34
  rw [t20, t30, t34] at hclo
  rw [t14] at h6
  rw [hclo] at h11
  have lt : ∀ {b : Nat} {o : Go.Obj}, w2.heap[b]? = some o → b < w2.heap.size := fun h => (Array.getElem?_eq_some_iff.1 h).1
  have ne : ∀ {i j bi bj : Nat} {oi oj : SX.Obj}, SX.look (mem2 a0 a1 a2 a3 a4 a5 a6 a7 y z d) i = some oi → SX.look (mem2 a0 a1 a2 a3 a4 a5 a6 a7 y z d) j = some oj → i ≠ j → θ2 i = Loc.box bi → θ2 j = Loc.box bj → bi ≠ bj := fun hi hj hij ti tj e => R2.mem.2 _ _ _ _ _ hi hj hij (by rw [ti]; rfl) (by rw [tj, e]; rfl)
  have n1 := ne (i := 14) (j := 20) rfl rfl (by decide) t14 t20
  have n2 := ne (i := 14) (j := 30) rfl rfl (by decide) t14 t30
  have n3 := ne (i := 14) (j := 34) rfl rfl (by decide) t14 t34
  have n4 := ne (i := 20) (j := 30) rfl rfl (by decide) t20 t30
  have n5 := ne (i := 20) (j := 34) rfl rfl (by decide) t20 t34
  have n6 := ne (i := 30) (j := 34) rfl rfl (by decide) t30 t34
  have k14 := lt c14
  have k20 := lt c20
  have k30 := lt c30
  have k34 := lt c34
  have newR : w.heap.size ≤ bR := by
    rcases G.blks 14 _ bR rfl (by rw [t14]; rfl) with h | ⟨i, o, h, _⟩
    · exact h
    · cases h
  refine wpIn_block (wpIn_rangeFunc fun fn' _ => ?_)
  obtain ⟨W1, hW1⟩ : ∃ W1, (w2.alloc (.deferred (some []))).alloc (.loop { state := .ready, pending := none, fn := fn', tmps := A.tmps, params := #[12], assign := asg p, body := bdy op q r, defers := w2.heap.size }) = W1 := ⟨_, rfl⟩
  have hs1 : W1.heap.size = w2.heap.size + 2 := by rw [← hW1]; simp
  have hL : W1.heap[w2.heap.size + 1]? = some (recO fn' A.tmps (asg p) (bdy op q r) w2.heap.size false) := by
    rw [← hW1]; have := World.alloc_heap_new (w2.alloc (.deferred (some []))) (.loop { state := .ready, pending := none, fn := fn', tmps := A.tmps, params := #[12], assign := asg p, body := bdy op q r, defers := w2.heap.size }); rwa [World.size_alloc] at this
  have hD : W1.heap[w2.heap.size]? = some (.deferred (some [])) := by
    rw [← hW1]; exact (Below.heap_alloc _ _ _ (by simp)).trans (World.alloc_heap_new w2 _)
  have hO : ∀ b, b < w2.heap.size → W1.heap[b]? = w2.heap[b]? := fun b hb => by
    rw [← hW1]; exact (Below.heap_alloc _ _ _ (by simp; omega)).trans (Below.heap_alloc _ _ _ hb)
  have hww : W1.os = w2.os ∧ W1.tape = w2.tape ∧ W1.output = w2.output := by rw [← hW1]; exact ⟨rfl, rfl, rfl⟩
  refine ⟨w2.heap.size + 1, [{ target := .collected w2.heap.size, args := #[] }], W1, { target := .fn (.func 65) #[.pointer (some ⟨b1, 0, none⟩), .pointer (some ⟨b2, 0, none⟩), .pointer (some ⟨b3, 0, none⟩)], args := #[.func (.yield (w2.heap.size + 1)) #[] #[]] }, W1, 65,
    #[.func (.yield (w2.heap.size + 1)) #[] #[], .pointer (some ⟨b1, 0, none⟩), .pointer (some ⟨b2, 0, none⟩), .pointer (some ⟨b3, 0, none⟩)], W1, ?_, ?_, fun _ _ => trivial, ?_, fun h => (by cases h), callsIn_wide.2 ((clo_calls hop R2.size h6 hL ((hO bR k14).trans c14) ((hO b1 k20).trans c20) ((hO b2 k30).trans c30) ((hO b3 k34).trans c34) ?_).mono ?_)⟩
  · rw [← hW1]; exact run_enterLoop_outer _ _ _ _ _
  · have e11 : A.eval (.tmp 11) = .func (.func 65) #[] #[.pointer (some ⟨b1, 0, none⟩), .pointer (some ⟨b2, 0, none⟩), .pointer (some ⟨b3, 0, none⟩)] := by simp [Act.eval, h11, Loc.clo, Loc.box]
    simp only [resolve, e11, Deferred.ofValue]
    simp [Sem.run_pure, Act.eval]
  · exact run_callFunc plainN (fn := Tryz.f65) Tryz.func65 rfl _ _
  · simp only [List.nodup_cons, List.mem_cons, List.not_mem_nil, or_false, not_or, List.nodup_nil, and_true, not_false_eq_true]
    omega
  · rintro e w3 ⟨rfl, g1, g2, g3, g4, g5, g6⟩
    have hne : w2.heap.size ≠ w2.heap.size + 1 := by omega
    have hD3 : w3.heap[w2.heap.size]? = some (.deferred (some [])) := (g6 _ (by omega) hne).trans hD
    have hR3 : w3.heap[bR]? = some (resO false) := (g6 bR (by omega) (by omega)).trans ((hO bR k14).trans c14)
    have hold : ∀ b, b < w.heap.size → w3.heap[b]? = w.heap[b]? := fun b hb => by
      have hb2 : b < w2.heap.size := Nat.lt_of_lt_of_le hb G.size
      rw [g6 b (by omega) (by omega), hO b hb2]
      exact G.heap b hb fun _ _ h => by cases h
    have fin : ∀ (w4 : World) (bb : Bool), w4.os = w3.os → w4.tape = w3.tape → w4.output = w3.output → w4.heap.size = w3.heap.size → w4.heap[w2.heap.size]? = some (.deferred (some [])) → w4.heap[bR]? = some (.cells #[.bool bb] 4 (0, 0)) → (∀ b, b < w.heap.size → w4.heap[b]? = w3.heap[b]?) →
        bb = !(dstC C a0 a1 a2 a3 a4 a5 a6 a7 y z d) →
        LeavesInM Fence.wide 0 Tryz.prog fn A.tmps (fun e w' => e = .returned (.bool (!(dstC C a0 a1 a2 a3 a4 a5 a6 a7 y z d))) ∧ Below w.heap.size w w') ({ target := .collected w2.heap.size, args := #[] } :: A.defers) .returning w4 := by
      intro w4 bb q1 q2 q3 q4 q5 q6 q7 q8
      rw [R2.defers]
      refine ⟨by simp, .inl ⟨w2.heap.size, _, rfl, run_takeDeferred q5, .bool bb, run_res hres h6 ?_, by rw [q8], ?_⟩⟩
      · rw [World.putObj_heap_other (by omega)]; exact q6
      · have := G.size
        refine ⟨(show w4.os = _ from q1).trans (g1.trans (hww.1.trans G.os)), (show w4.tape = _ from q2).trans (g2.trans (hww.2.1.trans G.tape)), (show w4.output = _ from q3).trans (g3.trans (hww.2.2.trans G.output)), by rw [World.putObj_size]; omega, fun b hb => ?_⟩
        rw [World.putObj_heap_other (by omega), q7 b hb, hold b hb]
    have g5 : w3.heap[w2.heap.size + 1]? = some (recO fn' A.tmps (asg p) (bdy op q r) w2.heap.size (dstC C a0 a1 a2 a3 a4 a5 a6 a7 y z d)) := g5
    have hlt3 : w2.heap.size + 1 < w3.heap.size := (Array.getElem?_eq_some_iff.1 g5).1
    cases hk : dstC C a0 a1 a2 a3 a4 a5 a6 a7 y z d
    · rw [hk] at g5 fin
      refine ⟨none, _, run_endLoop g5 (by simp), ?_⟩
      obtain ⟨w4, hw4⟩ : ∃ w4, w4 = w3.putObj (w2.heap.size + 1) (.loop { state := .exhausted, pending := none, fn := fn', tmps := A.tmps, params := #[12], assign := asg p, body := bdy op q r, defers := w2.heap.size }) := ⟨_, rfl⟩
      show ((Code.region 5 #[oSt true s] false).seq Code.ret).wpIn Fence.wide 0 Tryz.prog (bodyPostM Fence.wide 0 Tryz.prog fn _) { A with defers := [{ target := .collected w2.heap.size, args := #[] }] ++ A.defers } (w3.putObj (w2.heap.size + 1) (.loop { state := .exhausted, pending := none, fn := fn', tmps := A.tmps, params := #[12], assign := asg p, body := bdy op q r, defers := w2.heap.size }))
      rw [← hw4]
      have o4 : ∀ b, b ≠ w2.heap.size + 1 → w4.heap[b]? = w3.heap[b]? := fun b hb => by rw [hw4]; exact World.putObj_heap_other hb
      have s4 : w4.heap.size = w3.heap.size := by rw [hw4]; simp
      have w4w : w4.os = w3.os ∧ w4.tape = w3.tape ∧ w4.output = w3.output := by rw [hw4]; exact ⟨rfl, rfl, rfl⟩
      have hR4 : w4.heap[bR]? = some (.cells #[.bool false] 4 (0, 0)) := (o4 bR (by omega)).trans hR3
      have hst := run_storeCells_at Tryz.prog bR 0 4 [.bool true] 0 #[.bool false] w4 hR4 (by simp) (by intro v hv; simp at hv; subst hv; rfl)
      have e6' : ({ A with defers := [{ target := .collected w2.heap.size, args := #[] }] ++ A.defers } : Act).eval (.tmp 6) = .pointer (some ⟨bR, 0, none⟩) := by simp [Act.eval, h6, Loc.box]
      refine wpIn_seq (wpIn_region (ops_go (o := oSt true s) (i := 0) (rest := []) rfl rfl (in_skip (w' := w4.setRow bR #[.bool true]) (fun _ => trivial) (by simp) ?_ (wpIn_ret ?_))))
      · unfold execOp
        refine SX.run_u ?_
        simp only [Instr.storeAt, e6', Instr.sureAddr, Sem.run_bind, Sem.run_pure, Result.andThen_ok, storeVar]
        rw [Tryz.sizeOf4]
        exact hst
      · refine fin _ true w4w.1 w4w.2.1 w4w.2.2 (by simpa [World.setRow] using s4) ?_ (setRow_heap w4 bR _ _ 4 _ hR4) (fun b hb => ?_) rfl
        · have : bR ≠ w2.heap.size := by omega
          have e : (w4.setRow bR #[.bool true]).heap[w2.heap.size]? = w4.heap[w2.heap.size]? := by simp [World.setRow, Array.getElem?_modify, this]
          rw [e, o4 _ hne]; exact hD3
        · have : bR ≠ b := by omega
          have e : (w4.setRow bR #[.bool true]).heap[b]? = w4.heap[b]? := by simp [World.setRow, Array.getElem?_modify, this]
          have := G.size
          rw [e, o4 b (by omega)]
    · rw [hk] at g5 fin
      refine ⟨some .ret, _, run_endLoop g5 (by simp), wpIn_ret ?_⟩
      refine fin _ false rfl rfl rfl (by simp) ?_ ?_ (fun b hb => ?_) rfl
      · rw [World.putObj_heap_other hne]; exact hD3
      · rw [World.putObj_heap_other (by omega)]; exact hR3
      · have := G.size
        rw [World.putObj_heap_other (by omega)]
theorem op_lss (c : Int) (ox oy : Operand) (w : World) : (do eqGuard BinOp.lss 3 ox oy (.int .i64 c) (.int .i64 0); Go.binOp BinOp.lss 3 (.int .i64 c) (.int .i64 0) : Sem Value).run Tryz.prog w = .ok (.bool (decide (c < 0))) w := by
  simp [eqGuard, Go.binOp, Op.intCmp, Sem.run_bind, Sem.run_pure, Result.andThen]
theorem op_gtr (c : Int) (ox oy : Operand) (w : World) : (do eqGuard BinOp.gtr 3 ox oy (.int .i64 c) (.int .i64 0); Go.binOp BinOp.gtr 3 (.int .i64 c) (.int .i64 0) : Sem Value).run Tryz.prog w = .ok (.bool (decide (c > 0))) w := by
  simp [eqGuard, Go.binOp, Op.intCmp, Sem.run_bind, Sem.run_pure, Result.andThen]
/-- The summary of the two. -/
noncomputable def rgS (C : Int → Bool) : Summ := fun vs mem n => match vs, mem with
  | [.agg [.int .i64 a0, .int .i64 a1, .int .i64 a2, .int .i64 a3, .int .i64 a4, .int .i64 a5, .int .i64 a6, .bool a7], .agg [.int .i64 y, .int .i64 z], .one (.int .i64 d)], [] =>
    some ⟨.one (.bool (.v (!(dstC C a0.val a1.val a2.val a3.val a4.val a5.val a6.val a7.val y.val z.val d.val)))), [], [], [], n⟩
  | _, _ => none
theorem rgS_ok {f : FuncId} {fn : Func} {op : BinOp} {p0 p q r s : String} {C : Int → Bool} (hlt : f < 1000000) (hf : Tryz.prog.funcs[f]? = some fn) (hn : fn.ntmps = 15) (hres : fn.results = #[.cell 6 4]) (hb : fn.body = some (rgC op p0 p q r s))
    (hop : ∀ (c : Int) (ox oy : Operand) (w : World), (do eqGuard op 3 ox oy (.int .i64 c) (.int .i64 0); Go.binOp op 3 (.int .i64 c) (.int .i64 0) : Sem Value).run Tryz.prog w = .ok (.bool (C c)) w) : FOk Tryz.prog f (rgS C) := by
  intro vs mem n x h hnd he hwf hids θ w hm
  refine ⟨fun _ => ⟨fn, hf, by rw [hb]; rfl⟩, .of hlt ?_⟩
  unfold rgS at h
  split at h
  · cases h
    refine (ranged hf hn hres hb hop _ _ _ _ _ _ _ _ _ _ _ w).mono ?_
    rintro e w' ⟨rfl, B⟩
    exact ⟨θ, rfl, ⟨Agree.refl _ _, B.os, B.tape, B.output, B.size, fun b hb _ => B.block b hb, (fun _ _ _ h => by cases h), (fun _ _ _ h => by cases h)⟩, memRel_nil _ _⟩
  · cases h
noncomputable def Cl (c : Int) : Bool := decide (c < 0)
noncomputable def K_far : List (Nat × Summ) := (27, rgS Cl) :: K_citem
theorem known_far : Known Tryz.prog (sums K_far) L_st :=
  known_cons known_citem (rgS_ok (f := 27) (p0 := "clearance.go:61") (p := "clearance.go:62") (q := "clearance.go:63") (r := "clearance.go:64") (s := "clearance.go:67") (by decide) Tryz.func27 rfl rfl rfl op_lss)
end Go.Proofs.YthgiaoidekdpfaaGreat
