/-
  THE TAPE, and what is made of it. Conditions: none.
-/
import Derived.Test.YtmbfbhimdkjkoaaV10
set_option linter.all false
namespace Go.Proofs.Ytmbfbhimdkjkoaa
open Go.SX Go.RowKit
noncomputable def add_tpl : Tpl := ⟨[.agg [.int .i64, .int .i64, .int .i64], .agg [.int .i64, .int .i64, .int .i64]], [], 0⟩
set_option maxRecDepth 1000000 in
theorem add_runs (a b c d e f : Int) : Runs (runF (sums K_fnew) L_rel 31) (add_tpl.args [.i a, .i b, .i c, .i d, .i e, .i f]) (add_tpl.memo [.i a, .i b, .i c, .i d, .i e, .i f] []) add_tpl.n (SV.agg [SC.int IntKind.i64 (SI.v (addpt_0 a d)), SC.int IntKind.i64 (SI.v (addpt_0 b e)), SC.int IntKind.i64 (SI.v (addpt_0 c f))])
    ([]) :=
  Runs.of1 (ps := []) (by kernel_rfl) (by simp)
noncomputable def add_out : List Pm → Lss → Option CRes
  | [.i a, .i b, .i c, .i d, .i e, .i f], [] => some ⟨SV.agg [SC.int IntKind.i64 (SI.v (addpt_0 a d)), SC.int IntKind.i64 (SI.v (addpt_0 b e)), SC.int IntKind.i64 (SI.v (addpt_0 c f))],
    [],
    [], [], 35⟩
  | _, _ => none
theorem add_ok : FOk Try.prog 31 (tplS add_tpl add_out) := by
  refine tplS_ok (runF_ok known_fnew 31) fun ps ls r hr hn _ => ?_
  unfold add_out at hr
  split at hr
  · cases hr; exact ⟨_, add_runs _ _ _ _ _ _, fun _ => rfl⟩
  · cases hr
noncomputable def K_add : List (Nat × Summ) := (31, tplS add_tpl add_out) :: K_fnew
theorem known_add : Known Try.prog (sums K_add) L_rel := known_cons known_fnew add_ok
noncomputable def sub_tpl : Tpl := ⟨[.agg [.int .i64, .int .i64, .int .i64], .agg [.int .i64, .int .i64, .int .i64]], [], 0⟩
set_option maxRecDepth 1000000 in
theorem sub_runs (a b c d e f : Int) : Runs (runF (sums K_add) L_rel 16) (sub_tpl.args [.i a, .i b, .i c, .i d, .i e, .i f]) (sub_tpl.memo [.i a, .i b, .i c, .i d, .i e, .i f] []) sub_tpl.n (SV.agg [SC.int IntKind.i64 (SI.v (minus_0 a d)), SC.int IntKind.i64 (SI.v (minus_0 b e)), SC.int IntKind.i64 (SI.v (minus_0 c f))])
    ([]) :=
  Runs.of1 (ps := []) (by kernel_rfl) (by simp)
noncomputable def sub_out : List Pm → Lss → Option CRes
  | [.i a, .i b, .i c, .i d, .i e, .i f], [] => some ⟨SV.agg [SC.int IntKind.i64 (SI.v (minus_0 a d)), SC.int IntKind.i64 (SI.v (minus_0 b e)), SC.int IntKind.i64 (SI.v (minus_0 c f))],
    [],
    [], [], 35⟩
  | _, _ => none
theorem sub_ok : FOk Try.prog 16 (tplS sub_tpl sub_out) := by
  refine tplS_ok (runF_ok known_add 16) fun ps ls r hr hn _ => ?_
  unfold sub_out at hr
  split at hr
  · cases hr; exact ⟨_, sub_runs _ _ _ _ _ _, fun _ => rfl⟩
  · cases hr
noncomputable def K_sub : List (Nat × Summ) := (16, tplS sub_tpl sub_out) :: K_add
theorem known_sub : Known Try.prog (sums K_sub) L_rel := known_cons known_add sub_ok
noncomputable def light_tpl : Tpl := ⟨[.one (.wh 0)], [(0, .row true 3 1 1 [.int .i64])], 2⟩
noncomputable def light_0 (L : List (List Int)) : Bool :=
  decide (Int.ofNat L.length ≤ 120)
set_option maxRecDepth 1000000 in
theorem light_runs (L : List (List Int)) : Runs (runF (sums K_sub) L_rel 9) (light_tpl.args []) (light_tpl.memo [] [L]) light_tpl.n (SV.one (SC.bool (SB.v (light_0 L))))
    ([(0, Obj.row true 3 1 (RowC.lst 1 [CK.int IntKind.i64] L))]) :=
  Runs.of1 (ps := []) (by kernel_rfl) (by simp)
noncomputable def light_out : List Pm → Lss → Option CRes
  | [], [L] => some ⟨SV.one (SC.bool (SB.v (light_0 L))),
    [(0, Obj.row true 3 1 (RowC.lst 1 [CK.int IntKind.i64] L))],
    [], [], 7⟩
  | _, _ => none
theorem light_ok : FOk Try.prog 9 (tplS light_tpl light_out) := by
  refine tplS_ok (runF_ok known_sub 9) fun ps ls r hr hn _ => ?_
  unfold light_out at hr
  split at hr
  · cases hr; exact ⟨_, light_runs _, fun _ => rfl⟩
  · cases hr
noncomputable def K_light : List (Nat × Summ) := (9, tplS light_tpl light_out) :: K_sub
theorem known_light : Known Try.prog (sums K_light) L_rel := known_cons known_sub light_ok
noncomputable def new_tpl : Tpl := ⟨[.one (.wh 0)], [(0, .row true 3 1 1 [.int .i64])], 2⟩
set_option maxRecDepth 1000000 in
theorem new_runs (L : List (List Int)) : Runs (runF (sums K_light) L_rel 12) (new_tpl.args []) (new_tpl.memo [] [L]) new_tpl.n (SV.one (SC.ptr 5 0))
    ([(5, Obj.blk 62 [(6, SC.wh 0), (7, SC.int IntKind.i64 (SI.c 0))]), (0, Obj.row true 3 1 (RowC.lst 1 [CK.int IntKind.i64] L))]) :=
  Runs.of1 (ps := []) (by kernel_rfl) (by simp)
noncomputable def new_out : List Pm → Lss → Option CRes
  | [], [L] => some ⟨SV.one (SC.ptr 5 0),
    [(5, Obj.blk 62 [(6, SC.wh 0), (7, SC.int IntKind.i64 (SI.c 0))]), (0, Obj.row true 3 1 (RowC.lst 1 [CK.int IntKind.i64] L))],
    [], [], 10⟩
  | _, _ => none
theorem new_ok : FOk Try.prog 12 (tplS new_tpl new_out) := by
  refine tplS_ok (runF_ok known_light 12) fun ps ls r hr hn _ => ?_
  unfold new_out at hr
  split at hr
  · cases hr; exact ⟨_, new_runs _, fun _ => rfl⟩
  · cases hr
noncomputable def K_new : List (Nat × Summ) := (12, tplS new_tpl new_out) :: K_light
theorem known_new : Known Try.prog (sums K_new) L_rel := known_cons known_light new_ok
noncomputable def next_tpl : Tpl := ⟨[.one (.ptr 0 0), .one (.int .i64)], [(0, .blk 62 [(2, .wh 1), (3, .int .i64)]), (1, .row true 3 1 4 [.int .i64])], 5⟩
noncomputable def next_0 (n : Int) (a : Int) (L : List (List Int)) : Int :=
  bif decide (a ≥ Int.ofNat L.length) then 0 else mod_0 ((L.getD (IntKind.i64.wrap (IntKind.i64.wrap (a + 1) - 1)).toNat []).getD 0 0) n
noncomputable def next_1 (a : Int) (L : List (List Int)) : Int :=
  bif decide (a ≥ Int.ofNat L.length) then a else IntKind.i64.wrap (a + 1)
noncomputable def next_s0 (a : Int) : Int :=
  IntKind.i64.wrap (IntKind.i64.wrap (a + 1) - 1)
noncomputable def next_needs (n : Int) (a : Int) (L : List (List Int)) : List Prop :=
  [decide (a ≥ Int.ofNat L.length) = false → 0 ≤ next_s0 a ∧ (next_s0 a).toNat < L.length ∧ (next_s0 a).toNat < L.length ∧ n ≠ 0]
theorem next_1_nn (a : Int) (L : List (List Int)) (h : 0 ≤ a) (hl : L.length ≤ 1000000) : 0 ≤ next_1 a L := by
  unfold next_1
  cases hd : decide (a ≥ Int.ofNat L.length)
  · have h4 : a < (L.length : Int) := by simpa using hd
    rw [cond_false, wrI (by omega) (by omega)]
    omega
  · exact h
theorem next_0_range (n a : Int) (L : List (List Int)) (h : 1 ≤ n) (hb : n ≤ 4611686018427387904) : 0 ≤ next_0 n a L ∧ next_0 n a L < n := by
  unfold next_0
  cases decide (a ≥ Int.ofNat L.length)
  · exact mod_rng _ _ h hb
  · simp only [cond_true]; omega
theorem next_weak {n : Int} {a : Int} {L : List (List Int)} (hW : ∀ q ∈ ([0 ≤ a, L.length ≤ 1000000, n ≠ 0] : List Prop), q) : ∀ q ∈ (next_needs n a L), q := by
  simp only [List.mem_cons, List.not_mem_nil, or_false, forall_eq_or_imp, forall_eq] at hW
  intro q hq
  unfold next_needs at hq
  simp only [List.mem_cons, List.not_mem_nil, or_false] at hq
  obtain ⟨h1, h2, h3⟩ := hW
  subst hq
  intro h
  have h4 : a < (L.length : Int) := by simpa using h
  have e : next_s0 a = a := by unfold next_s0; rw [wrI (x := a + 1) (by omega) (by omega), wrI (by omega) (by omega)]; omega
  rw [e]
  exact ⟨h1, by omega, by omega, h3⟩
set_option maxRecDepth 1000000 in
theorem next_runs (n a : Int) (L : List (List Int)) (hNeeds : ∀ pN ∈ (next_needs n a L), pN) : Runs (runF (sums K_new) L_rel 28) (next_tpl.args [.i n, .i a]) (next_tpl.memo [.i n, .i a] [L]) next_tpl.n (SV.one (SC.int IntKind.i64 (SI.v (next_0 n a L))))
    ([(0, Obj.blk 62 [(2, SC.wh 1), (54, SC.int IntKind.i64 (SI.v (next_1 a L)))]), (1, Obj.row true 3 1 (RowC.lst 4 [CK.int IntKind.i64] L))]) :=
  Runs.of1 (ps := (next_needs n a L)) (by kernel_rfl) hNeeds
noncomputable def next_out : List Pm → Lss → Option CRes
  | [.i n, .i a], [L] => some ⟨SV.one (SC.int IntKind.i64 (SI.v (next_0 n a L))),
    [(0, Obj.blk 62 [(2, SC.wh 1), (54, SC.int IntKind.i64 (SI.v (next_1 a L)))]), (1, Obj.row true 3 1 (RowC.lst 4 [CK.int IntKind.i64] L))],
    [0 ≤ a, L.length ≤ 1000000, n ≠ 0], [], 55⟩
  | _, _ => none
theorem next_ok : FOk Try.prog 28 (tplS next_tpl next_out) := by
  refine tplS_ok (runF_ok known_new 28) fun ps ls r hr hn _ => ?_
  unfold next_out at hr
  split at hr
  · cases hr; exact ⟨_, next_runs _ _ _ (next_weak (by exact hn)), fun _ => rfl⟩
  · cases hr
noncomputable def K_next : List (Nat × Summ) := (28, tplS next_tpl next_out) :: K_new
theorem known_next : Known Try.prog (sums K_next) L_rel := known_cons known_new next_ok
noncomputable def range_tpl : Tpl := ⟨[.one (.ptr 0 0), .one (.int .i64), .one (.int .i64)], [(0, .blk 62 [(2, .wh 1), (3, .int .i64)]), (1, .row true 3 1 4 [.int .i64])], 5⟩
noncomputable def range_0 (n : Int) (m : Int) (a : Int) (L : List (List Int)) : Int :=
  IntKind.i64.wrap (n + next_0 (IntKind.i64.wrap (IntKind.i64.wrap (m - n) + 1)) a L)
noncomputable def range_needs (n : Int) (m : Int) (a : Int) (L : List (List Int)) : List Prop :=
  [0 ≤ a, L.length ≤ 1000000, IntKind.i64.wrap (IntKind.i64.wrap (m - n) + 1) ≠ 0]
theorem range_0_rng (n m a : Int) (L : List (List Int)) (h : n ≤ m) (h1 : -1000000 ≤ n) (h2 : m ≤ 1000000) : n ≤ (range_0 n m a L) ∧ (range_0 n m a L) ≤ m := by
  have e : IntKind.i64.wrap (IntKind.i64.wrap (m - n) + 1) = m - n + 1 := by rw [wrI (x := m - n) (by omega) (by omega), wrI (by omega) (by omega)]
  have k := next_0_range (m - n + 1) a L (by omega) (by omega)
  unfold range_0
  rw [e, wrI (by omega) (by omega)]
  omega
theorem range_weak {n : Int} {m : Int} {a : Int} {L : List (List Int)} (hW : ∀ q ∈ ([0 ≤ a, L.length ≤ 1000000, n ≤ m ∧ -1000000 ≤ n ∧ m ≤ 1000000] : List Prop), q) : ∀ q ∈ (range_needs n m a L), q := by
  simp only [List.mem_cons, List.not_mem_nil, or_false, forall_eq_or_imp, forall_eq] at hW
  intro q hq
  unfold range_needs at hq
  simp only [List.mem_cons, List.not_mem_nil, or_false] at hq
  obtain ⟨h1, h2, h3⟩ := hW
  have e : IntKind.i64.wrap (IntKind.i64.wrap (m - n) + 1) = m - n + 1 := by rw [wrI (x := m - n) (by omega) (by omega), wrI (by omega) (by omega)]
  rcases hq with rfl | rfl | rfl
  · exact h1
  · exact h2
  · rw [e]; omega
set_option maxRecDepth 1000000 in
theorem range_runs (n m a : Int) (L : List (List Int)) (hNeeds : ∀ pN ∈ (range_needs n m a L), pN) : Runs (runF (sums K_next) L_rel 29) (range_tpl.args [.i n, .i m, .i a]) (range_tpl.memo [.i n, .i m, .i a] [L]) range_tpl.n (SV.one (SC.int IntKind.i64 (SI.v (range_0 n m a L))))
    ([(0, Obj.blk 62 [(2, SC.wh 1), (66, SC.int IntKind.i64 (SI.v (next_1 a L)))]), (1, Obj.row true 3 1 (RowC.lst 4 [CK.int IntKind.i64] L))]) :=
  Runs.of1 (ps := (range_needs n m a L)) (by kernel_rfl) hNeeds
noncomputable def range_out : List Pm → Lss → Option CRes
  | [.i n, .i m, .i a], [L] => some ⟨SV.one (SC.int IntKind.i64 (SI.v (range_0 n m a L))),
    [(0, Obj.blk 62 [(2, SC.wh 1), (66, SC.int IntKind.i64 (SI.v (next_1 a L)))]), (1, Obj.row true 3 1 (RowC.lst 4 [CK.int IntKind.i64] L))],
    [0 ≤ a, L.length ≤ 1000000, n ≤ m ∧ -1000000 ≤ n ∧ m ≤ 1000000], [], 70⟩
  | _, _ => none
theorem range_ok : FOk Try.prog 29 (tplS range_tpl range_out) := by
  refine tplS_ok (runF_ok known_next 29) fun ps ls r hr hn _ => ?_
  unfold range_out at hr
  split at hr
  · cases hr; exact ⟨_, range_runs _ _ _ _ (range_weak (by exact hn)), fun _ => rfl⟩
  · cases hr
noncomputable def K_range : List (Nat × Summ) := (29, tplS range_tpl range_out) :: K_next
theorem known_range : Known Try.prog (sums K_range) L_rel := known_cons known_next range_ok
noncomputable def svec_tpl : Tpl := ⟨[.one (.ptr 0 0), .one (.int .i64)], [(0, .blk 62 [(2, .wh 1), (3, .int .i64)]), (1, .row true 3 1 4 [.int .i64])], 5⟩
noncomputable def svec_0 (n : Int) (a : Int) (L : List (List Int)) : Int :=
  range_0 (IntKind.i64.wrap (0 - n)) n a L
noncomputable def svec_1 (n : Int) (a : Int) (L : List (List Int)) : Int :=
  range_0 (IntKind.i64.wrap (0 - n)) n (next_1 a L) L
noncomputable def svec_2 (n : Int) (a : Int) (L : List (List Int)) : Int :=
  range_0 (IntKind.i64.wrap (0 - n)) n (next_1 (next_1 a L) L) L
noncomputable def svec_needs (n : Int) (a : Int) (L : List (List Int)) : List Prop :=
  [0 ≤ a, L.length ≤ 1000000, IntKind.i64.wrap (0 - n) ≤ n ∧ -1000000 ≤ IntKind.i64.wrap (0 - n) ∧ n ≤ 1000000, 0 ≤ next_1 a L, L.length ≤ 1000000,
    IntKind.i64.wrap (0 - n) ≤ n ∧ -1000000 ≤ IntKind.i64.wrap (0 - n) ∧ n ≤ 1000000, 0 ≤ next_1 (next_1 a L) L, L.length ≤ 1000000,
    IntKind.i64.wrap (0 - n) ≤ n ∧ -1000000 ≤ IntKind.i64.wrap (0 - n) ∧ n ≤ 1000000]
theorem svec_weak {n : Int} {a : Int} {L : List (List Int)} (hW : ∀ q ∈ ([0 ≤ a, L.length ≤ 1000000, 0 ≤ n ∧ n ≤ 1000000] : List Prop), q) : ∀ q ∈ (svec_needs n a L), q := by
  simp only [List.mem_cons, List.not_mem_nil, or_false, forall_eq_or_imp, forall_eq] at hW
  intro q hq
  unfold svec_needs at hq
  simp only [List.mem_cons, List.not_mem_nil, or_false] at hq
  obtain ⟨h1, h2, h3⟩ := hW
  have nn : ∀ x, 0 ≤ x → 0 ≤ next_1 x L := fun x h => next_1_nn x L h h2
  have e : IntKind.i64.wrap (0 - n) = 0 - n := wrI (by omega) (by omega)
  rw [e] at hq
  rcases hq with rfl | rfl | rfl | rfl | rfl | rfl | rfl | rfl | rfl
  · exact h1
  · exact h2
  · omega
  · exact nn _ h1
  · exact h2
  · omega
  · exact nn _ (nn _ h1)
  · exact h2
  · omega
set_option maxRecDepth 1000000 in
theorem svec_runs (n a : Int) (L : List (List Int)) (hNeeds : ∀ pN ∈ (svec_needs n a L), pN) : Runs (runF (sums K_range) L_rel 30) (svec_tpl.args [.i n, .i a]) (svec_tpl.memo [.i n, .i a] [L]) svec_tpl.n (SV.agg [SC.int IntKind.i64 (SI.v (svec_0 n a L)), SC.int IntKind.i64 (SI.v (svec_1 n a L)), SC.int IntKind.i64 (SI.v (svec_2 n a L))])
    ([(0, Obj.blk 62 [(2, SC.wh 1), (234, SC.int IntKind.i64 (SI.v (next_1 (next_1 (next_1 a L) L) L)))]), (1, Obj.row true 3 1 (RowC.lst 4 [CK.int IntKind.i64] L))]) :=
  Runs.of1 (ps := (svec_needs n a L)) (by kernel_rfl) hNeeds
noncomputable def svec_out : List Pm → Lss → Option CRes
  | [.i n, .i a], [L] => some ⟨SV.agg [SC.int IntKind.i64 (SI.v (svec_0 n a L)), SC.int IntKind.i64 (SI.v (svec_1 n a L)), SC.int IntKind.i64 (SI.v (svec_2 n a L))],
    [(0, Obj.blk 62 [(2, SC.wh 1), (234, SC.int IntKind.i64 (SI.v (next_1 (next_1 (next_1 a L) L) L)))]), (1, Obj.row true 3 1 (RowC.lst 4 [CK.int IntKind.i64] L))],
    [0 ≤ a, L.length ≤ 1000000, 0 ≤ n ∧ n ≤ 1000000], [], 244⟩
  | _, _ => none
theorem svec_ok : FOk Try.prog 30 (tplS svec_tpl svec_out) := by
  refine tplS_ok (runF_ok known_range 30) fun ps ls r hr hn _ => ?_
  unfold svec_out at hr
  split at hr
  · cases hr; exact ⟨_, svec_runs _ _ _ (svec_weak (by exact hn)), fun _ => rfl⟩
  · cases hr
noncomputable def K_svec : List (Nat × Summ) := (30, tplS svec_tpl svec_out) :: K_range
theorem known_svec : Known Try.prog (sums K_svec) L_rel := known_cons known_range svec_ok
end Go.Proofs.Ytmbfbhimdkjkoaa
