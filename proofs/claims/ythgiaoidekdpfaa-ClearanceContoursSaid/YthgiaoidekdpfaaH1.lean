/-
  THE TAPE: vectors. Conditions: none.
-/
import Derived.Test.YthgiaoidekdpfaaG1
import Derived.Test.YthgiaoidekdpfaaW7
set_option linter.all false
namespace Go.Proofs.Ythgiaoidekdpfaa
open Go.SX Go.RowKit
noncomputable def add_tpl : Tpl := ⟨[.agg [.int .i64, .int .i64, .int .i64], .agg [.int .i64, .int .i64, .int .i64]], [], 0⟩
set_option maxRecDepth 1000000 in
theorem add_runs (a b c d e f : Int) : Runs (runF (sums K_elem) L_mul 57) (add_tpl.args [.i a, .i b, .i c, .i d, .i e, .i f]) (add_tpl.memo [.i a, .i b, .i c, .i d, .i e, .i f] []) add_tpl.n (SV.agg [SC.int IntKind.i64 (SI.v (addpt_0 a d)), SC.int IntKind.i64 (SI.v (addpt_0 b e)), SC.int IntKind.i64 (SI.v (addpt_0 c f))])
    ([]) :=
  Runs.of1 (ps := []) (by kernel_rfl) (by simp)
noncomputable def add_out : List Pm → Lss → Option CRes
  | [.i a, .i b, .i c, .i d, .i e, .i f], [] => some ⟨SV.agg [SC.int IntKind.i64 (SI.v (addpt_0 a d)), SC.int IntKind.i64 (SI.v (addpt_0 b e)), SC.int IntKind.i64 (SI.v (addpt_0 c f))],
    [],
    [], [], 35⟩
  | _, _ => none
theorem add_ok : FOk Try.prog 57 (tplS add_tpl add_out) := by
  refine tplS_ok (runF_ok known_elem 57) fun ps ls r hr hn _ => ?_
  unfold add_out at hr
  split at hr
  · cases hr; exact ⟨_, add_runs _ _ _ _ _ _, fun _ => rfl⟩
  · cases hr
noncomputable def K_add : List (Nat × Summ) := (57, tplS add_tpl add_out) :: K_elem
theorem known_add : Known Try.prog (sums K_add) L_mul := known_cons known_elem add_ok
noncomputable def sub_tpl : Tpl := ⟨[.agg [.int .i64, .int .i64, .int .i64], .agg [.int .i64, .int .i64, .int .i64]], [], 0⟩
set_option maxRecDepth 1000000 in
theorem sub_runs (a b c d e f : Int) : Runs (runF (sums K_add) L_mul 56) (sub_tpl.args [.i a, .i b, .i c, .i d, .i e, .i f]) (sub_tpl.memo [.i a, .i b, .i c, .i d, .i e, .i f] []) sub_tpl.n (SV.agg [SC.int IntKind.i64 (SI.v (minus_0 a d)), SC.int IntKind.i64 (SI.v (minus_0 b e)), SC.int IntKind.i64 (SI.v (minus_0 c f))])
    ([]) :=
  Runs.of1 (ps := []) (by kernel_rfl) (by simp)
noncomputable def sub_out : List Pm → Lss → Option CRes
  | [.i a, .i b, .i c, .i d, .i e, .i f], [] => some ⟨SV.agg [SC.int IntKind.i64 (SI.v (minus_0 a d)), SC.int IntKind.i64 (SI.v (minus_0 b e)), SC.int IntKind.i64 (SI.v (minus_0 c f))],
    [],
    [], [], 35⟩
  | _, _ => none
theorem sub_ok : FOk Try.prog 56 (tplS sub_tpl sub_out) := by
  refine tplS_ok (runF_ok known_add 56) fun ps ls r hr hn _ => ?_
  unfold sub_out at hr
  split at hr
  · cases hr; exact ⟨_, sub_runs _ _ _ _ _ _, fun _ => rfl⟩
  · cases hr
noncomputable def K_sub : List (Nat × Summ) := (56, tplS sub_tpl sub_out) :: K_add
theorem known_sub : Known Try.prog (sums K_sub) L_mul := known_cons known_add sub_ok
noncomputable def rng_tpl : Tpl := ⟨[.one (.ptr 0 0), .one (.int .i64), .one (.int .i64)], [(0, .blk 76 [(2, .wh 1), (3, .int .i64)]), (1, .row true 3 1 4 [.int .i64])], 5⟩
noncomputable def rng_needs (n : Int) (m : Int) (a : Int) (L : List (List Int)) : List Prop :=
  [0 ≤ a, L.length ≤ 1000000, IntKind.i64.wrap (IntKind.i64.wrap (m - n) + 1) ≠ 0]
theorem rng_weak {n : Int} {m : Int} {a : Int} {L : List (List Int)} (hW : ∀ q ∈ ([0 ≤ a, L.length ≤ 1000000, n ≤ m ∧ -1000000 ≤ n ∧ m ≤ 1000000] : List Prop), q) : ∀ q ∈ (rng_needs n m a L), q := by
  simp only [List.mem_cons, List.not_mem_nil, or_false, forall_eq_or_imp, forall_eq] at hW
  intro q hq
  unfold rng_needs at hq
  simp only [List.mem_cons, List.not_mem_nil, or_false] at hq
  obtain ⟨h1, h2, h3⟩ := hW
  have e : IntKind.i64.wrap (IntKind.i64.wrap (m - n) + 1) = m - n + 1 := by rw [wrI (x := m - n) (by omega) (by omega), wrI (by omega) (by omega)]
  rcases hq with rfl | rfl | rfl
  · exact h1
  · exact h2
  · rw [e]; omega
set_option maxRecDepth 1000000 in
theorem rng_runs (n m a : Int) (L : List (List Int)) (hNeeds : ∀ pN ∈ (rng_needs n m a L), pN) : Runs (runF (sums K_sub) L_mul 28) (rng_tpl.args [.i n, .i m, .i a]) (rng_tpl.memo [.i n, .i m, .i a] [L]) rng_tpl.n (SV.one (SC.int IntKind.i64 (SI.v (range_0 n m a L))))
    ([(0, Obj.blk 76 [(2, SC.wh 1), (66, SC.int IntKind.i64 (SI.v (next_1 a L)))]), (1, Obj.row true 3 1 (RowC.lst 4 [CK.int IntKind.i64] L))]) :=
  Runs.of1 (ps := (rng_needs n m a L)) (by kernel_rfl) hNeeds
noncomputable def rng_out : List Pm → Lss → Option CRes
  | [.i n, .i m, .i a], [L] => some ⟨SV.one (SC.int IntKind.i64 (SI.v (range_0 n m a L))),
    [(0, Obj.blk 76 [(2, SC.wh 1), (66, SC.int IntKind.i64 (SI.v (next_1 a L)))]), (1, Obj.row true 3 1 (RowC.lst 4 [CK.int IntKind.i64] L))],
    [0 ≤ a, L.length ≤ 1000000, n ≤ m ∧ -1000000 ≤ n ∧ m ≤ 1000000], [], 70⟩
  | _, _ => none
theorem rng_ok : FOk Try.prog 28 (tplS rng_tpl rng_out) := by
  refine tplS_ok (runF_ok known_sub 28) fun ps ls r hr hn _ => ?_
  unfold rng_out at hr
  split at hr
  · cases hr; exact ⟨_, rng_runs _ _ _ _ (rng_weak (by exact hn)), fun _ => rfl⟩
  · cases hr
noncomputable def K_rng : List (Nat × Summ) := (28, orS (tplS rng_tpl rng_out) (tplS range_tpl range_out)) :: K_sub
theorem known_rng : Known Try.prog (sums K_rng) L_mul := known_cons known_sub (orS_ok rng_ok range_ok)
theorem range_0_rng (n m a : Int) (L : List (List Int)) (h : n ≤ m) (h1 : -1000000 ≤ n) (h2 : m ≤ 1000000) : n ≤ range_0 n m a L ∧ range_0 n m a L ≤ m := by
  have e : IntKind.i64.wrap (IntKind.i64.wrap (m - n) + 1) = m - n + 1 := by rw [wrI (x := m - n) (by omega) (by omega), wrI (by omega) (by omega)]
  have k := next_0_range (m - n + 1) a L (by omega) (by omega)
  unfold range_0
  rw [e, wrI (by omega) (by omega)]
  omega
noncomputable def svec_tpl : Tpl := ⟨[.one (.ptr 0 0), .one (.int .i64)], [(0, .blk 76 [(2, .wh 1), (3, .int .i64)]), (1, .row true 3 1 4 [.int .i64])], 5⟩
noncomputable def svec_2 (n : Int) (a : Int) (L : List (List Int)) : Int :=
  range_0 (IntKind.i64.wrap (0 - n)) n (next_1 (next_1 a L) L) L
noncomputable def svec_needs (n : Int) (a : Int) (L : List (List Int)) : List Prop :=
  [0 ≤ a, L.length ≤ 1000000, IntKind.i64.wrap (0 - n) ≤ n ∧ -1000000 ≤ IntKind.i64.wrap (0 - n) ∧ n ≤ 1000000, 0 ≤ next_1 a L, L.length ≤ 1000000,
   IntKind.i64.wrap (0 - n) ≤ n ∧ -1000000 ≤ IntKind.i64.wrap (0 - n) ∧ n ≤ 1000000, 0 ≤ next_1 (next_1 a L) L, L.length ≤ 1000000,
   IntKind.i64.wrap (0 - n) ≤ n ∧ -1000000 ≤ IntKind.i64.wrap (0 - n) ∧ n ≤ 1000000]
theorem svec_weak {n : Int} {a : Int} {L : List (List Int)} (hW : ∀ q ∈ ([0 ≤ a, L.length ≤ 1000000, 0 ≤ n ∧ n ≤ 1000000] : List Prop), q) : ∀ q ∈ (svec_needs n a L), q := by
  simp only [List.mem_cons, List.not_mem_nil, or_false, forall_eq_or_imp, forall_eq] at hW
  intro q hq
  unfold svec_needs at hq
  simp only [List.mem_cons, List.not_mem_nil, or_false] at hq
  obtain ⟨h1, h2, h3⟩ := hW
  have nn : ∀ x, 0 ≤ x → 0 ≤ next_1 x L := fun x h => next_1_nn x L h h2
  have e : IntKind.i64.wrap (0 - n) = 0 - n := wrI (by omega) (by omega)
  rw [e] at hq
  rcases hq with rfl | rfl | rfl | rfl | rfl | rfl | rfl | rfl | rfl
  · exact h1
  · exact h2
  · omega
  · exact nn _ h1
  · exact h2
  · omega
  · exact nn _ (nn _ h1)
  · exact h2
  · omega
set_option maxRecDepth 1000000 in
theorem svec_runs (n a : Int) (L : List (List Int)) (hNeeds : ∀ pN ∈ (svec_needs n a L), pN) : Runs (runF (sums K_rng) L_mul 58) (svec_tpl.args [.i n, .i a]) (svec_tpl.memo [.i n, .i a] [L]) svec_tpl.n (SV.agg [SC.int IntKind.i64 (SI.v (ptm_0 n a L)), SC.int IntKind.i64 (SI.v (ptm_1 n a L)), SC.int IntKind.i64 (SI.v (svec_2 n a L))])
    ([(0, Obj.blk 76 [(2, SC.wh 1), (234, SC.int IntKind.i64 (SI.v (next_1 (next_1 (next_1 a L) L) L)))]), (1, Obj.row true 3 1 (RowC.lst 4 [CK.int IntKind.i64] L))]) :=
  Runs.of1 (ps := (svec_needs n a L)) (by kernel_rfl) hNeeds
noncomputable def svec_out : List Pm → Lss → Option CRes
  | [.i n, .i a], [L] => some ⟨SV.agg [SC.int IntKind.i64 (SI.v (ptm_0 n a L)), SC.int IntKind.i64 (SI.v (ptm_1 n a L)), SC.int IntKind.i64 (SI.v (svec_2 n a L))],
    [(0, Obj.blk 76 [(2, SC.wh 1), (234, SC.int IntKind.i64 (SI.v (next_1 (next_1 (next_1 a L) L) L)))]), (1, Obj.row true 3 1 (RowC.lst 4 [CK.int IntKind.i64] L))],
    [0 ≤ a, L.length ≤ 1000000, 0 ≤ n ∧ n ≤ 1000000], [], 244⟩
  | _, _ => none
theorem svec_ok : FOk Try.prog 58 (tplS svec_tpl svec_out) := by
  refine tplS_ok (runF_ok known_rng 58) fun ps ls r hr hn _ => ?_
  unfold svec_out at hr
  split at hr
  · cases hr; exact ⟨_, svec_runs _ _ _ (svec_weak (by exact hn)), fun _ => rfl⟩
  · cases hr
noncomputable def K_svec : List (Nat × Summ) := (58, tplS svec_tpl svec_out) :: K_rng
theorem known_svec : Known Try.prog (sums K_svec) L_mul := known_cons known_rng svec_ok
end Go.Proofs.Ythgiaoidekdpfaa
