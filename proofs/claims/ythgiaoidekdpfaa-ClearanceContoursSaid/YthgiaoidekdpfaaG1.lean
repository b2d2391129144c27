/-
  THE TAPE, and what is made of it. Conditions: none.
-/
import Derived.Test.YthgiaoidekdpfaaA1
set_option linter.all false
namespace Go.Proofs.Ythgiaoidekdpfaa
open Go.SX Go.RowKit
noncomputable def light_tpl : Tpl := ⟨[.one (.wh 0)], [(0, .row true 3 1 1 [.int .i64])], 2⟩
noncomputable def light_0 (L : List (List Int)) : Bool :=
  decide (Int.ofNat L.length ≤ 120)
set_option maxRecDepth 1000000 in
theorem light_runs (L : List (List Int)) : Runs (runF (sums K_awake) L_mul 11) (light_tpl.args []) (light_tpl.memo [] [L]) light_tpl.n (SV.one (SC.bool (SB.v (light_0 L))))
    ([(0, Obj.row true 3 1 (RowC.lst 1 [CK.int IntKind.i64] L))]) :=
  Runs.of1 (ps := []) (by kernel_rfl) (by simp)
noncomputable def light_out : List Pm → Lss → Option CRes
  | [], [L] => some ⟨SV.one (SC.bool (SB.v (light_0 L))),
    [(0, Obj.row true 3 1 (RowC.lst 1 [CK.int IntKind.i64] L))],
    [], [], 7⟩
  | _, _ => none
theorem light_ok : FOk Try.prog 11 (tplS light_tpl light_out) := by
  refine tplS_ok (runF_ok known_awake 11) fun ps ls r hr hn _ => ?_
  unfold light_out at hr
  split at hr
  · cases hr; exact ⟨_, light_runs _, fun _ => rfl⟩
  · cases hr
noncomputable def K_light : List (Nat × Summ) := (11, tplS light_tpl light_out) :: K_awake
theorem known_light : Known Try.prog (sums K_light) L_mul := known_cons known_awake light_ok
noncomputable def new_tpl : Tpl := ⟨[.one (.wh 0)], [(0, .row true 3 1 1 [.int .i64])], 2⟩
set_option maxRecDepth 1000000 in
theorem new_runs (L : List (List Int)) : Runs (runF (sums K_light) L_mul 27) (new_tpl.args []) (new_tpl.memo [] [L]) new_tpl.n (SV.one (SC.ptr 5 0))
    ([(5, Obj.blk 76 [(6, SC.wh 0), (7, SC.int IntKind.i64 (SI.c 0))]), (0, Obj.row true 3 1 (RowC.lst 1 [CK.int IntKind.i64] L))]) :=
  Runs.of1 (ps := []) (by kernel_rfl) (by simp)
noncomputable def new_out : List Pm → Lss → Option CRes
  | [], [L] => some ⟨SV.one (SC.ptr 5 0),
    [(5, Obj.blk 76 [(6, SC.wh 0), (7, SC.int IntKind.i64 (SI.c 0))]), (0, Obj.row true 3 1 (RowC.lst 1 [CK.int IntKind.i64] L))],
    [], [], 10⟩
  | _, _ => none
theorem new_ok : FOk Try.prog 27 (tplS new_tpl new_out) := by
  refine tplS_ok (runF_ok known_light 27) fun ps ls r hr hn _ => ?_
  unfold new_out at hr
  split at hr
  · cases hr; exact ⟨_, new_runs _, fun _ => rfl⟩
  · cases hr
noncomputable def K_new : List (Nat × Summ) := (27, tplS new_tpl new_out) :: K_light
theorem known_new : Known Try.prog (sums K_new) L_mul := known_cons known_light new_ok
noncomputable def next_tpl : Tpl := ⟨[.one (.ptr 0 0), .one (.int .i64)], [(0, .blk 76 [(2, .wh 1), (3, .int .i64)]), (1, .row true 3 1 4 [.int .i64])], 5⟩
noncomputable def next_0 (n : Int) (a : Int) (L : List (List Int)) : Int :=
  bif decide (a ≥ Int.ofNat L.length) then 0 else mod_0 ((L.getD (IntKind.i64.wrap (IntKind.i64.wrap (a + 1) - 1)).toNat []).getD 0 0) n
noncomputable def next_1 (a : Int) (L : List (List Int)) : Int :=
  bif decide (a ≥ Int.ofNat L.length) then a else IntKind.i64.wrap (a + 1)
noncomputable def next_s0 (a : Int) : Int :=
  IntKind.i64.wrap (IntKind.i64.wrap (a + 1) - 1)
noncomputable def next_needs (n : Int) (a : Int) (L : List (List Int)) : List Prop :=
  [decide (a ≥ Int.ofNat L.length) = false → 0 ≤ next_s0 a ∧ (next_s0 a).toNat < L.length ∧ (next_s0 a).toNat < L.length ∧ n ≠ 0]
theorem next_1_nn (a : Int) (L : List (List Int)) (h : 0 ≤ a) (hl : L.length ≤ 1000000) : 0 ≤ next_1 a L := by
  unfold next_1
  cases hd : decide (a ≥ Int.ofNat L.length)
  · have h4 : a < (L.length : Int) := by simpa using hd
    rw [cond_false, wrI (by omega) (by omega)]
    omega
  · exact h
theorem next_0_range (n a : Int) (L : List (List Int)) (h : 1 ≤ n) (hb : n ≤ 4611686018427387904) : 0 ≤ next_0 n a L ∧ next_0 n a L < n := by
  unfold next_0
  cases decide (a ≥ Int.ofNat L.length)
  · exact mod_rng _ _ h hb
  · simp only [cond_true]; omega
theorem next_weak {n : Int} {a : Int} {L : List (List Int)} (hW : ∀ q ∈ ([0 ≤ a, L.length ≤ 1000000, n ≠ 0] : List Prop), q) : ∀ q ∈ (next_needs n a L), q := by
  simp only [List.mem_cons, List.not_mem_nil, or_false, forall_eq_or_imp, forall_eq] at hW
  intro q hq
  unfold next_needs at hq
  simp only [List.mem_cons, List.not_mem_nil, or_false] at hq
  obtain ⟨h1, h2, h3⟩ := hW
  subst hq
  intro h
  have h4 : a < (L.length : Int) := by simpa using h
  have e : next_s0 a = a := by unfold next_s0; rw [wrI (x := a + 1) (by omega) (by omega), wrI (by omega) (by omega)]; omega
  rw [e]
  exact ⟨h1, by omega, by omega, h3⟩
set_option maxRecDepth 1000000 in
theorem next_runs (n a : Int) (L : List (List Int)) (hNeeds : ∀ pN ∈ (next_needs n a L), pN) : Runs (runF (sums K_new) L_mul 49) (next_tpl.args [.i n, .i a]) (next_tpl.memo [.i n, .i a] [L]) next_tpl.n (SV.one (SC.int IntKind.i64 (SI.v (next_0 n a L))))
    ([(0, Obj.blk 76 [(2, SC.wh 1), (54, SC.int IntKind.i64 (SI.v (next_1 a L)))]), (1, Obj.row true 3 1 (RowC.lst 4 [CK.int IntKind.i64] L))]) :=
  Runs.of1 (ps := (next_needs n a L)) (by kernel_rfl) hNeeds
noncomputable def next_out : List Pm → Lss → Option CRes
  | [.i n, .i a], [L] => some ⟨SV.one (SC.int IntKind.i64 (SI.v (next_0 n a L))),
    [(0, Obj.blk 76 [(2, SC.wh 1), (54, SC.int IntKind.i64 (SI.v (next_1 a L)))]), (1, Obj.row true 3 1 (RowC.lst 4 [CK.int IntKind.i64] L))],
    [0 ≤ a, L.length ≤ 1000000, n ≠ 0], [], 55⟩
  | _, _ => none
theorem next_ok : FOk Try.prog 49 (tplS next_tpl next_out) := by
  refine tplS_ok (runF_ok known_new 49) fun ps ls r hr hn _ => ?_
  unfold next_out at hr
  split at hr
  · cases hr; exact ⟨_, next_runs _ _ _ (next_weak (by exact hn)), fun _ => rfl⟩
  · cases hr
noncomputable def K_next : List (Nat × Summ) := (49, tplS next_tpl next_out) :: K_new
theorem known_next : Known Try.prog (sums K_next) L_mul := known_cons known_new next_ok
noncomputable def range_tpl : Tpl := ⟨[.one (.ptr 0 0), .one (.int .i64), .one (.int .i64)], [(0, .blk 76 [(2, .wh 1), (3, .int .i64)]), (1, .row true 3 1 4 [.int .i64])], 5⟩
noncomputable def range_0 (n : Int) (m : Int) (a : Int) (L : List (List Int)) : Int :=
  IntKind.i64.wrap (n + next_0 (IntKind.i64.wrap (IntKind.i64.wrap (m - n) + 1)) a L)
noncomputable def range_needs (n : Int) (m : Int) (a : Int) (L : List (List Int)) : List Prop :=
  [0 ≤ a, L.length ≤ 1000000, IntKind.i64.wrap (IntKind.i64.wrap (m - n) + 1) ≠ 0]
set_option maxRecDepth 1000000 in
theorem range_runs (n m a : Int) (L : List (List Int)) (hNeeds : ∀ pN ∈ (range_needs n m a L), pN) : Runs (runF (sums K_next) L_mul 28) (range_tpl.args [.i n, .i m, .i a]) (range_tpl.memo [.i n, .i m, .i a] [L]) range_tpl.n (SV.one (SC.int IntKind.i64 (SI.v (range_0 n m a L))))
    ([(0, Obj.blk 76 [(2, SC.wh 1), (66, SC.int IntKind.i64 (SI.v (next_1 a L)))]), (1, Obj.row true 3 1 (RowC.lst 4 [CK.int IntKind.i64] L))]) :=
  Runs.of1 (ps := (range_needs n m a L)) (by kernel_rfl) hNeeds
noncomputable def range_out : List Pm → Lss → Option CRes
  | [.i n, .i m, .i a], [L] => some ⟨SV.one (SC.int IntKind.i64 (SI.v (range_0 n m a L))),
    [(0, Obj.blk 76 [(2, SC.wh 1), (66, SC.int IntKind.i64 (SI.v (next_1 a L)))]), (1, Obj.row true 3 1 (RowC.lst 4 [CK.int IntKind.i64] L))],
    (range_needs n m a L), [], 70⟩
  | _, _ => none
theorem range_ok : FOk Try.prog 28 (tplS range_tpl range_out) := by
  refine tplS_ok (runF_ok known_next 28) fun ps ls r hr hn _ => ?_
  unfold range_out at hr
  split at hr
  · cases hr; exact ⟨_, range_runs _ _ _ _ hn, fun _ => rfl⟩
  · cases hr
noncomputable def K_range : List (Nat × Summ) := (28, tplS range_tpl range_out) :: K_next
theorem known_range : Known Try.prog (sums K_range) L_mul := known_cons known_next range_ok
noncomputable def ptm_tpl : Tpl := ⟨[.one (.ptr 0 0), .one (.int .i64)], [(0, .blk 76 [(2, .wh 1), (3, .int .i64)]), (1, .row true 3 1 4 [.int .i64])], 5⟩
noncomputable def ptm_0 (n : Int) (a : Int) (L : List (List Int)) : Int :=
  range_0 (IntKind.i64.wrap (0 - n)) n a L
noncomputable def ptm_1 (n : Int) (a : Int) (L : List (List Int)) : Int :=
  range_0 (IntKind.i64.wrap (0 - n)) n (next_1 a L) L
noncomputable def ptm_needs (n : Int) (a : Int) (L : List (List Int)) : List Prop :=
  [0 ≤ a, L.length ≤ 1000000, IntKind.i64.wrap (IntKind.i64.wrap (n - IntKind.i64.wrap (0 - n)) + 1) ≠ 0, 0 ≤ next_1 a L, L.length ≤ 1000000,
   IntKind.i64.wrap (IntKind.i64.wrap (n - IntKind.i64.wrap (0 - n)) + 1) ≠ 0]
theorem ptm_weak {n : Int} {a : Int} {L : List (List Int)} (hW : ∀ q ∈ ([0 ≤ a, L.length ≤ 1000000, 0 < n ∧ n ≤ 1000000] : List Prop), q) : ∀ q ∈ (ptm_needs n a L), q := by
  simp only [List.mem_cons, List.not_mem_nil, or_false, forall_eq_or_imp, forall_eq] at hW
  intro q hq
  unfold ptm_needs at hq
  simp only [List.mem_cons, List.not_mem_nil, or_false] at hq
  obtain ⟨h1, h2, h3, h4⟩ := hW
  have h5 : IntKind.i64.wrap (IntKind.i64.wrap (n - IntKind.i64.wrap (0 - n)) + 1) ≠ 0 := by
    rw [wrI (x := 0 - n) (by omega) (by omega), wrI (x := n - (0 - n)) (by omega) (by omega), wrI (by omega) (by omega)]
    omega
  rcases hq with rfl | rfl | rfl | rfl | rfl | rfl
  · exact h1
  · exact h2
  · exact h5
  · exact next_1_nn a L h1 h2
  · exact h2
  · exact h5
set_option maxRecDepth 1000000 in
theorem ptm_runs (n a : Int) (L : List (List Int)) (hNeeds : ∀ pN ∈ (ptm_needs n a L), pN) : Runs (runF (sums K_range) L_mul 51) (ptm_tpl.args [.i n, .i a]) (ptm_tpl.memo [.i n, .i a] [L]) ptm_tpl.n (SV.agg [SC.int IntKind.i64 (SI.v (ptm_0 n a L)), SC.int IntKind.i64 (SI.v (ptm_1 n a L))])
    ([(0, Obj.blk 76 [(2, SC.wh 1), (156, SC.int IntKind.i64 (SI.v (next_1 (next_1 a L) L)))]), (1, Obj.row true 3 1 (RowC.lst 4 [CK.int IntKind.i64] L))]) :=
  Runs.of1 (ps := (ptm_needs n a L)) (by kernel_rfl) hNeeds
noncomputable def ptm_out : List Pm → Lss → Option CRes
  | [.i n, .i a], [L] => some ⟨SV.agg [SC.int IntKind.i64 (SI.v (ptm_0 n a L)), SC.int IntKind.i64 (SI.v (ptm_1 n a L))],
    [(0, Obj.blk 76 [(2, SC.wh 1), (156, SC.int IntKind.i64 (SI.v (next_1 (next_1 a L) L)))]), (1, Obj.row true 3 1 (RowC.lst 4 [CK.int IntKind.i64] L))],
    [0 ≤ a, L.length ≤ 1000000, 0 < n ∧ n ≤ 1000000], [], 165⟩
  | _, _ => none
theorem ptm_ok : FOk Try.prog 51 (tplS ptm_tpl ptm_out) := by
  refine tplS_ok (runF_ok known_range 51) fun ps ls r hr hn _ => ?_
  unfold ptm_out at hr
  split at hr
  · cases hr; exact ⟨_, ptm_runs _ _ _ (ptm_weak (by exact hn)), fun _ => rfl⟩
  · cases hr
noncomputable def K_ptm : List (Nat × Summ) := (51, tplS ptm_tpl ptm_out) :: K_range
theorem known_ptm : Known Try.prog (sums K_ptm) L_mul := known_cons known_range ptm_ok
noncomputable def fit_tpl : Tpl := ⟨[.agg [.int .i64, .int .i64], .agg [.int .i64, .int .i64], .one (.bool)], [], 0⟩
noncomputable def fit_s0 (a : Int) (b : Int) (c : Int) (d : Int) : Int :=
  bif decide (vinner_0 a b a b > vinner_0 c d c d) then vinner_0 c d c d else vinner_0 a b a b
noncomputable def fit_s1 (a : Int) (b : Int) (c : Int) (d : Int) : Int :=
  IntKind.i64.wrap (IntKind.i64.wrap ((bif decide (vinner_0 a b a b > vinner_0 c d c d) then vinner_0 a b a b else vinner_0 c d c d) - fit_s0 a b c d) - 16)
noncomputable def fit_0 (a : Int) (b : Int) (c : Int) (d : Int) (e : Bool) : Bool :=
  bif decide (fit_s0 a b c d < 64) then false
  else
   bif decide (fit_s1 a b c d > 0) && decide (rcmp_0 (fit_s1 a b c d) (fit_s1 a b c d) 64 (fit_s0 a b c d) > 0) then false
   else bif e then a == c && b == d else !(vcross_0 a b c d == 0 && decide (vinner_0 a b c d > 0))
noncomputable def fit_s2 (a : Int) (b : Int) (c : Int) (d : Int) : Prop :=
  decide (fit_s1 a b c d > 0) = true
noncomputable def fit_needs (a : Int) (b : Int) (c : Int) (d : Int) : List Prop :=
  [decide (fit_s0 a b c d < 64) = false →
   (fit_s2 a b c d → -9223372036854775808 ≤ fit_s1 a b c d ∧ fit_s1 a b c d < 9223372036854775808) ∧
   (fit_s2 a b c d → -9223372036854775808 ≤ fit_s1 a b c d ∧ fit_s1 a b c d < 9223372036854775808) ∧
   (fit_s2 a b c d → -9223372036854775808 ≤ 64 ∧ Int.ofNat 64 < 9223372036854775808) ∧ (fit_s2 a b c d → -9223372036854775808 ≤ fit_s0 a b c d ∧ fit_s0 a b c d < 9223372036854775808)]
theorem fit_need {a : Int} {b : Int} {c : Int} {d : Int} : ∀ q ∈ (fit_needs a b c d), q := by
  intro q hq
  unfold fit_needs at hq
  simp only [List.mem_cons, List.not_mem_nil, or_false] at hq
  subst hq
  intro _
  have h0 : isI (fit_s0 a b c d) := by
    unfold fit_s0
    cases decide (vinner_0 a b a b > vinner_0 c d c d)
    · exact wrap_isI _
    · exact wrap_isI _
  have h1 : isI (fit_s1 a b c d) := wrap_isI _
  exact ⟨fun _ => h1, fun _ => h1, fun _ => ⟨by decide, by decide⟩, fun _ => h0⟩
set_option maxRecDepth 1000000 in
theorem fit_runs (a b c d : Int) (e : Bool) (hNeeds : ∀ pN ∈ (fit_needs a b c d), pN) : Runs (runF (sums K_ptm) L_mul 53) (fit_tpl.args [.i a, .i b, .i c, .i d, .b e]) (fit_tpl.memo [.i a, .i b, .i c, .i d, .b e] []) fit_tpl.n (SV.one (SC.bool (SB.v (fit_0 a b c d e))))
    ([]) :=
  Runs.of1 (ps := (fit_needs a b c d)) (by kernel_rfl) hNeeds
noncomputable def fit_out : List Pm → Lss → Option CRes
  | [.i a, .i b, .i c, .i d, .b e], [] => some ⟨SV.one (SC.bool (SB.v (fit_0 a b c d e))),
    [],
    [], [], 539⟩
  | _, _ => none
theorem fit_ok : FOk Try.prog 53 (tplS fit_tpl fit_out) := by
  refine tplS_ok (runF_ok known_ptm 53) fun ps ls r hr hn _ => ?_
  unfold fit_out at hr
  split at hr
  · cases hr; exact ⟨_, fit_runs _ _ _ _ _ (fun p hp => fit_need p hp), fun _ => rfl⟩
  · cases hr
noncomputable def K_fit : List (Nat × Summ) := (53, tplS fit_tpl fit_out) :: K_ptm
theorem known_fit : Known Try.prog (sums K_fit) L_mul := known_cons known_ptm fit_ok
noncomputable def spokes_tpl : Tpl := ⟨[.one (.ptr 0 0)], [(0, .blk 76 [(2, .wh 1), (3, .int .i64)]), (1, .row true 3 1 4 [.int .i64])], 5⟩
noncomputable def spokes_0 (a : Int) (L : List (List Int)) : Int :=
  ptm_0 (bif (next_0 3 a L).toNat.beq 0 then 20 else bif (next_0 3 a L).toNat.beq 1 then 300 else 20000) (next_1 a L) L
noncomputable def spokes_1 (a : Int) (L : List (List Int)) : Int :=
  ptm_1 (bif (next_0 3 a L).toNat.beq 0 then 20 else bif (next_0 3 a L).toNat.beq 1 then 300 else 20000) (next_1 a L) L
noncomputable def spokes_s0 (a : Int) (L : List (List Int)) : Int :=
  bif (next_0 3 a L).toNat.beq 0 then 20 else bif (next_0 3 a L).toNat.beq 1 then 300 else 20000
noncomputable def spokes_s1 (a : Int) (L : List (List Int)) : Int :=
  bif next_0 4 (next_1 (next_1 (next_1 (next_1 a L) L) L) L) L == 0 then IntKind.i64.wrap (0 - ptm_1 (spokes_s0 a L) (next_1 a L) L)
  else
   bif next_0 4 (next_1 (next_1 (next_1 (next_1 a L) L) L) L) L == 1 then IntKind.i64.wrap (0 - ptm_0 (spokes_s0 a L) (next_1 a L) L)
   else bif next_0 4 (next_1 (next_1 (next_1 (next_1 a L) L) L) L) L == 2 then ptm_1 (spokes_s0 a L) (next_1 a L) L else ptm_1 (spokes_s0 a L) (next_1 a L) L
noncomputable def spokes_2 (a : Int) (L : List (List Int)) : Int :=
  bif next_0 8 (next_1 (next_1 (next_1 a L) L) L) L == 0 then ptm_0 (spokes_s0 a L) (next_1 a L) L
  else
   bif next_0 3 (next_1 (next_1 (next_1 (next_1 (next_1 a L) L) L) L) L) L == 0 then
   IntKind.i64.wrap (spokes_s1 a L + range_0 (-2) 2 (next_1 (next_1 (next_1 (next_1 (next_1 (next_1 a L) L) L) L) L) L) L)
   else spokes_s1 a L
noncomputable def spokes_3 (a : Int) (L : List (List Int)) : Int :=
  bif next_0 8 (next_1 (next_1 (next_1 a L) L) L) L == 0 then ptm_1 (spokes_s0 a L) (next_1 a L) L
  else
   bif next_0 4 (next_1 (next_1 (next_1 (next_1 a L) L) L) L) L == 0 then ptm_0 (spokes_s0 a L) (next_1 a L) L
   else
   bif next_0 4 (next_1 (next_1 (next_1 (next_1 a L) L) L) L) L == 1 then IntKind.i64.wrap (0 - ptm_1 (spokes_s0 a L) (next_1 a L) L)
   else bif next_0 4 (next_1 (next_1 (next_1 (next_1 a L) L) L) L) L == 2 then ptm_0 (spokes_s0 a L) (next_1 a L) L else IntKind.i64.wrap (0 - ptm_0 (spokes_s0 a L) (next_1 a L) L)
noncomputable def spokes_4 (a : Int) (L : List (List Int)) : Bool :=
  next_0 8 (next_1 (next_1 (next_1 a L) L) L) L == 0
noncomputable def spokes_s2 (a : Int) (L : List (List Int)) : Int :=
  IntKind.i64.wrap (0 - ptm_1 (spokes_s0 a L) (next_1 a L) L)
noncomputable def spokes_s3 (a : Int) (L : List (List Int)) : Int :=
  IntKind.i64.wrap (0 - ptm_0 (spokes_s0 a L) (next_1 a L) L)
noncomputable def spokes_s4 (a : Int) (L : List (List Int)) : Int :=
  bif next_0 4 (next_1 (next_1 (next_1 (next_1 a L) L) L) L) L == 0 then spokes_s2 a L
  else
   bif next_0 4 (next_1 (next_1 (next_1 (next_1 a L) L) L) L) L == 1 then spokes_s3 a L
   else bif next_0 4 (next_1 (next_1 (next_1 (next_1 a L) L) L) L) L == 2 then ptm_1 (spokes_s0 a L) (next_1 a L) L else ptm_1 (spokes_s0 a L) (next_1 a L) L
noncomputable def spokes_5 (a : Int) (L : List (List Int)) : Bool :=
  fit_0 (ptm_0 (spokes_s0 a L) (next_1 a L) L) (ptm_1 (spokes_s0 a L) (next_1 a L) L)
   (bif spokes_4 a L then ptm_0 (spokes_s0 a L) (next_1 a L) L
   else
   bif next_0 3 (next_1 (next_1 (next_1 (next_1 (next_1 a L) L) L) L) L) L == 0 then
   IntKind.i64.wrap (spokes_s4 a L + range_0 (-2) 2 (next_1 (next_1 (next_1 (next_1 (next_1 (next_1 a L) L) L) L) L) L) L)
   else spokes_s4 a L)
   (bif spokes_4 a L then ptm_1 (spokes_s0 a L) (next_1 a L) L
   else
   bif next_0 4 (next_1 (next_1 (next_1 (next_1 a L) L) L) L) L == 0 then ptm_0 (spokes_s0 a L) (next_1 a L) L
   else
   bif next_0 4 (next_1 (next_1 (next_1 (next_1 a L) L) L) L) L == 1 then spokes_s2 a L
   else bif next_0 4 (next_1 (next_1 (next_1 (next_1 a L) L) L) L) L == 2 then ptm_0 (spokes_s0 a L) (next_1 a L) L else spokes_s3 a L)
   (spokes_4 a L)
noncomputable def spokes_6 (a : Int) (L : List (List Int)) : Int :=
  bif next_0 8 (next_1 (next_1 (next_1 a L) L) L) L == 0 then next_1 (next_1 (next_1 (next_1 (next_1 a L) L) L) L) L
  else
   bif next_0 3 (next_1 (next_1 (next_1 (next_1 (next_1 a L) L) L) L) L) L == 0 then next_1 (next_1 (next_1 (next_1 (next_1 (next_1 (next_1 a L) L) L) L) L) L) L
   else next_1 (next_1 (next_1 (next_1 (next_1 (next_1 a L) L) L) L) L) L
noncomputable def spokes_needs (a : Int) (L : List (List Int)) : List Prop :=
  [0 ≤ a, L.length ≤ 1000000, Int.ofNat 3 ≠ 0, 0 ≤ next_0 3 a L, (next_0 3 a L).toNat < 3, (next_0 3 a L).toNat < 3, 0 ≤ next_1 a L, L.length ≤ 1000000, 0 < spokes_s0 a L ∧ spokes_s0 a L ≤ 1000000,
   0 ≤ next_1 (next_1 (next_1 a L) L) L, L.length ≤ 1000000, Int.ofNat 8 ≠ 0, 0 ≤ next_1 (next_1 (next_1 (next_1 a L) L) L) L, L.length ≤ 1000000, Int.ofNat 4 ≠ 0,
   (next_0 8 (next_1 (next_1 (next_1 a L) L) L) L == 0) = false →
   0 ≤ next_1 (next_1 (next_1 (next_1 (next_1 a L) L) L) L) L ∧
   L.length ≤ 1000000 ∧
   Int.ofNat 3 ≠ 0 ∧
   ((next_0 3 (next_1 (next_1 (next_1 (next_1 (next_1 a L) L) L) L) L) L == 0) = true →
   0 ≤ next_1 (next_1 (next_1 (next_1 (next_1 (next_1 a L) L) L) L) L) L ∧ L.length ≤ 1000000 ∧ Int.ofNat 5 ≠ 0)]
theorem spokes_weak {a : Int} {L : List (List Int)} (hW : ∀ q ∈ ([0 ≤ a, L.length ≤ 1000000] : List Prop), q) : ∀ q ∈ (spokes_needs a L), q := by
  simp only [List.mem_cons, List.not_mem_nil, or_false, forall_eq_or_imp, forall_eq] at hW
  unfold spokes_needs
  simp only [List.forall_mem_cons, List.not_mem_nil, false_implies, implies_true, and_true]
  obtain ⟨h1, h2⟩ := hW
  have nn : ∀ x, 0 ≤ x → 0 ≤ next_1 x L := fun x h => next_1_nn x L h h2
  have r := next_0_range 3 a L (by omega) (by omega)
  have r' : (next_0 3 a L).toNat < 3 := by omega
  have rs : 0 < spokes_s0 a L ∧ spokes_s0 a L ≤ 1000000 := by
    unfold spokes_s0
    cases (next_0 3 a L).toNat.beq 0 <;> cases (next_0 3 a L).toNat.beq 1 <;> decide
  simp only [h1, h2, r.1, r', rs, true_and, and_true, nn a h1]
  refine ⟨by decide, ?_, by decide, ?_, by decide, fun _ => ⟨?_, by decide, fun _ => ⟨?_, by decide⟩⟩⟩ <;> repeat (first | exact h1 | apply nn)
set_option maxRecDepth 1000000 in
theorem spokes_runs (a : Int) (L : List (List Int)) (hNeeds : ∀ pN ∈ (spokes_needs a L), pN) : Runs (runF (sums K_fit) L_mul 50) (spokes_tpl.args [.i a]) (spokes_tpl.memo [.i a] [L]) spokes_tpl.n (SV.tup
    [(true, [SC.int IntKind.i64 (SI.v (spokes_0 a L)), SC.int IntKind.i64 (SI.v (spokes_1 a L))]), (true, [SC.int IntKind.i64 (SI.v (spokes_2 a L)), SC.int IntKind.i64 (SI.v (spokes_3 a L))]),
     (false, [SC.bool (SB.v (spokes_4 a L))]), (false, [SC.bool (SB.v (spokes_5 a L))])])
    ([(0, Obj.blk 76 [(2, SC.wh 1), (568, SC.int IntKind.i64 (SI.v (spokes_6 a L)))]), (1, Obj.row true 3 1 (RowC.lst 4 [CK.int IntKind.i64] L))]) :=
  Runs.of1 (ps := (spokes_needs a L)) (by kernel_rfl) hNeeds
noncomputable def spokes_out : List Pm → Lss → Option CRes
  | [.i a], [L] => some ⟨SV.tup
    [(true, [SC.int IntKind.i64 (SI.v (spokes_0 a L)), SC.int IntKind.i64 (SI.v (spokes_1 a L))]), (true, [SC.int IntKind.i64 (SI.v (spokes_2 a L)), SC.int IntKind.i64 (SI.v (spokes_3 a L))]),
     (false, [SC.bool (SB.v (spokes_4 a L))]), (false, [SC.bool (SB.v ((fit_0 (spokes_0 a L) (spokes_1 a L) (spokes_2 a L) (spokes_3 a L) (spokes_4 a L))))])],
    [(0, Obj.blk 76 [(2, SC.wh 1), (568, SC.int IntKind.i64 (SI.v (spokes_6 a L)))]), (1, Obj.row true 3 1 (RowC.lst 4 [CK.int IntKind.i64] L))],
    [0 ≤ a, L.length ≤ 1000000], [], 1125⟩
  | _, _ => none
theorem spokes_turned (a : Int) (L : List (List Int)) (hNeeds : ∀ pN ∈ (spokes_needs a L), pN) : Runs (runF (sums K_fit) L_mul 50) (spokes_tpl.args [.i a]) (spokes_tpl.memo [.i a] [L]) spokes_tpl.n (SV.tup
    [(true, [SC.int IntKind.i64 (SI.v (spokes_0 a L)), SC.int IntKind.i64 (SI.v (spokes_1 a L))]), (true, [SC.int IntKind.i64 (SI.v (spokes_2 a L)), SC.int IntKind.i64 (SI.v (spokes_3 a L))]),
     (false, [SC.bool (SB.v (spokes_4 a L))]), (false, [SC.bool (SB.v ((fit_0 (spokes_0 a L) (spokes_1 a L) (spokes_2 a L) (spokes_3 a L) (spokes_4 a L))))])])
    ([(0, Obj.blk 76 [(2, SC.wh 1), (568, SC.int IntKind.i64 (SI.v (spokes_6 a L)))]), (1, Obj.row true 3 1 (RowC.lst 4 [CK.int IntKind.i64] L))]) :=
  (spokes_runs a L hNeeds).to (by first | rfl | (simp only [])) (by first | rfl | (simp only []))
theorem spokes_ok : FOk Try.prog 50 (tplS spokes_tpl spokes_out) := by
  refine tplS_ok (runF_ok known_fit 50) fun ps ls r hr hn _ => ?_
  unfold spokes_out at hr
  split at hr
  · cases hr; exact ⟨_, spokes_turned _ _ (spokes_weak (by exact hn)), fun _ => rfl⟩
  · cases hr
noncomputable def K_spokes : List (Nat × Summ) := (50, tplS spokes_tpl spokes_out) :: K_fit
theorem known_spokes : Known Try.prog (sums K_spokes) L_mul := known_cons known_fit spokes_ok
theorem spokes_6_nn (a : Int) (L : List (List Int)) (h : 0 ≤ a) (hl : L.length ≤ 1000000) : 0 ≤ spokes_6 a L := by
  have nn : ∀ x, 0 ≤ x → 0 ≤ next_1 x L := fun x h => next_1_nn x L h hl
  unfold spokes_6
  cases next_0 8 (next_1 (next_1 (next_1 a L) L) L) L == 0
  · rw [cond_false]
    cases next_0 3 (next_1 (next_1 (next_1 (next_1 (next_1 a L) L) L) L) L) L == 0
    · rw [cond_false]; repeat (first | exact h | apply nn)
    · rw [cond_true]; repeat (first | exact h | apply nn)
  · rw [cond_true]; repeat (first | exact h | apply nn)
theorem pick3 (p q : Bool) (x y z : Int) (hx : 0 < x ∧ x ≤ 1000000) (hy : 0 < y ∧ y ≤ 1000000) (hz : 0 < z ∧ z ≤ 1000000) : 0 < (bif p then x else bif q then y else z) ∧ (bif p then x else bif q then y else z) ≤ 1000000 := by
  cases p <;> cases q <;> assumption
noncomputable def element_tpl : Tpl := ⟨[.one (.ptr 0 0), .agg [.int .i64, .int .i64]], [(0, .blk 76 [(2, .wh 1), (3, .int .i64)]), (1, .row true 3 1 4 [.int .i64])], 5⟩
noncomputable def element_0 (u : Int) (a : Int) (L : List (List Int)) : Int :=
  bif next_0 3 a L == 0 then bif fit_0 (spokes_0 (next_1 a L) L) (spokes_1 (next_1 a L) L) (spokes_2 (next_1 a L) L) (spokes_3 (next_1 a L) L) (spokes_4 (next_1 a L) L) then u else u else u
noncomputable def element_s0 (a : Int) (L : List (List Int)) : Int :=
  bif (next_0 3 (spokes_6 (next_1 a L) L) L).toNat.beq 0 then 30 else bif (next_0 3 (spokes_6 (next_1 a L) L) L).toNat.beq 1 then 400 else 20000
noncomputable def element_s1 (a : Int) (L : List (List Int)) : Int :=
  bif (next_0 3 (next_1 a L) L).toNat.beq 0 then 30 else bif (next_0 3 (next_1 a L) L).toNat.beq 1 then 400 else 20000
noncomputable def element_2 (u : Int) (a : Int) (L : List (List Int)) : Int :=
  bif next_0 3 a L == 0 then
   bif fit_0 (spokes_0 (next_1 a L) L) (spokes_1 (next_1 a L) L) (spokes_2 (next_1 a L) L) (spokes_3 (next_1 a L) L) (spokes_4 (next_1 a L) L) then
   addpt_0 (minus_0 u (spokes_0 (next_1 a L) L)) (spokes_2 (next_1 a L) L)
   else
   addpt_0 u
   (bif ptm_0 (element_s0 a L) (next_1 (spokes_6 (next_1 a L) L) L) L == 0 && ptm_1 (element_s0 a L) (next_1 (spokes_6 (next_1 a L) L) L) L == 0 then 100
   else ptm_0 (element_s0 a L) (next_1 (spokes_6 (next_1 a L) L) L) L)
  else addpt_0 u (bif ptm_0 (element_s1 a L) (next_1 (next_1 a L) L) L == 0 && ptm_1 (element_s1 a L) (next_1 (next_1 a L) L) L == 0 then 100 else ptm_0 (element_s1 a L) (next_1 (next_1 a L) L) L)
noncomputable def element_3 (v : Int) (a : Int) (L : List (List Int)) : Int :=
  bif next_0 3 a L == 0 then
   bif fit_0 (spokes_0 (next_1 a L) L) (spokes_1 (next_1 a L) L) (spokes_2 (next_1 a L) L) (spokes_3 (next_1 a L) L) (spokes_4 (next_1 a L) L) then
   addpt_0 (minus_0 v (spokes_1 (next_1 a L) L)) (spokes_3 (next_1 a L) L)
   else
   addpt_0 v
   (ptm_1 (bif (next_0 3 (spokes_6 (next_1 a L) L) L).toNat.beq 0 then 30 else bif (next_0 3 (spokes_6 (next_1 a L) L) L).toNat.beq 1 then 400 else 20000) (next_1 (spokes_6 (next_1 a L) L) L) L)
  else addpt_0 v (ptm_1 (bif (next_0 3 (next_1 a L) L).toNat.beq 0 then 30 else bif (next_0 3 (next_1 a L) L).toNat.beq 1 then 400 else 20000) (next_1 (next_1 a L) L) L)
noncomputable def element_4 (u : Int) (a : Int) (L : List (List Int)) : Int :=
  bif next_0 3 a L == 0 then
   bif fit_0 (spokes_0 (next_1 a L) L) (spokes_1 (next_1 a L) L) (spokes_2 (next_1 a L) L) (spokes_3 (next_1 a L) L) (spokes_4 (next_1 a L) L) then minus_0 u (spokes_0 (next_1 a L) L) else 0
  else 0
noncomputable def element_5 (v : Int) (a : Int) (L : List (List Int)) : Int :=
  bif next_0 3 a L == 0 then
   bif fit_0 (spokes_0 (next_1 a L) L) (spokes_1 (next_1 a L) L) (spokes_2 (next_1 a L) L) (spokes_3 (next_1 a L) L) (spokes_4 (next_1 a L) L) then minus_0 v (spokes_1 (next_1 a L) L) else 0
  else 0
noncomputable def element_6 (a : Int) (L : List (List Int)) : Int :=
  bif next_0 3 a L == 0 then
   bif fit_0 (spokes_0 (next_1 a L) L) (spokes_1 (next_1 a L) L) (spokes_2 (next_1 a L) L) (spokes_3 (next_1 a L) L) (spokes_4 (next_1 a L) L) then
   IntKind.i64.wrap (1 - IntKind.i64.wrap (2 * next_0 2 (spokes_6 (next_1 a L) L) L))
   else 0
  else 0
noncomputable def element_7 (a : Int) (L : List (List Int)) : Bool :=
  next_0 3 a L == 0 && (fit_0 (spokes_0 (next_1 a L) L) (spokes_1 (next_1 a L) L) (spokes_2 (next_1 a L) L) (spokes_3 (next_1 a L) L) (spokes_4 (next_1 a L) L) && spokes_4 (next_1 a L) L)
noncomputable def element_8 (a : Int) (L : List (List Int)) : Int :=
  bif next_0 3 a L == 0 then
   bif fit_0 (spokes_0 (next_1 a L) L) (spokes_1 (next_1 a L) L) (spokes_2 (next_1 a L) L) (spokes_3 (next_1 a L) L) (spokes_4 (next_1 a L) L) then next_1 (spokes_6 (next_1 a L) L) L
   else next_1 (next_1 (next_1 (spokes_6 (next_1 a L) L) L) L) L
  else next_1 (next_1 (next_1 (next_1 a L) L) L) L
noncomputable def element_s2 (a : Int) (L : List (List Int)) : Prop :=
  (next_0 3 a L == 0) = true
noncomputable def element_needs (a : Int) (L : List (List Int)) : List Prop :=
  [0 ≤ a, L.length ≤ 1000000, Int.ofNat 3 ≠ 0,
   element_s2 a L →
   0 ≤ next_1 a L ∧
   L.length ≤ 1000000 ∧
   (fit_0 (spokes_0 (next_1 a L) L) (spokes_1 (next_1 a L) L) (spokes_2 (next_1 a L) L) (spokes_3 (next_1 a L) L) (spokes_4 (next_1 a L) L) = true →
   0 ≤ spokes_6 (next_1 a L) L ∧ L.length ≤ 1000000 ∧ Int.ofNat 2 ≠ 0),
   element_s2 a L →
   fit_0 (spokes_0 (next_1 a L) L) (spokes_1 (next_1 a L) L) (spokes_2 (next_1 a L) L) (spokes_3 (next_1 a L) L) (spokes_4 (next_1 a L) L) = false →
   0 ≤ spokes_6 (next_1 a L) L ∧
   L.length ≤ 1000000 ∧
   Int.ofNat 3 ≠ 0 ∧
   0 ≤ next_0 3 (spokes_6 (next_1 a L) L) L ∧
   (next_0 3 (spokes_6 (next_1 a L) L) L).toNat < 3 ∧
   (next_0 3 (spokes_6 (next_1 a L) L) L).toNat < 3 ∧ 0 ≤ next_1 (spokes_6 (next_1 a L) L) L ∧ L.length ≤ 1000000 ∧ 0 < element_s0 a L ∧ element_s0 a L ≤ 1000000,
   (next_0 3 a L == 0) = false →
   0 ≤ next_1 a L ∧
   L.length ≤ 1000000 ∧
   Int.ofNat 3 ≠ 0 ∧
   0 ≤ next_0 3 (next_1 a L) L ∧
   (next_0 3 (next_1 a L) L).toNat < 3 ∧ (next_0 3 (next_1 a L) L).toNat < 3 ∧ 0 ≤ next_1 (next_1 a L) L ∧ L.length ≤ 1000000 ∧ 0 < element_s1 a L ∧ element_s1 a L ≤ 1000000]
theorem element_weak {a : Int} {L : List (List Int)} (hW : ∀ q ∈ ([0 ≤ a, L.length ≤ 1000000] : List Prop), q) : ∀ q ∈ (element_needs a L), q := by
  simp only [List.mem_cons, List.not_mem_nil, or_false, forall_eq_or_imp, forall_eq] at hW
  unfold element_needs
  simp only [List.forall_mem_cons, List.not_mem_nil, false_implies, implies_true, and_true]
  obtain ⟨h1, h2⟩ := hW
  have nn : ∀ x, 0 ≤ x → 0 ≤ next_1 x L := fun x h => next_1_nn x L h h2
  have n1 := nn a h1
  have s6 := spokes_6_nn (next_1 a L) L n1 h2
  have r := next_0_range 3 (spokes_6 (next_1 a L) L) L (by omega) (by omega)
  have r' := next_0_range 3 (next_1 a L) L (by omega) (by omega)
  have p1 : 0 < element_s0 a L ∧ element_s0 a L ≤ 1000000 := pick3 _ _ _ _ _ (by decide) (by decide) (by decide)
  have p2 : 0 < element_s1 a L ∧ element_s1 a L ≤ 1000000 := pick3 _ _ _ _ _ (by decide) (by decide) (by decide)
  exact ⟨h1, h2, by decide, fun _ => ⟨n1, h2, fun _ => ⟨s6, h2, by decide⟩⟩, fun _ _ => ⟨s6, h2, by decide, r.1, by omega, by omega, nn _ s6, h2, p1⟩, fun _ => ⟨n1, h2, by decide, r'.1, by omega, by omega, nn _ n1, h2, p2⟩⟩
set_option maxRecDepth 1000000 in
theorem element_runs (u v a : Int) (L : List (List Int)) (hNeeds : ∀ pN ∈ (element_needs a L), pN) : Runs (runF (sums K_spokes) L_mul 29) (element_tpl.args [.i u, .i v, .i a]) (element_tpl.memo [.i u, .i v, .i a] [L]) element_tpl.n (SV.agg
    [SC.int IntKind.i64 (SI.v (element_0 u a L)), SC.int IntKind.i64 (SI.v (element_0 v a L)), SC.int IntKind.i64 (SI.v (element_2 u a L)), SC.int IntKind.i64 (SI.v (element_3 v a L)),
     SC.int IntKind.i64 (SI.v (element_4 u a L)), SC.int IntKind.i64 (SI.v (element_5 v a L)), SC.int IntKind.i64 (SI.v (element_6 a L)), SC.bool (SB.v (element_7 a L))])
    ([(0, Obj.blk 76 [(2, SC.wh 1), (1942, SC.int IntKind.i64 (SI.v (element_8 a L)))]), (1, Obj.row true 3 1 (RowC.lst 4 [CK.int IntKind.i64] L))]) :=
  Runs.of1 (ps := (element_needs a L)) (by kernel_rfl) hNeeds
noncomputable def element_out : List Pm → Lss → Option CRes
  | [.i u, .i v, .i a], [L] => some ⟨SV.agg
    [SC.int IntKind.i64 (SI.v (element_0 u a L)), SC.int IntKind.i64 (SI.v (element_0 v a L)), SC.int IntKind.i64 (SI.v (element_2 u a L)), SC.int IntKind.i64 (SI.v (element_3 v a L)),
     SC.int IntKind.i64 (SI.v (element_4 u a L)), SC.int IntKind.i64 (SI.v (element_5 v a L)), SC.int IntKind.i64 (SI.v (element_6 a L)), SC.bool (SB.v (element_7 a L))],
    [(0, Obj.blk 76 [(2, SC.wh 1), (1942, SC.int IntKind.i64 (SI.v (element_8 a L)))]), (1, Obj.row true 3 1 (RowC.lst 4 [CK.int IntKind.i64] L))],
    [0 ≤ a, L.length ≤ 1000000], [], 1951⟩
  | _, _ => none
theorem element_ok : FOk Try.prog 29 (tplS element_tpl element_out) := by
  refine tplS_ok (runF_ok known_spokes 29) fun ps ls r hr hn _ => ?_
  unfold element_out at hr
  split at hr
  · cases hr; exact ⟨_, element_runs _ _ _ _ (element_weak (by exact hn)), fun _ => rfl⟩
  · cases hr
noncomputable def K_element : List (Nat × Summ) := (29, tplS element_tpl element_out) :: K_spokes
theorem known_element : Known Try.prog (sums K_element) L_mul := known_cons known_spokes element_ok
noncomputable def elem_tpl : Tpl := ⟨[.one (.wh 0)], [(0, .row true 3 1 1 [.int .i64])], 2⟩
noncomputable def elem_needs (L : List (List Int)) : List Prop :=
  [Int.ofNat 0 ≤ 0, L.length ≤ 1000000, Int.ofNat 1001 ≠ 0, 0 ≤ next_1 0 L, L.length ≤ 1000000, Int.ofNat 1001 ≠ 0, 0 ≤ next_1 (next_1 0 L) L, L.length ≤ 1000000]
noncomputable def e0 (L : List (List Int)) : Int := (element_0 (range_0 (-500) 500 0 L) (next_1 (next_1 0 L) L) L)
noncomputable def e1 (L : List (List Int)) : Int := (element_0 (range_0 (-500) 500 (next_1 0 L) L) (next_1 (next_1 0 L) L) L)
noncomputable def e2 (L : List (List Int)) : Int := (element_2 (range_0 (-500) 500 0 L) (next_1 (next_1 0 L) L) L)
noncomputable def e3 (L : List (List Int)) : Int := (element_3 (range_0 (-500) 500 (next_1 0 L) L) (next_1 (next_1 0 L) L) L)
noncomputable def e4 (L : List (List Int)) : Int := (element_4 (range_0 (-500) 500 0 L) (next_1 (next_1 0 L) L) L)
noncomputable def e5 (L : List (List Int)) : Int := (element_5 (range_0 (-500) 500 (next_1 0 L) L) (next_1 (next_1 0 L) L) L)
noncomputable def e6 (L : List (List Int)) : Int := (element_6 (next_1 (next_1 0 L) L) L)
noncomputable def e7 (L : List (List Int)) : Bool := (element_7 (next_1 (next_1 0 L) L) L)
theorem elem_weak {L : List (List Int)} (hW : ∀ q ∈ ([L.length ≤ 1000000] : List Prop), q) : ∀ q ∈ (elem_needs L), q := by
  simp only [List.mem_cons, List.not_mem_nil, or_false, forall_eq_or_imp, forall_eq] at hW
  unfold elem_needs
  simp only [List.forall_mem_cons, List.not_mem_nil, false_implies, implies_true, and_true]
  have n1 := next_1_nn 0 L (by omega) hW
  exact ⟨by decide, hW, by decide, n1, hW, by decide, next_1_nn _ L n1 hW, hW⟩
set_option maxRecDepth 1000000 in
theorem elem_runs (L : List (List Int)) (hNeeds : ∀ pN ∈ (elem_needs L), pN) : Runs (runF (sums K_element) L_mul 13) (elem_tpl.args []) (elem_tpl.memo [] [L]) elem_tpl.n (SV.agg
    [SC.int IntKind.i64 (SI.v (element_0 (range_0 (-500) 500 0 L) (next_1 (next_1 0 L) L) L)), SC.int IntKind.i64 (SI.v (element_0 (range_0 (-500) 500 (next_1 0 L) L) (next_1 (next_1 0 L) L) L)),
     SC.int IntKind.i64 (SI.v (element_2 (range_0 (-500) 500 0 L) (next_1 (next_1 0 L) L) L)), SC.int IntKind.i64 (SI.v (element_3 (range_0 (-500) 500 (next_1 0 L) L) (next_1 (next_1 0 L) L) L)),
     SC.int IntKind.i64 (SI.v (element_4 (range_0 (-500) 500 0 L) (next_1 (next_1 0 L) L) L)), SC.int IntKind.i64 (SI.v (element_5 (range_0 (-500) 500 (next_1 0 L) L) (next_1 (next_1 0 L) L) L)),
     SC.int IntKind.i64 (SI.v (element_6 (next_1 (next_1 0 L) L) L)), SC.bool (SB.v (element_7 (next_1 (next_1 0 L) L) L))])
    ([(0, Obj.row true 3 1 (RowC.lst 1 [CK.int IntKind.i64] L))]) :=
  Runs.of1 (ps := (elem_needs L)) (by kernel_rfl) hNeeds
noncomputable def elem_out : List Pm → Lss → Option CRes
  | [], [L] => some ⟨SV.agg
    [SC.int IntKind.i64 (SI.v (e0 L)), SC.int IntKind.i64 (SI.v (e1 L)),
     SC.int IntKind.i64 (SI.v (e2 L)), SC.int IntKind.i64 (SI.v (e3 L)),
     SC.int IntKind.i64 (SI.v (e4 L)), SC.int IntKind.i64 (SI.v (e5 L)),
     SC.int IntKind.i64 (SI.v (e6 L)), SC.bool (SB.v (e7 L))],
    [(0, Obj.row true 3 1 (RowC.lst 1 [CK.int IntKind.i64] L))],
    [L.length ≤ 1000000], [], 2132⟩
  | _, _ => none
theorem elem_turned (L : List (List Int)) (hNeeds : ∀ pN ∈ (elem_needs L), pN) : Runs (runF (sums K_element) L_mul 13) (elem_tpl.args []) (elem_tpl.memo [] [L]) elem_tpl.n (SV.agg
    [SC.int IntKind.i64 (SI.v (e0 L)), SC.int IntKind.i64 (SI.v (e1 L)),
     SC.int IntKind.i64 (SI.v (e2 L)), SC.int IntKind.i64 (SI.v (e3 L)),
     SC.int IntKind.i64 (SI.v (e4 L)), SC.int IntKind.i64 (SI.v (e5 L)),
     SC.int IntKind.i64 (SI.v (e6 L)), SC.bool (SB.v (e7 L))])
    ([(0, Obj.row true 3 1 (RowC.lst 1 [CK.int IntKind.i64] L))]) :=
  (elem_runs L hNeeds).to (by first | rfl | (simp only [])) (by first | rfl | (simp only []))
theorem elem_ok : FOk Try.prog 13 (tplS elem_tpl elem_out) := by
  refine tplS_ok (runF_ok known_element 13) fun ps ls r hr hn _ => ?_
  unfold elem_out at hr
  split at hr
  · cases hr; exact ⟨_, elem_turned _ (elem_weak (by exact hn)), fun _ => rfl⟩
  · cases hr
noncomputable def K_elem : List (Nat × Summ) := (13, tplS elem_tpl elem_out) :: K_element
theorem known_elem : Known Try.prog (sums K_elem) L_mul := known_cons known_element elem_ok
end Go.Proofs.Ythgiaoidekdpfaa
