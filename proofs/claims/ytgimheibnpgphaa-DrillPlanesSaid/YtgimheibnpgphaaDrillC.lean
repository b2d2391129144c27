/-
  THE TAPE AND THE CYCLE that is made of it. Conditions: none.
-/
import Derived.Test.YtgimheibnpgphaaDrillT
set_option linter.all false
namespace Go.Proofs.Ytgimheibnpgphaa
open Go.SX Go.RowKit
noncomputable def light_tpl : Tpl := ⟨[.one (.wh 0)], [(0, .row true 3 1 1 [.int .i64])], 2⟩
noncomputable def light_0 (L : List (List Int)) : Bool :=
  decide (Int.ofNat L.length ≤ 120)
set_option maxRecDepth 1000000 in
theorem light_runs (L : List (List Int)) : Runs (runF (sums K_T) L_same 10) (light_tpl.args []) (light_tpl.memo [] [L]) light_tpl.n (SV.one (SC.bool (SB.v (light_0 L))))
    ([(0, Obj.row true 3 1 (RowC.lst 1 [CK.int IntKind.i64] L))]) :=
  Runs.of (ps := []) (by kernel_rfl) (by kernel_rfl) (by simp)
noncomputable def light_out : List Pm → Lss → Option CRes
  | [], [L] => some ⟨SV.one (SC.bool (SB.v (light_0 L))),
    [(0, Obj.row true 3 1 (RowC.lst 1 [CK.int IntKind.i64] L))],
    [], [], 7⟩
  | _, _ => none
theorem light_ok : FOk Try.prog 10 (tplS light_tpl light_out) := by
  refine tplS_ok (runF_ok known_T 10) fun ps ls r hr hn _ => ?_
  unfold light_out at hr
  split at hr
  · cases hr; exact ⟨_, light_runs _, fun _ => rfl⟩
  · cases hr
noncomputable def K_light : List (Nat × Summ) := (10, tplS light_tpl light_out) :: K_T
theorem known_light : Known Try.prog (sums K_light) L_same := known_cons known_T light_ok
noncomputable def new_tpl : Tpl := ⟨[.one (.wh 0)], [(0, .row true 3 1 1 [.int .i64])], 2⟩
set_option maxRecDepth 1000000 in
theorem new_runs (L : List (List Int)) : Runs (runF (sums K_light) L_same 22) (new_tpl.args []) (new_tpl.memo [] [L]) new_tpl.n (SV.one (SC.ptr 5 0))
    ([(5, Obj.blk 70 [(6, SC.wh 0), (7, SC.int IntKind.i64 (SI.c 0))]), (0, Obj.row true 3 1 (RowC.lst 1 [CK.int IntKind.i64] L))]) :=
  Runs.of (ps := []) (by kernel_rfl) (by kernel_rfl) (by simp)
noncomputable def new_out : List Pm → Lss → Option CRes
  | [], [L] => some ⟨SV.one (SC.ptr 5 0),
    [(5, Obj.blk 70 [(6, SC.wh 0), (7, SC.int IntKind.i64 (SI.c 0))]), (0, Obj.row true 3 1 (RowC.lst 1 [CK.int IntKind.i64] L))],
    [], [], 10⟩
  | _, _ => none
theorem new_ok : FOk Try.prog 22 (tplS new_tpl new_out) := by
  refine tplS_ok (runF_ok known_light 22) fun ps ls r hr hn _ => ?_
  unfold new_out at hr
  split at hr
  · cases hr; exact ⟨_, new_runs _, fun _ => rfl⟩
  · cases hr
noncomputable def K_new : List (Nat × Summ) := (22, tplS new_tpl new_out) :: K_light
theorem known_new : Known Try.prog (sums K_new) L_same := known_cons known_light new_ok
noncomputable def next_tpl : Tpl := ⟨[.one (.ptr 0 0), .one (.int .i64)], [(0, .blk 70 [(2, .wh 1), (3, .int .i64)]), (1, .row true 3 1 4 [.int .i64])], 5⟩
noncomputable def next_0 (n : Int) (a : Int) (L : List (List Int)) : Int :=
  bif decide (a ≥ Int.ofNat L.length) then 0 else mod_0 ((L.getD (IntKind.i64.wrap (IntKind.i64.wrap (a + 1) - 1)).toNat []).getD 0 0) n
noncomputable def next_1 (a : Int) (L : List (List Int)) : Int :=
  bif decide (a ≥ Int.ofNat L.length) then a else IntKind.i64.wrap (a + 1)
noncomputable def next_s0 (a : Int) : Int :=
  IntKind.i64.wrap (IntKind.i64.wrap (a + 1) - 1)
noncomputable def next_needs (n : Int) (a : Int) (L : List (List Int)) : List Prop :=
  [decide (a ≥ Int.ofNat L.length) = false → 0 ≤ next_s0 a ∧ (next_s0 a).toNat < L.length ∧ (next_s0 a).toNat < L.length ∧ n ≠ 0]
theorem next_1_nn (a : Int) (L : List (List Int)) (h : 0 ≤ a) (hl : L.length ≤ 1000000) : 0 ≤ next_1 a L := by
  unfold next_1
  cases hd : decide (a ≥ Int.ofNat L.length)
  · have h4 : a < (L.length : Int) := by simpa using hd
    rw [cond_false, wrI (by omega) (by omega)]
    omega
  · exact h
theorem mod_0_range (a b : Int) (h : 1 ≤ b) (hb : b ≤ 4611686018427387904) : 0 ≤ mod_0 a b ∧ mod_0 a b < b := by
  unfold mod_0
  have h1 := Int.tmod_lt_of_pos a (b := b) (by omega)
  have h2 : -b < a.tmod b := by
    have := Int.tmod_lt_of_pos (-a) (b := b) (by omega)
    rw [Int.neg_tmod] at this
    omega
  by_cases h3 : a.tmod b < 0
  · simp only [h3, decide_true, cond_true]
    rw [wrI (by omega) (by omega)]
    omega
  · simp only [h3, decide_false, cond_false]
    omega
theorem next_0_range (n a : Int) (L : List (List Int)) (h : 1 ≤ n) (hb : n ≤ 4611686018427387904) : 0 ≤ next_0 n a L ∧ next_0 n a L < n := by
  unfold next_0
  cases decide (a ≥ Int.ofNat L.length)
  · exact mod_0_range _ _ h hb
  · simp only [cond_true]; omega
theorem next_weak {n : Int} {a : Int} {L : List (List Int)} (hW : ∀ q ∈ ([0 ≤ a, L.length ≤ 1000000, n ≠ 0] : List Prop), q) : ∀ q ∈ (next_needs n a L), q := by
  simp only [List.mem_cons, List.not_mem_nil, or_false, forall_eq_or_imp, forall_eq] at hW
  intro q hq
  unfold next_needs at hq
  simp only [List.mem_cons, List.not_mem_nil, or_false] at hq
  obtain ⟨h1, h2, h3⟩ := hW
  subst hq
  intro h
  have h4 : a < (L.length : Int) := by simpa using h
  have e : next_s0 a = a := by unfold next_s0; rw [wrI (x := a + 1) (by omega) (by omega), wrI (by omega) (by omega)]; omega
  rw [e]
  exact ⟨h1, by omega, by omega, h3⟩
set_option maxRecDepth 1000000 in
theorem next_runs (n a : Int) (L : List (List Int)) (hNeeds : ∀ pN ∈ (next_needs n a L), pN) : Runs (runF (sums K_new) L_same 23) (next_tpl.args [.i n, .i a]) (next_tpl.memo [.i n, .i a] [L]) next_tpl.n (SV.one (SC.int IntKind.i64 (SI.v (next_0 n a L))))
    ([(0, Obj.blk 70 [(2, SC.wh 1), (54, SC.int IntKind.i64 (SI.v (next_1 a L)))]), (1, Obj.row true 3 1 (RowC.lst 4 [CK.int IntKind.i64] L))]) :=
  Runs.of (ps := (next_needs n a L)) (by kernel_rfl) (by kernel_rfl) hNeeds
noncomputable def next_out : List Pm → Lss → Option CRes
  | [.i n, .i a], [L] => some ⟨SV.one (SC.int IntKind.i64 (SI.v (next_0 n a L))),
    [(0, Obj.blk 70 [(2, SC.wh 1), (54, SC.int IntKind.i64 (SI.v (next_1 a L)))]), (1, Obj.row true 3 1 (RowC.lst 4 [CK.int IntKind.i64] L))],
    [0 ≤ a, L.length ≤ 1000000, n ≠ 0], [], 55⟩
  | _, _ => none
theorem next_ok : FOk Try.prog 23 (tplS next_tpl next_out) := by
  refine tplS_ok (runF_ok known_new 23) fun ps ls r hr hn _ => ?_
  unfold next_out at hr
  split at hr
  · cases hr; exact ⟨_, next_runs _ _ _ (next_weak (by exact hn)), fun _ => rfl⟩
  · cases hr
noncomputable def K_next : List (Nat × Summ) := (23, tplS next_tpl next_out) :: K_new
theorem known_next : Known Try.prog (sums K_next) L_same := known_cons known_new next_ok
noncomputable def cycle_tpl : Tpl := ⟨[.one (.wh 0)], [(0, .row true 3 1 1 [.int .i64])], 2⟩
noncomputable def cycle_0 (L : List (List Int)) : Int :=
  bif (next_0 9 0 L).toNat.beq 0 then 73
  else
    bif (next_0 9 0 L).toNat.beq 1 then 74
    else
      bif (next_0 9 0 L).toNat.beq 2 then 81
      else
        bif (next_0 9 0 L).toNat.beq 3 then 82
        else bif (next_0 9 0 L).toNat.beq 4 then 83 else bif (next_0 9 0 L).toNat.beq 5 then 84 else bif (next_0 9 0 L).toNat.beq 6 then 85 else bif (next_0 9 0 L).toNat.beq 7 then 86 else 89
noncomputable def cycle_1 (L : List (List Int)) : Int :=
  IntKind.i64.wrap (17 + next_0 3 (next_1 0 L) L)
noncomputable def cycle_2 (L : List (List Int)) : Int :=
  IntKind.i64.wrap (-5000 + next_0 10001 (next_1 (next_1 0 L) L) L)
noncomputable def cycle_3 (L : List (List Int)) : Int :=
  IntKind.i64.wrap (-5000 + next_0 10001 (next_1 (next_1 (next_1 0 L) L) L) L)
noncomputable def cycle_4 (L : List (List Int)) : Int :=
  IntKind.i64.wrap (-5000 + next_0 10001 (next_1 (next_1 (next_1 (next_1 0 L) L) L) L) L)
noncomputable def cycle_5 (L : List (List Int)) : Int :=
  IntKind.i64.wrap (-5000 + next_0 10001 (next_1 (next_1 (next_1 (next_1 (next_1 0 L) L) L) L) L) L)
noncomputable def cycle_6 (L : List (List Int)) : Int :=
  IntKind.i64.wrap (-5000 + next_0 10001 (next_1 (next_1 (next_1 (next_1 (next_1 (next_1 0 L) L) L) L) L) L) L)
noncomputable def cycle_7 (L : List (List Int)) : Int :=
  IntKind.i64.wrap (-5000 + next_0 10001 (next_1 (next_1 (next_1 (next_1 (next_1 (next_1 (next_1 0 L) L) L) L) L) L) L) L)
noncomputable def cycle_8 (L : List (List Int)) : Int :=
  IntKind.i64.wrap
    (IntKind.i64.wrap (-3000 + next_0 6001 (next_1 (next_1 (next_1 (next_1 (next_1 (next_1 (next_1 (next_1 0 L) L) L) L) L) L) L) L) L) +
      IntKind.i64.wrap (1 + next_0 4000 (next_1 (next_1 (next_1 (next_1 (next_1 (next_1 (next_1 (next_1 (next_1 (next_1 (next_1 (next_1 (next_1 (next_1 0 L) L) L) L) L) L) L) L) L) L) L) L) L) L) L))
noncomputable def cycle_9 (L : List (List Int)) : Int :=
  IntKind.i64.wrap (-3000 + next_0 6001 (next_1 (next_1 (next_1 (next_1 (next_1 (next_1 (next_1 (next_1 0 L) L) L) L) L) L) L) L) L)
noncomputable def cycle_10 (L : List (List Int)) : Int :=
  IntKind.i64.wrap (-5000 + next_0 10001 (next_1 (next_1 (next_1 (next_1 (next_1 (next_1 (next_1 (next_1 (next_1 0 L) L) L) L) L) L) L) L) L) L)
noncomputable def cycle_11 (L : List (List Int)) : Int :=
  IntKind.i64.wrap
    (50 + next_0 851 (next_1 (next_1 (next_1 (next_1 (next_1 (next_1 (next_1 (next_1 (next_1 (next_1 (next_1 (next_1 (next_1 (next_1 (next_1 0 L) L) L) L) L) L) L) L) L) L) L) L) L) L) L) L)
noncomputable def cycle_12 (L : List (List Int)) : Int :=
  IntKind.i64.wrap (98 + next_0 2 (next_1 (next_1 (next_1 (next_1 (next_1 (next_1 (next_1 (next_1 (next_1 (next_1 (next_1 0 L) L) L) L) L) L) L) L) L) L) L) L)
noncomputable def cycle_13 (L : List (List Int)) : Int :=
  bif cycle_0 L == 74 || cycle_0 L == 84 then IntKind.i64.wrap (4 - IntKind.i64.wrap ((IntKind.i64.wrap (cycle_0 L - 74)).tdiv 10))
  else IntKind.i64.wrap (3 + next_0 2 (next_1 (next_1 (next_1 (next_1 (next_1 (next_1 (next_1 (next_1 (next_1 (next_1 (next_1 (next_1 0 L) L) L) L) L) L) L) L) L) L) L) L) L)
noncomputable def cycle_needs (L : List (List Int)) : List Prop :=
  [Int.ofNat 0 ≤ 0, L.length ≤ 1000000, Int.ofNat 9 ≠ 0, 0 ≤ next_0 9 0 L, (next_0 9 0 L).toNat < 9, (next_0 9 0 L).toNat < 9, 0 ≤ next_1 0 L, L.length ≤ 1000000, Int.ofNat 3 ≠ 0,
    0 ≤ next_1 (next_1 0 L) L, L.length ≤ 1000000, Int.ofNat 10001 ≠ 0, 0 ≤ next_1 (next_1 (next_1 0 L) L) L, L.length ≤ 1000000, Int.ofNat 10001 ≠ 0, 0 ≤ next_1 (next_1 (next_1 (next_1 0 L) L) L) L,
    L.length ≤ 1000000, Int.ofNat 10001 ≠ 0, 0 ≤ next_1 (next_1 (next_1 (next_1 (next_1 0 L) L) L) L) L, L.length ≤ 1000000, Int.ofNat 10001 ≠ 0,
    0 ≤ next_1 (next_1 (next_1 (next_1 (next_1 (next_1 0 L) L) L) L) L) L, L.length ≤ 1000000, Int.ofNat 10001 ≠ 0, 0 ≤ next_1 (next_1 (next_1 (next_1 (next_1 (next_1 (next_1 0 L) L) L) L) L) L) L,
    L.length ≤ 1000000, Int.ofNat 10001 ≠ 0, 0 ≤ next_1 (next_1 (next_1 (next_1 (next_1 (next_1 (next_1 (next_1 0 L) L) L) L) L) L) L) L, L.length ≤ 1000000, Int.ofNat 6001 ≠ 0,
    0 ≤ next_1 (next_1 (next_1 (next_1 (next_1 (next_1 (next_1 (next_1 (next_1 0 L) L) L) L) L) L) L) L) L, L.length ≤ 1000000, Int.ofNat 10001 ≠ 0,
    0 ≤ next_1 (next_1 (next_1 (next_1 (next_1 (next_1 (next_1 (next_1 (next_1 (next_1 0 L) L) L) L) L) L) L) L) L) L, L.length ≤ 1000000, Int.ofNat 100 ≠ 0,
    0 ≤ next_1 (next_1 (next_1 (next_1 (next_1 (next_1 (next_1 (next_1 (next_1 (next_1 (next_1 0 L) L) L) L) L) L) L) L) L) L) L, L.length ≤ 1000000, Int.ofNat 2 ≠ 0,
    0 ≤ next_1 (next_1 (next_1 (next_1 (next_1 (next_1 (next_1 (next_1 (next_1 (next_1 (next_1 (next_1 0 L) L) L) L) L) L) L) L) L) L) L) L, L.length ≤ 1000000, Int.ofNat 2 ≠ 0,
    0 ≤ next_1 (next_1 (next_1 (next_1 (next_1 (next_1 (next_1 (next_1 (next_1 (next_1 (next_1 (next_1 (next_1 0 L) L) L) L) L) L) L) L) L) L) L) L) L, L.length ≤ 1000000, Int.ofNat 9000 ≠ 0,
    0 ≤ next_1 (next_1 (next_1 (next_1 (next_1 (next_1 (next_1 (next_1 (next_1 (next_1 (next_1 (next_1 (next_1 (next_1 0 L) L) L) L) L) L) L) L) L) L) L) L) L) L, L.length ≤ 1000000, Int.ofNat 4000 ≠ 0,
    0 ≤ next_1 (next_1 (next_1 (next_1 (next_1 (next_1 (next_1 (next_1 (next_1 (next_1 (next_1 (next_1 (next_1 (next_1 (next_1 0 L) L) L) L) L) L) L) L) L) L) L) L) L) L) L, L.length ≤ 1000000,
    Int.ofNat 851 ≠ 0]
noncomputable def cyc12 (L : List (List Int)) : Int := (next_0 100 (next_1 (next_1 (next_1 (next_1 (next_1 (next_1 (next_1 (next_1 (next_1 (next_1 0 L) L) L) L) L) L) L) L) L) L) L)
noncomputable def cyc15 (L : List (List Int)) : Int := (next_0 9000 (next_1 (next_1 (next_1 (next_1 (next_1 (next_1 (next_1 (next_1 (next_1 (next_1 (next_1 (next_1 (next_1 0 L) L) L) L) L) L) L) L) L) L) L) L) L) L)
theorem cyc12_rng (L : List (List Int)) : 0 ≤ cyc12 L ∧ cyc12 L < 100 := next_0_range _ _ _ (by omega) (by omega)
theorem cyc15_rng (L : List (List Int)) : 0 ≤ cyc15 L ∧ cyc15 L < 9000 := next_0_range _ _ _ (by omega) (by omega)
theorem cycle_0_code (L : List (List Int)) : cycle_0 L = 73 ∨ cycle_0 L = 74 ∨ cycle_0 L = 81 ∨ cycle_0 L = 82 ∨ cycle_0 L = 83 ∨ cycle_0 L = 84 ∨ cycle_0 L = 85 ∨ cycle_0 L = 86 ∨ cycle_0 L = 89 := by
  have key : ∀ (b : Bool) (x y : Int) (P : Int → Prop), P x → P y → P (bif b then x else y) := fun b x y P h1 h2 => by cases b <;> assumption
  unfold cycle_0
  refine key _ _ _ (fun x => x = 73 ∨ x = 74 ∨ x = 81 ∨ x = 82 ∨ x = 83 ∨ x = 84 ∨ x = 85 ∨ x = 86 ∨ x = 89) (by omega) ?_
  refine key _ _ _ (fun x => x = 73 ∨ x = 74 ∨ x = 81 ∨ x = 82 ∨ x = 83 ∨ x = 84 ∨ x = 85 ∨ x = 86 ∨ x = 89) (by omega) ?_
  refine key _ _ _ (fun x => x = 73 ∨ x = 74 ∨ x = 81 ∨ x = 82 ∨ x = 83 ∨ x = 84 ∨ x = 85 ∨ x = 86 ∨ x = 89) (by omega) ?_
  refine key _ _ _ (fun x => x = 73 ∨ x = 74 ∨ x = 81 ∨ x = 82 ∨ x = 83 ∨ x = 84 ∨ x = 85 ∨ x = 86 ∨ x = 89) (by omega) ?_
  refine key _ _ _ (fun x => x = 73 ∨ x = 74 ∨ x = 81 ∨ x = 82 ∨ x = 83 ∨ x = 84 ∨ x = 85 ∨ x = 86 ∨ x = 89) (by omega) ?_
  refine key _ _ _ (fun x => x = 73 ∨ x = 74 ∨ x = 81 ∨ x = 82 ∨ x = 83 ∨ x = 84 ∨ x = 85 ∨ x = 86 ∨ x = 89) (by omega) ?_
  refine key _ _ _ (fun x => x = 73 ∨ x = 74 ∨ x = 81 ∨ x = 82 ∨ x = 83 ∨ x = 84 ∨ x = 85 ∨ x = 86 ∨ x = 89) (by omega) ?_
  exact key _ _ _ (fun x => x = 73 ∨ x = 74 ∨ x = 81 ∨ x = 82 ∨ x = 83 ∨ x = 84 ∨ x = 85 ∨ x = 86 ∨ x = 89) (by omega) (by omega)
theorem wrap_next (lo n a : Int) (L : List (List Int)) (h : 1 ≤ n) (hb : n ≤ 100000) (h1 : -100000 ≤ lo) (h2 : lo ≤ 100000) : lo ≤ IntKind.i64.wrap (lo + next_0 n a L) ∧ IntKind.i64.wrap (lo + next_0 n a L) < lo + n := by
  have := next_0_range n a L h (by omega)
  rw [wrI (by omega) (by omega)]
  omega
theorem cycle_1_rng (L : List (List Int)) : 17 ≤ cycle_1 L ∧ cycle_1 L < 17 + 3 := wrap_next _ _ _ _ (by omega) (by omega) (by omega) (by omega)
theorem cycle_2_rng (L : List (List Int)) : -5000 ≤ cycle_2 L ∧ cycle_2 L < -5000 + 10001 := wrap_next _ _ _ _ (by omega) (by omega) (by omega) (by omega)
theorem cycle_3_rng (L : List (List Int)) : -5000 ≤ cycle_3 L ∧ cycle_3 L < -5000 + 10001 := wrap_next _ _ _ _ (by omega) (by omega) (by omega) (by omega)
theorem cycle_4_rng (L : List (List Int)) : -5000 ≤ cycle_4 L ∧ cycle_4 L < -5000 + 10001 := wrap_next _ _ _ _ (by omega) (by omega) (by omega) (by omega)
theorem cycle_5_rng (L : List (List Int)) : -5000 ≤ cycle_5 L ∧ cycle_5 L < -5000 + 10001 := wrap_next _ _ _ _ (by omega) (by omega) (by omega) (by omega)
theorem cycle_6_rng (L : List (List Int)) : -5000 ≤ cycle_6 L ∧ cycle_6 L < -5000 + 10001 := wrap_next _ _ _ _ (by omega) (by omega) (by omega) (by omega)
theorem cycle_7_rng (L : List (List Int)) : -5000 ≤ cycle_7 L ∧ cycle_7 L < -5000 + 10001 := wrap_next _ _ _ _ (by omega) (by omega) (by omega) (by omega)
theorem cycle_9_rng (L : List (List Int)) : -3000 ≤ cycle_9 L ∧ cycle_9 L < -3000 + 6001 := wrap_next _ _ _ _ (by omega) (by omega) (by omega) (by omega)
theorem cycle_8_rng (L : List (List Int)) : cycle_9 L + 1 ≤ cycle_8 L ∧ cycle_8 L ≤ cycle_9 L + 4000 := by
  have h1 := cycle_9_rng L
  have h2 := wrap_next 1 4000 (next_1 (next_1 (next_1 (next_1 (next_1 (next_1 (next_1 (next_1 (next_1 (next_1 (next_1 (next_1 (next_1 (next_1 0 L) L) L) L) L) L) L) L) L) L) L) L) L) L) L (by omega) (by omega) (by omega) (by omega)
  have e : cycle_8 L = IntKind.i64.wrap (cycle_9 L + IntKind.i64.wrap (1 + next_0 4000 (next_1 (next_1 (next_1 (next_1 (next_1 (next_1 (next_1 (next_1 (next_1 (next_1 (next_1 (next_1 (next_1 (next_1 0 L) L) L) L) L) L) L) L) L) L) L) L) L) L) L)) := rfl
  generalize IntKind.i64.wrap (1 + next_0 4000 (next_1 (next_1 (next_1 (next_1 (next_1 (next_1 (next_1 (next_1 (next_1 (next_1 (next_1 (next_1 (next_1 (next_1 0 L) L) L) L) L) L) L) L) L) L) L) L) L) L) L) = z at e h2
  rw [e, wrI (by omega) (by omega)]
  omega
theorem cycle_10_rng (L : List (List Int)) : -5000 ≤ cycle_10 L ∧ cycle_10 L < -5000 + 10001 := wrap_next _ _ _ _ (by omega) (by omega) (by omega) (by omega)
theorem cycle_11_rng (L : List (List Int)) : 50 ≤ cycle_11 L ∧ cycle_11 L < 50 + 851 := wrap_next _ _ _ _ (by omega) (by omega) (by omega) (by omega)
theorem cycle_12_rng (L : List (List Int)) : 98 ≤ cycle_12 L ∧ cycle_12 L < 98 + 2 := wrap_next _ _ _ _ (by omega) (by omega) (by omega) (by omega)
theorem cycle_13_rng (L : List (List Int)) : (3 ≤ cycle_13 L ∧ cycle_13 L ≤ 4) ∧ (cycle_0 L = 74 → cycle_13 L = 4) ∧ (cycle_0 L = 84 → cycle_13 L = 3) := by
  have h := wrap_next 3 2 (next_1 (next_1 (next_1 (next_1 (next_1 (next_1 (next_1 (next_1 (next_1 (next_1 (next_1 (next_1 0 L) L) L) L) L) L) L) L) L) L) L) L) L (by omega) (by omega) (by omega) (by omega)
  unfold cycle_13
  have h' := And.intro h.1 (Int.le_of_lt_add_one (b := 4) h.2)
  rcases cycle_0_code L with e | e | e | e | e | e | e | e | e <;> rw [e] <;> first
    | exact ⟨h', fun h => by omega, fun h => by omega⟩
    | (rw [show ((74 : Int) == 74 || (74 : Int) == 84) = true from rfl, cond_true, show IntKind.i64.wrap (4 - IntKind.i64.wrap ((IntKind.i64.wrap (74 - 74)).tdiv 10)) = 4 from by decide]; omega)
    | (rw [show ((84 : Int) == 74 || (84 : Int) == 84) = true from rfl, cond_true, show IntKind.i64.wrap (4 - IntKind.i64.wrap ((IntKind.i64.wrap (84 - 74)).tdiv 10)) = 3 from by decide]; omega)
theorem cycle_weak {L : List (List Int)} (hW : ∀ q ∈ ([L.length ≤ 1000000] : List Prop), q) : ∀ q ∈ (cycle_needs L), q := by
  simp only [List.mem_cons, List.not_mem_nil, or_false, forall_eq_or_imp, forall_eq] at hW
  unfold cycle_needs
  simp only [List.forall_mem_cons, List.not_mem_nil, false_implies, implies_true, and_true]
  have nn : ∀ a, 0 ≤ a → 0 ≤ next_1 a L := fun a h => next_1_nn a L h hW
  have r9 := next_0_range 9 0 L (by omega) (by omega)
  have r9' : (next_0 9 0 L).toNat < 9 := by omega
  simp only [hW, r9.1, r9', true_and, and_true]
  repeat' apply And.intro
  all_goals first | omega | decide | (apply nn; repeat (first | exact Int.le_refl 0 | apply nn))
set_option maxRecDepth 1000000 in
theorem cycle_runs (L : List (List Int)) (hNeeds : ∀ pN ∈ (cycle_needs L), pN) : Runs (runF (sums K_next) L_same 12) (cycle_tpl.args []) (cycle_tpl.memo [] [L]) cycle_tpl.n (SV.agg
    [SC.int IntKind.i64 (SI.v (cycle_0 L)), SC.int IntKind.i64 (SI.v (cycle_1 L)), SC.int IntKind.i64 (SI.v (cycle_2 L)), SC.int IntKind.i64 (SI.v (cycle_3 L)), SC.int IntKind.i64 (SI.v (cycle_4 L)),
      SC.int IntKind.i64 (SI.v (cycle_5 L)), SC.int IntKind.i64 (SI.v (cycle_6 L)), SC.int IntKind.i64 (SI.v (cycle_7 L)), SC.int IntKind.i64 (SI.v (cycle_8 L)), SC.int IntKind.i64 (SI.v (cycle_9 L)),
      SC.int IntKind.i64 (SI.v (cycle_10 L)), SC.int IntKind.i64 (SI.v (cycle_11 L)),
      SC.int IntKind.i64 (SI.v (next_0 100 (next_1 (next_1 (next_1 (next_1 (next_1 (next_1 (next_1 (next_1 (next_1 (next_1 0 L) L) L) L) L) L) L) L) L) L) L)), SC.int IntKind.i64 (SI.v (cycle_12 L)),
      SC.int IntKind.i64 (SI.v (cycle_13 L)),
      SC.int IntKind.i64 (SI.v (next_0 9000 (next_1 (next_1 (next_1 (next_1 (next_1 (next_1 (next_1 (next_1 (next_1 (next_1 (next_1 (next_1 (next_1 0 L) L) L) L) L) L) L) L) L) L) L) L) L) L))])
    ([(0, Obj.row true 3 1 (RowC.lst 1 [CK.int IntKind.i64] L))]) :=
  Runs.of (ps := (cycle_needs L)) (by kernel_rfl) (by kernel_rfl) hNeeds
noncomputable def cycle_out : List Pm → Lss → Option CRes
  | [], [L] => some ⟨SV.agg
    [SC.int IntKind.i64 (SI.v (cycle_0 L)), SC.int IntKind.i64 (SI.v (cycle_1 L)), SC.int IntKind.i64 (SI.v (cycle_2 L)), SC.int IntKind.i64 (SI.v (cycle_3 L)), SC.int IntKind.i64 (SI.v (cycle_4 L)),
      SC.int IntKind.i64 (SI.v (cycle_5 L)), SC.int IntKind.i64 (SI.v (cycle_6 L)), SC.int IntKind.i64 (SI.v (cycle_7 L)), SC.int IntKind.i64 (SI.v (cycle_8 L)), SC.int IntKind.i64 (SI.v (cycle_9 L)),
      SC.int IntKind.i64 (SI.v (cycle_10 L)), SC.int IntKind.i64 (SI.v (cycle_11 L)),
      SC.int IntKind.i64 (SI.v (cyc12 L)), SC.int IntKind.i64 (SI.v (cycle_12 L)),
      SC.int IntKind.i64 (SI.v (cycle_13 L)),
      SC.int IntKind.i64 (SI.v (cyc15 L))],
    [(0, Obj.row true 3 1 (RowC.lst 1 [CK.int IntKind.i64] L))],
    [L.length ≤ 1000000], [], 1289⟩
  | _, _ => none
theorem cycle_turned (L : List (List Int)) (hNeeds : ∀ pN ∈ (cycle_needs L), pN) : Runs (runF (sums K_next) L_same 12) (cycle_tpl.args []) (cycle_tpl.memo [] [L]) cycle_tpl.n (SV.agg
    [SC.int IntKind.i64 (SI.v (cycle_0 L)), SC.int IntKind.i64 (SI.v (cycle_1 L)), SC.int IntKind.i64 (SI.v (cycle_2 L)), SC.int IntKind.i64 (SI.v (cycle_3 L)), SC.int IntKind.i64 (SI.v (cycle_4 L)),
      SC.int IntKind.i64 (SI.v (cycle_5 L)), SC.int IntKind.i64 (SI.v (cycle_6 L)), SC.int IntKind.i64 (SI.v (cycle_7 L)), SC.int IntKind.i64 (SI.v (cycle_8 L)), SC.int IntKind.i64 (SI.v (cycle_9 L)),
      SC.int IntKind.i64 (SI.v (cycle_10 L)), SC.int IntKind.i64 (SI.v (cycle_11 L)),
      SC.int IntKind.i64 (SI.v (cyc12 L)), SC.int IntKind.i64 (SI.v (cycle_12 L)),
      SC.int IntKind.i64 (SI.v (cycle_13 L)),
      SC.int IntKind.i64 (SI.v (cyc15 L))])
    ([(0, Obj.row true 3 1 (RowC.lst 1 [CK.int IntKind.i64] L))]) :=
  (cycle_runs L hNeeds).to (by first | rfl | (simp only [])) (by first | rfl | (simp only []))
theorem cycle_ok : FOk Try.prog 12 (tplS cycle_tpl cycle_out) := by
  refine tplS_ok (runF_ok known_next 12) fun ps ls r hr hn _ => ?_
  unfold cycle_out at hr
  split at hr
  · cases hr; exact ⟨_, cycle_turned _ (cycle_weak (by exact hn)), fun _ => rfl⟩
  · cases hr
noncomputable def K_cycle : List (Nat × Summ) := (12, tplS cycle_tpl cycle_out) :: K_next
theorem known_cycle : Known Try.prog (sums K_cycle) L_same := known_cons known_next cycle_ok
/-- The cycle that is made of a tape. -/
noncomputable def onC (f : Int → Int → Int → Int → Int → Int → Int → Int → Int → Int → Int → Int → Int → Int → Int → Int → Int) (L : List (List Int)) : Int := f (cycle_0 L) (cycle_1 L) (cycle_2 L) (cycle_3 L) (cycle_4 L) (cycle_5 L) (cycle_6 L) (cycle_7 L) (cycle_8 L) (cycle_9 L) (cycle_10 L) (cycle_11 L) (cyc12 L) (cycle_12 L) (cycle_13 L) (cyc15 L)
theorem in_rng {lo hi x : Int} (h1 : lo ≤ x) (h2 : x ≤ hi) : (decide (x ≥ lo) && decide (x ≤ hi)) = true := by simp [h1, h2]
theorem chk_zero (c0 c1 c2 c3 c4 c5 c6 c7 c8 c9 c10 c11 c12 c13 c14 c15 : Int) (h0 : c0 = 73 ∨ c0 = 74 ∨ c0 = 81 ∨ c0 = 82 ∨ c0 = 83 ∨ c0 = 84 ∨ c0 = 85 ∨ c0 = 86 ∨ c0 = 89) (h1 : 17 ≤ c1 ∧ c1 < 17 + 3)
    (h2 : -5000 ≤ c2 ∧ c2 < -5000 + 10001) (h3 : -5000 ≤ c3 ∧ c3 < -5000 + 10001) (h4 : -5000 ≤ c4 ∧ c4 < -5000 + 10001) (h5 : -5000 ≤ c5 ∧ c5 < -5000 + 10001) (h6 : -5000 ≤ c6 ∧ c6 < -5000 + 10001) (h7 : -5000 ≤ c7 ∧ c7 < -5000 + 10001)
    (h8 : c9 + 1 ≤ c8 ∧ c8 ≤ c9 + 4000) (h9 : -3000 ≤ c9 ∧ c9 < -3000 + 6001) (h10 : -5000 ≤ c10 ∧ c10 < -5000 + 10001) (h11 : 50 ≤ c11 ∧ c11 < 50 + 851) (h12 : 0 ≤ c12 ∧ c12 < 100) (h13 : 98 ≤ c13 ∧ c13 < 98 + 2)
    (h14 : (3 ≤ c14 ∧ c14 ≤ 4) ∧ (c0 = 74 → c14 = 4) ∧ (c0 = 84 → c14 = 3)) (h15 : 0 ≤ c15 ∧ c15 < 9000) : chk c0 c1 c2 c3 c4 c5 c6 c7 c8 c9 c10 c11 c12 c13 c14 c15 = 0 := by
  have e0 : codeOk c0 = true := by unfold codeOk; rcases h0 with rfl | rfl | rfl | rfl | rfl | rfl | rfl | rfl | rfl <;> rfl
  have e1 : argBad c1 c2 c3 c4 c5 c6 c7 c8 c9 c10 c12 c13 c14 c15 = false := by
    have p1 : flat_3 c1 = true := by
      have : c1 = 17 ∨ c1 = 18 ∨ c1 = 19 := by omega
      rcases this with rfl | rfl | rfl <;> rfl
    have p2 : within_0 c2 c3 c4 = true := by unfold within_0; simp; omega
    have p3 : within_0 c5 c6 c7 = true := by unfold within_0; simp; omega
    unfold argBad
    rw [p1, p2, p3, in_rng (by omega) (by omega), in_rng (by omega) (by omega), in_rng (by omega) (by omega)]
    have p4 : (c13 != 98 && c13 != 99) = false := by
      have : c13 = 98 ∨ c13 = 99 := by omega
      rcases this with rfl | rfl <;> rfl
    rw [p4]
    simp
    omega
  have e2 : stateBad c0 c14 = false := by
    unfold stateBad
    obtain ⟨q1, q2, q3⟩ := h14
    rcases h0 with rfl | rfl | rfl | rfl | rfl | rfl | rfl | rfl | rfl <;> simp at q2 q3 ⊢ <;> omega
  have e3 : decide (c11 < 1) = false := by simp; omega
  have e4 : decide (pk c8 c9 c11 > 1000) = false := by
    have q4 : 0 ≤ (c8 - c9 - 1).tdiv c11 := Int.tdiv_nonneg (by omega) (by omega)
    have q5 : (c8 - c9 - 1).tdiv c11 ≤ (c8 - c9 - 1).tdiv 50 := by
      rw [Int.tdiv_eq_ediv_of_nonneg (by omega), Int.tdiv_eq_ediv_of_nonneg (by omega)]
      have a1 : (c8 - c9 - 1) / c11 * c11 ≤ c8 - c9 - 1 := Int.ediv_mul_le _ (by omega)
      have a2 : 0 ≤ (c8 - c9 - 1) / c11 := Int.ediv_nonneg (by omega) (by omega)
      have a3 : (c8 - c9 - 1) / c11 * 50 ≤ (c8 - c9 - 1) / c11 * c11 := Int.mul_le_mul_of_nonneg_left (by omega) a2
      omega
    have q6 : (c8 - c9 - 1).tdiv 50 ≤ 100 := by rw [Int.tdiv_eq_ediv_of_nonneg (by omega)]; omega
    unfold pk
    rw [wrI (x := c8 - c9) (by omega) (by omega), wrI (x := c8 - c9 - 1) (by omega) (by omega), wrI (x := (c8 - c9 - 1).tdiv c11) (by omega) (by omega), wrI (x := (c8 - c9 - 1).tdiv c11 + 1) (by omega) (by omega)]
    simp; omega
  unfold chk
  rw [e0, e1, e2, e3, e4]
  simp
theorem cycle_chk (L : List (List Int)) : chk (cycle_0 L) (cycle_1 L) (cycle_2 L) (cycle_3 L) (cycle_4 L) (cycle_5 L) (cycle_6 L) (cycle_7 L) (cycle_8 L) (cycle_9 L) (cycle_10 L) (cycle_11 L) (cyc12 L) (cycle_12 L) (cycle_13 L) (cyc15 L) = 0 :=
  chk_zero _ _ _ _ _ _ _ _ _ _ _ _ _ _ _ _ (cycle_0_code L) (cycle_1_rng L) (cycle_2_rng L) (cycle_3_rng L) (cycle_4_rng L) (cycle_5_rng L) (cycle_6_rng L) (cycle_7_rng L) (cycle_8_rng L) (cycle_9_rng L) (cycle_10_rng L) (cycle_11_rng L) (cyc12_rng L) (cycle_12_rng L) (cycle_13_rng L) (cyc15_rng L)
end Go.Proofs.Ytgimheibnpgphaa
