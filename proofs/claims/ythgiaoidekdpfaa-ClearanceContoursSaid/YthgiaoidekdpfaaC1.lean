/-
  REF01: the digits of a number, the end of a list of digits, the comparison. Conditions: none.
-/
import Derived.Test.YthgiaoidekdpfaaW8
import Derived.Test.YthgiaoidekdpfaaN1
set_option linter.all false
namespace Go.Proofs.Ythgiaoidekdpfaa
open Go.SX Go.RowKit
noncomputable def ent (t : Nat) (v : SV) : Ent := ⟨[], [], t, v⟩
noncomputable def I (x : Int) : SC := .int .i64 (.v x)
noncomputable def U (x : Int) : SC := .int .u64 (.v x)
noncomputable def rowU (id tag : Nat) (xs : Dg) : Nat × SX.Obj := (id, .row false 116 1 (.lst tag [.int .u64] xs))
noncomputable def limF (n : Int) : Fam Nat Unit where
  k := 20
  E j := [(3, ent 1000000000 (.one (.wh 4))), (0, ent 1000000001 (.one (U (n / 65536 ^ j))))]
  M j := [rowU 4 1000000002 (limb n j)]
  out _ := .leaf (.exit 0) [(3, ent 6 (.one (.wh 4)))] [rowU 4 7 (limbL n)]
  fin _ := ()
  next j _ := j + 1
  J j := j ≤ nd n ∧ 0 ≤ n ∧ n < 18446744073709551616
  μ j := nd n - j
noncomputable def lim_s0 (n : Int) (j : Nat) : Int :=
  n / 65536 ^ j
noncomputable def lim_s1 (n : Int) (j : Nat) : Prop :=
  decide (lim_s0 n j > 0) = true
noncomputable def lim_needs (n : Int) (j : Nat) : List Prop :=
  [lim_s1 n j → (List.length (limb n j) + 1) * 8 ≤ 140737488355328 ∧ List.length (limb n j) + 1 ≤ 9223372036854775807,
    lim_s1 n j →
     ((limF n).next j 0 ≤ nd n ∧ 0 ≤ n ∧ n < 18446744073709551616) ∧
     (limF n).μ ((limF n).next j 0) < (limF n).μ j ∧
     (limF n).fin ((limF n).next j 0) = (limF n).fin j ∧
     n / 65536 ^ (limF n).next j 0 = ishift BinOp.shr IntKind.u64 (lim_s0 n j) 16 ∧ limb n ((limF n).next j 0) = limb n j ++ [[ibits BinOp.and IntKind.u64 (lim_s0 n j) 65535]],
    decide (lim_s0 n j > 0) = false → limbL n = limb n j]
theorem lim_round (n : Int) (j : Nat) (hNeeds : ∀ pN ∈ (lim_needs n j), pN) : RoundOk (roundC (limF n) (bodyOf Try.prog (sums K_small) L0 102 0) 2 j) :=
  RoundOk.of (ps := (lim_needs n j)) (by kernel_rfl) (by kernel_rfl) hNeeds
theorem lim_rounds (n : Int) : RoundsOk (limF n) (bodyOf Try.prog (sums K_small) L0 102 0) 2 := by
  intro j hJ
  obtain ⟨h1, h2, h3⟩ : j ≤ nd n ∧ 0 ≤ n ∧ n < 18446744073709551616 := hJ
  have h4 := (nd_spec h2 h3 (j := 0) (by omega)).2
  have h5 := (nd_spec h2 h3 (j := j) (by omega)).1
  obtain ⟨h6, h7⟩ := div_rng h2 h3 j
  have e : lim_s0 n j = n / 65536 ^ j := rfl
  refine lim_round n j fun q hq => ?_
  unfold lim_needs at hq
  simp only [List.mem_cons, List.not_mem_nil, or_false] at hq
  rcases hq with rfl | rfl | rfl
  · intro _
    rw [limb_len]; omega
  · intro h
    have h : 0 < n / 65536 ^ j := by simpa [lim_s1, e] using h
    have h8 := h5.1 h
    refine ⟨⟨by show j + 1 ≤ nd n; omega, h2, h3⟩, by show nd n - (j + 1) < nd n - j; omega, trivial, ?_, ?_⟩
    · rw [e, shr16 _ h6]; exact div_pow n j
    · rw [e, and16 _ h6 h7]; exact limb_succ n j
  · intro h
    have h : ¬ 0 < n / 65536 ^ j := by simpa [e] using h
    have : j = nd n := by
      rcases Nat.lt_or_ge j (nd n) with h8 | h8
      · exact absurd (h5.2 h8) h
      · omega
    rw [this]; rfl
noncomputable def limLp : LoopS := fun env mem m => match SX.look env 0 with
  | some ⟨_, _, _, .one (.int .u64 (.v n))⟩ => famS (limF n) 2 (fun _ _ => some 0) env mem m
  | some ⟨_, _, _, .one (.int .u64 (.c n))⟩ => famS (limF n) 2 (fun _ _ => some 0) env mem m
  | _ => none
noncomputable def L_lim : FuncId → Nat → Option LoopS := addL L0 102 2 limLp
theorem known_limL : Known Try.prog (sums K_small) L_lim := by
  refine known_addL 0 known_small (by kernel_rfl) (codeOk_of fun env mem m x h => ?_)
  unfold limLp at h
  have hlen : (loopList Try.prog 102).length = 1 := by kernel_rfl
  split at h
  · exact ⟨_, fam_ok (bodyOf_ok plainN known_small (by omega)) (lim_rounds _), h⟩
  · exact ⟨_, fam_ok (bodyOf_ok plainN known_small (by omega)) (lim_rounds _), h⟩
  · cases h
noncomputable def limbs_tpl : Tpl := ⟨[.one (.int .u64)], [], 0⟩
noncomputable def limbs_needs (n : Int) : List Prop :=
  [0 ≤ nd n ∧ 0 ≤ n ∧ n < 18446744073709551616, n / 1 = n, limb n 0 = []]
theorem limbs_weak {n : Int} (hW : ∀ q ∈ ([0 ≤ n, n < 18446744073709551616] : List Prop), q) : ∀ q ∈ (limbs_needs n), q := by
  simp only [List.mem_cons, List.not_mem_nil, or_false, forall_eq_or_imp, forall_eq] at hW
  intro q hq
  unfold limbs_needs at hq
  simp only [List.mem_cons, List.not_mem_nil, or_false] at hq
  obtain ⟨h1, h2⟩ := hW
  rcases hq with rfl | rfl | rfl
  · exact ⟨Nat.zero_le _, h1, h2⟩
  · simp
  · rfl
set_option maxRecDepth 1000000 in
theorem limbs_runs (n : Int) (hNeeds : ∀ pN ∈ (limbs_needs n), pN) : Runs (runF (sums K_small) L_lim 102) (limbs_tpl.args [.i n]) (limbs_tpl.memo [.i n] []) limbs_tpl.n (SV.one (SC.wh 4))
    ([(4, Obj.row false 116 1 (RowC.lst 7 [CK.int IntKind.u64] (limbL n)))]) :=
  Runs.of1 (ps := (limbs_needs n)) (by kernel_rfl) hNeeds
noncomputable def limbs_out : List Pm → Lss → Option CRes
  | [.i n], [] => some ⟨SV.one (SC.wh 4),
    [(4, Obj.row false 116 1 (RowC.lst 7 [CK.int IntKind.u64] (limbL n)))],
    [0 ≤ n, n < 18446744073709551616], [], 24⟩
  | _, _ => none
theorem limbs_ok : FOk Try.prog 102 (tplS limbs_tpl limbs_out) := by
  refine tplS_ok (runF_ok known_limL 102) fun ps ls r hr hn _ => ?_
  unfold limbs_out at hr
  split at hr
  · cases hr; exact ⟨_, limbs_runs _ (limbs_weak (by exact hn)), fun _ => rfl⟩
  · cases hr
noncomputable def K_limbs : List (Nat × Summ) := (102, tplS limbs_tpl limbs_out) :: K_small
theorem known_limbs : Known Try.prog (sums K_limbs) L_lim := known_cons known_limL limbs_ok
noncomputable def cutF (xs : Dg) : Fam Nat Unit where
  k := 20
  E j := [(0, ent 1000000000 (.one (.wh 5)))]
  M j := [rowU 5 1000000001 (xs.take j)]
  out _ := .leaf (.exit 0) [(0, ent 7 (.one (.wh 5)))] [rowU 5 8 (cutL xs)]
  fin _ := ()
  next j _ := j - 1
  J j := j ≤ xs.length ∧ cutN xs j = cutN xs xs.length ∧ xs.length ≤ 1000000
  μ j := j
noncomputable def cut_s0 (xs : Dg) (j : Nat) : Bool :=
  decide (Int.ofNat (List.take j xs).length > 0)
noncomputable def cut_s1 (xs : Dg) (j : Nat) : Int :=
  IntKind.i64.wrap (Int.ofNat (List.take j xs).length - 1)
noncomputable def cut_s2 (xs : Dg) (j : Nat) : Prop :=
  (cut_s0 xs j && ((List.take j xs).getD (cut_s1 xs j).toNat []).getD 0 0 == 0) = true
noncomputable def cut_needs (xs : Dg) (j : Nat) : List Prop :=
  [cut_s0 xs j = true → 0 ≤ cut_s1 xs j, cut_s0 xs j = true → (cut_s1 xs j).toNat < (List.take j xs).length, cut_s0 xs j = true → (cut_s1 xs j).toNat < (List.take j xs).length,
    cut_s2 xs j → 0 ≤ cut_s1 xs j ∧ (cut_s1 xs j).toNat ≤ (List.take j xs).length,
    cut_s2 xs j →
     ((cutF xs).next j 0 ≤ List.length xs ∧ cutN xs ((cutF xs).next j 0) = cutN xs (List.length xs) ∧ List.length xs ≤ 1000000) ∧
     (cutF xs).μ ((cutF xs).next j 0) < (cutF xs).μ j ∧
     (cutF xs).fin ((cutF xs).next j 0) = (cutF xs).fin j ∧ List.take ((cutF xs).next j 0) xs = List.take (cut_s1 xs j).toNat (List.drop 0 (List.take j xs)),
    (cut_s0 xs j && ((List.take j xs).getD (cut_s1 xs j).toNat []).getD 0 0 == 0) = false → cutL xs = List.take j xs]
theorem cut_round (xs : Dg) (j : Nat) (hNeeds : ∀ pN ∈ (cut_needs xs j), pN) : RoundOk (roundC (cutF xs) (bodyOf Try.prog (sums K_limbs) L_lim 114 0) 3 j) :=
  RoundOk.of (ps := (cut_needs xs j)) (by kernel_rfl) (by kernel_rfl) hNeeds
theorem cut_rounds (xs : Dg) : RoundsOk (cutF xs) (bodyOf Try.prog (sums K_limbs) L_lim 114 0) 3 := by
  intro j hJ
  obtain ⟨h1, h2, h3⟩ : j ≤ xs.length ∧ cutN xs j = cutN xs xs.length ∧ xs.length ≤ 1000000 := hJ
  have hl : (xs.take j).length = j := by rw [List.length_take]; omega
  have e0 : cut_s0 xs j = decide (0 < j) := by unfold cut_s0; rw [hl]; simp
  have e1 : 0 < j → cut_s1 xs j = Int.ofNat (j - 1) := fun h => by
    unfold cut_s1
    rw [hl, wrI (by simp; omega) (by simp; omega)]
    simp; omega
  have e2 : 0 < j → ((xs.take j).getD (cut_s1 xs j).toNat []).getD 0 0 = dg xs (j - 1) := fun h => by
    rw [e1 h]
    show dg (xs.take j) (j - 1) = _
    rw [dg_take, if_pos (by omega)]
  have e3 : 0 < j → cutN xs j = bif dg xs (j - 1) == 0 then cutN xs (j - 1) else j := fun h => by
    obtain ⟨m, rfl⟩ : ∃ m, j = m + 1 := ⟨j - 1, by omega⟩
    rfl
  have e4 : cut_s2 xs j → 0 < j ∧ (dg xs (j - 1) == 0) = true := fun h => by
    unfold cut_s2 at h
    rw [Bool.and_eq_true, e0, decide_eq_true_eq] at h
    rw [e2 h.1] at h
    exact h
  refine cut_round xs j fun q hq => ?_
  unfold cut_needs at hq
  simp only [List.mem_cons, List.not_mem_nil, or_false] at hq
  rcases hq with rfl | rfl | rfl | rfl | rfl | rfl
  · intro h
    rw [e0, decide_eq_true_eq] at h
    rw [e1 h]; simp
  · intro h
    rw [e0, decide_eq_true_eq] at h
    rw [e1 h, hl]; simp; omega
  · intro h
    rw [e0, decide_eq_true_eq] at h
    rw [e1 h, hl]; simp; omega
  · intro h
    obtain ⟨h4, h5⟩ := e4 h
    rw [e1 h4, hl]; simp
  · intro h
    obtain ⟨h4, h5⟩ := e4 h
    refine ⟨⟨?_, ?_, h3⟩, ?_, trivial, ?_⟩
    · show j - 1 ≤ _; omega
    · have := e3 h4
      rw [h5, cond_true] at this
      show cutN xs (j - 1) = _
      rw [← this, h2]
    · show j - 1 < j; omega
    · rw [e1 h4, List.drop_zero, List.take_take]
      show xs.take (j - 1) = xs.take (min (j - 1) j)
      rw [Nat.min_eq_left (by omega)]
  · intro h
    unfold cutL
    rw [← h2]
    rcases Nat.eq_zero_or_pos j with h4 | h4
    · subst h4; rfl
    · rw [e2 h4, e0, decide_eq_true h4, Bool.true_and] at h
      rw [e3 h4, h, cond_false]
noncomputable def cutLp : LoopS := fun env mem m => match eRow [.int .u64] env mem 0 with
  | some xs => famS (cutF xs) 3 (fun _ _ => some xs.length) env mem m
  | none => none
noncomputable def L_cut : FuncId → Nat → Option LoopS := addL L_lim 114 1 cutLp
theorem known_cutL : Known Try.prog (sums K_limbs) L_cut := by
  refine known_addL 0 known_limbs (by kernel_rfl) (codeOk_of fun env mem m x h => ?_)
  unfold cutLp at h
  have hlen : (loopList Try.prog 114).length = 1 := by kernel_rfl
  split at h
  · exact ⟨_, fam_ok (bodyOf_ok plainN known_limbs (by omega)) (cut_rounds _), h⟩
  · cases h
noncomputable def cmpM (A B : Dg) : Mem := [rowU 0 2 A, rowU 1 3 B]
noncomputable def cmpF (A B : Dg) : Fam Nat Int where
  k := 20
  E j := [(5, ent 1000000000 (.one (I (Int.ofNat j - 1)))), (0, ent 0 (.one (.wh 0))), (1, ent 2 (.one (.wh 1)))]
  M j := cmpM A B
  out t := .ite (decide (t < 0)) (.leaf .ret [(4, ent 24 (.one (.int .i64 (.c (-1)))))] (cmpM A B)) (.ite (decide (0 < t)) (.leaf .ret [(4, ent 25 (.one (.int .i64 (.c 1))))] (cmpM A B)) (.leaf (.exit 0) [] (cmpM A B)))
  fin j := cmpR A B j
  next j _ := j - 1
  J j := j ≤ A.length ∧ A.length = B.length ∧ A.length ≤ 1000000
  μ j := j
noncomputable def cmp_s0 (j : Nat) : Prop :=
  decide (Int.ofNat j - 1 ≥ 0) = true
noncomputable def cmp_s1 (B : Dg) (j : Nat) : Prop :=
  (Int.ofNat j - 1).toNat < List.length B
noncomputable def cmp_s2 (A : Dg) (j : Nat) : Int :=
  (List.getD A (Int.ofNat j - 1).toNat []).getD 0 0
noncomputable def cmp_s4 (A : Dg) (B : Dg) (j : Nat) : Prop :=
  decide (cmp_s2 A j < cmp_s2 B j) = false
noncomputable def cmp_s5 (A : Dg) (B : Dg) (j : Nat) : Prop :=
  decide ((cmpF A B).fin j < 0) = false
noncomputable def cmp_s6 (A : Dg) (B : Dg) (j : Nat) : Prop :=
  decide (0 < (cmpF A B).fin j) = true
noncomputable def cmp_s7 (A : Dg) (B : Dg) (j : Nat) : Prop :=
  decide (0 < (cmpF A B).fin j) = false → False
noncomputable def cmp_s8 (A : Dg) (B : Dg) (j : Nat) : Prop :=
  decide ((cmpF A B).fin j < 0) = true
noncomputable def cmp_needs (A : Dg) (B : Dg) (j : Nat) : List Prop :=
  [cmp_s0 j →
     0 ≤ Int.ofNat j - 1 ∧
     (Int.ofNat j - 1).toNat < List.length A ∧
     (Int.ofNat j - 1).toNat < List.length A ∧
     0 ≤ Int.ofNat j - 1 ∧
     cmp_s1 B j ∧
     cmp_s1 B j ∧ (cmp_s4 A B j → 0 ≤ Int.ofNat j - 1 ∧ (Int.ofNat j - 1).toNat < List.length A ∧ (Int.ofNat j - 1).toNat < List.length A ∧ 0 ≤ Int.ofNat j - 1 ∧ cmp_s1 B j ∧ cmp_s1 B j),
    cmp_s0 j →
     (decide (cmp_s2 A j < cmp_s2 B j) = true → cmp_s5 A B j → (cmp_s6 A B j → Int.ofNat 1 = -1) ∧ cmp_s7 A B j) ∧
     (cmp_s4 A B j →
     (decide (cmp_s2 A j > cmp_s2 B j) = true → (cmp_s8 A B j → -1 = 1) ∧ (cmp_s5 A B j → cmp_s7 A B j)) ∧
     (decide (cmp_s2 A j > cmp_s2 B j) = false →
     ((cmpF A B).next j 2 ≤ List.length A ∧ List.length A = List.length B ∧ List.length A ≤ 1000000) ∧
     (cmpF A B).μ ((cmpF A B).next j 2) < (cmpF A B).μ j ∧
     (cmpF A B).fin ((cmpF A B).next j 2) = (cmpF A B).fin j ∧ Int.ofNat ((cmpF A B).next j 2) - 1 = IntKind.i64.wrap (Int.ofNat j - 1 - 1))),
    decide (Int.ofNat j - 1 ≥ 0) = false → (cmp_s8 A B j → False) ∧ (cmp_s5 A B j → cmp_s6 A B j → False)]
theorem cmp_round (A B : Dg) (j : Nat) (hNeeds : ∀ pN ∈ (cmp_needs A B j), pN) : RoundOk (roundC (cmpF A B) (bodyOf Try.prog (sums K_limbs) L_lim 79 0) 22 j) :=
  RoundOk.of (ps := (cmp_needs A B j)) (by kernel_rfl) (by kernel_rfl) hNeeds
theorem cmpR_rng (A B : Dg) : ∀ j, cmpR A B j = -1 ∨ cmpR A B j = 0 ∨ cmpR A B j = 1
  | 0 => .inr (.inl rfl)
  | j + 1 => by
    rw [cmpR]
    cases decide (dg A j < dg B j)
    · rw [cond_false]
      cases decide (dg B j < dg A j)
      · rw [cond_false]; exact cmpR_rng A B j
      · exact .inr (.inr rfl)
    · exact .inl rfl
theorem cmp_rounds (A B : Dg) : RoundsOk (cmpF A B) (bodyOf Try.prog (sums K_limbs) L_lim 79 0) 22 := by
  intro j hJ
  obtain ⟨h1, h2, h3⟩ : j ≤ A.length ∧ A.length = B.length ∧ A.length ≤ 1000000 := hJ
  refine cmp_round A B j fun q hq => ?_
  unfold cmp_needs at hq
  rcases Nat.eq_zero_or_pos j with h0 | h0
  · subst h0
    have e0 : ¬ cmp_s0 0 := by unfold cmp_s0; simp
    have e1 : (cmpF A B).fin 0 = 0 := rfl
    simp only [List.mem_cons, List.not_mem_nil, or_false, cmp_s5, cmp_s6, cmp_s8, e1] at hq
    rcases hq with rfl | rfl | rfl
    · intro h; exact absurd h e0
    · intro h; exact absurd h e0
    · intro _; simp
  · obtain ⟨m, rfl⟩ : ∃ m, j = m + 1 := ⟨j - 1, by omega⟩
    have e1 : Int.ofNat (m + 1) - 1 = Int.ofNat m := by simp
    have e2 : (Int.ofNat m).toNat = m := rfl
    have e3 : cmp_s2 A (m + 1) = dg A m := by unfold cmp_s2; rw [e1]; rfl
    have e4 : cmp_s2 B (m + 1) = dg B m := by unfold cmp_s2; rw [e1]; rfl
    have e5 : (cmpF A B).fin (m + 1) = cmpR A B (m + 1) := rfl
    have e6 : 0 ≤ Int.ofNat m := by simp
    have e7 : IntKind.i64.wrap (Int.ofNat m - 1) = Int.ofNat m - 1 := wrI (by simp; omega) (by simp; omega)
    simp only [List.mem_cons, List.not_mem_nil, or_false, cmp_s1, cmp_s4, cmp_s5, cmp_s6, cmp_s7, cmp_s8, e1, e2, e3, e4, e5, e7] at hq
    rcases hq with rfl | rfl | rfl
    · intro _
      have h4 : m < A.length := by omega
      have h5 : m < B.length := by omega
      exact ⟨e6, h4, h4, e6, h5, h5, fun _ => ⟨e6, h4, h4, e6, h5, h5⟩⟩
    · intro _
      refine ⟨fun h => ?_, fun h => ⟨fun h4 => ?_, fun h4 => ⟨⟨?_, h2, h3⟩, ?_, ?_, ?_⟩⟩⟩
      · have : cmpR A B (m + 1) = -1 := by rw [cmpR, h, cond_true]
        rw [this]
        intro h; simp at h
      · have h4 : decide (dg B m < dg A m) = true := h4
        have : cmpR A B (m + 1) = 1 := by rw [cmpR, h, cond_false, h4, cond_true]
        rw [this]
        exact ⟨fun h => by simp at h, fun _ h => by simp at h⟩
      · show m ≤ _; omega
      · show m < m + 1; omega
      · have h4 : decide (dg B m < dg A m) = false := h4
        show cmpR A B m = cmpR A B (m + 1)
        rw [cmpR, h, cond_false, h4, cond_false]
      · rfl
    · intro h; simp at h
noncomputable def cmpLp : LoopS := fun env mem m => match eRow [.int .u64] env mem 0, eRow [.int .u64] env mem 1 with
  | some A, some B => famS (cmpF A B) 22 (fun _ _ => some A.length) env mem m
  | _, _ => none
noncomputable def L_cmp : FuncId → Nat → Option LoopS := addL L_cut 79 6 cmpLp
theorem known_cmpL : Known Try.prog (sums K_limbs) L_cmp := by
  refine known_addL 0 known_cutL (by kernel_rfl) (codeOk_of fun env mem m x h => ?_)
  unfold cmpLp at h
  have hlen : (loopList Try.prog 79).length = 1 := by kernel_rfl
  split at h
  · exact ⟨_, fam_ok (bodyOf_ok plainN known_limbs (by omega)) (cmp_rounds _ _), h⟩
  · cases h
noncomputable def cutP_tpl : Tpl := ⟨[.one (.wh 0)], [(0, .row false 116 1 1 [.int .u64])], 2⟩
noncomputable def cutP_needs (xs : List (List Int)) : List Prop :=
  [xs.length ≤ xs.length ∧ cutN xs xs.length = cutN xs xs.length ∧ xs.length ≤ 1000000, List.take xs.length xs = xs]
theorem cutP_weak {xs : List (List Int)} (hW : ∀ q ∈ ([xs.length ≤ 1000000] : List Prop), q) : ∀ q ∈ (cutP_needs xs), q := by
  simp only [List.mem_cons, List.not_mem_nil, or_false, forall_eq_or_imp, forall_eq] at hW
  intro q hq
  unfold cutP_needs at hq
  simp only [List.mem_cons, List.not_mem_nil, or_false] at hq
  rcases hq with rfl | rfl
  · exact ⟨Nat.le_refl _, trivial, hW⟩
  · exact List.take_length
set_option maxRecDepth 1000000 in
theorem cutP_runs (xs : List (List Int)) (hNeeds : ∀ pN ∈ (cutP_needs xs), pN) : Runs (runF (sums K_limbs) L_cmp 114) (cutP_tpl.args []) (cutP_tpl.memo [] [xs]) cutP_tpl.n (SV.one (SC.wh 5))
    ([(5, Obj.row false 116 1 (RowC.lst 8 [CK.int IntKind.u64] (cutL xs)))]) :=
  Runs.of1 (ps := (cutP_needs xs)) (by kernel_rfl) hNeeds
noncomputable def cutP_out : List Pm → Lss → Option CRes
  | [], [xs] => some ⟨SV.one (SC.wh 5),
    [(5, Obj.row false 116 1 (RowC.lst 8 [CK.int IntKind.u64] (cutL xs)))],
    [xs.length ≤ 1000000], [], 25⟩
  | _, _ => none
theorem cutP_ok : FOk Try.prog 114 (tplS cutP_tpl cutP_out) := by
  refine tplS_ok (runF_ok known_cmpL 114) fun ps ls r hr hn _ => ?_
  unfold cutP_out at hr
  split at hr
  · cases hr; exact ⟨_, cutP_runs _ (cutP_weak (by exact hn)), fun _ => rfl⟩
  · cases hr
noncomputable def K_cutP : List (Nat × Summ) := (114, tplS cutP_tpl cutP_out) :: K_limbs
theorem known_cutP : Known Try.prog (sums K_cutP) L_cmp := known_cons known_cmpL cutP_ok
noncomputable def cmpP_tpl : Tpl := ⟨[.one (.wh 0), .one (.wh 1)], [(0, .row false 116 1 2 [.int .u64]), (1, .row false 116 1 3 [.int .u64])], 4⟩
noncomputable def cmpP_0 (A : List (List Int)) (B : List (List Int)) : Int :=
  bif Int.ofNat A.length != Int.ofNat B.length then bif decide (Int.ofNat A.length < Int.ofNat B.length) then -1 else 1
  else bif decide ((cmpF A B).fin A.length < 0) then -1 else bif decide (0 < (cmpF A B).fin A.length) then 1 else 0
noncomputable def cmpP_needs (A : List (List Int)) (B : List (List Int)) : List Prop :=
  [(Int.ofNat A.length != Int.ofNat B.length) = false → (A.length ≤ A.length ∧ A.length = B.length ∧ A.length ≤ 1000000) ∧ Int.ofNat A.length - 1 = IntKind.i64.wrap (Int.ofNat A.length - 1)]
theorem cmpP_eq (A B : List (List Int)) : (cmpP_0 A B) = cmpD A B := by
  unfold cmpP_0 cmpD
  show (bif _ then _ else bif decide (cmpR A B A.length < 0) then (-1 : Int) else bif decide (0 < cmpR A B A.length) then 1 else 0) = _
  rcases cmpR_rng A B A.length with h | h | h <;> rw [h] <;> rfl
theorem cmpP_weak {A : List (List Int)} {B : List (List Int)} (hW : ∀ q ∈ ([A.length ≤ 1000000] : List Prop), q) : ∀ q ∈ (cmpP_needs A B), q := by
  simp only [List.mem_cons, List.not_mem_nil, or_false, forall_eq_or_imp, forall_eq] at hW
  intro q hq
  unfold cmpP_needs at hq
  simp only [List.mem_cons, List.not_mem_nil, or_false] at hq
  subst hq
  intro h
  simp at h
  exact ⟨⟨Nat.le_refl _, by omega, hW⟩, (wrI (by simp; omega) (by simp; omega)).symm⟩
set_option maxRecDepth 1000000 in
theorem cmpP_runs (A B : List (List Int)) (hNeeds : ∀ pN ∈ (cmpP_needs A B), pN) : Runs (runF (sums K_cutP) L_cmp 79) (cmpP_tpl.args []) (cmpP_tpl.memo [] [A, B]) cmpP_tpl.n (SV.one (SC.int IntKind.i64 (SI.v (cmpP_0 A B))))
    ([(0, Obj.row false 116 1 (RowC.lst 2 [CK.int IntKind.u64] A)), (1, Obj.row false 116 1 (RowC.lst 3 [CK.int IntKind.u64] B))]) :=
  Runs.of1 (ps := (cmpP_needs A B)) (by kernel_rfl) hNeeds
noncomputable def cmpP_out : List Pm → Lss → Option CRes
  | [], [A, B] => some ⟨SV.one (SC.int IntKind.i64 (SI.v ((cmpD A B)))),
    [(0, Obj.row false 116 1 (RowC.lst 2 [CK.int IntKind.u64] A)), (1, Obj.row false 116 1 (RowC.lst 3 [CK.int IntKind.u64] B))],
    [A.length ≤ 1000000], [], 43⟩
  | _, _ => none
theorem cmpP_turned (A B : List (List Int)) (hNeeds : ∀ pN ∈ (cmpP_needs A B), pN) : Runs (runF (sums K_cutP) L_cmp 79) (cmpP_tpl.args []) (cmpP_tpl.memo [] [A, B]) cmpP_tpl.n (SV.one (SC.int IntKind.i64 (SI.v ((cmpD A B)))))
    ([(0, Obj.row false 116 1 (RowC.lst 2 [CK.int IntKind.u64] A)), (1, Obj.row false 116 1 (RowC.lst 3 [CK.int IntKind.u64] B))]) :=
  (cmpP_runs A B hNeeds).to (by first | rfl | (simp only [cmpP_eq])) (by first | rfl | (simp only [cmpP_eq]))
theorem cmpP_ok : FOk Try.prog 79 (tplS cmpP_tpl cmpP_out) := by
  refine tplS_ok (runF_ok known_cutP 79) fun ps ls r hr hn _ => ?_
  unfold cmpP_out at hr
  split at hr
  · cases hr; exact ⟨_, cmpP_turned _ _ (cmpP_weak (by exact hn)), fun _ => rfl⟩
  · cases hr
noncomputable def K_cmpP : List (Nat × Summ) := (79, tplS cmpP_tpl cmpP_out) :: K_cutP
theorem known_cmpP : Known Try.prog (sums K_cmpP) L_cmp := known_cons known_cutP cmpP_ok
end Go.Proofs.Ythgiaoidekdpfaa
