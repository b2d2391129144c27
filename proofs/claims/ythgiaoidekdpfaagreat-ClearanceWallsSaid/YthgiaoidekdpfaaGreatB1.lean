/-
  BITS: length, leading zeros. Conditions: none.
-/
import Derived.Test.YthgiaoidekdpfaaGreatW8
import Derived.Test.YthgiaoidekdpfaaGreatN3
set_option linter.all false
namespace Go.Proofs.YthgiaoidekdpfaaGreat
open Go.SX Go.RowKit
noncomputable def len64_tpl : Tpl := ⟨[.one (.int .u64)], [], 0⟩
noncomputable def len64_s0 (a : Int) : Int :=
  bif decide (a ≥ 4294967296) then ishift BinOp.shr IntKind.u64 a 32 else a
noncomputable def len64_s1 (a : Int) : Int :=
  bif decide (len64_s0 a ≥ 65536) then ishift BinOp.shr IntKind.u64 (len64_s0 a) 16 else len64_s0 a
noncomputable def len64_s2 (a : Int) : Int :=
  bif decide (a ≥ 4294967296) then 32 else 0
noncomputable def len64_s3 (a : Int) : Int :=
  bif decide (len64_s0 a ≥ 65536) then IntKind.i64.wrap (len64_s2 a + 16) else len64_s2 a
noncomputable def len64_0 (a : Int) : Int :=
  IntKind.i64.wrap
   ((bif decide (len64_s1 a ≥ 256) then IntKind.i64.wrap (len64_s3 a + 8) else len64_s3 a) +
   IntKind.i64.wrap
   (strAt
   (ByteArray.mk
   (([0, 1, 2, 2, 3, 3, 3, 3, 4, 4, 4, 4, 4, 4, 4, 4, 5, 5, 5, 5, 5, 5, 5, 5, 5, 5, 5, 5, 5, 5, 5, 5, 6, 6, 6, 6, 6, 6, 6, 6, 6, 6, 6, 6, 6, 6, 6, 6, 6, 6, 6, 6, 6, 6, 6, 6, 6, 6, 6, 6, 6, 6,
   6, 6].append
   [7, 7, 7, 7, 7, 7, 7, 7, 7, 7, 7, 7, 7, 7, 7, 7, 7, 7, 7, 7, 7, 7, 7, 7, 7, 7, 7, 7, 7, 7, 7, 7, 7, 7, 7, 7, 7, 7, 7, 7, 7, 7, 7, 7, 7, 7, 7, 7, 7, 7, 7, 7, 7, 7, 7, 7, 7, 7, 7, 7,
   7, 7, 7, 7]).append
   ([8, 8, 8, 8, 8, 8, 8, 8, 8, 8, 8, 8, 8, 8, 8, 8, 8, 8, 8, 8, 8, 8, 8, 8, 8, 8, 8, 8, 8, 8, 8, 8, 8, 8, 8, 8, 8, 8, 8, 8, 8, 8, 8, 8, 8, 8, 8, 8, 8, 8, 8, 8, 8, 8, 8, 8, 8, 8, 8, 8, 8,
   8, 8, 8].append
   [8, 8, 8, 8, 8, 8, 8, 8, 8, 8, 8, 8, 8, 8, 8, 8, 8, 8, 8, 8, 8, 8, 8, 8, 8, 8, 8, 8, 8, 8, 8, 8, 8, 8, 8, 8, 8, 8, 8, 8, 8, 8, 8, 8, 8, 8, 8, 8, 8, 8, 8, 8, 8, 8, 8, 8, 8, 8, 8, 8, 8,
   8, 8, 8])).toArray)
   (IntKind.u8.wrap (bif decide (len64_s1 a ≥ 256) then ishift BinOp.shr IntKind.u64 (len64_s1 a) 8 else len64_s1 a)).toNat))
noncomputable def len64_s4 (a : Int) : Int :=
  IntKind.u8.wrap (bif decide (len64_s1 a ≥ 256) then ishift BinOp.shr IntKind.u64 (len64_s1 a) 8 else len64_s1 a)
noncomputable def len64_needs (a : Int) : List Prop :=
  [0 ≤ len64_s4 a, (len64_s4 a).toNat < 256]
noncomputable def chkT (T : ByteArray) : Bool := (List.range 256).all fun k => decide (0 ≤ strAt T k ∧ strAt T k ≤ 8) && (Nat.beq k 0 && decide (strAt T k = 0) || decide (1 ≤ strAt T k ∧ 2 ^ ((strAt T k).toNat - 1) ≤ k ∧ k < 2 ^ (strAt T k).toNat))
theorem len64_form : ∃ T, chkT T = true ∧ ∀ a, len64_0 a = IntKind.i64.wrap ((bif decide (len64_s1 a ≥ 256) then IntKind.i64.wrap (len64_s3 a + 8) else len64_s3 a) + IntKind.i64.wrap (strAt T (len64_s4 a).toNat)) := by
  refine ⟨_, ?_, fun a => rfl⟩
  kernel_rfl
theorem shrE (x : Int) (k : Nat) (h : 0 ≤ x) (hk : k < 64) : ishift .shr .u64 x (k : Int) = x / 2 ^ k := by
  have e : min ((k : Int)).toNat IntKind.u64.bits = k := by
    have : IntKind.u64.bits = 64 := rfl
    rw [this, Int.toNat_natCast]
    omega
  unfold ishift
  simp only [e]
  exact Int.fdiv_eq_ediv_of_nonneg _ (Int.le_of_lt (two_pos k))
theorem len_s {a : Int} (h0 : 0 ≤ a) (h1 : a < 18446744073709551616) : len64_s4 a = (bif decide (len64_s1 a ≥ 256) then len64_s1 a / 256 else len64_s1 a) ∧ 0 ≤ (bif decide (len64_s1 a ≥ 256) then len64_s1 a / 256 else len64_s1 a) ∧ (bif decide (len64_s1 a ≥ 256) then len64_s1 a / 256 else len64_s1 a) < 256 := by
  have e0 : len64_s0 a = bif decide (a ≥ 4294967296) then a / 4294967296 else a := by
    unfold len64_s0
    have := shrE a 32 h0 (by omega)
    rw [show ((32 : Nat) : Int) = 32 from rfl] at this
    rw [this]
    rfl
  have r0 : 0 ≤ len64_s0 a ∧ len64_s0 a < 4294967296 := by
    rw [e0]
    by_cases h : a ≥ 4294967296
    · rw [decide_eq_true h, cond_true]; omega
    · rw [decide_eq_false h, cond_false]; omega
  have e1 : len64_s1 a = bif decide (len64_s0 a ≥ 65536) then len64_s0 a / 65536 else len64_s0 a := by
    unfold len64_s1
    have := shrE (len64_s0 a) 16 r0.1 (by omega)
    rw [show ((16 : Nat) : Int) = 16 from rfl] at this
    rw [this]
    rfl
  have r1 : 0 ≤ len64_s1 a ∧ len64_s1 a < 65536 := by
    rw [e1]
    by_cases h : len64_s0 a ≥ 65536
    · rw [decide_eq_true h, cond_true]; omega
    · rw [decide_eq_false h, cond_false]; omega
  have r2 : 0 ≤ (bif decide (len64_s1 a ≥ 256) then len64_s1 a / 256 else len64_s1 a) ∧ (bif decide (len64_s1 a ≥ 256) then len64_s1 a / 256 else len64_s1 a) < 256 := by
    by_cases h : len64_s1 a ≥ 256
    · rw [decide_eq_true h, cond_true]; omega
    · rw [decide_eq_false h, cond_false]; omega
  refine ⟨?_, r2⟩
  unfold len64_s4
  have := shrE (len64_s1 a) 8 r1.1 (by omega)
  rw [show ((8 : Nat) : Int) = 8 from rfl] at this
  rw [this, show (2 : Int) ^ 8 = 256 from rfl]
  generalize (bif decide (len64_s1 a ≥ 256) then len64_s1 a / 256 else len64_s1 a) = z at *
  unfold IntKind.wrap
  simp only [IntKind.bits, IntKind.signed]
  simp
  omega
theorem chkT_at {T : ByteArray} (h : chkT T = true) {k : Nat} (hk : k < 256) (h0 : 0 < k) : ∃ t : Nat, strAt T k = t ∧ 1 ≤ t ∧ t ≤ 8 ∧ 2 ^ (t - 1) ≤ k ∧ k < 2 ^ t := by
  unfold chkT at h
  rw [List.all_eq_true] at h
  have := h k (List.mem_range.2 hk)
  have hb : Nat.beq k 0 = false := by
    cases hh : Nat.beq k 0
    · rfl
    · have := Nat.eq_of_beq_eq_true hh; omega
  simp only [hb, Bool.false_and, Bool.false_or, Bool.and_eq_true, decide_eq_true_eq] at this
  obtain ⟨⟨p1, p2⟩, p3, p4, p5⟩ := this
  refine ⟨(strAt T k).toNat, by omega, by omega, by omega, p4, p5⟩
theorem len_sum {a z : Int} {b t : Nat} (hz : z * 2 ^ b ≤ a ∧ a < (z + 1) * 2 ^ b) (ht : 1 ≤ t) (h1 : (2 : Int) ^ (t - 1) ≤ z) (h2 : z < 2 ^ t) : (2 : Int) ^ (b + t - 1) ≤ a ∧ a < 2 ^ (b + t) := by
  have hb := two_pos b
  have e1 : (2 : Int) ^ (b + t - 1) = 2 ^ (t - 1) * 2 ^ b := by rw [← Int.pow_add]; congr 1; omega
  have e2 : (2 : Int) ^ (b + t) = 2 ^ t * 2 ^ b := by rw [← Int.pow_add]; congr 1; omega
  rw [e1, e2]
  have := Int.mul_le_mul_of_nonneg_right h1 (Int.le_of_lt hb)
  have := Int.mul_le_mul_of_nonneg_right (show z + 1 ≤ 2 ^ t by omega) (Int.le_of_lt hb)
  omega
/-- THE LENGTH of a number. -/
theorem len64_law {a : Int} (h0 : 0 < a) (h1 : a < 18446744073709551616) : ∃ l : Nat, len64_0 a = l ∧ 1 ≤ l ∧ l ≤ 64 ∧ (2 : Int) ^ (l - 1) ≤ a ∧ a < 2 ^ l := by
  obtain ⟨T, hT, hf⟩ := len64_form
  obtain ⟨e4, r0, r1⟩ := len_s (Int.le_of_lt h0) h1
  have key : ∃ b : Nat, b ≤ 56 ∧ (bif decide (len64_s1 a ≥ 256) then IntKind.i64.wrap (len64_s3 a + 8) else len64_s3 a) = b ∧ len64_s4 a * 2 ^ b ≤ a ∧ a < (len64_s4 a + 1) * 2 ^ b ∧ 0 < len64_s4 a := by
    have e0 : len64_s0 a = bif decide (a ≥ 4294967296) then a / 4294967296 else a := by
      unfold len64_s0
      have := shrE a 32 (by omega) (by omega)
      rw [show ((32 : Nat) : Int) = 32 from rfl] at this
      rw [this]; rfl
    have e1 : 0 ≤ len64_s0 a → len64_s1 a = bif decide (len64_s0 a ≥ 65536) then len64_s0 a / 65536 else len64_s0 a := fun h => by
      unfold len64_s1
      have := shrE (len64_s0 a) 16 h (by omega)
      rw [show ((16 : Nat) : Int) = 16 from rfl] at this
      rw [this]; rfl
    have p0 : (2 : Int) ^ 0 = 1 := rfl
    have p8 : (2 : Int) ^ 8 = 256 := rfl
    have p16 : (2 : Int) ^ 16 = 65536 := rfl
    have p24 : (2 : Int) ^ 24 = 16777216 := rfl
    have p32 : (2 : Int) ^ 32 = 4294967296 := rfl
    have p40 : (2 : Int) ^ 40 = 1099511627776 := rfl
    have p48 : (2 : Int) ^ 48 = 281474976710656 := rfl
    have p56 : (2 : Int) ^ 56 = 72057594037927936 := rfl
    unfold len64_s3 len64_s2
    by_cases c0 : a ≥ 4294967296
    · rw [decide_eq_true c0, cond_true] at e0
      have e1' := e1 (by omega)
      rw [decide_eq_true c0, cond_true]
      by_cases c1 : len64_s0 a ≥ 65536
      · rw [decide_eq_true c1, cond_true] at e1'
        rw [decide_eq_true c1, cond_true]
        by_cases c2 : len64_s1 a ≥ 256
        · rw [decide_eq_true c2, cond_true] at e4
          rw [decide_eq_true c2, cond_true]
          exact ⟨56, by omega, rfl, by rw [p56]; omega, by rw [p56]; omega, by omega⟩
        · rw [decide_eq_false c2, cond_false] at e4
          rw [decide_eq_false c2, cond_false]
          exact ⟨48, by omega, rfl, by rw [p48]; omega, by rw [p48]; omega, by omega⟩
      · rw [decide_eq_false c1, cond_false] at e1'
        rw [decide_eq_false c1, cond_false]
        by_cases c2 : len64_s1 a ≥ 256
        · rw [decide_eq_true c2, cond_true] at e4
          rw [decide_eq_true c2, cond_true]
          exact ⟨40, by omega, rfl, by rw [p40]; omega, by rw [p40]; omega, by omega⟩
        · rw [decide_eq_false c2, cond_false] at e4
          rw [decide_eq_false c2, cond_false]
          exact ⟨32, by omega, rfl, by rw [p32]; omega, by rw [p32]; omega, by omega⟩
    · rw [decide_eq_false c0, cond_false] at e0
      have e1' := e1 (by omega)
      rw [decide_eq_false c0, cond_false]
      by_cases c1 : len64_s0 a ≥ 65536
      · rw [decide_eq_true c1, cond_true] at e1'
        rw [decide_eq_true c1, cond_true]
        by_cases c2 : len64_s1 a ≥ 256
        · rw [decide_eq_true c2, cond_true] at e4
          rw [decide_eq_true c2, cond_true]
          exact ⟨24, by omega, rfl, by rw [p24]; omega, by rw [p24]; omega, by omega⟩
        · rw [decide_eq_false c2, cond_false] at e4
          rw [decide_eq_false c2, cond_false]
          exact ⟨16, by omega, rfl, by rw [p16]; omega, by rw [p16]; omega, by omega⟩
      · rw [decide_eq_false c1, cond_false] at e1'
        rw [decide_eq_false c1, cond_false]
        by_cases c2 : len64_s1 a ≥ 256
        · rw [decide_eq_true c2, cond_true] at e4
          rw [decide_eq_true c2, cond_true]
          exact ⟨8, by omega, rfl, by rw [p8]; omega, by rw [p8]; omega, by omega⟩
        · rw [decide_eq_false c2, cond_false] at e4
          rw [decide_eq_false c2, cond_false]
          exact ⟨0, by omega, rfl, by rw [p0]; omega, by rw [p0]; omega, by omega⟩
  obtain ⟨b, hb, eb, z1, z2, z0⟩ := key
  have hz : len64_s4 a < 256 := by omega
  obtain ⟨t, et, t1, t2, t3, t4⟩ := chkT_at hT (k := (len64_s4 a).toNat) (by omega) (by omega)
  have t3' : (2 : Int) ^ (t - 1) ≤ len64_s4 a := by
    have : ((2 ^ (t - 1) : Nat) : Int) ≤ ((len64_s4 a).toNat : Int) := by exact_mod_cast t3
    push_cast at this
    omega
  have t4' : len64_s4 a < (2 : Int) ^ t := by
    have : ((len64_s4 a).toNat : Int) < ((2 ^ t : Nat) : Int) := by exact_mod_cast t4
    push_cast at this
    omega
  obtain ⟨s1, s2⟩ := len_sum ⟨z1, z2⟩ t1 t3' t4'
  refine ⟨b + t, ?_, by omega, by omega, s1, s2⟩
  rw [hf, eb, et, wrI (x := (t : Int)) (by omega) (by omega), wrI (by omega) (by omega)]
  omega
theorem len64_weak {a : Int} (hW : ∀ q ∈ ([0 ≤ a, a < 18446744073709551616] : List Prop), q) : ∀ q ∈ (len64_needs a), q := by
  simp only [List.mem_cons, List.not_mem_nil, or_false, forall_eq_or_imp, forall_eq] at hW
  intro q hq
  unfold len64_needs at hq
  simp only [List.mem_cons, List.not_mem_nil, or_false] at hq
  obtain ⟨h0, h1⟩ := hW
  obtain ⟨e0, r0, r1⟩ := len_s h0 h1
  rcases hq with rfl | rfl
  · rw [e0]; exact r0
  · rw [e0]; omega
set_option maxRecDepth 1000000 in
theorem len64_runs (a : Int) (hNeeds : ∀ pN ∈ (len64_needs a), pN) : Runs (runF (sums K_between) L0 195) (len64_tpl.args [.i a]) (len64_tpl.memo [.i a] []) len64_tpl.n (SV.one (SC.int IntKind.i64 (SI.v (len64_0 a))))
    ([]) :=
  Runs.of1 (ps := (len64_needs a)) (by kernel_rfl) hNeeds
noncomputable def len64_out : List Pm → Lss → Option CRes
  | [.i a], [] => some ⟨SV.one (SC.int IntKind.i64 (SI.v (len64_0 a))),
    [],
    [0 ≤ a, a < 18446744073709551616], [], 36⟩
  | _, _ => none
theorem len64_ok : FOk Tryz.prog 195 (tplS len64_tpl len64_out) := by
  refine tplS_ok (runF_ok known_between 195) fun ps ls r hr hn _ => ?_
  unfold len64_out at hr
  split at hr
  · cases hr; exact ⟨_, len64_runs _ (len64_weak (by exact hn)), fun _ => rfl⟩
  · cases hr
noncomputable def K_len64 : List (Nat × Summ) := (195, tplS len64_tpl len64_out) :: K_between
theorem known_len64 : Known Tryz.prog (sums K_len64) L0 := known_cons known_between len64_ok
noncomputable def lz_tpl : Tpl := ⟨[.one (.int .u64)], [], 0⟩
noncomputable def lz_0 (a : Int) : Int :=
  IntKind.i64.wrap (64 - len64_0 a)
noncomputable def lz_needs (a : Int) : List Prop :=
  [0 ≤ a, a < 18446744073709551616]
theorem lz_weak {a : Int} (hW : ∀ q ∈ ([0 ≤ a, a < 18446744073709551616] : List Prop), q) : ∀ q ∈ (lz_needs a), q := by
  simp only [List.mem_cons, List.not_mem_nil, or_false, forall_eq_or_imp, forall_eq] at hW
  intro q hq
  unfold lz_needs at hq
  simp only [List.mem_cons, List.not_mem_nil, or_false] at hq
  obtain ⟨h1, h2⟩ := hW
  rcases hq with rfl | rfl
  · exact h1
  · exact h2
set_option maxRecDepth 1000000 in
theorem lz_runs (a : Int) (hNeeds : ∀ pN ∈ (lz_needs a), pN) : Runs (runF (sums K_len64) L0 193) (lz_tpl.args [.i a]) (lz_tpl.memo [.i a] []) lz_tpl.n (SV.one (SC.int IntKind.i64 (SI.v (lz_0 a))))
    ([]) :=
  Runs.of1 (ps := (lz_needs a)) (by kernel_rfl) hNeeds
noncomputable def lz_out : List Pm → Lss → Option CRes
  | [.i a], [] => some ⟨SV.one (SC.int IntKind.i64 (SI.v (lz_0 a))),
    [],
    [0 ≤ a, a < 18446744073709551616], [], 41⟩
  | _, _ => none
theorem lz_ok : FOk Tryz.prog 193 (tplS lz_tpl lz_out) := by
  refine tplS_ok (runF_ok known_len64 193) fun ps ls r hr hn _ => ?_
  unfold lz_out at hr
  split at hr
  · cases hr; exact ⟨_, lz_runs _ (lz_weak (by exact hn)), fun _ => rfl⟩
  · cases hr
noncomputable def K_lz : List (Nat × Summ) := (193, tplS lz_tpl lz_out) :: K_len64
theorem known_lz : Known Tryz.prog (sums K_lz) L0 := known_cons known_len64 lz_ok
end Go.Proofs.YthgiaoidekdpfaaGreat
