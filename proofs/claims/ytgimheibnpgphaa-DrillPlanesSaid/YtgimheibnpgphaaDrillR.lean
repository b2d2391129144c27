/-
  DRILLTAPS: the walk. Conditions: none.
-/
import Derived.Test.YtgimheibnpgphaaDrillQ
set_option linter.all false
namespace Go.Proofs.Ytgimheibnpgphaa
open Go.SX Go.RowKit
/-- The steps of a tap. -/
noncomputable def ET (L : List (List Int)) (c0 c14 : Int) : List (List Int) := expR c0 (cycle_1 L) (cycle_2 L) (cycle_3 L) (cycle_4 L) (cycle_5 L) (cycle_6 L) (cycle_7 L) (cycle_8 L) (cycle_9 L) (cycle_10 L) (cycle_11 L) (cyc12 L) (cycle_12 L) c14 (cyc15 L)
noncomputable def CT (L : List (List Int)) (c0 c14 : Int) : SX.Obj := .blk 28 [(3179, I c0), (3150, I (cycle_1 L)), (3151, I (cycle_2 L)), (3152, I (cycle_3 L)), (3153, I (cycle_4 L)), (3154, I (cycle_5 L)), (3155, I (cycle_6 L)), (3156, I (cycle_7 L)), (3157, I (cycle_8 L)), (3158, I (cycle_9 L)), (3159, I (cycle_10 L)), (3160, I (cycle_11 L)), (3161, I (cyc12 L)), (3162, I (cycle_12 L)), (3180, I c14), (3164, I (cyc15 L))]
noncomputable def tapP (c0 c14 : Int) : Bool := (c0 == 74 && c14 == 4) || (c0 == 84 && c14 == 3)
noncomputable def cp (r : List Int) : List Int := [r.getD 0 0, r.getD 1 0, r.getD 2 0, r.getD 3 0, r.getD 4 0, r.getD 5 0, r.getD 6 0, r.getD 7 0, r.getD 8 0, r.getD 9 0, r.getD 10 0, r.getD 11 0, r.getD 12 0, (bif r.getD 13 0 != 0 then 1 else 0), r.getD 14 0, (bif r.getD 15 0 != 0 then 1 else 0), r.getD 16 0, r.getD 17 0, r.getD 18 0, r.getD 19 0, r.getD 20 0, (bif r.getD 21 0 != 0 then 1 else 0)]
noncomputable def tapsL (xs : List (List Int)) (j : Nat) : List (List Int) := (xs.take j).flatMap fun r => bif r.getD 0 0 == 6 then [cp r] else []
theorem tapsL_succ (xs : List (List Int)) (j : Nat) (h : j < xs.length) : tapsL xs (j + 1) = tapsL xs j ++ (bif (xs.getD j []).getD 0 0 == 6 then [cp (xs.getD j [])] else []) := by
  have e : xs.getD j [] = xs[j] := by simp [List.getD, List.getElem?_eq_getElem h]
  unfold tapsL
  rw [List.take_succ_eq_append_getElem h, List.flatMap_append, e]
  simp
theorem tapsL_len (xs : List (List Int)) : ∀ j, (tapsL xs j).length ≤ j
  | 0 => by simp [tapsL]
  | j + 1 => by
    have ih := tapsL_len xs j
    by_cases h : j < xs.length
    · rw [tapsL_succ xs j h, List.length_append]
      cases (xs.getD j []).getD 0 0 == 6 <;> simp <;> omega
    · have : tapsL xs (j + 1) = tapsL xs j := by
        unfold tapsL
        rw [List.take_of_length_le (by omega), List.take_of_length_le (by omega)]
      rw [this]; omega
theorem tap_or {c0 c14 : Int} (h : tapP c0 c14 = true) : (c0 = 74 ∧ c14 = 4) ∨ (c0 = 84 ∧ c14 = 3) := by simpa [tapP] using h
theorem chk_tap (L : List (List Int)) (c0 c14 : Int) (hc : tapP c0 c14 = true) : chk c0 (cycle_1 L) (cycle_2 L) (cycle_3 L) (cycle_4 L) (cycle_5 L) (cycle_6 L) (cycle_7 L) (cycle_8 L) (cycle_9 L) (cycle_10 L) (cycle_11 L) (cyc12 L) (cycle_12 L) c14 (cyc15 L) = 0 := by
  have hc := tap_or hc
  exact chk_zero _ _ _ _ _ _ _ _ _ _ _ _ _ _ _ _ (by omega) (cycle_1_rng L) (cycle_2_rng L) (cycle_3_rng L) (cycle_4_rng L) (cycle_5_rng L) (cycle_6_rng L) (cycle_7_rng L) (cycle_8_rng L) (cycle_9_rng L) (cycle_10_rng L) (cycle_11_rng L) (cyc12_rng L) (cycle_12_rng L) ⟨by omega, fun h => by omega, fun h => by omega⟩ (cyc15_rng L)
theorem ET_eq (L : List (List Int)) (c0 c14 : Int) (hc : tapP c0 c14 = true) : ET L c0 c14 = preL (cycle_1 L) (cycle_2 L) (cycle_3 L) (cycle_4 L) (flat_0 (cycle_1 L) (cycle_5 L) (cycle_6 L) (cycle_7 L)) (flat_1 (cycle_1 L) (cycle_5 L) (cycle_6 L) (cycle_7 L)) (cycle_8 L) ++
    [itm (cycle_1 L) (flat_0 (cycle_1 L) (cycle_5 L) (cycle_6 L) (cycle_7 L)) (flat_1 (cycle_1 L) (cycle_5 L) (cycle_6 L) (cycle_7 L)) 6 (cycle_9 L) c14, itm (cycle_1 L) (flat_0 (cycle_1 L) (cycle_5 L) (cycle_6 L) (cycle_7 L)) (flat_1 (cycle_1 L) (cycle_5 L) (cycle_6 L) (cycle_7 L)) 6 (cycle_8 L) (IntKind.i64.wrap (7 - c14)),
      itm (cycle_1 L) (flat_0 (cycle_1 L) (cycle_5 L) (cycle_6 L) (cycle_7 L)) (flat_1 (cycle_1 L) (cycle_5 L) (cycle_6 L) (cycle_7 L)) 1 (hr (cycle_8 L) (cycle_10 L) (cycle_12 L)) 0] := by
  unfold ET expR
  rw [chk_tap L c0 c14 hc]
  rcases tap_or hc with ⟨rfl, rfl⟩ | ⟨rfl, rfl⟩ <;> rfl
theorem ET_kind (L : List (List Int)) (c0 c14 : Int) (hc : tapP c0 c14 = true) : ∀ r ∈ ET L c0 c14, r.getD 0 0 = 6 ∨ r.getD 0 0 = 1 := by
  intro r hr
  rw [ET_eq L c0 c14 hc] at hr
  unfold preL at hr
  cases hd : decide (flat_2 (cycle_1 L) (cycle_2 L) (cycle_3 L) (cycle_4 L) < cycle_8 L) <;> rw [hd] at hr <;> simp only [cond_true, cond_false, List.nil_append, List.cons_append, List.mem_cons, List.not_mem_nil, or_false] at hr
  · rcases hr with rfl | rfl | rfl | rfl | rfl <;> simp only [kind_itm] <;> decide
  · rcases hr with rfl | rfl | rfl | rfl | rfl | rfl <;> simp only [kind_itm] <;> decide
theorem ET_taps (L : List (List Int)) (c0 c14 : Int) (hc : tapP c0 c14 = true) : tapsL (ET L c0 c14) (ET L c0 c14).length =
    [cp (itm (cycle_1 L) (flat_0 (cycle_1 L) (cycle_5 L) (cycle_6 L) (cycle_7 L)) (flat_1 (cycle_1 L) (cycle_5 L) (cycle_6 L) (cycle_7 L)) 6 (cycle_9 L) c14), cp (itm (cycle_1 L) (flat_0 (cycle_1 L) (cycle_5 L) (cycle_6 L) (cycle_7 L)) (flat_1 (cycle_1 L) (cycle_5 L) (cycle_6 L) (cycle_7 L)) 6 (cycle_8 L) (IntKind.i64.wrap (7 - c14)))] := by
  unfold tapsL
  rw [List.take_length, ET_eq L c0 c14 hc]
  unfold preL
  cases decide (flat_2 (cycle_1 L) (cycle_2 L) (cycle_3 L) (cycle_4 L) < cycle_8 L) <;> rfl
noncomputable def tapM (L : List (List Int)) (c0 c14 : Int) : Mem := [rowI 11317 11316 (ET L c0 c14), (3131, CT L c0 c14), rowL L]
noncomputable def tapF (L : List (List Int)) (c0 c14 : Int) : Fam (Nat ⊕ Nat) Unit where
  k := 100
  E s := match s with
    | .inl j => [(9, ent 1000000000 (.one (I (Int.ofNat j)))), (8, ent 1000000001 (.one .nilsl)), (6, ent 11322 (.one (.wh 11317))), (5, ent 3148 (.one (.ptr 3131 0))), (4, ent 2 (.one (.bool (.c false))))]
    | .inr j => [(9, ent 1000000000 (.one (I (Int.ofNat j)))), (8, ent 1000000002 (.one (.wh 13160))), (6, ent 11322 (.one (.wh 11317))), (5, ent 3148 (.one (.ptr 3131 0))), (4, ent 2 (.one (.bool (.c false))))]
  M s := match s with
    | .inl _ => tapM L c0 c14
    | .inr j => rowI 13160 1000000003 (tapsL (ET L c0 c14) j) :: tapM L c0 c14
  out _ := .leaf (.exit 0) [(8, ent 1000000004 (.one (.wh 13160))), (5, ent 3148 (.one (.ptr 3131 0)))] (rowI 13160 1000000005 (tapsL (ET L c0 c14) (ET L c0 c14).length) :: tapM L c0 c14)
  fin _ := ()
  next s k := match s with
    | .inl j => bif Nat.beq k 0 then .inr (j + 1) else .inl (j + 1)
    | .inr j => .inr (j + 1)
  J s := match s with
    | .inl j => j ≤ (ET L c0 c14).length ∧ tapsL (ET L c0 c14) j = [] ∧ tapP c0 c14 = true
    | .inr j => j ≤ (ET L c0 c14).length ∧ tapP c0 c14 = true
  μ s := match s with
    | .inl j => (ET L c0 c14).length - j
    | .inr j => (ET L c0 c14).length - j
noncomputable def tapa_s0 (L : List (List Int)) (c0 : Int) (c14 : Int) (j : Nat) : Prop :=
  decide (Int.ofNat j < Int.ofNat (ET L c0 c14).length) = true
noncomputable def tapa_s1 (L : List (List Int)) (c0 : Int) (c14 : Int) (j : Nat) : Int :=
  ((ET L c0 c14).getD (Int.ofNat j).toNat []).getD 0 0
noncomputable def tapa_s2 (L : List (List Int)) (c0 : Int) (c14 : Int) (j : Nat) : Prop :=
  (tapa_s1 L c0 c14 j == 6) = true
noncomputable def tapa_s3 (L : List (List Int)) (c0 : Int) (c14 : Int) (j : Nat) : Prop :=
  (Int.ofNat j).toNat < (ET L c0 c14).length ∧ (Int.ofNat j).toNat < (ET L c0 c14).length
noncomputable def tapa_s4 (L : List (List Int)) (c0 : Int) (c14 : Int) (j : Nat) : Prop :=
  (tapa_s1 L c0 c14 j == 6) = false
noncomputable def tapa_s5 (j : Nat) : Prop :=
  Int.ofNat (j + 1) = IntKind.i64.wrap (Int.ofNat j + 1)
noncomputable def tapa_needs (L : List (List Int)) (c0 : Int) (c14 : Int) (j : Nat) : List Prop :=
  [tapa_s0 L c0 c14 j →
      0 ≤ Int.ofNat j ∧
        (Int.ofNat j).toNat < (ET L c0 c14).length ∧
          (Int.ofNat j).toNat < (ET L c0 c14).length ∧
            (Int.ofNat j).toNat < (ET L c0 c14).length ∧
              (tapa_s2 L c0 c14 j → 0 ≤ Int.ofNat j ∧ tapa_s3 L c0 c14 j) ∧ (tapa_s4 L c0 c14 j → 0 ≤ Int.ofNat j ∧ (Int.ofNat j).toNat < (ET L c0 c14).length ∧ tapa_s3 L c0 c14 j),
    tapa_s0 L c0 c14 j →
      (tapa_s2 L c0 c14 j →
          (j + 1 ≤ (ET L c0 c14).length ∧ tapP c0 c14 = true) ∧
            (tapF L c0 c14).μ ((tapF L c0 c14).next (Sum.inl j) 0) < (tapF L c0 c14).μ (Sum.inl j) ∧
              (tapF L c0 c14).fin ((tapF L c0 c14).next (Sum.inl j) 0) = (tapF L c0 c14).fin (Sum.inl j) ∧
                tapa_s5 j ∧
                  tapsL (ET L c0 c14) (j + 1) =
                    [[tapa_s1 L c0 c14 j, ((ET L c0 c14).getD (Int.ofNat j).toNat []).getD 1 0, ((ET L c0 c14).getD (Int.ofNat j).toNat []).getD 2 0,
                        ((ET L c0 c14).getD (Int.ofNat j).toNat []).getD 3 0, ((ET L c0 c14).getD (Int.ofNat j).toNat []).getD 4 0, ((ET L c0 c14).getD (Int.ofNat j).toNat []).getD 5 0,
                        ((ET L c0 c14).getD (Int.ofNat j).toNat []).getD 6 0, ((ET L c0 c14).getD (Int.ofNat j).toNat []).getD 7 0, ((ET L c0 c14).getD (Int.ofNat j).toNat []).getD 8 0,
                        ((ET L c0 c14).getD (Int.ofNat j).toNat []).getD 9 0, ((ET L c0 c14).getD (Int.ofNat j).toNat []).getD 10 0, ((ET L c0 c14).getD (Int.ofNat j).toNat []).getD 11 0,
                        ((ET L c0 c14).getD (Int.ofNat j).toNat []).getD 12 0, bif ((ET L c0 c14).getD (Int.ofNat j).toNat []).getD 13 0 != 0 then 1 else 0,
                        ((ET L c0 c14).getD (Int.ofNat j).toNat []).getD 14 0, bif ((ET L c0 c14).getD (Int.ofNat j).toNat []).getD 15 0 != 0 then 1 else 0,
                        ((ET L c0 c14).getD (Int.ofNat j).toNat []).getD 16 0, ((ET L c0 c14).getD (Int.ofNat j).toNat []).getD 17 0, ((ET L c0 c14).getD (Int.ofNat j).toNat []).getD 18 0,
                        ((ET L c0 c14).getD (Int.ofNat j).toNat []).getD 19 0, ((ET L c0 c14).getD (Int.ofNat j).toNat []).getD 20 0,
                        bif ((ET L c0 c14).getD (Int.ofNat j).toNat []).getD 21 0 != 0 then 1 else 0]]) ∧
        (tapa_s4 L c0 c14 j →
          ((tapa_s1 L c0 c14 j != 1) = true → False) ∧
            ((tapa_s1 L c0 c14 j != 1) = false →
              (j + 1 ≤ (ET L c0 c14).length ∧ tapsL (ET L c0 c14) (j + 1) = [] ∧ tapP c0 c14 = true) ∧
                (tapF L c0 c14).μ ((tapF L c0 c14).next (Sum.inl j) 2) < (tapF L c0 c14).μ (Sum.inl j) ∧
                  (tapF L c0 c14).fin ((tapF L c0 c14).next (Sum.inl j) 2) = (tapF L c0 c14).fin (Sum.inl j) ∧ tapa_s5 j)),
    decide (Int.ofNat j < Int.ofNat (ET L c0 c14).length) = false → tapsL (ET L c0 c14) (ET L c0 c14).length = []]
theorem tapa_round (L : List (List Int)) (c0 c14 : Int) (j : Nat) (hNeeds : ∀ pN ∈ (tapa_needs L c0 c14 j), pN) : RoundOk (roundC (tapF L c0 c14) (bodyOf Try.prog (sums K_lawC) L_same 9 0) 13158 (.inl j)) :=
  RoundOk.of (ps := (tapa_needs L c0 c14 j)) (by kernel_rfl) (by kernel_rfl) hNeeds
noncomputable def tapb_s0 (L : List (List Int)) (c0 : Int) (c14 : Int) (j : Nat) : Prop :=
  decide (Int.ofNat j < Int.ofNat (ET L c0 c14).length) = true
noncomputable def tapb_s1 (L : List (List Int)) (c0 : Int) (c14 : Int) (j : Nat) : Int :=
  ((ET L c0 c14).getD (Int.ofNat j).toNat []).getD 0 0
noncomputable def tapb_s2 (L : List (List Int)) (c0 : Int) (c14 : Int) (j : Nat) : Prop :=
  (tapb_s1 L c0 c14 j == 6) = true
noncomputable def tapb_s3 (L : List (List Int)) (c0 : Int) (c14 : Int) (j : Nat) : Prop :=
  (tapb_s1 L c0 c14 j == 6) = false
noncomputable def tapb_needs (L : List (List Int)) (c0 : Int) (c14 : Int) (j : Nat) : List Prop :=
  [tapb_s0 L c0 c14 j →
      0 ≤ Int.ofNat j ∧
        (Int.ofNat j).toNat < (ET L c0 c14).length ∧
          (Int.ofNat j).toNat < (ET L c0 c14).length ∧
            (Int.ofNat j).toNat < (ET L c0 c14).length ∧
              (tapb_s2 L c0 c14 j →
                  0 ≤ Int.ofNat j ∧
                    (Int.ofNat j).toNat < (ET L c0 c14).length ∧
                      (Int.ofNat j).toNat < (ET L c0 c14).length ∧ ((tapsL (ET L c0 c14) j).length + 1) * 176 ≤ 140737488355328 ∧ (tapsL (ET L c0 c14) j).length + 1 ≤ 9223372036854775807) ∧
                (tapb_s3 L c0 c14 j → 0 ≤ Int.ofNat j ∧ (Int.ofNat j).toNat < (ET L c0 c14).length ∧ (Int.ofNat j).toNat < (ET L c0 c14).length ∧ (Int.ofNat j).toNat < (ET L c0 c14).length),
    tapb_s0 L c0 c14 j →
      (tapb_s2 L c0 c14 j →
          (j + 1 ≤ (ET L c0 c14).length ∧ tapP c0 c14 = true) ∧
            (tapF L c0 c14).μ ((tapF L c0 c14).next (Sum.inr j) 0) < (tapF L c0 c14).μ (Sum.inr j) ∧
              (tapF L c0 c14).fin ((tapF L c0 c14).next (Sum.inr j) 0) = (tapF L c0 c14).fin (Sum.inr j) ∧
                Int.ofNat (j + 1) = IntKind.i64.wrap (Int.ofNat j + 1) ∧
                  tapsL (ET L c0 c14) (j + 1) =
                    tapsL (ET L c0 c14) j ++
                      [[tapb_s1 L c0 c14 j, ((ET L c0 c14).getD (Int.ofNat j).toNat []).getD 1 0, ((ET L c0 c14).getD (Int.ofNat j).toNat []).getD 2 0,
                          ((ET L c0 c14).getD (Int.ofNat j).toNat []).getD 3 0, ((ET L c0 c14).getD (Int.ofNat j).toNat []).getD 4 0, ((ET L c0 c14).getD (Int.ofNat j).toNat []).getD 5 0,
                          ((ET L c0 c14).getD (Int.ofNat j).toNat []).getD 6 0, ((ET L c0 c14).getD (Int.ofNat j).toNat []).getD 7 0, ((ET L c0 c14).getD (Int.ofNat j).toNat []).getD 8 0,
                          ((ET L c0 c14).getD (Int.ofNat j).toNat []).getD 9 0, ((ET L c0 c14).getD (Int.ofNat j).toNat []).getD 10 0, ((ET L c0 c14).getD (Int.ofNat j).toNat []).getD 11 0,
                          ((ET L c0 c14).getD (Int.ofNat j).toNat []).getD 12 0, bif ((ET L c0 c14).getD (Int.ofNat j).toNat []).getD 13 0 != 0 then 1 else 0,
                          ((ET L c0 c14).getD (Int.ofNat j).toNat []).getD 14 0, bif ((ET L c0 c14).getD (Int.ofNat j).toNat []).getD 15 0 != 0 then 1 else 0,
                          ((ET L c0 c14).getD (Int.ofNat j).toNat []).getD 16 0, ((ET L c0 c14).getD (Int.ofNat j).toNat []).getD 17 0, ((ET L c0 c14).getD (Int.ofNat j).toNat []).getD 18 0,
                          ((ET L c0 c14).getD (Int.ofNat j).toNat []).getD 19 0, ((ET L c0 c14).getD (Int.ofNat j).toNat []).getD 20 0,
                          bif ((ET L c0 c14).getD (Int.ofNat j).toNat []).getD 21 0 != 0 then 1 else 0]]) ∧
        (tapb_s3 L c0 c14 j →
          ((tapb_s1 L c0 c14 j != 1) = true → False) ∧
            ((tapb_s1 L c0 c14 j != 1) = false →
              (j + 1 ≤ (ET L c0 c14).length ∧ tapP c0 c14 = true) ∧
                (tapF L c0 c14).μ ((tapF L c0 c14).next (Sum.inr j) 2) < (tapF L c0 c14).μ (Sum.inr j) ∧
                  (tapF L c0 c14).fin ((tapF L c0 c14).next (Sum.inr j) 2) = (tapF L c0 c14).fin (Sum.inr j) ∧
                    Int.ofNat (j + 1) = IntKind.i64.wrap (Int.ofNat j + 1) ∧ tapsL (ET L c0 c14) (j + 1) = tapsL (ET L c0 c14) j)),
    decide (Int.ofNat j < Int.ofNat (ET L c0 c14).length) = false → tapsL (ET L c0 c14) (ET L c0 c14).length = tapsL (ET L c0 c14) j]
theorem tapb_round (L : List (List Int)) (c0 c14 : Int) (j : Nat) (hNeeds : ∀ pN ∈ (tapb_needs L c0 c14 j), pN) : RoundOk (roundC (tapF L c0 c14) (bodyOf Try.prog (sums K_lawC) L_same 9 0) 13158 (.inr j)) :=
  RoundOk.of (ps := (tapb_needs L c0 c14 j)) (by kernel_rfl) (by kernel_rfl) hNeeds
theorem tap_rounds (L : List (List Int)) (c0 c14 : Int) : RoundsOk (tapF L c0 c14) (bodyOf Try.prog (sums K_lawC) L_same 9 0) 13158 := by
  have hlen : (ET L c0 c14).length ≤ 4000 := expR_len _ _ _ _ _ _ _ _ _ _ _ _ _ _ _ _
  have hk : ∀ j, j < (ET L c0 c14).length → tapP c0 c14 = true → ((ET L c0 c14).getD j []).getD 0 0 = 6 ∨ ((ET L c0 c14).getD j []).getD 0 0 = 1 := fun j h hc => by
    rw [show (ET L c0 c14).getD j [] = (ET L c0 c14)[j] by simp [List.getD, List.getElem?_eq_getElem h]]
    exact ET_kind L c0 c14 hc _ (List.getElem_mem h)
  rintro (j | j) h1
  · obtain ⟨h1, h2, hc⟩ : j ≤ (ET L c0 c14).length ∧ tapsL (ET L c0 c14) j = [] ∧ tapP c0 c14 = true := h1
    refine tapa_round L c0 c14 j fun q hq => ?_
    unfold tapa_needs at hq
    simp only [List.mem_cons, List.not_mem_nil, or_false, tapa_s0, tapa_s1, tapa_s2, tapa_s3, tapa_s4, tapa_s5, tapF] at hq
    rcases hq with rfl | rfl | rfl
    · intro h
      have h5 : j < (ET L c0 c14).length := by simpa using h
      simp [h5]
    · intro h
      have h5 : j < (ET L c0 c14).length := by simpa using h
      have h6 : IntKind.i64.wrap (Int.ofNat j + 1) = Int.ofNat (j + 1) := wrI (by simp; omega) (by simp; omega)
      have h7 : (Int.ofNat j).toNat = j := by simp
      have hs := tapsL_succ _ _ h5
      simp only [h6, h7]
      refine ⟨fun h8 => ?_, fun h8 => ⟨fun h9 => ?_, fun _ => ?_⟩⟩
      · rw [h8, cond_true, h2] at hs
        exact ⟨⟨by omega, hc⟩, by show (ET L c0 c14).length - (j + 1) < (ET L c0 c14).length - j; omega, trivial, trivial, hs⟩
      · rcases hk j h5 hc with h | h <;> rw [h] at h8 h9 <;> simp at h8 h9
      · rw [h8, cond_false, h2] at hs
        exact ⟨⟨by omega, hs, hc⟩, by show (ET L c0 c14).length - (j + 1) < (ET L c0 c14).length - j; omega, trivial, trivial⟩
    · intro h
      have h5 : ¬ j < (ET L c0 c14).length := by simpa using h
      rw [show (ET L c0 c14).length = j by omega]
      exact h2
  · obtain ⟨h1, hc⟩ : j ≤ (ET L c0 c14).length ∧ tapP c0 c14 = true := h1
    refine tapb_round L c0 c14 j fun q hq => ?_
    unfold tapb_needs at hq
    simp only [List.mem_cons, List.not_mem_nil, or_false, tapb_s0, tapb_s1, tapb_s2, tapb_s3, tapF] at hq
    have hl := tapsL_len (ET L c0 c14) j
    rcases hq with rfl | rfl | rfl
    · intro h
      have h5 : j < (ET L c0 c14).length := by simpa using h
      simp [h5]
      omega
    · intro h
      have h5 : j < (ET L c0 c14).length := by simpa using h
      have h6 : IntKind.i64.wrap (Int.ofNat j + 1) = Int.ofNat (j + 1) := wrI (by simp; omega) (by simp; omega)
      have h7 : (Int.ofNat j).toNat = j := by simp
      have hs := tapsL_succ _ _ h5
      simp only [h6, h7]
      refine ⟨fun h8 => ?_, fun h8 => ⟨fun h9 => ?_, fun _ => ?_⟩⟩
      · rw [h8, cond_true] at hs
        exact ⟨⟨by omega, hc⟩, by show (ET L c0 c14).length - (j + 1) < (ET L c0 c14).length - j; omega, trivial, trivial, hs⟩
      · rcases hk j h5 hc with h | h <;> rw [h] at h8 h9 <;> simp at h8 h9
      · rw [h8, cond_false, List.append_nil] at hs
        exact ⟨⟨by omega, hc⟩, by show (ET L c0 c14).length - (j + 1) < (ET L c0 c14).length - j; omega, trivial, trivial, hs⟩
    · intro h
      have h5 : ¬ j < (ET L c0 c14).length := by simpa using h
      rw [show (ET L c0 c14).length = j by omega]
noncomputable def tapL : LoopS := fun env mem m => match eRow [.int .i64] [(0, ent 0 (.one (.wh 0)))] mem 0, mem with
  | some L, [_, (_, .blk _ [(_, .int _ c0), _, _, _, _, _, _, _, _, _, _, _, _, _, (_, .int _ c14), _]), _] => famS (tapF L c0.val c14.val) 13158 (fun _ _ => some (.inl 0)) env mem m
  | _, _ => none
noncomputable def L_tap : FuncId → Nat → Option LoopS := addL L_same 9 12 tapL
theorem known_tapL : Known Try.prog (sums K_lawC) L_tap := by
  refine known_addL 0 known_lawC (by kernel_rfl) (codeOk_of fun env mem m x h => ?_)
  unfold tapL at h
  have hlen : (loopList Try.prog 9).length = 1 := by kernel_rfl
  split at h
  · exact ⟨_, fam_ok (bodyOf_ok plainN known_lawC (by omega)) (tap_rounds _ _ _), h⟩
  · cases h
noncomputable def lawT_tpl : Tpl := ⟨[.one (.wh 0), .one .bool], [(0, .row true 3 1 1 [.int .i64])], 2⟩
noncomputable def lawT_s0 (w : Bool) (L : List (List Int)) : List (List Int) :=
  ET L (bif w then 74 else 84) (bif w then 4 else 3)
noncomputable def lawT_0 (w : Bool) (L : List (List Int)) : Bool :=
  !light_0 L ||
    bif
        chk (bif w then 74 else 84) (cycle_1 L) (cycle_2 L) (cycle_3 L) (cycle_4 L) (cycle_5 L) (cycle_6 L) (cycle_7 L) (cycle_8 L) (cycle_9 L) (cycle_10 L) (cycle_11 L) (cyc12 L) (cycle_12 L)
            (bif w then 4 else 3) (cyc15 L) !=
          0 then
      false
    else
      (Int.ofNat (tapsL (lawT_s0 w L) (lawT_s0 w L).length).length == 2 && ((tapsL (lawT_s0 w L) (lawT_s0 w L).length).getD 0 []).getD 19 0 == bif w then 4 else 3) &&
            ((tapsL (lawT_s0 w L) (lawT_s0 w L).length).getD 1 []).getD 19 0 == IntKind.i64.wrap (7 - bif w then 4 else 3) &&
          flat_2 (cycle_1 L) (((tapsL (lawT_s0 w L) (lawT_s0 w L).length).getD 0 []).getD 5 0) (((tapsL (lawT_s0 w L) (lawT_s0 w L).length).getD 0 []).getD 6 0)
              (((tapsL (lawT_s0 w L) (lawT_s0 w L).length).getD 0 []).getD 7 0) ==
            cycle_9 L &&
        flat_2 (cycle_1 L) (((tapsL (lawT_s0 w L) (lawT_s0 w L).length).getD 1 []).getD 5 0) (((tapsL (lawT_s0 w L) (lawT_s0 w L).length).getD 1 []).getD 6 0)
            (((tapsL (lawT_s0 w L) (lawT_s0 w L).length).getD 1 []).getD 7 0) ==
          cycle_8 L
noncomputable def lawT_s1 (w : Bool) (L : List (List Int)) : Bool :=
  Int.ofNat (tapsL (lawT_s0 w L) (lawT_s0 w L).length).length == 2
noncomputable def lawT_s2 (w : Bool) (L : List (List Int)) : Bool :=
  lawT_s1 w L && ((tapsL (lawT_s0 w L) (lawT_s0 w L).length).getD 0 []).getD 19 0 == bif w then 4 else 3
noncomputable def lawT_s3 (w : Bool) (L : List (List Int)) : Bool :=
  lawT_s2 w L && ((tapsL (lawT_s0 w L) (lawT_s0 w L).length).getD 1 []).getD 19 0 == IntKind.i64.wrap (7 - bif w then 4 else 3)
noncomputable def lawT_s4 (w : Bool) (L : List (List Int)) : Prop :=
  (lawT_s3 w L &&
        flat_2 (cycle_1 L) (((tapsL (lawT_s0 w L) (lawT_s0 w L).length).getD 0 []).getD 5 0) (((tapsL (lawT_s0 w L) (lawT_s0 w L).length).getD 0 []).getD 6 0)
            (((tapsL (lawT_s0 w L) (lawT_s0 w L).length).getD 0 []).getD 7 0) ==
          cycle_9 L) =
      true →
    1 < (tapsL (lawT_s0 w L) (lawT_s0 w L).length).length
noncomputable def lawT_needs (w : Bool) (L : List (List Int)) : List Prop :=
  [(!light_0 L) = false →
      L.length ≤ 1000000 ∧
        ((chk (bif w then 74 else 84) (cycle_1 L) (cycle_2 L) (cycle_3 L) (cycle_4 L) (cycle_5 L) (cycle_6 L) (cycle_7 L) (cycle_8 L) (cycle_9 L) (cycle_10 L) (cycle_11 L) (cyc12 L) (cycle_12 L)
                (bif w then 4 else 3) (cyc15 L) !=
              0) =
            false →
          (0 ≤ (lawT_s0 w L).length ∧ tapsL (lawT_s0 w L) 0 = [] ∧ tapP (bif w then 74 else 84) (bif w then 4 else 3) = true) ∧
            Int.ofNat 0 = 0 ∧
              (lawT_s1 w L = true → 0 < (tapsL (lawT_s0 w L) (lawT_s0 w L).length).length) ∧
                (lawT_s1 w L = true → 0 < (tapsL (lawT_s0 w L) (lawT_s0 w L).length).length) ∧
                  (lawT_s1 w L = true → 0 < (tapsL (lawT_s0 w L) (lawT_s0 w L).length).length) ∧
                    (lawT_s2 w L = true → 1 < (tapsL (lawT_s0 w L) (lawT_s0 w L).length).length) ∧
                      (lawT_s2 w L = true → 1 < (tapsL (lawT_s0 w L) (lawT_s0 w L).length).length) ∧
                        (lawT_s2 w L = true → 1 < (tapsL (lawT_s0 w L) (lawT_s0 w L).length).length) ∧
                          (lawT_s3 w L = true → 0 < (tapsL (lawT_s0 w L) (lawT_s0 w L).length).length) ∧
                            (lawT_s3 w L = true → 0 < (tapsL (lawT_s0 w L) (lawT_s0 w L).length).length) ∧
                              (lawT_s3 w L = true → 0 < (tapsL (lawT_s0 w L) (lawT_s0 w L).length).length) ∧ lawT_s4 w L ∧ lawT_s4 w L ∧ lawT_s4 w L)]
theorem lawT_0_eq (w : Bool) (L : List (List Int)) : (lawT_0 w L) = true := by
  have hc : tapP (bif w then 74 else 84) (bif w then 4 else 3) = true := by cases w <;> rfl
  unfold lawT_0 lawT_s0
  generalize (bif w then (74 : Int) else 84) = c0 at *
  generalize (bif w then (4 : Int) else 3) = c14 at *
  rw [chk_tap L c0 c14 hc, ET_taps L c0 c14 hc]
  have f19 : ∀ p u w k h n, (cp (itm p u w k h n)).getD 19 0 = n := fun _ _ _ _ _ _ => rfl
  have f5 : ∀ p u w k h n, (cp (itm p u w k h n)).getD 5 0 = solid_0 p u w h := fun _ _ _ _ _ _ => rfl
  have f6 : ∀ p u w k h n, (cp (itm p u w k h n)).getD 6 0 = solid_1 p u w h := fun _ _ _ _ _ _ => rfl
  have f7 : ∀ p u w k h n, (cp (itm p u w k h n)).getD 7 0 = solid_2 p u w h := fun _ _ _ _ _ _ => rfl
  have t0 : ∀ a b : List Int, [a, b].getD 0 [] = a := fun _ _ => rfl
  have t1 : ∀ a b : List Int, [a, b].getD 1 [] = b := fun _ _ => rfl
  have t2 : ∀ a b : List Int, (Int.ofNat [a, b].length == 2) = true := fun _ _ => rfl
  rw [t0, t1, t2, f19, f19, f5, f6, f7, f5, f6, f7, (flat_solid _ _ _ _ (cyc_plane L)).2.2, (flat_solid _ _ _ _ (cyc_plane L)).2.2]
  simp
theorem lawT_need {w : Bool} {L : List (List Int)} : ∀ q ∈ (lawT_needs w L), q := by
  intro q hq
  unfold lawT_needs at hq
  simp only [List.mem_cons, List.not_mem_nil, or_false] at hq
  have hc : tapP (bif w then 74 else 84) (bif w then 4 else 3) = true := by cases w <;> rfl
  have e := ET_taps L _ _ hc
  have e0 : 0 < (tapsL (ET L (bif w then 74 else 84) (bif w then 4 else 3)) (ET L (bif w then 74 else 84) (bif w then 4 else 3)).length).length := by rw [e]; exact Nat.zero_lt_succ _
  have e1 : 1 < (tapsL (ET L (bif w then 74 else 84) (bif w then 4 else 3)) (ET L (bif w then 74 else 84) (bif w then 4 else 3)).length).length := by rw [e]; exact Nat.lt_succ_self _
  subst hq
  intro h
  have : (L.length : Int) ≤ 120 := by simpa [light_0] using h
  exact ⟨by omega, fun _ => ⟨⟨Nat.zero_le _, rfl, hc⟩, rfl, fun _ => e0, fun _ => e0, fun _ => e0, fun _ => e1, fun _ => e1, fun _ => e1, fun _ => e0, fun _ => e0, fun _ => e0, fun _ => e1, fun _ => e1, fun _ => e1⟩⟩
set_option maxRecDepth 1000000 in
theorem lawT_runs (w : Bool) (L : List (List Int)) (hNeeds : ∀ pN ∈ (lawT_needs w L), pN) : Runs (runF (sums K_lawC) L_tap 9) (lawT_tpl.args [.b w]) (lawT_tpl.memo [.b w] [L]) lawT_tpl.n (SV.one (SC.bool (SB.v (lawT_0 w L))))
    ([(0, Obj.row true 3 1 (RowC.lst 1 [CK.int IntKind.i64] L))]) :=
  Runs.of (ps := (lawT_needs w L)) (by kernel_rfl) (by kernel_rfl) hNeeds
noncomputable def lawT_out : List Pm → Lss → Option CRes
  | [.b w], [L] => some ⟨SV.one (SC.bool (SB.c true)),
    [(0, Obj.row true 3 1 (RowC.lst 1 [CK.int IntKind.i64] L))],
    [], [], 13485⟩
  | _, _ => none
theorem lawT_ok : FOk Try.prog 9 (tplS lawT_tpl lawT_out) := by
  refine tplS_ok (runF_ok known_tapL 9) fun ps ls r hr hn _ => ?_
  unfold lawT_out at hr
  split at hr
  · cases hr; exact ⟨_, lawT_runs _ _ (fun p hp => lawT_need p hp), fun _ => by simp only [SV.den, SC.den, SB.val, lawT_0_eq]⟩
  · cases hr
noncomputable def K_lawT : List (Nat × Summ) := (9, tplS lawT_tpl lawT_out) :: K_lawC
theorem known_lawT : Known Try.prog (sums K_lawT) L_tap := known_cons known_tapL lawT_ok
end Go.Proofs.Ytgimheibnpgphaa
