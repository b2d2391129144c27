/-
  DRILLENDS: the walk. Conditions: none.
-/
import Derived.Test.YtgimheibnpgphaaDrillL
set_option linter.all false
namespace Go.Proofs.Ytgimheibnpgphaa
open Go.SX Go.RowKit
/-- The steps of the cycle that is made of a tape. -/
noncomputable def EX (L : List (List Int)) : List (List Int) := expR (cycle_0 L) (cycle_1 L) (cycle_2 L) (cycle_3 L) (cycle_4 L) (cycle_5 L) (cycle_6 L) (cycle_7 L) (cycle_8 L) (cycle_9 L) (cycle_10 L) (cycle_11 L) (cyc12 L) (cycle_12 L) (cycle_13 L) (cyc15 L)
noncomputable def CB (L : List (List Int)) : SX.Obj := .blk 28 [(3149, I (cycle_0 L)), (3150, I (cycle_1 L)), (3151, I (cycle_2 L)), (3152, I (cycle_3 L)), (3153, I (cycle_4 L)), (3154, I (cycle_5 L)), (3155, I (cycle_6 L)), (3156, I (cycle_7 L)), (3157, I (cycle_8 L)), (3158, I (cycle_9 L)), (3159, I (cycle_10 L)), (3160, I (cycle_11 L)), (3161, I (cyc12 L)), (3162, I (cycle_12 L)), (3163, I (cycle_13 L)), (3164, I (cyc15 L))]
noncomputable def HT (L : List (List Int)) : Int := hts0 (cycle_0 L) (cycle_1 L) (cycle_2 L) (cycle_3 L) (cycle_4 L) (cycle_5 L) (cycle_6 L) (cycle_7 L) (cycle_8 L) (cycle_9 L) (cycle_10 L) (cycle_11 L) (cyc12 L) (cycle_12 L) (cycle_13 L) (cyc15 L)
abbrev rowL (L : List (List Int)) : Nat × SX.Obj := (0, .row true 3 1 (.lst 1 [.int .i64] L))
/-- Where the last motion among the first steps ended. -/
noncomputable def lastAt (f : Nat → Int) (k : Nat) (xs : List (List Int)) (x : Int) : Nat → Int
  | 0 => x
  | j + 1 => bif decide ((xs.getD j []).getD 0 0 > 6) then lastAt f k xs x j else (xs.getD j []).getD k 0
theorem flat_solid (p u w h : Int) (hp : p = 17 ∨ p = 18 ∨ p = 19) : flat_0 p (solid_0 p u w h) (solid_1 p u w h) (solid_2 p u w h) = u ∧ flat_1 p (solid_0 p u w h) (solid_1 p u w h) (solid_2 p u w h) = w ∧ flat_2 p (solid_0 p u w h) (solid_1 p u w h) (solid_2 p u w h) = h := by
  rcases hp with rfl | rfl | rfl <;> exact ⟨rfl, rfl, rfl⟩
/-- A step that does not move, or one at a place. -/
noncomputable def onP (p u w : Int) (r : List Int) : Prop := r.getD 0 0 > 6 ∨ (flat_0 p (r.getD 5 0) (r.getD 6 0) (r.getD 7 0) = u ∧ flat_1 p (r.getD 5 0) (r.getD 6 0) (r.getD 7 0) = w)
theorem itm_on (p u w k h n : Int) (hp : p = 17 ∨ p = 18 ∨ p = 19) : onP p u w (itm p u w k h n) := .inr ⟨(flat_solid p u w h hp).1, (flat_solid p u w h hp).2.1⟩
theorem dwl_on (p u w n : Int) : onP p u w (dwl n) := .inl (by simp [dwl, List.getD])
theorem spn_on (p u w n s : Int) : onP p u w (spn n s) := .inl (by simp [spn, List.getD])
theorem pecks_on (p u w c0 c8 c11 : Int) (hp : p = 17 ∨ p = 18 ∨ p = 19) : ∀ j, ∀ r ∈ pecksL p u w c0 c8 c11 j, onP p u w r
  | 0, r, h => by cases h
  | j + 1, r, h => by
    simp only [pecksL, List.mem_append] at h
    rcases h with h | h
    · exact pecks_on p u w c0 c8 c11 hp j r h
    · simp only [peckOne] at h
      cases hc : c0 == 83 <;> simp only [hc, cond_true, cond_false, List.nil_append, List.mem_append, List.mem_singleton] at h
      · rcases h with rfl | rfl <;> exact itm_on _ _ _ _ _ _ hp
      · rcases h with rfl | rfl | rfl <;> exact itm_on _ _ _ _ _ _ hp
theorem body_on (p u w c0 c8 c9 c11 c12 c14 : Int) (n : Nat) (hp : p = 17 ∨ p = 18 ∨ p = 19) : ∀ r ∈ bodyL p u w c0 c8 c9 c11 c12 c14 n, onP p u w r := by
  intro r h
  unfold bodyL at h
  have key : ∀ (b : Bool) (x y : List (List Int)), (r ∈ bif b then x else y) → r ∈ x ∨ r ∈ y := fun b x y h => by cases b <;> simp_all
  rcases key _ _ _ h with h | h
  · simp only [List.mem_append, List.mem_singleton] at h
    rcases h with h | rfl
    · exact pecks_on _ _ _ _ _ _ hp _ r h
    · exact itm_on _ _ _ _ _ _ hp
  rcases key _ _ _ h with h | h
  · simp only [List.mem_cons, List.not_mem_nil, or_false] at h
    rcases h with rfl | rfl <;> exact itm_on _ _ _ _ _ _ hp
  rcases key _ _ _ h with h | h
  · simp only [List.mem_cons, List.not_mem_nil, or_false] at h
    subst h; exact itm_on _ _ _ _ _ _ hp
  rcases key _ _ _ h with h | h
  · simp only [List.mem_cons, List.not_mem_nil, or_false] at h
    rcases h with rfl | rfl
    · exact itm_on _ _ _ _ _ _ hp
    · exact dwl_on _ _ _ _
  rcases key _ _ _ h with h | h
  · simp only [List.mem_cons, List.not_mem_nil, or_false] at h
    rcases h with rfl | rfl <;> exact itm_on _ _ _ _ _ _ hp
  rcases key _ _ _ h with h | h
  · simp only [List.mem_cons, List.not_mem_nil, or_false] at h
    rcases h with rfl | rfl | rfl
    · exact itm_on _ _ _ _ _ _ hp
    · exact dwl_on _ _ _ _
    · exact itm_on _ _ _ _ _ _ hp
  rcases key _ _ _ h with h | h
  · simp only [List.mem_cons, List.not_mem_nil, or_false] at h
    rcases h with rfl | rfl | rfl
    · exact itm_on _ _ _ _ _ _ hp
    · exact dwl_on _ _ _ _
    · exact spn_on _ _ _ _ _
  · cases h
theorem post_on (p u w c0 h c14 c15 : Int) (hp : p = 17 ∨ p = 18 ∨ p = 19) : ∀ r ∈ postL p u w c0 h c14 c15, onP p u w r := by
  intro r hr
  unfold postL at hr
  cases hc : c0 == 86 <;> simp only [hc, cond_true, cond_false, List.mem_cons, List.not_mem_nil, or_false] at hr
  · subst hr; exact itm_on _ _ _ _ _ _ hp
  · rcases hr with rfl | rfl
    · exact itm_on _ _ _ _ _ _ hp
    · exact spn_on _ _ _ _ _
theorem lastAt_append (f : Nat → Int) (k : Nat) (xs ys : List (List Int)) (x : Int) : ∀ j, j ≤ xs.length → lastAt f k (xs ++ ys) x j = lastAt f k xs x j
  | 0, _ => rfl
  | j + 1, h => by
    have e : (xs ++ ys).getD j [] = xs.getD j [] := by
      simp only [List.getD]
      rw [List.getElem?_append_left (by omega)]
    simp only [lastAt, e, lastAt_append f k xs ys x j (by omega)]
theorem lastAt_snoc (f : Nat → Int) (k : Nat) (xs : List (List Int)) (r : List Int) (x : Int) : lastAt f k (xs ++ [r]) x (xs ++ [r]).length = bif decide (r.getD 0 0 > 6) then lastAt f k xs x xs.length else r.getD k 0 := by
  have e : (xs ++ [r]).getD xs.length [] = r := by simp [List.getD]
  rw [List.length_append]
  simp only [List.length_cons, List.length_nil, Nat.zero_add, lastAt, e, lastAt_append f k xs [r] x xs.length (Nat.le_refl _)]
theorem lastAt_post (f : Nat → Int) (k : Nat) (xs : List (List Int)) (p u w c0 h c14 c15 x : Int) : lastAt f k (xs ++ postL p u w c0 h c14 c15) x (xs ++ postL p u w c0 h c14 c15).length = (itm p u w 1 h 0).getD k 0 := by
  have e1 : lastAt f k (xs ++ [itm p u w 1 h 0]) x (xs ++ [itm p u w 1 h 0]).length = (itm p u w 1 h 0).getD k 0 := by
    rw [lastAt_snoc]; rfl
  unfold postL
  cases c0 == 86
  · exact e1
  · have : xs ++ itm p u w 1 h 0 :: [spn c14 c15] = (xs ++ [itm p u w 1 h 0]) ++ [spn c14 c15] := by simp
    simp only [cond_true]
    rw [this, lastAt_snoc, e1]; rfl
theorem cyc_plane (L : List (List Int)) : cycle_1 L = 17 ∨ cycle_1 L = 18 ∨ cycle_1 L = 19 := by have := cycle_1_rng L; omega
theorem EX_eq (L : List (List Int)) : EX L = expL (cycle_0 L) (cycle_1 L) (cycle_2 L) (cycle_3 L) (cycle_4 L) (cycle_5 L) (cycle_6 L) (cycle_7 L) (cycle_8 L) (cycle_9 L) (cycle_10 L) (cycle_11 L) (cyc12 L) (cycle_12 L) (cycle_13 L) (cyc15 L) := by
  unfold EX expR
  rw [cycle_chk]; rfl
/-- Every step but the first one is at the place. -/
theorem EX_on (L : List (List Int)) (j : Nat) (hj : j < (EX L).length) : onP (cycle_1 L) (flat_0 (cycle_1 L) (cycle_5 L) (cycle_6 L) (cycle_7 L)) (flat_1 (cycle_1 L) (cycle_5 L) (cycle_6 L) (cycle_7 L)) ((EX L).getD j []) ∨
    (j = 0 ∧ onP (cycle_1 L) (flat_0 (cycle_1 L) (cycle_2 L) (cycle_3 L) (cycle_4 L)) (flat_1 (cycle_1 L) (cycle_2 L) (cycle_3 L) (cycle_4 L)) ((EX L).getD j [])) := by
  have hp := cyc_plane L
  have key : ∀ (pre rest : List (List Int)) (u w fu fw p : Int), (pre = [] ∨ ∃ r, pre = [r] ∧ onP p fu fw r) → (∀ r ∈ rest, onP p u w r) → ∀ j, j < (pre ++ rest).length → onP p u w ((pre ++ rest).getD j []) ∨ (j = 0 ∧ onP p fu fw ((pre ++ rest).getD j [])) := by
    intro pre rest u w fu fw p h1 h2 j hj
    rcases h1 with rfl | ⟨r, rfl, hr⟩
    · left
      simp only [List.nil_append] at hj ⊢
      rw [show rest.getD j [] = rest[j] from by simp [List.getD, List.getElem?_eq_getElem hj]]
      exact h2 _ (List.getElem_mem hj)
    · cases j with
      | zero => exact .inr ⟨rfl, hr⟩
      | succ j =>
        left
        simp only [List.singleton_append, List.length_cons] at hj
        rw [show ([r] ++ rest).getD (j + 1) [] = rest[j]'(by omega) from by simp [List.getD, List.getElem?_eq_getElem (show j < rest.length by omega)]]
        exact h2 _ (List.getElem_mem _)
  rw [EX_eq] at hj ⊢
  unfold expL preL at hj ⊢
  rw [List.append_assoc] at hj ⊢
  refine key _ _ _ _ _ _ _ ?_ ?_ j hj
  · cases decide (flat_2 (cycle_1 L) (cycle_2 L) (cycle_3 L) (cycle_4 L) < cycle_8 L)
    · exact .inl rfl
    · exact .inr ⟨_, rfl, itm_on _ _ _ _ _ _ hp⟩
  · intro r hr
    simp only [List.mem_append, List.mem_cons, List.not_mem_nil, or_false] at hr
    rcases hr with (rfl | rfl) | hr | hr
    · exact itm_on _ _ _ _ _ _ hp
    · exact itm_on _ _ _ _ _ _ hp
    · exact body_on _ _ _ _ _ _ _ _ _ _ hp r hr
    · exact post_on _ _ _ _ _ _ _ hp r hr
noncomputable def lx (L : List (List Int)) (j : Nat) : Int := lastAt (fun _ => 0) 5 (EX L) (cycle_2 L) j
noncomputable def ly (L : List (List Int)) (j : Nat) : Int := lastAt (fun _ => 0) 6 (EX L) (cycle_3 L) j
noncomputable def lz (L : List (List Int)) (j : Nat) : Int := lastAt (fun _ => 0) 7 (EX L) (cycle_4 L) j
noncomputable def endsM (L : List (List Int)) (t j : Nat) : Mem := [(13931, .blk 26 [(t, I (lx L j)), (t + 1, I (ly L j)), (t + 2, I (lz L j))]),
  (13922, .blk 41 [(13926, I (flat_0 (cycle_1 L) (cycle_5 L) (cycle_6 L) (cycle_7 L))), (13927, I (flat_1 (cycle_1 L) (cycle_5 L) (cycle_6 L) (cycle_7 L)))]), rowI 11302 11301 (EX L), (3131, CB L), rowL L]
noncomputable def endsF (L : List (List Int)) : Fam Nat Unit where
  k := 100
  E j := [(11, ent 1000000000 (.one (I (Int.ofNat j)))), (10, ent 13935 (.one (.ptr 13931 0))), (9, ent 13925 (.one (.ptr 13922 0))), (6, ent 11983 (.one (I (HT L)))), (4, ent 11307 (.one (.wh 11302))), (3, ent 3148 (.one (.ptr 3131 0))), (2, ent 2 (.one (.bool (.c false))))]
  M j := endsM L 1000000001 j
  out _ := .leaf (.exit 0) [(10, ent 13935 (.one (.ptr 13931 0))), (9, ent 13925 (.one (.ptr 13922 0))), (6, ent 11983 (.one (I (HT L)))), (3, ent 3148 (.one (.ptr 3131 0)))] (endsM L 1000000010 (EX L).length)
  fin _ := ()
  next j _ := j + 1
  J j := j ≤ (EX L).length
  μ j := (EX L).length - j
noncomputable def ends_s0 (L : List (List Int)) (j : Nat) : Prop :=
  decide (Int.ofNat j < Int.ofNat (EX L).length) = true
noncomputable def ends_s1 (L : List (List Int)) (j : Nat) : Int :=
  ((EX L).getD (Int.ofNat j).toNat []).getD 0 0
noncomputable def ends_s2 (L : List (List Int)) (j : Nat) : Prop :=
  decide (ends_s1 L j > 6) = false
noncomputable def ends_s3 (L : List (List Int)) (j : Nat) : Int :=
  ((EX L).getD (Int.ofNat j).toNat []).getD 5 0
noncomputable def ends_s4 (L : List (List Int)) (j : Nat) : Int :=
  ((EX L).getD (Int.ofNat j).toNat []).getD 6 0
noncomputable def ends_s5 (L : List (List Int)) (j : Nat) : Int :=
  ((EX L).getD (Int.ofNat j).toNat []).getD 7 0
noncomputable def ends_s6 (L : List (List Int)) (j : Nat) : Prop :=
  (!(flat_0 (cycle_1 L) (ends_s3 L j) (ends_s4 L j) (ends_s5 L j) == flat_0 (cycle_1 L) (cycle_5 L) (cycle_6 L) (cycle_7 L) &&
          flat_1 (cycle_1 L) (ends_s3 L j) (ends_s4 L j) (ends_s5 L j) == flat_1 (cycle_1 L) (cycle_5 L) (cycle_6 L) (cycle_7 L)) &&
      (decide (Int.ofNat j > 0) ||
        !(flat_0 (cycle_1 L) (ends_s3 L j) (ends_s4 L j) (ends_s5 L j) == flat_0 (cycle_1 L) (cycle_2 L) (cycle_3 L) (cycle_4 L) &&
            flat_1 (cycle_1 L) (ends_s3 L j) (ends_s4 L j) (ends_s5 L j) == flat_1 (cycle_1 L) (cycle_2 L) (cycle_3 L) (cycle_4 L)))) =
    false
noncomputable def ends_needs (L : List (List Int)) (j : Nat) : List Prop :=
  [ends_s0 L j →
      0 ≤ Int.ofNat j ∧
        (Int.ofNat j).toNat < (EX L).length ∧
          (Int.ofNat j).toNat < (EX L).length ∧
            (Int.ofNat j).toNat < (EX L).length ∧
              (ends_s2 L j →
                0 ≤ Int.ofNat j ∧
                  (Int.ofNat j).toNat < (EX L).length ∧
                    (Int.ofNat j).toNat < (EX L).length ∧
                      (Int.ofNat j).toNat < (EX L).length ∧
                        (ends_s6 L j → 0 ≤ Int.ofNat j ∧ (Int.ofNat j).toNat < (EX L).length ∧ (Int.ofNat j).toNat < (EX L).length ∧ (Int.ofNat j).toNat < (EX L).length)),
    ends_s0 L j →
      (decide (ends_s1 L j > 6) = true →
          (endsF L).next j 0 ≤ (EX L).length ∧
            (endsF L).μ ((endsF L).next j 0) < (endsF L).μ j ∧
              (endsF L).fin ((endsF L).next j 0) = (endsF L).fin j ∧
                Int.ofNat ((endsF L).next j 0) = IntKind.i64.wrap (Int.ofNat j + 1) ∧ lx L ((endsF L).next j 0) = lx L j ∧ ly L ((endsF L).next j 0) = ly L j ∧ lz L ((endsF L).next j 0) = lz L j) ∧
        (ends_s2 L j →
          ((!(flat_0 (cycle_1 L) (ends_s3 L j) (ends_s4 L j) (ends_s5 L j) == flat_0 (cycle_1 L) (cycle_5 L) (cycle_6 L) (cycle_7 L) &&
                      flat_1 (cycle_1 L) (ends_s3 L j) (ends_s4 L j) (ends_s5 L j) == flat_1 (cycle_1 L) (cycle_5 L) (cycle_6 L) (cycle_7 L)) &&
                  (decide (Int.ofNat j > 0) ||
                    !(flat_0 (cycle_1 L) (ends_s3 L j) (ends_s4 L j) (ends_s5 L j) == flat_0 (cycle_1 L) (cycle_2 L) (cycle_3 L) (cycle_4 L) &&
                        flat_1 (cycle_1 L) (ends_s3 L j) (ends_s4 L j) (ends_s5 L j) == flat_1 (cycle_1 L) (cycle_2 L) (cycle_3 L) (cycle_4 L)))) =
                true →
              False) ∧
            (ends_s6 L j →
              (endsF L).next j 2 ≤ (EX L).length ∧
                (endsF L).μ ((endsF L).next j 2) < (endsF L).μ j ∧
                  (endsF L).fin ((endsF L).next j 2) = (endsF L).fin j ∧
                    Int.ofNat ((endsF L).next j 2) = IntKind.i64.wrap (Int.ofNat j + 1) ∧
                      lx L ((endsF L).next j 2) = ends_s3 L j ∧ ly L ((endsF L).next j 2) = ends_s4 L j ∧ lz L ((endsF L).next j 2) = ends_s5 L j)),
    decide (Int.ofNat j < Int.ofNat (EX L).length) = false → lx L (EX L).length = lx L j ∧ ly L (EX L).length = ly L j ∧ lz L (EX L).length = lz L j]
theorem ends_round (L : List (List Int)) (j : Nat) (hNeeds : ∀ pN ∈ (ends_needs L j), pN) : RoundOk (roundC (endsF L) (bodyOf Try.prog (sums K_lawC) L_same 5 0) 13941 j) :=
  RoundOk.of (ps := (ends_needs L j)) (by kernel_rfl) (by kernel_rfl) hNeeds
theorem ends_rounds (L : List (List Int)) : RoundsOk (endsF L) (bodyOf Try.prog (sums K_lawC) L_same 5 0) 13941 := by
  intro j h1
  have h1 : j ≤ (EX L).length := h1
  have hlen : (EX L).length ≤ 4000 := expR_len _ _ _ _ _ _ _ _ _ _ _ _ _ _ _ _
  refine ends_round L j fun q hq => ?_
  unfold ends_needs at hq
  simp only [List.mem_cons, List.not_mem_nil, or_false, ends_s0, ends_s1, ends_s2, ends_s3, ends_s4, ends_s5, ends_s6, endsF] at hq
  rcases hq with rfl | rfl | rfl
  · intro h
    have h5 : j < (EX L).length := by simpa using h
    exact ⟨by simp, by simpa using h5, by simpa using h5, by simpa using h5, fun _ => ⟨by simp, by simpa using h5, by simpa using h5, by simpa using h5, fun _ => ⟨by simp, by simpa using h5, by simpa using h5, by simpa using h5⟩⟩⟩
  · intro h
    have h5 : j < (EX L).length := by simpa using h
    have h6 : IntKind.i64.wrap (Int.ofNat j + 1) = Int.ofNat (j + 1) := wrI (by simp; omega) (by simp; omega)
    have h7 : (Int.ofNat j).toNat = j := by simp
    have hon := EX_on L j h5
    simp only [h6, h7]
    refine ⟨fun h8 => ⟨by omega, by omega, trivial, trivial, by simp only [lx, lastAt, h8, cond_true], by simp only [ly, lastAt, h8, cond_true], by simp only [lz, lastAt, h8, cond_true]⟩,
      fun h8 => ⟨fun h9 => ?_, fun _ => ⟨by omega, by omega, trivial, trivial, by simp only [lx, lastAt, h8, cond_false], by simp only [ly, lastAt, h8, cond_false], by simp only [lz, lastAt, h8, cond_false]⟩⟩⟩
    have h10 : ¬ ((EX L).getD j []).getD 0 0 > 6 := by simpa using h8
    rcases hon with (h11 | ⟨e1, e2⟩) | ⟨rfl, (h11 | ⟨e1, e2⟩)⟩
    · exact h10 h11
    · rw [e1, e2] at h9; simp at h9
    · exact h10 h11
    · rw [e1, e2] at h9; simp at h9
  · intro h
    have h5 : ¬ j < (EX L).length := by simpa using h
    rw [show (EX L).length = j by omega]
    exact ⟨rfl, rfl, rfl⟩
noncomputable def endsL : LoopS := fun env mem m => match eRow [.int .i64] [(0, ent 0 (.one (.wh 0)))] mem 0 with
  | some L => famS (endsF L) 13941 (fun _ _ => some 0) env mem m
  | none => none
noncomputable def L_ends : FuncId → Nat → Option LoopS := addL L_same 5 11 endsL
theorem known_endsL : Known Try.prog (sums K_lawC) L_ends := by
  refine known_addL 0 known_lawC (by kernel_rfl) (codeOk_of fun env mem m x h => ?_)
  unfold endsL at h
  have hlen : (loopList Try.prog 5).length = 1 := by kernel_rfl
  split at h
  · exact ⟨_, fam_ok (bodyOf_ok plainN known_lawC (by omega)) (ends_rounds _), h⟩
  · cases h
theorem heights_zero (c0 c1 c2 c3 c4 c5 c6 c7 c8 c9 c10 c11 c12 c13 c14 c15 : Int) (h : chk c0 c1 c2 c3 c4 c5 c6 c7 c8 c9 c10 c11 c12 c13 c14 c15 = 0) : heights_2 c0 c1 c2 c3 c4 c5 c6 c7 c8 c9 c10 c11 c12 c13 c14 c15 = true := by
  unfold heights_2; rw [h]; rfl
noncomputable def lawN_tpl : Tpl := ⟨[.one (.wh 0)], [(0, .row true 3 1 1 [.int .i64])], 2⟩
noncomputable def lawN_0 (L : List (List Int)) : Bool :=
  !light_0 L ||
    bif
        chk (cycle_0 L) (cycle_1 L) (cycle_2 L) (cycle_3 L) (cycle_4 L) (cycle_5 L) (cycle_6 L) (cycle_7 L) (cycle_8 L) (cycle_9 L) (cycle_10 L) (cycle_11 L) (cyc12 L) (cycle_12 L) (cycle_13 L)
              (cyc15 L) !=
            0 ||
          !heights_2 (cycle_0 L) (cycle_1 L) (cycle_2 L) (cycle_3 L) (cycle_4 L) (cycle_5 L) (cycle_6 L) (cycle_7 L) (cycle_8 L) (cycle_9 L) (cycle_10 L) (cycle_11 L) (cyc12 L) (cycle_12 L) (cycle_13 L)
              (cyc15 L) then
      false
    else
      flat_0 (cycle_1 L) (lx L (EX L).length) (ly L (EX L).length) (lz L (EX L).length) == flat_0 (cycle_1 L) (cycle_5 L) (cycle_6 L) (cycle_7 L) &&
            flat_1 (cycle_1 L) (lx L (EX L).length) (ly L (EX L).length) (lz L (EX L).length) == flat_1 (cycle_1 L) (cycle_5 L) (cycle_6 L) (cycle_7 L) &&
          flat_2 (cycle_1 L) (lx L (EX L).length) (ly L (EX L).length) (lz L (EX L).length) == HT L &&
        decide (HT L ≥ cycle_8 L)
noncomputable def lawN_needs (L : List (List Int)) : List Prop :=
  [(!light_0 L) = false →
      L.length ≤ 1000000 ∧
        ((chk (cycle_0 L) (cycle_1 L) (cycle_2 L) (cycle_3 L) (cycle_4 L) (cycle_5 L) (cycle_6 L) (cycle_7 L) (cycle_8 L) (cycle_9 L) (cycle_10 L) (cycle_11 L) (cyc12 L) (cycle_12 L) (cycle_13 L)
                  (cyc15 L) !=
                0 ||
              !heights_2 (cycle_0 L) (cycle_1 L) (cycle_2 L) (cycle_3 L) (cycle_4 L) (cycle_5 L) (cycle_6 L) (cycle_7 L) (cycle_8 L) (cycle_9 L) (cycle_10 L) (cycle_11 L) (cyc12 L) (cycle_12 L)
                  (cycle_13 L) (cyc15 L)) =
            false →
          0 ≤ (EX L).length ∧ Int.ofNat 0 = 0 ∧ lx L 0 = cycle_2 L ∧ ly L 0 = cycle_3 L ∧ lz L 0 = cycle_4 L)]
theorem EX_split (L : List (List Int)) : ∃ X, EX L = X ++ postL (cycle_1 L) (flat_0 (cycle_1 L) (cycle_5 L) (cycle_6 L) (cycle_7 L)) (flat_1 (cycle_1 L) (cycle_5 L) (cycle_6 L) (cycle_7 L)) (cycle_0 L) (hr (cycle_8 L) (cycle_10 L) (cycle_12 L)) (cycle_13 L) (cyc15 L) := by
  rw [EX_eq]; unfold expL
  exact ⟨_, (List.append_assoc _ _ _).symm⟩
theorem HT_eq (L : List (List Int)) : HT L = hr (cycle_8 L) (cycle_10 L) (cycle_12 L) := by
  unfold HT hts0; rw [cycle_chk]; rfl
theorem hr_ge (c8 c10 c13 : Int) : c8 ≤ hr c8 c10 c13 := by
  unfold hr
  cases c13 == 98
  · exact Int.le_refl _
  · simp only [cond_true]; split <;> omega
theorem lawN_0_eq (L : List (List Int)) : (lawN_0 L) = true := by
  obtain ⟨X, hX⟩ := EX_split L
  have e1 : lx L (EX L).length = solid_0 (cycle_1 L) (flat_0 (cycle_1 L) (cycle_5 L) (cycle_6 L) (cycle_7 L)) (flat_1 (cycle_1 L) (cycle_5 L) (cycle_6 L) (cycle_7 L)) (HT L) := by
    unfold lx; rw [hX, lastAt_post, HT_eq]; rfl
  have e2 : ly L (EX L).length = solid_1 (cycle_1 L) (flat_0 (cycle_1 L) (cycle_5 L) (cycle_6 L) (cycle_7 L)) (flat_1 (cycle_1 L) (cycle_5 L) (cycle_6 L) (cycle_7 L)) (HT L) := by
    unfold ly; rw [hX, lastAt_post, HT_eq]; rfl
  have e3 : lz L (EX L).length = solid_2 (cycle_1 L) (flat_0 (cycle_1 L) (cycle_5 L) (cycle_6 L) (cycle_7 L)) (flat_1 (cycle_1 L) (cycle_5 L) (cycle_6 L) (cycle_7 L)) (HT L) := by
    unfold lz; rw [hX, lastAt_post, HT_eq]; rfl
  obtain ⟨f1, f2, f3⟩ := flat_solid (cycle_1 L) (flat_0 (cycle_1 L) (cycle_5 L) (cycle_6 L) (cycle_7 L)) (flat_1 (cycle_1 L) (cycle_5 L) (cycle_6 L) (cycle_7 L)) (HT L) (cyc_plane L)
  have e4 : decide (HT L ≥ cycle_8 L) = true := by have := hr_ge (cycle_8 L) (cycle_10 L) (cycle_12 L); rw [HT_eq]; simp [this]
  unfold lawN_0
  rw [heights_zero _ _ _ _ _ _ _ _ _ _ _ _ _ _ _ _ (cycle_chk L), cycle_chk, e1, e2, e3, f1, f2, f3, e4]
  simp
theorem lawN_need {L : List (List Int)} : ∀ q ∈ (lawN_needs L), q := by
  intro q hq
  unfold lawN_needs at hq
  simp only [List.mem_cons, List.not_mem_nil, or_false] at hq
  subst hq
  intro h
  have : (L.length : Int) ≤ 120 := by simpa [light_0] using h
  exact ⟨by omega, fun _ => ⟨Nat.zero_le _, rfl, rfl, rfl, rfl⟩⟩
set_option maxRecDepth 1000000 in
theorem lawN_runs (L : List (List Int)) (hNeeds : ∀ pN ∈ (lawN_needs L), pN) : Runs (runF (sums K_lawC) L_ends 5) (lawN_tpl.args []) (lawN_tpl.memo [] [L]) lawN_tpl.n (SV.one (SC.bool (SB.v (lawN_0 L))))
    ([(0, Obj.row true 3 1 (RowC.lst 1 [CK.int IntKind.i64] L))]) :=
  Runs.of (ps := (lawN_needs L)) (by kernel_rfl) (by kernel_rfl) hNeeds
noncomputable def lawN_out : List Pm → Lss → Option CRes
  | [], [L] => some ⟨SV.one (SC.bool (SB.c true)),
    [(0, Obj.row true 3 1 (RowC.lst 1 [CK.int IntKind.i64] L))],
    [], [], 14247⟩
  | _, _ => none
theorem lawN_ok : FOk Try.prog 5 (tplS lawN_tpl lawN_out) := by
  refine tplS_ok (runF_ok known_endsL 5) fun ps ls r hr hn _ => ?_
  unfold lawN_out at hr
  split at hr
  · cases hr; exact ⟨_, lawN_runs _ (fun p hp => lawN_need p hp), fun _ => by simp only [SV.den, SC.den, SB.val, lawN_0_eq]⟩
  · cases hr
noncomputable def K_lawN : List (Nat × Summ) := (5, tplS lawN_tpl lawN_out) :: K_lawC
theorem known_lawN : Known Try.prog (sums K_lawN) L_ends := known_cons known_endsL lawN_ok
end Go.Proofs.Ytgimheibnpgphaa
