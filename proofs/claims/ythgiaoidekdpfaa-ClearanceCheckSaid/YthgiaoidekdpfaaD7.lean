/-
  CHECK, the plain law: the program and the reference find the same pair. Conditions: the elements are made of a tape.
-/
import Derived.Test.YthgiaoidekdpfaaK3
set_option linter.all false
namespace Go.Proofs.Ythgiaoidekdpfaa
open Go.SX Go.RowKit
def EPx (x : List Int) : Prop := EP (x.getD 0 0) (x.getD 1 0) (x.getD 2 0) (x.getD 3 0) (x.getD 4 0) (x.getD 5 0) (x.getD 6 0)
def EPs (X : List (List Int)) : Prop := ∀ x ∈ X, EPx x
theorem EPs.at {X : List (List Int)} (h : EPs X) {i : Nat} (hi : i < X.length) : EP (ge X i 0) (ge X i 1) (ge X i 2) (ge X i 3) (ge X i 4) (ge X i 5) (ge X i 6) := by
  have e : X.getD i [] = X[i] := by rw [List.getD_eq_getElem?_getD, List.getElem?_eq_getElem hi]; rfl
  unfold ge
  rw [e]
  exact h _ (List.getElem_mem hi)
theorem bad_eq {A B : List (List Int)} {d : Int} (hA : EPs A) (hB : EPs B) (hd : bd 1000000 d) {i j : Nat} (hi : i < B.length) (hj : j < A.length) : badP A B d i j = badR A B d i j := by
  have E := hA.at hj
  have F := hB.at hi
  unfold badP badR capart_0
  rw [far_eq E (bd_up F.c0) (bd_up F.c1) hd, far_eq E (bd_up F.c2) (bd_up F.c3) hd, far_eq F (bd_up E.c0) (bd_up E.c1) hd, far_eq F (bd_up E.c2) (bd_up E.c3) hd, ccross_eq]
  generalize rfar_0 (ge A j 0) (ge A j 1) (ge A j 2) (ge A j 3) (ge A j 4) (ge A j 5) (ge A j 6) (gb A j) (ge B i 0) (ge B i 1) d = p
  generalize rfar_0 (ge A j 0) (ge A j 1) (ge A j 2) (ge A j 3) (ge A j 4) (ge A j 5) (ge A j 6) (gb A j) (ge B i 2) (ge B i 3) d = q
  generalize rfar_0 (ge B i 0) (ge B i 1) (ge B i 2) (ge B i 3) (ge B i 4) (ge B i 5) (ge B i 6) (gb B i) (ge A j 0) (ge A j 1) d = r
  generalize rfar_0 (ge B i 0) (ge B i 1) (ge B i 2) (ge B i 3) (ge B i 4) (ge B i 5) (ge B i 6) (gb B i) (ge A j 2) (ge A j 3) d = s
  cases p <;> cases q <;> cases r <;> cases s <;> rfl
theorem fnd_congr {P Q : Nat → Bool} : ∀ (k j : Nat), (∀ i, j ≤ i → i < j + k → P i = Q i) → fnd P k j = fnd Q k j
  | 0, _, _ => rfl
  | k + 1, j, h => by
    have h1 := h j (Nat.le_refl _) (by omega)
    have h2 := fnd_congr k (j + 1) (fun i a b => h i (by omega) (by omega))
    unfold fnd
    rw [h1, h2]
theorem fnd_bound {P : Nat → Bool} : ∀ (k j : Nat), (fnd P k j).1 = true → (fnd P k j).2 < j + k
  | 0, _, h => by cases h
  | k + 1, j, h => by
    unfold fnd at h ⊢
    cases hp : P j
    · rw [hp, cond_false] at h
      rw [cond_false]
      have := fnd_bound k (j + 1) h
      omega
    · rw [cond_true]; show j < j + (k + 1); omega
theorem check_eq {A B : List (List Int)} {r : Int} (hA : EPs A) (hB : EPs B) (hr : bd 1000 r) : ccheck_0 r A B = rcheck_0 r A B ∧ ccheck_1 r A B = rcheck_1 r A B ∧ ccheck_2 r A B = rcheck_2 r A B := by
  have hd : bd 1000000 (ccheck_s0 r) := by
    unfold ccheck_s0
    have : (if 3 > r then 3 else r) - 3 ≤ 1000 ∧ 0 ≤ (if 3 > r then 3 else r) - 3 := by split <;> omega
    rw [wrI (by omega) (by omega)]
    omega
  have e1 : ∀ i, i < B.length → fnd (badP A B (ccheck_s0 r) i) (A.length - 0) 0 = fnd (badR A B (ccheck_s0 r) i) (A.length - 0) 0 := fun i hi => fnd_congr _ _ fun j _ hj => bad_eq hA hB hd hi (by omega)
  have e2 : fnd (rowBad A B (ccheck_s0 r)) (B.length - 0) 0 = fnd (rowBadR A B (ccheck_s0 r)) (B.length - 0) 0 := fnd_congr _ _ fun i _ hi => by
    unfold rowBad rowBadR
    rw [e1 i (by omega)]
  have e3 : (ckO A B (ccheck_s0 r)).fin 0 = (rkO A B (ccheck_s0 r)).fin 0 := e2
  have hb : ((ckO A B (ccheck_s0 r)).fin 0).1 = true → ((ckO A B (ccheck_s0 r)).fin 0).2 < B.length := fun h => by
    have := fnd_bound _ _ h
    exact Nat.lt_of_lt_of_eq this (by omega)
  have hs : rcheck_s0 r = ccheck_s0 r := rfl
  have k0 : ccheck_0 r A B = bif ((ckO A B (ccheck_s0 r)).fin 0).fst then Int.ofNat ((ckO A B (ccheck_s0 r)).fin 0).snd else 0 := rfl
  have k0' : rcheck_0 r A B = bif ((rkO A B (ccheck_s0 r)).fin 0).fst then Int.ofNat ((rkO A B (ccheck_s0 r)).fin 0).snd else 0 := rfl
  have k2 : ccheck_2 r A B = !((ckO A B (ccheck_s0 r)).fin 0).fst := rfl
  have k2' : rcheck_2 r A B = !((rkO A B (ccheck_s0 r)).fin 0).fst := rfl
  have k1 : ccheck_1 r A B = bif ((ckO A B (ccheck_s0 r)).fin 0).fst then Int.ofNat (fnd (badP A B (ccheck_s0 r) ((ckO A B (ccheck_s0 r)).fin 0).snd) (A.length - 0) 0).snd else 0 := rfl
  have k1' : rcheck_1 r A B = bif ((rkO A B (ccheck_s0 r)).fin 0).fst then Int.ofNat (fnd (badR A B (ccheck_s0 r) ((rkO A B (ccheck_s0 r)).fin 0).snd) (A.length - 0) 0).snd else 0 := rfl
  rw [k0, k0', k1, k1', k2, k2', ← e3]
  refine ⟨rfl, ?_, rfl⟩
  cases hf : ((ckO A B (ccheck_s0 r)).fin 0).fst
  · rfl
  · rw [cond_true, cond_true, e1 _ (hb hf)]
/-! ### A chain of elements -/
theorem element_8_nn (a : Int) (L : List (List Int)) (h : 0 ≤ a) (hl : L.length ≤ 1000000) : 0 ≤ element_8 a L := by
  have nn : ∀ x, 0 ≤ x → 0 ≤ next_1 x L := fun x h => next_1_nn x L h hl
  have s6 := spokes_6_nn (next_1 a L) L (nn _ h) hl
  unfold element_8
  cases next_0 3 a L == 0
  · rw [cond_false]; repeat (first | exact h | apply nn)
  · rw [cond_true]
    cases fit_0 (spokes_0 (next_1 a L) L) (spokes_1 (next_1 a L) L) (spokes_2 (next_1 a L) L) (spokes_3 (next_1 a L) L) (spokes_4 (next_1 a L) L)
    · rw [cond_false]; repeat (first | exact s6 | apply nn)
    · rw [cond_true]; repeat (first | exact s6 | apply nn)
theorem element_mv {m u v a : Int} (L : List (List Int)) (hm : 0 ≤ m) (hm' : m ≤ 800000) (hu : bd m u) (hv : bd m v) : bd (m + 50000) (element_2 u a L) ∧ bd (m + 50000) (element_3 v a L) := by
  obtain ⟨h0, h1, h2, h3⟩ := spokes_bd (next_1 a L) L
  have q1 := ptm_bd' ((next_0 3 (spokes_6 (next_1 a L) L) L).toNat.beq 0) ((next_0 3 (spokes_6 (next_1 a L) L) L).toNat.beq 1) (next_1 (spokes_6 (next_1 a L) L) L) L
  have q2 := ptm_bd' ((next_0 3 (next_1 a L) L).toNat.beq 0) ((next_0 3 (next_1 a L) L).toNat.beq 1) (next_1 (next_1 a L) L) L
  have key : ∀ (p : Bool) (m x y : Int), bd m x → bd m y → bd m (bif p then x else y) := fun p m x y h1 h2 => by cases p <;> assumption
  have ad : ∀ {x y : Int}, bd m x → bd 20002 y → bd (m + 50000) (addpt_0 x y) := fun {x y} h1 h2 => by rw [addpt_eq (by omega) (by omega)]; omega
  have mia : ∀ {x y z : Int}, bd m x → bd 20000 y → bd 20002 z → bd (m + 50000) (addpt_0 (minus_0 x y) z) := fun {x y z} h1 h2 h3 => by
    rw [minus_eq (by omega) (by omega), addpt_eq (by omega) (by omega)]; omega
  unfold element_2 element_3
  cases hn : next_0 3 a L == 0
  · simp only [cond_false]
    exact ⟨ad hu (key _ 20002 _ _ (by omega) (by have := q2.1; unfold element_s1; omega)), ad hv (by have := q2.2; omega)⟩
  · simp only [cond_true]
    cases hf : fit_0 (spokes_0 (next_1 a L) L) (spokes_1 (next_1 a L) L) (spokes_2 (next_1 a L) L) (spokes_3 (next_1 a L) L) (spokes_4 (next_1 a L) L)
    · simp only [cond_false]
      exact ⟨ad hu (key _ 20002 _ _ (by omega) (by have := q1.1; unfold element_s0; omega)), ad hv (by have := q1.2; omega)⟩
    · simp only [cond_true]
      exact ⟨mia hu h0 h2, mia hv h1 h3⟩
theorem EPs.nil : EPs [] := fun _ h => by cases h
theorem EPs.cons {x : List Int} {X : List (List Int)} (h : EPx x) (hX : EPs X) : EPs (x :: X) := fun y hy => by
  rcases List.mem_cons.1 hy with rfl | hy
  · exact h
  · exact hX y hy
/-- The element as a row. -/
theorem epx {u v a : Int} {L : List (List Int)} {b : Int} (hu : bd 900000 u) (hv : bd 900000 v) : EPx [element_0 u a L, element_0 v a L, element_2 u a L, element_3 v a L, element_4 u a L, element_5 v a L, element_6 a L, b] := element_ep L hu hv
end Go.Proofs.Ythgiaoidekdpfaa
