/-
  CONTOURS of a list, by the reference. Conditions: none.
-/
import Derived.Test.YthgiaoidekdpfaaHD
set_option linter.all false
namespace Go.Proofs.Ythgiaoidekdpfaa
open Go.SX Go.RowKit
structure RQ where
  i : Nat
  pl : Int
  op : Bool
  cs : List CT
noncomputable def updL (g : CT → CT) : List CT → List CT
  | [c] => [g c]
  | [c, d] => [c, g d]
  | x => x
noncomputable def itR (X : List (List Int)) (l i : Nat) : CT := ⟨i, l, (X.getD i []).getD 16 0, (X.getD i []).getD 17 0, []⟩
/-- An open contour, at its end. -/
noncomputable def cloC (X : List (List Int)) (l i : Nat) (pl : Int) (c : CT) : CT := ⟨c.f, endOf (goX X) l i, c.sd, c.ra, (elN X (c.f + 1) pl (endOf (goX X) l i - i) ⟨i - (c.f + 1), c.R⟩).R⟩
noncomputable def finR (X : List (List Int)) (l : Nat) (s : RQ) : List CT :=
  bif s.op then updL (cloC X l s.i s.pl) s.cs ++ (segOf (stX X) (goX X) l (endOf (goX X) l s.i + 1)).map (mkC X) else s.cs ++ (segOf (stX X) (goX X) l s.i).map (mkC X)
/-- A motion of a contour is a rapid, a line or an arc; only an arc is full. -/
def gdR (r : List Int) : Prop := (rmot_0 (r.getD 0 0) = true → r.getD 0 0 = 1 ∨ r.getD 0 0 = 2 ∨ r.getD 0 0 = 3) ∧ (r.getD 13 0 ≠ 0 → r.getD 0 0 = 3)
noncomputable def okR (X : List (List Int)) (l : Nat) (s : RQ) : Prop :=
  bif s.op then (∀ c ∈ s.cs.getLast?, c.f + 1 ≤ s.i ∧ c.e = l ∧ c.R.length ≤ s.i) ∧ s.cs ≠ [] ∧ s.cs.length + (segOf (stX X) (goX X) l (endOf (goX X) l s.i + 1)).length = 2
  else s.cs.length + (segOf (stX X) (goX X) l s.i).length = 2
noncomputable def rcE (l : Nat) (s : RQ) : Env := [(6, ent 1000000000 (.one (I (Int.ofNat s.i)))), (5, ent 1000000001 (.one (I s.pl))), (4, ent 1000000002 (.one (.bool (.c s.op)))), (3, ent 1000000003 (csV 7 s.cs)), (0, ent 0 (.one (.sl 0 22 (.c 0) (.v l))))]
noncomputable def rcNext (X : List (List Int)) (l i : Nat) (pl : Int) (cs : List CT) : Bool → Nat → RQ
  | false, 0 => ⟨i + 1, (X.getD i []).getD 8 0, true, cs ++ [itR X l i]⟩
  | false, _ => ⟨i + 1, pl, false, cs⟩
  | true, 0 => ⟨i + 1, pl, true, cs⟩
  | true, 1 => ⟨i + 1, pl, false, updL (fun c => ⟨c.f, i, c.sd, c.ra, c.R⟩) cs⟩
  | true, 2 => ⟨i + 1, pl, true, updL (fun c => ⟨c.f, c.e, c.sd, c.ra, c.R ++ [elR pl (X.getD i [])]⟩) cs⟩
  | true, _ => ⟨i + 1, pl, true, cs⟩
noncomputable def rcF (X : List (List Int)) (l : Nat) : Fam RQ (CT × CT) where
  k := 100
  E s := rcE l s
  M s := coM X 7 1000000100 s.cs
  out t := .leaf (.exit 0) [(3, ent 8 (.one (.wh 7)))] (coM X 7 20 [t.1, t.2])
  fin s := pk (finR X l s)
  next s k := rcNext X l s.i s.pl s.cs s.op k
  J s := s.i ≤ l ∧ l ≤ X.length ∧ X.length ≤ 1000 ∧ (∀ j, j < l → gdR (X.getD j [])) ∧ okR X l s
  μ s := l - s.i
section
variable {X : List (List Int)} {l i : Nat} {pl : Int} {cs : List CT}
def TupR (X : List (List Int)) (l : Nat) (s t : RQ) : Prop := (rcF X l).J t ∧ (rcF X l).μ t < (rcF X l).μ s ∧ (rcF X l).fin t = (rcF X l).fin s ∧ Int.ofNat t.i = IntKind.i64.wrap (Int.ofNat s.i + 1)
theorem iw (h : i < l) (h2 : l ≤ X.length) (h3 : X.length ≤ 1000) : Int.ofNat (i + 1) = IntKind.i64.wrap (Int.ofNat i + 1) := by
  rw [wrI (by simp; omega) (by simp; omega)]; rfl
theorem take_no {p : Int} {r : List Int} (h : rmot_0 (r.getD 0 0) = false) : elTake p r = false := by
  have h2 : (r.getD 0 0 != 2) = true := by
    rw [bne_iff_ne]; intro h'; rw [h'] at h; revert h; decide +kernel
  have h3 : (r.getD 0 0 != 3) = true := by
    rw [bne_iff_ne]; intro h'; rw [h'] at h; revert h; decide +kernel
  unfold elTake; rw [h2, h3]; rfl
theorem take_gd {p : Int} {r : List Int} (hg : gdR r) (h : rmot_0 (r.getD 0 0) = true) : elTake p r = (r.getD 0 0 != 1 && (r.getD 13 0 != 0 || elMv p r)) := by
  unfold elTake
  rcases hg.1 h with e | e | e
  · rw [e]; rfl
  · have h13 : (r.getD 13 0 != 0) = false := by
      cases h' : (r.getD 13 0 != 0)
      · rfl
      · rw [bne_iff_ne] at h'
        have := hg.2 h'
        omega
    rw [e, h13]; cases elMv p r <;> rfl
  · rw [e]; cases (r.getD 13 0 != 0) <;> cases elMv p r <;> rfl
theorem clo_go {c : CT} (hf : c.f + 1 ≤ i) (hi : i < l) (hg : goX X i = true) : cloC X l i pl c = cloC X l (i + 1) pl ⟨c.f, c.e, c.sd, c.ra, bif elTake pl (X.getD i []) then c.R ++ [elR pl (X.getD i [])] else c.R⟩ := by
  have h1 := endOf_go (l := l) hi hg
  have h2 := (endOf_le (go := goX X) (l := l) (e := i + 1) (by omega)).1
  unfold cloC
  rw [h1, show endOf (goX X) l (i + 1) - i = (endOf (goX X) l (i + 1) - (i + 1)) + 1 by omega]
  show CT.mk _ _ _ _ (elN X (c.f + 1) pl (endOf (goX X) l (i + 1) - (i + 1)) ⟨i - (c.f + 1) + 1, bif elTake pl (X.getD (c.f + 1 + (i - (c.f + 1))) []) then c.R ++ [elR pl (X.getD (c.f + 1 + (i - (c.f + 1))) [])] else c.R⟩).R = _
  rw [show c.f + 1 + (i - (c.f + 1)) = i by omega, show i - (c.f + 1) + 1 = i + 1 - (c.f + 1) by omega]
theorem clo_at {c : CT} (he : endOf (goX X) l i = i) : cloC X l i pl c = ⟨c.f, i, c.sd, c.ra, c.R⟩ := by
  unfold cloC
  rw [he, Nat.sub_self]; rfl
theorem t_skip (hJ : (rcF X l).J ⟨i, pl, false, cs⟩) (hi : i < l) (hs : stX X i = false) : TupR X l ⟨i, pl, false, cs⟩ ⟨i + 1, pl, false, cs⟩ := by
  obtain ⟨h1, h2, h3, h4, h5⟩ := hJ
  have h5 : cs.length + (segOf (stX X) (goX X) l i).length = 2 := h5
  refine ⟨⟨hi, h2, h3, h4, ?_⟩, ?_, ?_, iw hi h2 h3⟩
  · rw [segOf_no hi hs] at h5; exact h5
  · show l - (i + 1) < l - i
    omega
  · show pk (cs ++ (segOf (stX X) (goX X) l (i + 1)).map (mkC X)) = pk (cs ++ (segOf (stX X) (goX X) l i).map (mkC X))
    rw [segOf_no hi hs]
theorem t_start (hJ : (rcF X l).J ⟨i, pl, false, cs⟩) (hi : i < l) (hs : stX X i = true) : TupR X l ⟨i, pl, false, cs⟩ ⟨i + 1, (X.getD i []).getD 8 0, true, cs ++ [itR X l i]⟩ := by
  obtain ⟨h1, h2, h3, h4, h5⟩ := hJ
  have h5 : cs.length + (segOf (stX X) (goX X) l i).length = 2 := h5
  have e0 : cloC X l (i + 1) ((X.getD i []).getD 8 0) (itR X l i) = mkC X (i, endOf (goX X) l (i + 1)) := by
    unfold cloC itR mkC
    dsimp only
    rw [Nat.sub_self]
  rw [segOf_st hi hs] at h5
  have hl : cs.length ≤ 1 := by simp at h5; omega
  have e1 : updL (cloC X l (i + 1) ((X.getD i []).getD 8 0)) (cs ++ [itR X l i]) = cs ++ [mkC X (i, endOf (goX X) l (i + 1))] := by
    match cs, hl with
    | [], _ => show [cloC X l (i + 1) ((X.getD i []).getD 8 0) (itR X l i)] = _; rw [e0]; rfl
    | [c], _ => show [c, cloC X l (i + 1) ((X.getD i []).getD 8 0) (itR X l i)] = _; rw [e0]; rfl
    | _ :: _ :: _, h => simp at h
  refine ⟨⟨hi, h2, h3, h4, ⟨fun c hc => ?_, by simp, ?_⟩⟩, ?_, ?_, iw hi h2 h3⟩
  · have hc : some (itR X l i) = some c := by rw [List.getLast?_append] at hc; simpa using hc
    cases hc
    exact ⟨Nat.le_refl _, rfl, Nat.zero_le _⟩
  · simp at h5 ⊢; omega
  · show l - (i + 1) < l - i
    omega
  · show pk (updL (cloC X l (i + 1) ((X.getD i []).getD 8 0)) (cs ++ [itR X l i]) ++ (segOf (stX X) (goX X) l (endOf (goX X) l (i + 1) + 1)).map (mkC X)) = pk (cs ++ (segOf (stX X) (goX X) l i).map (mkC X))
    rw [e1, segOf_st hi hs, List.append_assoc]; rfl
/-- The open contour goes on. -/
theorem t_go (hJ : (rcF X l).J ⟨i, pl, true, cs⟩) (hi : i < l) (hg : goX X i = true) :
    TupR X l ⟨i, pl, true, cs⟩ ⟨i + 1, pl, true, updL (fun c => ⟨c.f, c.e, c.sd, c.ra, bif elTake pl (X.getD i []) then c.R ++ [elR pl (X.getD i [])] else c.R⟩) cs⟩ := by
  obtain ⟨h1, h2, h3, h4, h5, h6, h7⟩ := hJ
  have hR : ∀ R : List (List Int), R.length ≤ i → (bif elTake pl (X.getD i []) then R ++ [elR pl (X.getD i [])] else R).length ≤ i + 1 := fun R h => by
    cases elTake pl (X.getD i [])
    · rw [cond_false]; omega
    · rw [cond_true, List.length_append, List.length_cons, List.length_nil]; omega
  have e1 := endOf_go (l := l) hi hg
  have hc2 : cs.length ≤ 2 := by dsimp only at h7; omega
  dsimp only at h7
  rw [e1] at h7
  match cs, hc2, h5, h6, h7 with
  | [c], _, h5, _, h7 =>
    obtain ⟨a1, a2, a3⟩ := h5 c rfl
    refine ⟨⟨hi, h2, h3, h4, ⟨fun c' hc => ?_, by simp [updL], h7⟩⟩, (show l - (i + 1) < l - i by omega), ?_, iw hi h2 h3⟩
    · cases hc; exact ⟨Nat.le_succ_of_le a1, a2, hR _ a3⟩
    · show pk ([cloC X l (i + 1) pl _] ++ (segOf (stX X) (goX X) l (endOf (goX X) l (i + 1) + 1)).map (mkC X)) = pk ([cloC X l i pl c] ++ (segOf (stX X) (goX X) l (endOf (goX X) l i + 1)).map (mkC X))
      rw [clo_go (c := c) a1 hi hg, e1]
  | [d, c], _, h5, _, h7 =>
    obtain ⟨a1, a2, a3⟩ := h5 c rfl
    refine ⟨⟨hi, h2, h3, h4, ⟨fun c' hc => ?_, by simp [updL], h7⟩⟩, (show l - (i + 1) < l - i by omega), ?_, iw hi h2 h3⟩
    · cases hc; exact ⟨Nat.le_succ_of_le a1, a2, hR _ a3⟩
    · show pk ([d, cloC X l (i + 1) pl _] ++ (segOf (stX X) (goX X) l (endOf (goX X) l (i + 1) + 1)).map (mkC X)) = pk ([d, cloC X l i pl c] ++ (segOf (stX X) (goX X) l (endOf (goX X) l i + 1)).map (mkC X))
      rw [clo_go (c := c) a1 hi hg, e1]
  | _ :: _ :: _ :: _, h, _, _, _ => simp at h
theorem t_end (hJ : (rcF X l).J ⟨i, pl, true, cs⟩) (hi : i < l) (hg : goX X i = false) :
    TupR X l ⟨i, pl, true, cs⟩ ⟨i + 1, pl, false, updL (fun c => ⟨c.f, i, c.sd, c.ra, c.R⟩) cs⟩ := by
  obtain ⟨h1, h2, h3, h4, h5, h6, h7⟩ := hJ
  have e1 := endOf_stop (l := l) hi hg
  have hc2 : cs.length ≤ 2 := by dsimp only at h7; omega
  dsimp only at h7
  rw [e1] at h7
  match cs, hc2, h6, h7 with
  | [c], _, _, h7 =>
    refine ⟨⟨hi, h2, h3, h4, h7⟩, (show l - (i + 1) < l - i by omega), ?_, iw hi h2 h3⟩
    show pk ([⟨c.f, i, c.sd, c.ra, c.R⟩] ++ (segOf (stX X) (goX X) l (i + 1)).map (mkC X)) = pk ([cloC X l i pl c] ++ (segOf (stX X) (goX X) l (endOf (goX X) l i + 1)).map (mkC X))
    rw [clo_at e1, e1]
  | [d, c], _, _, h7 =>
    refine ⟨⟨hi, h2, h3, h4, h7⟩, (show l - (i + 1) < l - i by omega), ?_, iw hi h2 h3⟩
    show pk ([d, ⟨c.f, i, c.sd, c.ra, c.R⟩] ++ (segOf (stX X) (goX X) l (i + 1)).map (mkC X)) = pk ([d, cloC X l i pl c] ++ (segOf (stX X) (goX X) l (endOf (goX X) l i + 1)).map (mkC X))
    rw [clo_at e1, e1]
  | _ :: _ :: _ :: _, h, _, _ => simp at h
end
noncomputable def rz_s0 (l : Nat) (i : Nat) (pl : Int) : Prop :=
  decide (Int.ofNat (RQ.mk i pl false []).i < Int.ofNat l) = true
noncomputable def rz_s1 (X : List (List Int)) (i : Nat) (pl : Int) : Bool :=
  rmot_0 ((X.getD (Int.ofNat (RQ.mk i pl false []).i).toNat []).getD 0 0)
noncomputable def rz_s2 (X : List (List Int)) (i : Nat) (pl : Int) : Int :=
  (X.getD (Int.ofNat (RQ.mk i pl false []).i).toNat []).getD 16 0
noncomputable def rz_s3 (X : List (List Int)) (i : Nat) (pl : Int) : Prop :=
  (rz_s1 X i pl && rz_s2 X i pl != 0) = true
noncomputable def rz_s4 (X : List (List Int)) (l : Nat) (i : Nat) (pl : Int) : List CT :=
  ((rcF X l).next (RQ.mk i pl false []) 0).cs
noncomputable def rz_s5 (i : Nat) (pl : Int) : Int :=
  IntKind.i64.wrap (Int.ofNat (RQ.mk i pl false []).i + 1)
noncomputable def rz_needs (X : List (List Int)) (l : Nat) (i : Nat) (pl : Int) : List Prop :=
  [rz_s0 l i pl →
     0 ≤ Int.ofNat (RQ.mk i pl false []).i ∧
     (Int.ofNat (RQ.mk i pl false []).i).toNat < l ∧
     (Int.ofNat (RQ.mk i pl false []).i).toNat < X.length ∧
     (Int.ofNat (RQ.mk i pl false []).i).toNat < X.length ∧
     (Int.ofNat (RQ.mk i pl false []).i).toNat < X.length ∧
     (rz_s1 X i pl = true → 0 ≤ Int.ofNat (RQ.mk i pl false []).i) ∧
     (rz_s1 X i pl = true → (Int.ofNat (RQ.mk i pl false []).i).toNat < l) ∧
     (rz_s1 X i pl = true → (Int.ofNat (RQ.mk i pl false []).i).toNat < X.length) ∧
     (rz_s1 X i pl = true → (Int.ofNat (RQ.mk i pl false []).i).toNat < X.length) ∧
     (rz_s1 X i pl = true → (Int.ofNat (RQ.mk i pl false []).i).toNat < X.length) ∧
     (rz_s3 X i pl →
     0 ≤ Int.ofNat (RQ.mk i pl false []).i ∧
     (Int.ofNat (RQ.mk i pl false []).i).toNat < l ∧
     (Int.ofNat (RQ.mk i pl false []).i).toNat < X.length ∧
     (Int.ofNat (RQ.mk i pl false []).i).toNat < X.length ∧
     (Int.ofNat (RQ.mk i pl false []).i).toNat < X.length ∧
     0 ≤ Int.ofNat (RQ.mk i pl false []).i ∧
     (Int.ofNat (RQ.mk i pl false []).i).toNat < l ∧
     (Int.ofNat (RQ.mk i pl false []).i).toNat < X.length ∧
     (Int.ofNat (RQ.mk i pl false []).i).toNat < X.length ∧
     (Int.ofNat (RQ.mk i pl false []).i).toNat < X.length ∧
     0 ≤ Int.ofNat (RQ.mk i pl false []).i ∧
     (Int.ofNat (RQ.mk i pl false []).i).toNat < l ∧
     (Int.ofNat (RQ.mk i pl false []).i).toNat < X.length ∧
     (Int.ofNat (RQ.mk i pl false []).i).toNat < X.length ∧ (Int.ofNat (RQ.mk i pl false []).i).toNat < X.length),
    rz_s0 l i pl →
     (rz_s3 X i pl →
     (((rcF X l).next (RQ.mk i pl false []) 0).i ≤ l ∧
     l ≤ X.length ∧
     X.length ≤ 1000 ∧
     (∀ (j : Nat),
     j < l →
     (rmot_0 ((X.getD j []).getD 0 0) = true → (X.getD j []).getD 0 0 = 1 ∨ (X.getD j []).getD 0 0 = 2 ∨ (X.getD j []).getD 0 0 = 3) ∧
     ((X.getD j []).getD 13 0 ≠ 0 → (X.getD j []).getD 0 0 = 3)) ∧
     (∀ (c : CT), (rz_s4 X l i pl).getLast? = some c → c.f + 1 ≤ ((rcF X l).next (RQ.mk i pl false []) 0).i ∧ c.e = l ∧ c.R.length ≤ ((rcF X l).next (RQ.mk i pl false []) 0).i) ∧
     rz_s4 X l i pl ≠ [] ∧ (rz_s4 X l i pl).length + (segOf (stX X) (goX X) l (endOf (goX X) l ((rcF X l).next (RQ.mk i pl false []) 0).i + 1)).length = 2) ∧
     (rcF X l).μ ((rcF X l).next (RQ.mk i pl false []) 0) < (rcF X l).μ (RQ.mk i pl false []) ∧
     (rcF X l).fin ((rcF X l).next (RQ.mk i pl false []) 0) = (rcF X l).fin (RQ.mk i pl false []) ∧
     Int.ofNat ((rcF X l).next (RQ.mk i pl false []) 0).i = rz_s5 i pl ∧
     ((rcF X l).next (RQ.mk i pl false []) 0).pl = (X.getD (Int.ofNat (RQ.mk i pl false []).i).toNat []).getD 8 0 ∧
     l = l ∧
     Int.ofNat (itR X l (RQ.mk i pl false []).i).f = Int.ofNat (RQ.mk i pl false []).i ∧
     Int.ofNat (itR X l (RQ.mk i pl false []).i).e = Int.ofNat l ∧
     (itR X l (RQ.mk i pl false []).i).sd = rz_s2 X i pl ∧
     (itR X l (RQ.mk i pl false []).i).ra = (X.getD (Int.ofNat (RQ.mk i pl false []).i).toNat []).getD 17 0 ∧ (itR X l (RQ.mk i pl false []).i).R = []) ∧
     ((rz_s1 X i pl && rz_s2 X i pl != 0) = false →
     (((rcF X l).next (RQ.mk i pl false []) 1).i ≤ l ∧
     l ≤ X.length ∧
     X.length ≤ 1000 ∧
     (∀ (j : Nat),
     j < l →
     (rmot_0 ((X.getD j []).getD 0 0) = true → (X.getD j []).getD 0 0 = 1 ∨ (X.getD j []).getD 0 0 = 2 ∨ (X.getD j []).getD 0 0 = 3) ∧
     ((X.getD j []).getD 13 0 ≠ 0 → (X.getD j []).getD 0 0 = 3)) ∧
     ((rcF X l).next (RQ.mk i pl false []) 1).cs.length + (segOf (stX X) (goX X) l ((rcF X l).next (RQ.mk i pl false []) 1).i).length = 2) ∧
     (rcF X l).μ ((rcF X l).next (RQ.mk i pl false []) 1) < (rcF X l).μ (RQ.mk i pl false []) ∧
     (rcF X l).fin ((rcF X l).next (RQ.mk i pl false []) 1) = (rcF X l).fin (RQ.mk i pl false []) ∧
     Int.ofNat ((rcF X l).next (RQ.mk i pl false []) 1).i = rz_s5 i pl ∧ ((rcF X l).next (RQ.mk i pl false []) 1).pl = (RQ.mk i pl false []).pl ∧ l = l),
    decide (Int.ofNat (RQ.mk i pl false []).i < Int.ofNat l) = false → False]
theorem rz_round (X : List (List Int)) (l i : Nat) (pl : Int) (hNeeds : ∀ pN ∈ (rz_needs X l i pl), pN) : RoundOk (roundC (rcF X l) (bodyOf Try.prog (sums K_mk) L_cz 36 0) 7 ⟨i, pl, false, []⟩) :=
  RoundOk.of (ps := (rz_needs X l i pl)) (by kernel_rfl) (by kernel_rfl) hNeeds
noncomputable def ra_s0 (l : Nat) (i : Nat) (pl : Int) (c : CT) : Prop :=
  decide (Int.ofNat (RQ.mk i pl true [c]).i < Int.ofNat l) = true
noncomputable def ra_s1 (i : Nat) (pl : Int) (c : CT) : Prop :=
  0 ≤ Int.ofNat (RQ.mk i pl true [c]).i
noncomputable def ra_s2 (X : List (List Int)) (i : Nat) (pl : Int) (c : CT) : Prop :=
  (Int.ofNat (RQ.mk i pl true [c]).i).toNat < X.length
noncomputable def ra_s3 (X : List (List Int)) (i : Nat) (pl : Int) (c : CT) : List Int :=
  X.getD (Int.ofNat (RQ.mk i pl true [c]).i).toNat []
noncomputable def ra_s4 (X : List (List Int)) (i : Nat) (pl : Int) (c : CT) : Prop :=
  (!rmot_0 ((ra_s3 X i pl c).getD 0 0)) = false
noncomputable def ra_s5 (X : List (List Int)) (i : Nat) (pl : Int) (c : CT) : Prop :=
  ((ra_s3 X i pl c).getD 16 0 == 0) = false
noncomputable def ra_s6 (X : List (List Int)) (i : Nat) (pl : Int) (c : CT) : Bool :=
  (ra_s3 X i pl c).getD 0 0 != 1
noncomputable def ra_s7 (X : List (List Int)) (i : Nat) (pl : Int) (c : CT) : Prop :=
  (ra_s6 X i pl c && rmoves_0 (RQ.mk i pl true [c]).pl (ofRow (ra_s3 X i pl c))) = true
noncomputable def ra_s8 (X : List (List Int)) (l : Nat) (i : Nat) (pl : Int) (c : CT) : List CT :=
  ((rcF X l).next (RQ.mk i pl true [c]) 0).cs
noncomputable def ra_s9 (i : Nat) (pl : Int) (c : CT) : Int :=
  IntKind.i64.wrap (Int.ofNat (RQ.mk i pl true [c]).i + 1)
noncomputable def ra_s10 (l : Nat) (c : CT) : Prop :=
  l = l ∧ Int.ofNat c.f = Int.ofNat c.f ∧ Int.ofNat c.e = Int.ofNat c.e ∧ c.sd = c.sd ∧ c.ra = c.ra ∧ c.R = c.R
noncomputable def ra_s11 (X : List (List Int)) (l : Nat) (i : Nat) (pl : Int) (c : CT) : List CT :=
  ((rcF X l).next (RQ.mk i pl true [c]) 2).cs
noncomputable def ra_s12 (X : List (List Int)) (l : Nat) (i : Nat) (pl : Int) (c : CT) : List CT :=
  ((rcF X l).next (RQ.mk i pl true [c]) 3).cs
noncomputable def ra_needs (X : List (List Int)) (l : Nat) (i : Nat) (pl : Int) (c : CT) : List Prop :=
  [ra_s0 l i pl c →
     ra_s1 i pl c ∧
     (Int.ofNat (RQ.mk i pl true [c]).i).toNat < l ∧
     ra_s2 X i pl c ∧
     ra_s2 X i pl c ∧
     ra_s2 X i pl c ∧
     (ra_s4 X i pl c →
     ra_s1 i pl c ∧
     (Int.ofNat (RQ.mk i pl true [c]).i).toNat < l ∧
     ra_s2 X i pl c ∧
     ra_s2 X i pl c ∧
     ra_s2 X i pl c ∧
     (ra_s5 X i pl c →
     ra_s1 i pl c ∧
     (Int.ofNat (RQ.mk i pl true [c]).i).toNat < l ∧
     ra_s2 X i pl c ∧
     ra_s2 X i pl c ∧
     ra_s2 X i pl c ∧
     (ra_s6 X i pl c = true → ra_s1 i pl c) ∧
     (ra_s6 X i pl c = true → (Int.ofNat (RQ.mk i pl true [c]).i).toNat < l) ∧
     (ra_s6 X i pl c = true → ra_s2 X i pl c) ∧
     (ra_s6 X i pl c = true → ra_s2 X i pl c) ∧
     (ra_s7 X i pl c →
     ra_s1 i pl c ∧
     (Int.ofNat (RQ.mk i pl true [c]).i).toNat < l ∧
     ra_s2 X i pl c ∧ ra_s2 X i pl c ∧ (c.R.length + 1) * 64 ≤ 140737488355328 ∧ c.R.length + 1 ≤ 9223372036854775807))),
    ra_s0 l i pl c →
     ((!rmot_0 ((ra_s3 X i pl c).getD 0 0)) = true →
     (((rcF X l).next (RQ.mk i pl true [c]) 0).i ≤ l ∧
     l ≤ X.length ∧
     X.length ≤ 1000 ∧
     (∀ (j : Nat),
     j < l →
     (rmot_0 ((X.getD j []).getD 0 0) = true → (X.getD j []).getD 0 0 = 1 ∨ (X.getD j []).getD 0 0 = 2 ∨ (X.getD j []).getD 0 0 = 3) ∧
     ((X.getD j []).getD 13 0 ≠ 0 → (X.getD j []).getD 0 0 = 3)) ∧
     (∀ (c_1 : CT),
     (ra_s8 X l i pl c).getLast? = some c_1 → c_1.f + 1 ≤ ((rcF X l).next (RQ.mk i pl true [c]) 0).i ∧ c_1.e = l ∧ c_1.R.length ≤ ((rcF X l).next (RQ.mk i pl true [c]) 0).i) ∧
     ra_s8 X l i pl c ≠ [] ∧ (ra_s8 X l i pl c).length + (segOf (stX X) (goX X) l (endOf (goX X) l ((rcF X l).next (RQ.mk i pl true [c]) 0).i + 1)).length = 2) ∧
     (rcF X l).μ ((rcF X l).next (RQ.mk i pl true [c]) 0) < (rcF X l).μ (RQ.mk i pl true [c]) ∧
     (rcF X l).fin ((rcF X l).next (RQ.mk i pl true [c]) 0) = (rcF X l).fin (RQ.mk i pl true [c]) ∧
     Int.ofNat ((rcF X l).next (RQ.mk i pl true [c]) 0).i = ra_s9 i pl c ∧ ((rcF X l).next (RQ.mk i pl true [c]) 0).pl = (RQ.mk i pl true [c]).pl ∧ ra_s10 l c) ∧
     (ra_s4 X i pl c →
     (((ra_s3 X i pl c).getD 16 0 == 0) = true →
     (((rcF X l).next (RQ.mk i pl true [c]) 1).i ≤ l ∧
     l ≤ X.length ∧
     X.length ≤ 1000 ∧
     (∀ (j : Nat),
     j < l →
     (rmot_0 ((X.getD j []).getD 0 0) = true → (X.getD j []).getD 0 0 = 1 ∨ (X.getD j []).getD 0 0 = 2 ∨ (X.getD j []).getD 0 0 = 3) ∧
     ((X.getD j []).getD 13 0 ≠ 0 → (X.getD j []).getD 0 0 = 3)) ∧
     ((rcF X l).next (RQ.mk i pl true [c]) 1).cs.length + (segOf (stX X) (goX X) l ((rcF X l).next (RQ.mk i pl true [c]) 1).i).length = 2) ∧
     (rcF X l).μ ((rcF X l).next (RQ.mk i pl true [c]) 1) < (rcF X l).μ (RQ.mk i pl true [c]) ∧
     (rcF X l).fin ((rcF X l).next (RQ.mk i pl true [c]) 1) = (rcF X l).fin (RQ.mk i pl true [c]) ∧
     Int.ofNat ((rcF X l).next (RQ.mk i pl true [c]) 1).i = ra_s9 i pl c ∧
     ((rcF X l).next (RQ.mk i pl true [c]) 1).pl = (RQ.mk i pl true [c]).pl ∧
     l = l ∧
     Int.ofNat (CT.mk c.f (RQ.mk i pl true [c]).i c.sd c.ra c.R).f = Int.ofNat c.f ∧
     Int.ofNat (CT.mk c.f (RQ.mk i pl true [c]).i c.sd c.ra c.R).e = Int.ofNat (RQ.mk i pl true [c]).i ∧
     (CT.mk c.f (RQ.mk i pl true [c]).i c.sd c.ra c.R).sd = c.sd ∧
     (CT.mk c.f (RQ.mk i pl true [c]).i c.sd c.ra c.R).ra = c.ra ∧ (CT.mk c.f (RQ.mk i pl true [c]).i c.sd c.ra c.R).R = c.R) ∧
     (ra_s5 X i pl c →
     (ra_s7 X i pl c →
     (((rcF X l).next (RQ.mk i pl true [c]) 2).i ≤ l ∧
     l ≤ X.length ∧
     X.length ≤ 1000 ∧
     (∀ (j : Nat),
     j < l →
     (rmot_0 ((X.getD j []).getD 0 0) = true → (X.getD j []).getD 0 0 = 1 ∨ (X.getD j []).getD 0 0 = 2 ∨ (X.getD j []).getD 0 0 = 3) ∧
     ((X.getD j []).getD 13 0 ≠ 0 → (X.getD j []).getD 0 0 = 3)) ∧
     (∀ (c_1 : CT),
     (ra_s11 X l i pl c).getLast? = some c_1 →
     c_1.f + 1 ≤ ((rcF X l).next (RQ.mk i pl true [c]) 2).i ∧ c_1.e = l ∧ c_1.R.length ≤ ((rcF X l).next (RQ.mk i pl true [c]) 2).i) ∧
     ra_s11 X l i pl c ≠ [] ∧ (ra_s11 X l i pl c).length + (segOf (stX X) (goX X) l (endOf (goX X) l ((rcF X l).next (RQ.mk i pl true [c]) 2).i + 1)).length = 2) ∧
     (rcF X l).μ ((rcF X l).next (RQ.mk i pl true [c]) 2) < (rcF X l).μ (RQ.mk i pl true [c]) ∧
     (rcF X l).fin ((rcF X l).next (RQ.mk i pl true [c]) 2) = (rcF X l).fin (RQ.mk i pl true [c]) ∧
     Int.ofNat ((rcF X l).next (RQ.mk i pl true [c]) 2).i = ra_s9 i pl c ∧
     ((rcF X l).next (RQ.mk i pl true [c]) 2).pl = (RQ.mk i pl true [c]).pl ∧
     l = l ∧
     Int.ofNat (CT.mk c.f c.e c.sd c.ra (c.R ++ [elR (RQ.mk i pl true [c]).pl (X.getD (RQ.mk i pl true [c]).i [])])).f = Int.ofNat c.f ∧
     Int.ofNat (CT.mk c.f c.e c.sd c.ra (c.R ++ [elR (RQ.mk i pl true [c]).pl (X.getD (RQ.mk i pl true [c]).i [])])).e = Int.ofNat c.e ∧
     (CT.mk c.f c.e c.sd c.ra (c.R ++ [elR (RQ.mk i pl true [c]).pl (X.getD (RQ.mk i pl true [c]).i [])])).sd = c.sd ∧
     (CT.mk c.f c.e c.sd c.ra (c.R ++ [elR (RQ.mk i pl true [c]).pl (X.getD (RQ.mk i pl true [c]).i [])])).ra = c.ra ∧
     (CT.mk c.f c.e c.sd c.ra (c.R ++ [elR (RQ.mk i pl true [c]).pl (X.getD (RQ.mk i pl true [c]).i [])])).R =
     c.R ++
     [[r4flat_0 (RQ.mk i pl true [c]).pl (xi (ofRow (ra_s3 X i pl c)) 2) (xi (ofRow (ra_s3 X i pl c)) 3) (xi (ofRow (ra_s3 X i pl c)) 4),
     r4flat_1 (RQ.mk i pl true [c]).pl (xi (ofRow (ra_s3 X i pl c)) 2) (xi (ofRow (ra_s3 X i pl c)) 3) (xi (ofRow (ra_s3 X i pl c)) 4),
     r4flat_0 (RQ.mk i pl true [c]).pl (xi (ofRow (ra_s3 X i pl c)) 5) (xi (ofRow (ra_s3 X i pl c)) 6) (xi (ofRow (ra_s3 X i pl c)) 7),
     r4flat_1 (RQ.mk i pl true [c]).pl (xi (ofRow (ra_s3 X i pl c)) 5) (xi (ofRow (ra_s3 X i pl c)) 6) (xi (ofRow (ra_s3 X i pl c)) 7),
     relem_0 (RQ.mk i pl true [c]).pl (ofRow (ra_s3 X i pl c)), relem_1 (RQ.mk i pl true [c]).pl (ofRow (ra_s3 X i pl c)), relem_2 (ofRow (ra_s3 X i pl c)),
     bif relem_3 (ofRow (ra_s3 X i pl c)) then 1 else 0]]) ∧
     ((ra_s6 X i pl c && rmoves_0 (RQ.mk i pl true [c]).pl (ofRow (ra_s3 X i pl c))) = false →
     (((rcF X l).next (RQ.mk i pl true [c]) 3).i ≤ l ∧
     l ≤ X.length ∧
     X.length ≤ 1000 ∧
     (∀ (j : Nat),
     j < l →
     (rmot_0 ((X.getD j []).getD 0 0) = true → (X.getD j []).getD 0 0 = 1 ∨ (X.getD j []).getD 0 0 = 2 ∨ (X.getD j []).getD 0 0 = 3) ∧
     ((X.getD j []).getD 13 0 ≠ 0 → (X.getD j []).getD 0 0 = 3)) ∧
     (∀ (c_1 : CT),
     (ra_s12 X l i pl c).getLast? = some c_1 →
     c_1.f + 1 ≤ ((rcF X l).next (RQ.mk i pl true [c]) 3).i ∧ c_1.e = l ∧ c_1.R.length ≤ ((rcF X l).next (RQ.mk i pl true [c]) 3).i) ∧
     ra_s12 X l i pl c ≠ [] ∧ (ra_s12 X l i pl c).length + (segOf (stX X) (goX X) l (endOf (goX X) l ((rcF X l).next (RQ.mk i pl true [c]) 3).i + 1)).length = 2) ∧
     (rcF X l).μ ((rcF X l).next (RQ.mk i pl true [c]) 3) < (rcF X l).μ (RQ.mk i pl true [c]) ∧
     (rcF X l).fin ((rcF X l).next (RQ.mk i pl true [c]) 3) = (rcF X l).fin (RQ.mk i pl true [c]) ∧
     Int.ofNat ((rcF X l).next (RQ.mk i pl true [c]) 3).i = ra_s9 i pl c ∧ ((rcF X l).next (RQ.mk i pl true [c]) 3).pl = (RQ.mk i pl true [c]).pl ∧ ra_s10 l c))),
    decide (Int.ofNat (RQ.mk i pl true [c]).i < Int.ofNat l) = false → False]
theorem ra_round (X : List (List Int)) (l i : Nat) (pl : Int) (c : CT) (hNeeds : ∀ pN ∈ (ra_needs X l i pl c), pN) : RoundOk (roundC (rcF X l) (bodyOf Try.prog (sums K_mk) L_cz 36 0) 7 ⟨i, pl, true, [c]⟩) :=
  RoundOk.of (ps := (ra_needs X l i pl c)) (by kernel_rfl) (by kernel_rfl) hNeeds
noncomputable def rb_s0 (l : Nat) (i : Nat) (pl : Int) (c : CT) : Prop :=
  decide (Int.ofNat (RQ.mk i pl false [c]).i < Int.ofNat l) = true
noncomputable def rb_s1 (i : Nat) (pl : Int) (c : CT) : Prop :=
  0 ≤ Int.ofNat (RQ.mk i pl false [c]).i
noncomputable def rb_s2 (X : List (List Int)) (i : Nat) (pl : Int) (c : CT) : Prop :=
  (Int.ofNat (RQ.mk i pl false [c]).i).toNat < X.length
noncomputable def rb_s3 (X : List (List Int)) (i : Nat) (pl : Int) (c : CT) : Bool :=
  rmot_0 ((X.getD (Int.ofNat (RQ.mk i pl false [c]).i).toNat []).getD 0 0)
noncomputable def rb_s4 (X : List (List Int)) (i : Nat) (pl : Int) (c : CT) : Int :=
  (X.getD (Int.ofNat (RQ.mk i pl false [c]).i).toNat []).getD 16 0
noncomputable def rb_s5 (X : List (List Int)) (i : Nat) (pl : Int) (c : CT) : Prop :=
  (rb_s3 X i pl c && rb_s4 X i pl c != 0) = true
noncomputable def rb_s6 (X : List (List Int)) (l : Nat) (i : Nat) (pl : Int) (c : CT) : List CT :=
  ((rcF X l).next (RQ.mk i pl false [c]) 0).cs
noncomputable def rb_s7 (i : Nat) (pl : Int) (c : CT) : Int :=
  IntKind.i64.wrap (Int.ofNat (RQ.mk i pl false [c]).i + 1)
noncomputable def rb_needs (X : List (List Int)) (l : Nat) (i : Nat) (pl : Int) (c : CT) : List Prop :=
  [rb_s0 l i pl c →
     rb_s1 i pl c ∧
     (Int.ofNat (RQ.mk i pl false [c]).i).toNat < l ∧
     rb_s2 X i pl c ∧
     rb_s2 X i pl c ∧
     rb_s2 X i pl c ∧
     (rb_s3 X i pl c = true → rb_s1 i pl c) ∧
     (rb_s3 X i pl c = true → (Int.ofNat (RQ.mk i pl false [c]).i).toNat < l) ∧
     (rb_s3 X i pl c = true → rb_s2 X i pl c) ∧
     (rb_s3 X i pl c = true → rb_s2 X i pl c) ∧
     (rb_s3 X i pl c = true → rb_s2 X i pl c) ∧
     (rb_s5 X i pl c →
     rb_s1 i pl c ∧
     (Int.ofNat (RQ.mk i pl false [c]).i).toNat < l ∧
     rb_s2 X i pl c ∧
     rb_s2 X i pl c ∧
     rb_s2 X i pl c ∧
     rb_s1 i pl c ∧
     (Int.ofNat (RQ.mk i pl false [c]).i).toNat < l ∧
     rb_s2 X i pl c ∧
     rb_s2 X i pl c ∧ rb_s2 X i pl c ∧ rb_s1 i pl c ∧ (Int.ofNat (RQ.mk i pl false [c]).i).toNat < l ∧ rb_s2 X i pl c ∧ rb_s2 X i pl c ∧ rb_s2 X i pl c),
    rb_s0 l i pl c →
     (rb_s5 X i pl c →
     (((rcF X l).next (RQ.mk i pl false [c]) 0).i ≤ l ∧
     l ≤ X.length ∧
     X.length ≤ 1000 ∧
     (∀ (j : Nat),
     j < l →
     (rmot_0 ((X.getD j []).getD 0 0) = true → (X.getD j []).getD 0 0 = 1 ∨ (X.getD j []).getD 0 0 = 2 ∨ (X.getD j []).getD 0 0 = 3) ∧
     ((X.getD j []).getD 13 0 ≠ 0 → (X.getD j []).getD 0 0 = 3)) ∧
     (∀ (c_1 : CT),
     (rb_s6 X l i pl c).getLast? = some c_1 → c_1.f + 1 ≤ ((rcF X l).next (RQ.mk i pl false [c]) 0).i ∧ c_1.e = l ∧ c_1.R.length ≤ ((rcF X l).next (RQ.mk i pl false [c]) 0).i) ∧
     rb_s6 X l i pl c ≠ [] ∧ (rb_s6 X l i pl c).length + (segOf (stX X) (goX X) l (endOf (goX X) l ((rcF X l).next (RQ.mk i pl false [c]) 0).i + 1)).length = 2) ∧
     (rcF X l).μ ((rcF X l).next (RQ.mk i pl false [c]) 0) < (rcF X l).μ (RQ.mk i pl false [c]) ∧
     (rcF X l).fin ((rcF X l).next (RQ.mk i pl false [c]) 0) = (rcF X l).fin (RQ.mk i pl false [c]) ∧
     Int.ofNat ((rcF X l).next (RQ.mk i pl false [c]) 0).i = rb_s7 i pl c ∧
     ((rcF X l).next (RQ.mk i pl false [c]) 0).pl = (X.getD (Int.ofNat (RQ.mk i pl false [c]).i).toNat []).getD 8 0 ∧
     l = l ∧
     Int.ofNat c.f = Int.ofNat c.f ∧
     Int.ofNat c.e = Int.ofNat c.e ∧
     c.sd = c.sd ∧
     c.ra = c.ra ∧
     Int.ofNat (itR X l (RQ.mk i pl false [c]).i).f = Int.ofNat (RQ.mk i pl false [c]).i ∧
     Int.ofNat (itR X l (RQ.mk i pl false [c]).i).e = Int.ofNat l ∧
     (itR X l (RQ.mk i pl false [c]).i).sd = rb_s4 X i pl c ∧
     (itR X l (RQ.mk i pl false [c]).i).ra = (X.getD (Int.ofNat (RQ.mk i pl false [c]).i).toNat []).getD 17 0 ∧ c.R = c.R ∧ (itR X l (RQ.mk i pl false [c]).i).R = []) ∧
     ((rb_s3 X i pl c && rb_s4 X i pl c != 0) = false →
     (((rcF X l).next (RQ.mk i pl false [c]) 1).i ≤ l ∧
     l ≤ X.length ∧
     X.length ≤ 1000 ∧
     (∀ (j : Nat),
     j < l →
     (rmot_0 ((X.getD j []).getD 0 0) = true → (X.getD j []).getD 0 0 = 1 ∨ (X.getD j []).getD 0 0 = 2 ∨ (X.getD j []).getD 0 0 = 3) ∧
     ((X.getD j []).getD 13 0 ≠ 0 → (X.getD j []).getD 0 0 = 3)) ∧
     ((rcF X l).next (RQ.mk i pl false [c]) 1).cs.length + (segOf (stX X) (goX X) l ((rcF X l).next (RQ.mk i pl false [c]) 1).i).length = 2) ∧
     (rcF X l).μ ((rcF X l).next (RQ.mk i pl false [c]) 1) < (rcF X l).μ (RQ.mk i pl false [c]) ∧
     (rcF X l).fin ((rcF X l).next (RQ.mk i pl false [c]) 1) = (rcF X l).fin (RQ.mk i pl false [c]) ∧
     Int.ofNat ((rcF X l).next (RQ.mk i pl false [c]) 1).i = rb_s7 i pl c ∧
     ((rcF X l).next (RQ.mk i pl false [c]) 1).pl = (RQ.mk i pl false [c]).pl ∧
     l = l ∧ Int.ofNat c.f = Int.ofNat c.f ∧ Int.ofNat c.e = Int.ofNat c.e ∧ c.sd = c.sd ∧ c.ra = c.ra ∧ c.R = c.R),
    decide (Int.ofNat (RQ.mk i pl false [c]).i < Int.ofNat l) = false → False]
theorem rb_round (X : List (List Int)) (l i : Nat) (pl : Int) (c : CT) (hNeeds : ∀ pN ∈ (rb_needs X l i pl c), pN) : RoundOk (roundC (rcF X l) (bodyOf Try.prog (sums K_mk) L_cz 36 0) 7 ⟨i, pl, false, [c]⟩) :=
  RoundOk.of (ps := (rb_needs X l i pl c)) (by kernel_rfl) (by kernel_rfl) hNeeds
noncomputable def re_s0 (l : Nat) (i : Nat) (pl : Int) (c : CT) (d : CT) : Prop :=
  decide (Int.ofNat (RQ.mk i pl true [c, d]).i < Int.ofNat l) = true
noncomputable def re_s1 (i : Nat) (pl : Int) (c : CT) (d : CT) : Prop :=
  0 ≤ Int.ofNat (RQ.mk i pl true [c, d]).i
noncomputable def re_s2 (l : Nat) (i : Nat) (pl : Int) (c : CT) (d : CT) : Prop :=
  (Int.ofNat (RQ.mk i pl true [c, d]).i).toNat < l
noncomputable def re_s3 (X : List (List Int)) (i : Nat) (pl : Int) (c : CT) (d : CT) : Prop :=
  (Int.ofNat (RQ.mk i pl true [c, d]).i).toNat < X.length
noncomputable def re_s4 (X : List (List Int)) (i : Nat) (pl : Int) (c : CT) (d : CT) : List Int :=
  X.getD (Int.ofNat (RQ.mk i pl true [c, d]).i).toNat []
noncomputable def re_s5 (X : List (List Int)) (i : Nat) (pl : Int) (c : CT) (d : CT) : Int :=
  (re_s4 X i pl c d).getD 0 0
noncomputable def re_s6 (X : List (List Int)) (i : Nat) (pl : Int) (c : CT) (d : CT) : Prop :=
  ((re_s4 X i pl c d).getD 16 0 == 0) = false
noncomputable def re_s7 (X : List (List Int)) (i : Nat) (pl : Int) (c : CT) (d : CT) : Prop :=
  (re_s5 X i pl c d != 1) = true
noncomputable def re_s8 (X : List (List Int)) (i : Nat) (pl : Int) (c : CT) (d : CT) : Prop :=
  (re_s5 X i pl c d != 1 && rmoves_0 (RQ.mk i pl true [c, d]).pl (ofRow (re_s4 X i pl c d))) = true
noncomputable def re_s9 (X : List (List Int)) (l : Nat) (i : Nat) (pl : Int) (c : CT) (d : CT) : List CT :=
  ((rcF X l).next (RQ.mk i pl true [c, d]) 0).cs
noncomputable def re_s10 (i : Nat) (pl : Int) (c : CT) (d : CT) : Int :=
  IntKind.i64.wrap (Int.ofNat (RQ.mk i pl true [c, d]).i + 1)
noncomputable def re_s11 (l : Nat) (c : CT) (d : CT) : Prop :=
  l = l ∧
   Int.ofNat c.f = Int.ofNat c.f ∧
   Int.ofNat c.e = Int.ofNat c.e ∧ c.sd = c.sd ∧ c.ra = c.ra ∧ Int.ofNat d.f = Int.ofNat d.f ∧ Int.ofNat d.e = Int.ofNat d.e ∧ d.sd = d.sd ∧ d.ra = d.ra ∧ c.R = c.R ∧ d.R = d.R
noncomputable def re_s12 (X : List (List Int)) (l : Nat) (i : Nat) (pl : Int) (c : CT) (d : CT) : List CT :=
  ((rcF X l).next (RQ.mk i pl true [c, d]) 2).cs
noncomputable def re_s13 (X : List (List Int)) (l : Nat) (i : Nat) (pl : Int) (c : CT) (d : CT) : List CT :=
  ((rcF X l).next (RQ.mk i pl true [c, d]) 3).cs
noncomputable def re_needs (X : List (List Int)) (l : Nat) (i : Nat) (pl : Int) (c : CT) (d : CT) : List Prop :=
  [re_s0 l i pl c d →
     re_s1 i pl c d ∧
     re_s2 l i pl c d ∧
     re_s3 X i pl c d ∧
     re_s3 X i pl c d ∧
     re_s3 X i pl c d ∧
     ((!rmot_0 (re_s5 X i pl c d)) = false →
     re_s1 i pl c d ∧
     re_s2 l i pl c d ∧
     re_s3 X i pl c d ∧
     re_s3 X i pl c d ∧
     re_s3 X i pl c d ∧
     (re_s6 X i pl c d →
     re_s1 i pl c d ∧
     re_s2 l i pl c d ∧
     re_s3 X i pl c d ∧
     re_s3 X i pl c d ∧
     re_s3 X i pl c d ∧
     (re_s7 X i pl c d → re_s1 i pl c d) ∧
     (re_s7 X i pl c d → re_s2 l i pl c d) ∧
     (re_s7 X i pl c d → re_s3 X i pl c d) ∧
     (re_s7 X i pl c d → re_s3 X i pl c d) ∧
     (re_s8 X i pl c d →
     re_s1 i pl c d ∧
     re_s2 l i pl c d ∧ re_s3 X i pl c d ∧ re_s3 X i pl c d ∧ (d.R.length + 1) * 64 ≤ 140737488355328 ∧ d.R.length + 1 ≤ 9223372036854775807))),
    re_s0 l i pl c d →
     ((!rmot_0 (re_s5 X i pl c d)) = true →
     (((rcF X l).next (RQ.mk i pl true [c, d]) 0).i ≤ l ∧
     l ≤ X.length ∧
     X.length ≤ 1000 ∧
     (∀ (j : Nat),
     j < l →
     (rmot_0 ((X.getD j []).getD 0 0) = true → (X.getD j []).getD 0 0 = 1 ∨ (X.getD j []).getD 0 0 = 2 ∨ (X.getD j []).getD 0 0 = 3) ∧
     ((X.getD j []).getD 13 0 ≠ 0 → (X.getD j []).getD 0 0 = 3)) ∧
     (∀ (c_1 : CT),
     (re_s9 X l i pl c d).getLast? = some c_1 → c_1.f + 1 ≤ ((rcF X l).next (RQ.mk i pl true [c, d]) 0).i ∧ c_1.e = l ∧ c_1.R.length ≤ ((rcF X l).next (RQ.mk i pl true [c, d]) 0).i) ∧
     re_s9 X l i pl c d ≠ [] ∧ (re_s9 X l i pl c d).length + (segOf (stX X) (goX X) l (endOf (goX X) l ((rcF X l).next (RQ.mk i pl true [c, d]) 0).i + 1)).length = 2) ∧
     (rcF X l).μ ((rcF X l).next (RQ.mk i pl true [c, d]) 0) < (rcF X l).μ (RQ.mk i pl true [c, d]) ∧
     (rcF X l).fin ((rcF X l).next (RQ.mk i pl true [c, d]) 0) = (rcF X l).fin (RQ.mk i pl true [c, d]) ∧
     Int.ofNat ((rcF X l).next (RQ.mk i pl true [c, d]) 0).i = re_s10 i pl c d ∧ ((rcF X l).next (RQ.mk i pl true [c, d]) 0).pl = (RQ.mk i pl true [c, d]).pl ∧ re_s11 l c d) ∧
     ((!rmot_0 (re_s5 X i pl c d)) = false →
     (((re_s4 X i pl c d).getD 16 0 == 0) = true →
     (((rcF X l).next (RQ.mk i pl true [c, d]) 1).i ≤ l ∧
     l ≤ X.length ∧
     X.length ≤ 1000 ∧
     (∀ (j : Nat),
     j < l →
     (rmot_0 ((X.getD j []).getD 0 0) = true → (X.getD j []).getD 0 0 = 1 ∨ (X.getD j []).getD 0 0 = 2 ∨ (X.getD j []).getD 0 0 = 3) ∧
     ((X.getD j []).getD 13 0 ≠ 0 → (X.getD j []).getD 0 0 = 3)) ∧
     ((rcF X l).next (RQ.mk i pl true [c, d]) 1).cs.length + (segOf (stX X) (goX X) l ((rcF X l).next (RQ.mk i pl true [c, d]) 1).i).length = 2) ∧
     (rcF X l).μ ((rcF X l).next (RQ.mk i pl true [c, d]) 1) < (rcF X l).μ (RQ.mk i pl true [c, d]) ∧
     (rcF X l).fin ((rcF X l).next (RQ.mk i pl true [c, d]) 1) = (rcF X l).fin (RQ.mk i pl true [c, d]) ∧
     Int.ofNat ((rcF X l).next (RQ.mk i pl true [c, d]) 1).i = re_s10 i pl c d ∧
     ((rcF X l).next (RQ.mk i pl true [c, d]) 1).pl = (RQ.mk i pl true [c, d]).pl ∧
     l = l ∧
     Int.ofNat c.f = Int.ofNat c.f ∧
     Int.ofNat c.e = Int.ofNat c.e ∧
     c.sd = c.sd ∧
     c.ra = c.ra ∧
     Int.ofNat (CT.mk d.f (RQ.mk i pl true [c, d]).i d.sd d.ra d.R).f = Int.ofNat d.f ∧
     Int.ofNat (CT.mk d.f (RQ.mk i pl true [c, d]).i d.sd d.ra d.R).e = Int.ofNat (RQ.mk i pl true [c, d]).i ∧
     (CT.mk d.f (RQ.mk i pl true [c, d]).i d.sd d.ra d.R).sd = d.sd ∧
     (CT.mk d.f (RQ.mk i pl true [c, d]).i d.sd d.ra d.R).ra = d.ra ∧ c.R = c.R ∧ (CT.mk d.f (RQ.mk i pl true [c, d]).i d.sd d.ra d.R).R = d.R) ∧
     (re_s6 X i pl c d →
     (re_s8 X i pl c d →
     (((rcF X l).next (RQ.mk i pl true [c, d]) 2).i ≤ l ∧
     l ≤ X.length ∧
     X.length ≤ 1000 ∧
     (∀ (j : Nat),
     j < l →
     (rmot_0 ((X.getD j []).getD 0 0) = true → (X.getD j []).getD 0 0 = 1 ∨ (X.getD j []).getD 0 0 = 2 ∨ (X.getD j []).getD 0 0 = 3) ∧
     ((X.getD j []).getD 13 0 ≠ 0 → (X.getD j []).getD 0 0 = 3)) ∧
     (∀ (c_1 : CT),
     (re_s12 X l i pl c d).getLast? = some c_1 →
     c_1.f + 1 ≤ ((rcF X l).next (RQ.mk i pl true [c, d]) 2).i ∧ c_1.e = l ∧ c_1.R.length ≤ ((rcF X l).next (RQ.mk i pl true [c, d]) 2).i) ∧
     re_s12 X l i pl c d ≠ [] ∧ (re_s12 X l i pl c d).length + (segOf (stX X) (goX X) l (endOf (goX X) l ((rcF X l).next (RQ.mk i pl true [c, d]) 2).i + 1)).length = 2) ∧
     (rcF X l).μ ((rcF X l).next (RQ.mk i pl true [c, d]) 2) < (rcF X l).μ (RQ.mk i pl true [c, d]) ∧
     (rcF X l).fin ((rcF X l).next (RQ.mk i pl true [c, d]) 2) = (rcF X l).fin (RQ.mk i pl true [c, d]) ∧
     Int.ofNat ((rcF X l).next (RQ.mk i pl true [c, d]) 2).i = re_s10 i pl c d ∧
     ((rcF X l).next (RQ.mk i pl true [c, d]) 2).pl = (RQ.mk i pl true [c, d]).pl ∧
     l = l ∧
     Int.ofNat c.f = Int.ofNat c.f ∧
     Int.ofNat c.e = Int.ofNat c.e ∧
     c.sd = c.sd ∧
     c.ra = c.ra ∧
     Int.ofNat (CT.mk d.f d.e d.sd d.ra (d.R ++ [elR (RQ.mk i pl true [c, d]).pl (X.getD (RQ.mk i pl true [c, d]).i [])])).f = Int.ofNat d.f ∧
     Int.ofNat (CT.mk d.f d.e d.sd d.ra (d.R ++ [elR (RQ.mk i pl true [c, d]).pl (X.getD (RQ.mk i pl true [c, d]).i [])])).e = Int.ofNat d.e ∧
     (CT.mk d.f d.e d.sd d.ra (d.R ++ [elR (RQ.mk i pl true [c, d]).pl (X.getD (RQ.mk i pl true [c, d]).i [])])).sd = d.sd ∧
     (CT.mk d.f d.e d.sd d.ra (d.R ++ [elR (RQ.mk i pl true [c, d]).pl (X.getD (RQ.mk i pl true [c, d]).i [])])).ra = d.ra ∧
     c.R = c.R ∧
     (CT.mk d.f d.e d.sd d.ra (d.R ++ [elR (RQ.mk i pl true [c, d]).pl (X.getD (RQ.mk i pl true [c, d]).i [])])).R =
     d.R ++
     [[r4flat_0 (RQ.mk i pl true [c, d]).pl (xi (ofRow (re_s4 X i pl c d)) 2) (xi (ofRow (re_s4 X i pl c d)) 3) (xi (ofRow (re_s4 X i pl c d)) 4),
     r4flat_1 (RQ.mk i pl true [c, d]).pl (xi (ofRow (re_s4 X i pl c d)) 2) (xi (ofRow (re_s4 X i pl c d)) 3) (xi (ofRow (re_s4 X i pl c d)) 4),
     r4flat_0 (RQ.mk i pl true [c, d]).pl (xi (ofRow (re_s4 X i pl c d)) 5) (xi (ofRow (re_s4 X i pl c d)) 6) (xi (ofRow (re_s4 X i pl c d)) 7),
     r4flat_1 (RQ.mk i pl true [c, d]).pl (xi (ofRow (re_s4 X i pl c d)) 5) (xi (ofRow (re_s4 X i pl c d)) 6) (xi (ofRow (re_s4 X i pl c d)) 7),
     relem_0 (RQ.mk i pl true [c, d]).pl (ofRow (re_s4 X i pl c d)), relem_1 (RQ.mk i pl true [c, d]).pl (ofRow (re_s4 X i pl c d)),
     relem_2 (ofRow (re_s4 X i pl c d)), bif relem_3 (ofRow (re_s4 X i pl c d)) then 1 else 0]]) ∧
     ((re_s5 X i pl c d != 1 && rmoves_0 (RQ.mk i pl true [c, d]).pl (ofRow (re_s4 X i pl c d))) = false →
     (((rcF X l).next (RQ.mk i pl true [c, d]) 3).i ≤ l ∧
     l ≤ X.length ∧
     X.length ≤ 1000 ∧
     (∀ (j : Nat),
     j < l →
     (rmot_0 ((X.getD j []).getD 0 0) = true → (X.getD j []).getD 0 0 = 1 ∨ (X.getD j []).getD 0 0 = 2 ∨ (X.getD j []).getD 0 0 = 3) ∧
     ((X.getD j []).getD 13 0 ≠ 0 → (X.getD j []).getD 0 0 = 3)) ∧
     (∀ (c_1 : CT),
     (re_s13 X l i pl c d).getLast? = some c_1 →
     c_1.f + 1 ≤ ((rcF X l).next (RQ.mk i pl true [c, d]) 3).i ∧ c_1.e = l ∧ c_1.R.length ≤ ((rcF X l).next (RQ.mk i pl true [c, d]) 3).i) ∧
     re_s13 X l i pl c d ≠ [] ∧ (re_s13 X l i pl c d).length + (segOf (stX X) (goX X) l (endOf (goX X) l ((rcF X l).next (RQ.mk i pl true [c, d]) 3).i + 1)).length = 2) ∧
     (rcF X l).μ ((rcF X l).next (RQ.mk i pl true [c, d]) 3) < (rcF X l).μ (RQ.mk i pl true [c, d]) ∧
     (rcF X l).fin ((rcF X l).next (RQ.mk i pl true [c, d]) 3) = (rcF X l).fin (RQ.mk i pl true [c, d]) ∧
     Int.ofNat ((rcF X l).next (RQ.mk i pl true [c, d]) 3).i = re_s10 i pl c d ∧ ((rcF X l).next (RQ.mk i pl true [c, d]) 3).pl = (RQ.mk i pl true [c, d]).pl ∧ re_s11 l c d))),
    decide (Int.ofNat (RQ.mk i pl true [c, d]).i < Int.ofNat l) = false →
     Int.ofNat ((rcF X l).fin (RQ.mk i pl true [c, d])).fst.f = Int.ofNat c.f ∧
     Int.ofNat ((rcF X l).fin (RQ.mk i pl true [c, d])).fst.e = Int.ofNat c.e ∧
     ((rcF X l).fin (RQ.mk i pl true [c, d])).fst.sd = c.sd ∧
     ((rcF X l).fin (RQ.mk i pl true [c, d])).fst.ra = c.ra ∧
     Int.ofNat ((rcF X l).fin (RQ.mk i pl true [c, d])).snd.f = Int.ofNat d.f ∧
     Int.ofNat ((rcF X l).fin (RQ.mk i pl true [c, d])).snd.e = Int.ofNat d.e ∧
     ((rcF X l).fin (RQ.mk i pl true [c, d])).snd.sd = d.sd ∧
     ((rcF X l).fin (RQ.mk i pl true [c, d])).snd.ra = d.ra ∧ ((rcF X l).fin (RQ.mk i pl true [c, d])).fst.R = c.R ∧ ((rcF X l).fin (RQ.mk i pl true [c, d])).snd.R = d.R]
theorem re_round (X : List (List Int)) (l i : Nat) (pl : Int) (c d : CT) (hNeeds : ∀ pN ∈ (re_needs X l i pl c d), pN) : RoundOk (roundC (rcF X l) (bodyOf Try.prog (sums K_mk) L_cz 36 0) 7 ⟨i, pl, true, [c, d]⟩) :=
  RoundOk.of (ps := (re_needs X l i pl c d)) (by kernel_rfl) (by kernel_rfl) hNeeds
noncomputable def rd_s0 (l : Nat) (i : Nat) (pl : Int) (c : CT) (d : CT) : Prop :=
  decide (Int.ofNat (RQ.mk i pl false [c, d]).i < Int.ofNat l) = true
noncomputable def rd_s1 (i : Nat) (pl : Int) (c : CT) (d : CT) : Prop :=
  0 ≤ Int.ofNat (RQ.mk i pl false [c, d]).i
noncomputable def rd_s2 (l : Nat) (i : Nat) (pl : Int) (c : CT) (d : CT) : Prop :=
  (Int.ofNat (RQ.mk i pl false [c, d]).i).toNat < l
noncomputable def rd_s3 (X : List (List Int)) (i : Nat) (pl : Int) (c : CT) (d : CT) : Prop :=
  (Int.ofNat (RQ.mk i pl false [c, d]).i).toNat < X.length
noncomputable def rd_s4 (X : List (List Int)) (i : Nat) (pl : Int) (c : CT) (d : CT) : Bool :=
  rmot_0 ((X.getD (Int.ofNat (RQ.mk i pl false [c, d]).i).toNat []).getD 0 0)
noncomputable def rd_s5 (X : List (List Int)) (i : Nat) (pl : Int) (c : CT) (d : CT) : Prop :=
  (rd_s4 X i pl c d && (X.getD (Int.ofNat (RQ.mk i pl false [c, d]).i).toNat []).getD 16 0 != 0) = true
noncomputable def rd_s6 (X : List (List Int)) (l : Nat) (i : Nat) (pl : Int) (c : CT) (d : CT) : List CT :=
  ((rcF X l).next (RQ.mk i pl false [c, d]) 0).cs
noncomputable def rd_s7 (i : Nat) (pl : Int) (c : CT) (d : CT) : Int :=
  IntKind.i64.wrap (Int.ofNat (RQ.mk i pl false [c, d]).i + 1)
noncomputable def rd_needs (X : List (List Int)) (l : Nat) (i : Nat) (pl : Int) (c : CT) (d : CT) : List Prop :=
  [rd_s0 l i pl c d →
     rd_s1 i pl c d ∧
     rd_s2 l i pl c d ∧
     rd_s3 X i pl c d ∧
     rd_s3 X i pl c d ∧
     rd_s3 X i pl c d ∧
     (rd_s4 X i pl c d = true → rd_s1 i pl c d) ∧
     (rd_s4 X i pl c d = true → rd_s2 l i pl c d) ∧
     (rd_s4 X i pl c d = true → rd_s3 X i pl c d) ∧
     (rd_s4 X i pl c d = true → rd_s3 X i pl c d) ∧
     (rd_s4 X i pl c d = true → rd_s3 X i pl c d) ∧
     (rd_s5 X i pl c d →
     rd_s1 i pl c d ∧
     rd_s2 l i pl c d ∧
     rd_s3 X i pl c d ∧
     rd_s3 X i pl c d ∧
     rd_s3 X i pl c d ∧
     rd_s1 i pl c d ∧
     rd_s2 l i pl c d ∧
     rd_s3 X i pl c d ∧ rd_s3 X i pl c d ∧ rd_s3 X i pl c d ∧ rd_s1 i pl c d ∧ rd_s2 l i pl c d ∧ rd_s3 X i pl c d ∧ rd_s3 X i pl c d ∧ rd_s3 X i pl c d),
    rd_s0 l i pl c d →
     (rd_s5 X i pl c d →
     (((rcF X l).next (RQ.mk i pl false [c, d]) 0).i ≤ l ∧
     l ≤ X.length ∧
     X.length ≤ 1000 ∧
     (∀ (j : Nat),
     j < l →
     (rmot_0 ((X.getD j []).getD 0 0) = true → (X.getD j []).getD 0 0 = 1 ∨ (X.getD j []).getD 0 0 = 2 ∨ (X.getD j []).getD 0 0 = 3) ∧
     ((X.getD j []).getD 13 0 ≠ 0 → (X.getD j []).getD 0 0 = 3)) ∧
     (∀ (c_1 : CT),
     (rd_s6 X l i pl c d).getLast? = some c_1 →
     c_1.f + 1 ≤ ((rcF X l).next (RQ.mk i pl false [c, d]) 0).i ∧ c_1.e = l ∧ c_1.R.length ≤ ((rcF X l).next (RQ.mk i pl false [c, d]) 0).i) ∧
     rd_s6 X l i pl c d ≠ [] ∧ (rd_s6 X l i pl c d).length + (segOf (stX X) (goX X) l (endOf (goX X) l ((rcF X l).next (RQ.mk i pl false [c, d]) 0).i + 1)).length = 2) ∧
     (rcF X l).μ ((rcF X l).next (RQ.mk i pl false [c, d]) 0) < (rcF X l).μ (RQ.mk i pl false [c, d]) ∧
     (rcF X l).fin ((rcF X l).next (RQ.mk i pl false [c, d]) 0) = (rcF X l).fin (RQ.mk i pl false [c, d]) ∧
     Int.ofNat ((rcF X l).next (RQ.mk i pl false [c, d]) 0).i = rd_s7 i pl c d ∧
     ((rcF X l).next (RQ.mk i pl false [c, d]) 0).pl = (X.getD (Int.ofNat (RQ.mk i pl false [c, d]).i).toNat []).getD 8 0 ∧ l = l) ∧
     ((rd_s4 X i pl c d && (X.getD (Int.ofNat (RQ.mk i pl false [c, d]).i).toNat []).getD 16 0 != 0) = false →
     (((rcF X l).next (RQ.mk i pl false [c, d]) 1).i ≤ l ∧
     l ≤ X.length ∧
     X.length ≤ 1000 ∧
     (∀ (j : Nat),
     j < l →
     (rmot_0 ((X.getD j []).getD 0 0) = true → (X.getD j []).getD 0 0 = 1 ∨ (X.getD j []).getD 0 0 = 2 ∨ (X.getD j []).getD 0 0 = 3) ∧
     ((X.getD j []).getD 13 0 ≠ 0 → (X.getD j []).getD 0 0 = 3)) ∧
     ((rcF X l).next (RQ.mk i pl false [c, d]) 1).cs.length + (segOf (stX X) (goX X) l ((rcF X l).next (RQ.mk i pl false [c, d]) 1).i).length = 2) ∧
     (rcF X l).μ ((rcF X l).next (RQ.mk i pl false [c, d]) 1) < (rcF X l).μ (RQ.mk i pl false [c, d]) ∧
     (rcF X l).fin ((rcF X l).next (RQ.mk i pl false [c, d]) 1) = (rcF X l).fin (RQ.mk i pl false [c, d]) ∧
     Int.ofNat ((rcF X l).next (RQ.mk i pl false [c, d]) 1).i = rd_s7 i pl c d ∧
     ((rcF X l).next (RQ.mk i pl false [c, d]) 1).pl = (RQ.mk i pl false [c, d]).pl ∧
     l = l ∧
     Int.ofNat c.f = Int.ofNat c.f ∧
     Int.ofNat c.e = Int.ofNat c.e ∧ c.sd = c.sd ∧ c.ra = c.ra ∧ Int.ofNat d.f = Int.ofNat d.f ∧ Int.ofNat d.e = Int.ofNat d.e ∧ d.sd = d.sd ∧ d.ra = d.ra ∧ c.R = c.R ∧ d.R = d.R),
    decide (Int.ofNat (RQ.mk i pl false [c, d]).i < Int.ofNat l) = false →
     Int.ofNat ((rcF X l).fin (RQ.mk i pl false [c, d])).fst.f = Int.ofNat c.f ∧
     Int.ofNat ((rcF X l).fin (RQ.mk i pl false [c, d])).fst.e = Int.ofNat c.e ∧
     ((rcF X l).fin (RQ.mk i pl false [c, d])).fst.sd = c.sd ∧
     ((rcF X l).fin (RQ.mk i pl false [c, d])).fst.ra = c.ra ∧
     Int.ofNat ((rcF X l).fin (RQ.mk i pl false [c, d])).snd.f = Int.ofNat d.f ∧
     Int.ofNat ((rcF X l).fin (RQ.mk i pl false [c, d])).snd.e = Int.ofNat d.e ∧
     ((rcF X l).fin (RQ.mk i pl false [c, d])).snd.sd = d.sd ∧
     ((rcF X l).fin (RQ.mk i pl false [c, d])).snd.ra = d.ra ∧ ((rcF X l).fin (RQ.mk i pl false [c, d])).fst.R = c.R ∧ ((rcF X l).fin (RQ.mk i pl false [c, d])).snd.R = d.R]
theorem rd_round (X : List (List Int)) (l i : Nat) (pl : Int) (c d : CT) (hNeeds : ∀ pN ∈ (rd_needs X l i pl c d), pN) : RoundOk (roundC (rcF X l) (bodyOf Try.prog (sums K_mk) L_cz 36 0) 7 ⟨i, pl, false, [c, d]⟩) :=
  RoundOk.of (ps := (rd_needs X l i pl c d)) (by kernel_rfl) (by kernel_rfl) hNeeds
theorem stX_eq (X : List (List Int)) (i : Nat) : stX X i = (rmot_0 ((X.getD i []).getD 0 0) && (X.getD i []).getD 16 0 != 0) := by
  unfold stX bne
  cases rmot_0 ((X.getD i []).getD 0 0) <;> cases (X.getD i []).getD 16 0 == 0 <;> rfl
theorem rz_rounds (X : List (List Int)) (l i : Nat) (pl : Int) (hJ : (rcF X l).J ⟨i, pl, false, []⟩) : RoundOk (roundC (rcF X l) (bodyOf Try.prog (sums K_mk) L_cz 36 0) 7 ⟨i, pl, false, []⟩) := by
  have hJ' := hJ
  obtain ⟨h1, h2, h3, h4, h5⟩ := hJ'
  dsimp only at h1
  refine rz_round X l i pl ?_
  have lt : rz_s0 l i pl → i < l := fun h => by have h : decide (Int.ofNat i < Int.ofNat l) = true := h; simp at h; omega
  unfold rz_needs
  simp only [List.forall_mem_cons, List.not_mem_nil, false_implies, implies_true, and_true]
  have h5 : ([] : List CT).length + (segOf (stX X) (goX X) l i).length = 2 := h5
  refine ⟨fun h => ?_, fun h => ⟨fun hk => ?_, fun hk => ?_⟩, fun h => ?_⟩
  · have l1 := lt h
    have l3 : i < X.length := by omega
    repeat' first | exact l3 | exact l1 | exact Int.natCast_nonneg _ | refine And.intro ?_ ?_ | intro _
  · have l1 := lt h
    have hs : stX X i = true := (stX_eq X i).trans hk
    obtain ⟨a, b, e, f⟩ := t_start hJ l1 hs
    refine ⟨a, b, e, ?_⟩
    first | exact f | (refine ⟨f, ?_⟩; repeat' first | exact trivial | rfl | refine And.intro ?_ ?_)
  · have l1 := lt h
    have hs : stX X i = false := (stX_eq X i).trans hk
    obtain ⟨a, b, e, f⟩ := t_skip hJ l1 hs
    refine ⟨a, b, e, ?_⟩
    first | exact f | (refine ⟨f, ?_⟩; repeat' first | exact trivial | rfl | refine And.intro ?_ ?_)
  · have e : segOf (stX X) (goX X) l i = [] := segOf_end (by have h : decide (Int.ofNat i < Int.ofNat l) = false := h; simp at h; omega)
    rw [e] at h5; cases h5
theorem ra_rounds (X : List (List Int)) (l i : Nat) (pl : Int) (c : CT) (hJ : (rcF X l).J ⟨i, pl, true, [c]⟩) : RoundOk (roundC (rcF X l) (bodyOf Try.prog (sums K_mk) L_cz 36 0) 7 ⟨i, pl, true, [c]⟩) := by
  have hJ' := hJ
  obtain ⟨h1, h2, h3, h4, h5⟩ := hJ'
  dsimp only at h1
  refine ra_round X l i pl c ?_
  have lt : ra_s0 l i pl c → i < l := fun h => by have h : decide (Int.ofNat i < Int.ofNat l) = true := h; simp at h; omega
  unfold ra_needs
  simp only [List.forall_mem_cons, List.not_mem_nil, false_implies, implies_true, and_true]
  obtain ⟨h5, h6, h7⟩ := h5
  obtain ⟨a1, a2, a3⟩ := h5 c rfl
  dsimp only at a1 a2 a3 h7
  refine ⟨fun h => ?_, fun h => ⟨fun hk => ?_, fun hk => ⟨fun hz => ?_, fun hz => ⟨fun ht => ?_, fun ht => ?_⟩⟩⟩, fun h => ?_⟩
  · have l1 := lt h
    have l3 : i < X.length := by omega
    repeat' first | exact l3 | exact l1 | exact Int.natCast_nonneg _ | omega | refine And.intro ?_ ?_ | intro _
  · have l1 := lt h
    have hk : (!rmot_0 ((X.getD i []).getD 0 0)) = true := hk
    have hg : goX X i = true := by unfold goX; rw [hk]; rfl
    have t := t_go hJ l1 hg
    rw [take_no (by simpa using hk)] at t
    obtain ⟨a, b, e, f⟩ := t
    refine ⟨a, b, e, ?_⟩
    first | exact f | (refine ⟨f, ?_⟩; repeat' first | exact trivial | rfl | refine And.intro ?_ ?_)
  · have l1 := lt h
    have hk : (!rmot_0 ((X.getD i []).getD 0 0)) = false := hk
    have hz : ((X.getD i []).getD 16 0 == 0) = true := hz
    have hg : goX X i = false := by unfold goX bne; rw [hk, hz]; rfl
    obtain ⟨a, b, e, f⟩ := t_end hJ l1 hg
    refine ⟨a, b, e, ?_⟩
    first | exact f | (refine ⟨f, ?_⟩; repeat' first | exact trivial | rfl | refine And.intro ?_ ?_)
  · have l1 := lt h
    have hk : (!rmot_0 ((X.getD i []).getD 0 0)) = false := hk
    have hz : ((X.getD i []).getD 16 0 == 0) = false := hz
    have hg : goX X i = true := by unfold goX bne; rw [hk, hz]; rfl
    have t := t_go hJ l1 hg
    rw [(take_gd (p := pl) (h4 i l1) (by simpa using hk)).trans ht] at t
    obtain ⟨a, b, e, f⟩ := t
    refine ⟨a, b, e, ?_⟩
    first | exact f | (refine ⟨f, ?_⟩; repeat' first | exact trivial | rfl | refine And.intro ?_ ?_)
  · have l1 := lt h
    have hk : (!rmot_0 ((X.getD i []).getD 0 0)) = false := hk
    have hz : ((X.getD i []).getD 16 0 == 0) = false := hz
    have hg : goX X i = true := by unfold goX bne; rw [hk, hz]; rfl
    have t := t_go hJ l1 hg
    rw [(take_gd (p := pl) (h4 i l1) (by simpa using hk)).trans ht] at t
    obtain ⟨a, b, e, f⟩ := t
    refine ⟨a, b, e, ?_⟩
    first | exact f | (refine ⟨f, ?_⟩; repeat' first | exact trivial | rfl | refine And.intro ?_ ?_)
  · have hi : l ≤ i := by have h : decide (Int.ofNat i < Int.ofNat l) = false := h; simp at h; omega
    have e : endOf (goX X) l i = i := endOf_ge hi
    rw [e, segOf_end (by omega)] at h7
    cases h7
theorem rb_rounds (X : List (List Int)) (l i : Nat) (pl : Int) (c : CT) (hJ : (rcF X l).J ⟨i, pl, false, [c]⟩) : RoundOk (roundC (rcF X l) (bodyOf Try.prog (sums K_mk) L_cz 36 0) 7 ⟨i, pl, false, [c]⟩) := by
  have hJ' := hJ
  obtain ⟨h1, h2, h3, h4, h5⟩ := hJ'
  dsimp only at h1
  refine rb_round X l i pl c ?_
  have lt : rb_s0 l i pl c → i < l := fun h => by have h : decide (Int.ofNat i < Int.ofNat l) = true := h; simp at h; omega
  unfold rb_needs
  simp only [List.forall_mem_cons, List.not_mem_nil, false_implies, implies_true, and_true]
  have h5 : ([c] : List CT).length + (segOf (stX X) (goX X) l i).length = 2 := h5
  refine ⟨fun h => ?_, fun h => ⟨fun hk => ?_, fun hk => ?_⟩, fun h => ?_⟩
  · have l1 := lt h
    have l3 : i < X.length := by omega
    repeat' first | exact l3 | exact l1 | exact Int.natCast_nonneg _ | refine And.intro ?_ ?_ | intro _
  · have l1 := lt h
    have hs : stX X i = true := (stX_eq X i).trans hk
    obtain ⟨a, b, e, f⟩ := t_start hJ l1 hs
    refine ⟨a, b, e, ?_⟩
    first | exact f | (refine ⟨f, ?_⟩; repeat' first | exact trivial | rfl | refine And.intro ?_ ?_)
  · have l1 := lt h
    have hs : stX X i = false := (stX_eq X i).trans hk
    obtain ⟨a, b, e, f⟩ := t_skip hJ l1 hs
    refine ⟨a, b, e, ?_⟩
    first | exact f | (refine ⟨f, ?_⟩; repeat' first | exact trivial | rfl | refine And.intro ?_ ?_)
  · have e : segOf (stX X) (goX X) l i = [] := segOf_end (by have h : decide (Int.ofNat i < Int.ofNat l) = false := h; simp at h; omega)
    rw [e] at h5; cases h5
theorem re_rounds (X : List (List Int)) (l i : Nat) (pl : Int) (c d : CT) (hJ : (rcF X l).J ⟨i, pl, true, [c, d]⟩) : RoundOk (roundC (rcF X l) (bodyOf Try.prog (sums K_mk) L_cz 36 0) 7 ⟨i, pl, true, [c, d]⟩) := by
  have hJ' := hJ
  obtain ⟨h1, h2, h3, h4, h5⟩ := hJ'
  dsimp only at h1
  refine re_round X l i pl c d ?_
  have lt : re_s0 l i pl c d → i < l := fun h => by have h : decide (Int.ofNat i < Int.ofNat l) = true := h; simp at h; omega
  unfold re_needs
  simp only [List.forall_mem_cons, List.not_mem_nil, false_implies, implies_true, and_true]
  obtain ⟨h5, h6, h7⟩ := h5
  obtain ⟨a1, a2, a3⟩ := h5 d rfl
  dsimp only at a1 a2 a3 h7
  refine ⟨fun h => ?_, fun h => ⟨fun hk => ?_, fun hk => ⟨fun hz => ?_, fun hz => ⟨fun ht => ?_, fun ht => ?_⟩⟩⟩, fun h => ?_⟩
  · have l1 := lt h
    have l3 : i < X.length := by omega
    repeat' first | exact l3 | exact l1 | exact Int.natCast_nonneg _ | omega | refine And.intro ?_ ?_ | intro _
  · have l1 := lt h
    have hk : (!rmot_0 ((X.getD i []).getD 0 0)) = true := hk
    have hg : goX X i = true := by unfold goX; rw [hk]; rfl
    have t := t_go hJ l1 hg
    rw [take_no (by simpa using hk)] at t
    obtain ⟨a, b, e, f⟩ := t
    refine ⟨a, b, e, ?_⟩
    first | exact f | (refine ⟨f, ?_⟩; repeat' first | exact trivial | rfl | refine And.intro ?_ ?_)
  · have l1 := lt h
    have hk : (!rmot_0 ((X.getD i []).getD 0 0)) = false := hk
    have hz : ((X.getD i []).getD 16 0 == 0) = true := hz
    have hg : goX X i = false := by unfold goX bne; rw [hk, hz]; rfl
    obtain ⟨a, b, e, f⟩ := t_end hJ l1 hg
    refine ⟨a, b, e, ?_⟩
    first | exact f | (refine ⟨f, ?_⟩; repeat' first | exact trivial | rfl | refine And.intro ?_ ?_)
  · have l1 := lt h
    have hk : (!rmot_0 ((X.getD i []).getD 0 0)) = false := hk
    have hz : ((X.getD i []).getD 16 0 == 0) = false := hz
    have hg : goX X i = true := by unfold goX bne; rw [hk, hz]; rfl
    have t := t_go hJ l1 hg
    rw [(take_gd (p := pl) (h4 i l1) (by simpa using hk)).trans ht] at t
    obtain ⟨a, b, e, f⟩ := t
    refine ⟨a, b, e, ?_⟩
    first | exact f | (refine ⟨f, ?_⟩; repeat' first | exact trivial | rfl | refine And.intro ?_ ?_)
  · have l1 := lt h
    have hk : (!rmot_0 ((X.getD i []).getD 0 0)) = false := hk
    have hz : ((X.getD i []).getD 16 0 == 0) = false := hz
    have hg : goX X i = true := by unfold goX bne; rw [hk, hz]; rfl
    have t := t_go hJ l1 hg
    rw [(take_gd (p := pl) (h4 i l1) (by simpa using hk)).trans ht] at t
    obtain ⟨a, b, e, f⟩ := t
    refine ⟨a, b, e, ?_⟩
    first | exact f | (refine ⟨f, ?_⟩; repeat' first | exact trivial | rfl | refine And.intro ?_ ?_)
  · have hi : l ≤ i := by have h : decide (Int.ofNat i < Int.ofNat l) = false := h; simp at h; omega
    have e : endOf (goX X) l i = i := endOf_ge hi
    rw [e, segOf_end (by omega)] at h7
    have e1 : (rcF X l).fin ⟨i, pl, true, [c, d]⟩ = (c, d) := by
      show pk ([c, cloC X l i pl d] ++ (segOf (stX X) (goX X) l (endOf (goX X) l i + 1)).map (mkC X)) = _
      rw [e, segOf_end (by omega), clo_at e]
      show (c, CT.mk d.f i d.sd d.ra d.R) = (c, d)
      rw [show i = d.e by omega]
    rw [e1]
    repeat' first | exact trivial | rfl | refine And.intro ?_ ?_
theorem rd_rounds (X : List (List Int)) (l i : Nat) (pl : Int) (c d : CT) (hJ : (rcF X l).J ⟨i, pl, false, [c, d]⟩) : RoundOk (roundC (rcF X l) (bodyOf Try.prog (sums K_mk) L_cz 36 0) 7 ⟨i, pl, false, [c, d]⟩) := by
  have hJ' := hJ
  obtain ⟨h1, h2, h3, h4, h5⟩ := hJ'
  dsimp only at h1
  refine rd_round X l i pl c d ?_
  have lt : rd_s0 l i pl c d → i < l := fun h => by have h : decide (Int.ofNat i < Int.ofNat l) = true := h; simp at h; omega
  unfold rd_needs
  simp only [List.forall_mem_cons, List.not_mem_nil, false_implies, implies_true, and_true]
  have h5 : ([c, d] : List CT).length + (segOf (stX X) (goX X) l i).length = 2 := h5
  refine ⟨fun h => ?_, fun h => ⟨fun hk => ?_, fun hk => ?_⟩, fun h => ?_⟩
  · have l1 := lt h
    have l3 : i < X.length := by omega
    repeat' first | exact l3 | exact l1 | exact Int.natCast_nonneg _ | refine And.intro ?_ ?_ | intro _
  · have l1 := lt h
    have hs : stX X i = true := (stX_eq X i).trans hk
    rw [segOf_st l1 hs] at h5
    simp at h5
  · have l1 := lt h
    have hs : stX X i = false := (stX_eq X i).trans hk
    obtain ⟨a, b, e, f⟩ := t_skip hJ l1 hs
    refine ⟨a, b, e, ?_⟩
    first | exact f | (refine ⟨f, ?_⟩; repeat' first | exact trivial | rfl | refine And.intro ?_ ?_)
  · have e : segOf (stX X) (goX X) l i = [] := segOf_end (by have h : decide (Int.ofNat i < Int.ofNat l) = false := h; simp at h; omega)
    have e1 : (rcF X l).fin ⟨i, pl, false, [c, d]⟩ = (c, d) := by
      show pk ([c, d] ++ (segOf (stX X) (goX X) l i).map (mkC X)) = _
      rw [e]; rfl
    rw [e1]
    repeat' first | exact trivial | rfl | refine And.intro ?_ ?_
theorem rc_rounds (X : List (List Int)) (l : Nat) : RoundsOk (rcF X l) (bodyOf Try.prog (sums K_mk) L_cz 36 0) 7 := fun s hJ => by
  obtain ⟨i, pl, op, cs⟩ := s
  cases op with
  | false => match cs, hJ with
    | [], hJ => exact rz_rounds X l i pl hJ
    | [c], hJ => exact rb_rounds X l i pl c hJ
    | [c, d], hJ => exact rd_rounds X l i pl c d hJ
    | a :: b :: c :: t, hJ =>
      have h : (a :: b :: c :: t).length + (segOf (stX X) (goX X) l i).length = 2 := hJ.2.2.2.2
      simp at h; omega
  | true => match cs, hJ with
    | [], hJ => exact absurd rfl hJ.2.2.2.2.2.1
    | [c], hJ => exact ra_rounds X l i pl c hJ
    | [c, d], hJ => exact re_rounds X l i pl c d hJ
    | a :: b :: c :: t, hJ =>
      have h : (a :: b :: c :: t).length + (segOf (stX X) (goX X) l (endOf (goX X) l i + 1)).length = 2 := hJ.2.2.2.2.2.2
      simp at h; omega
end Go.Proofs.Ythgiaoidekdpfaa
