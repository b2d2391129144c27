/-
  LIST: two contours, one behind the other. Conditions: none.
-/
import Derived.Test.YthgiaoidekdpfaaHI
set_option linter.all false
namespace Go.Proofs.Ythgiaoidekdpfaa
open Go.SX Go.RowKit
structure LS where
  i : Nat
  R : List (List Int)
/-- An item, moved. -/
noncomputable def shA (dx dy dz : Int) (r : List Int) : List Int := overF 22 0 2 [addpt_0 (r.getD 2 0) dx, addpt_0 (r.getD 3 0) dy, addpt_0 (r.getD 4 0) dz] r
noncomputable def shB (dx dy dz : Int) (q r : List Int) : List Int := overF 22 0 5 [addpt_0 (q.getD 5 0) dx, addpt_0 (q.getD 6 0) dy, addpt_0 (q.getD 7 0) dz] r
noncomputable def shC (dx dy dz : Int) (r : List Int) : List Int := overF 22 0 9 [addpt_0 (r.getD 9 0) dx, addpt_0 (r.getD 10 0) dy, addpt_0 (r.getD 11 0) dz] r
noncomputable def shD (dx dy dz : Int) (r : List Int) : List Int := shB dx dy dz r (shA dx dy dz r)
noncomputable def sh (dx dy dz : Int) (r : List Int) : List Int := bif decide (r.getD 0 0 > 6) then r else bif r.getD 0 0 == 3 then shC dx dy dz (shD dx dy dz r) else shD dx dy dz r
noncomputable def lsStep (dx dy dz : Int) (s : LS) : LS := ⟨s.i + 1, s.R.set s.i (sh dx dy dz (s.R.getD s.i []))⟩
noncomputable def lsN (dx dy dz : Int) : Nat → LS → LS
  | 0, s => s
  | k + 1, s => lsN dx dy dz k (lsStep dx dy dz s)
noncomputable def rowN (id t : Nat) (U : List (List Int)) : Nat × SX.Obj := (id, .row true 3 1 (.lst t [.int .i64] U))
noncomputable def lsF (U V A : List (List Int)) (dx dy dz : Int) : Fam LS LS where
  k := 100
  E s := [(8, ent 1000000000 (.one (I (Int.ofNat s.i)))), (7, ent 2410 (.one (.ptr 2406 0))), (6, ent 2358 (.one (.wh 2351))), (5, ent 2357 (.one (.wh 1175)))]
  M s := [(2406, .blk 43 [(2411, I dx), (2412, I dy), (2413, I dz)]), rowI 2351 1000000001 s.R, rowI 1175 1177 A, rowN 0 2 U, rowN 1 3 V]
  out s := .leaf (.exit 0) [(6, ent 2358 (.one (.wh 2351))), (5, ent 2357 (.one (.wh 1175)))] [rowI 2351 2416 s.R, rowI 1175 1177 A, rowN 0 2 U, rowN 1 3 V]
  fin s := lsN dx dy dz (s.R.length - s.i) s
  next s _ := lsStep dx dy dz s
  J s := s.i ≤ s.R.length ∧ s.R.length ≤ 1000
  μ s := s.R.length - s.i
noncomputable def ls_s0 (s : LS) : Prop :=
  decide (Int.ofNat s.i < Int.ofNat s.R.length) = true
noncomputable def ls_s1 (s : LS) : Int :=
  (s.R.getD (Int.ofNat s.i).toNat []).getD 0 0
noncomputable def ls_s2 (s : LS) : Bool :=
  decide (ls_s1 s > 6)
noncomputable def ls_s3 (dx : Int) (dy : Int) (dz : Int) (s : LS) : List (List Int) :=
  s.R.set (Int.ofNat s.i).toNat
   (overF 22 0 2 [addpt_0 ((s.R.getD (Int.ofNat s.i).toNat []).getD 2 0) dx, addpt_0 ((s.R.getD (Int.ofNat s.i).toNat []).getD 3 0) dy, addpt_0 ((s.R.getD (Int.ofNat s.i).toNat []).getD 4 0) dz]
   (s.R.getD (Int.ofNat s.i).toNat []))
noncomputable def ls_s4 (dx : Int) (dy : Int) (dz : Int) (s : LS) : List (List Int) :=
  (ls_s3 dx dy dz s).set (Int.ofNat s.i).toNat
   (overF 22 0 5 [addpt_0 ((s.R.getD (Int.ofNat s.i).toNat []).getD 5 0) dx, addpt_0 ((s.R.getD (Int.ofNat s.i).toNat []).getD 6 0) dy, addpt_0 ((s.R.getD (Int.ofNat s.i).toNat []).getD 7 0) dz]
   ((ls_s3 dx dy dz s).getD (Int.ofNat s.i).toNat []))
noncomputable def ls_s5 (dx : Int) (dy : Int) (dz : Int) (s : LS) : Bool :=
  ((ls_s4 dx dy dz s).getD (Int.ofNat s.i).toNat []).getD 0 0 == 3
noncomputable def ls_needs (U : List (List Int)) (V : List (List Int)) (A : List (List Int)) (dx : Int) (dy : Int) (dz : Int) (s : LS) : List Prop :=
  [ls_s0 s →
     0 ≤ Int.ofNat s.i ∧
     (Int.ofNat s.i).toNat < s.R.length ∧
     (Int.ofNat s.i).toNat < s.R.length ∧
     (Int.ofNat s.i).toNat < s.R.length ∧
     (ls_s2 s = false →
     0 ≤ Int.ofNat s.i ∧
     (Int.ofNat s.i).toNat < s.R.length ∧
     (Int.ofNat s.i).toNat < s.R.length ∧
     (Int.ofNat s.i).toNat < s.R.length ∧
     0 ≤ Int.ofNat s.i ∧
     (Int.ofNat s.i).toNat < s.R.length ∧
     (Int.ofNat s.i).toNat < s.R.length ∧
     (Int.ofNat s.i).toNat < s.R.length ∧
     0 ≤ Int.ofNat s.i ∧
     (Int.ofNat s.i).toNat < s.R.length ∧
     (Int.ofNat s.i).toNat < s.R.length ∧
     (Int.ofNat s.i).toNat < s.R.length ∧
     0 ≤ Int.ofNat s.i ∧
     (Int.ofNat s.i).toNat < (ls_s3 dx dy dz s).length ∧
     (Int.ofNat s.i).toNat < (ls_s3 dx dy dz s).length ∧
     (Int.ofNat s.i).toNat < (ls_s3 dx dy dz s).length ∧
     0 ≤ Int.ofNat s.i ∧
     (Int.ofNat s.i).toNat < (ls_s4 dx dy dz s).length ∧
     (Int.ofNat s.i).toNat < (ls_s4 dx dy dz s).length ∧
     (Int.ofNat s.i).toNat < (ls_s4 dx dy dz s).length ∧
     (ls_s5 dx dy dz s = true →
     0 ≤ Int.ofNat s.i ∧
     (Int.ofNat s.i).toNat < (ls_s4 dx dy dz s).length ∧
     (Int.ofNat s.i).toNat < (ls_s4 dx dy dz s).length ∧
     (Int.ofNat s.i).toNat < (ls_s4 dx dy dz s).length ∧
     0 ≤ Int.ofNat s.i ∧
     (Int.ofNat s.i).toNat < (ls_s4 dx dy dz s).length ∧
     (Int.ofNat s.i).toNat < (ls_s4 dx dy dz s).length ∧ (Int.ofNat s.i).toNat < (ls_s4 dx dy dz s).length)),
    ls_s0 s →
     (((lsF U V A dx dy dz).next s 0).i ≤ ((lsF U V A dx dy dz).next s 0).R.length ∧ ((lsF U V A dx dy dz).next s 0).R.length ≤ 1000) ∧
     (lsF U V A dx dy dz).μ ((lsF U V A dx dy dz).next s 0) < (lsF U V A dx dy dz).μ s ∧
     (lsF U V A dx dy dz).fin ((lsF U V A dx dy dz).next s 0) = (lsF U V A dx dy dz).fin s ∧
     Int.ofNat ((lsF U V A dx dy dz).next s 0).i = IntKind.i64.wrap (Int.ofNat s.i + 1) ∧
     ((lsF U V A dx dy dz).next s 0).R =
     bif ls_s2 s then s.R
     else
     bif ls_s5 dx dy dz s then
     (ls_s4 dx dy dz s).set (Int.ofNat s.i).toNat
     (overF 22 0 9
     [addpt_0 (((ls_s4 dx dy dz s).getD (Int.ofNat s.i).toNat []).getD 9 0) dx, addpt_0 (((ls_s4 dx dy dz s).getD (Int.ofNat s.i).toNat []).getD 10 0) dy,
     addpt_0 (((ls_s4 dx dy dz s).getD (Int.ofNat s.i).toNat []).getD 11 0) dz]
     ((ls_s4 dx dy dz s).getD (Int.ofNat s.i).toNat []))
     else ls_s4 dx dy dz s,
    decide (Int.ofNat s.i < Int.ofNat s.R.length) = false → ((lsF U V A dx dy dz).fin s).R = s.R]
theorem ls_round (U V A : List (List Int)) (dx dy dz : Int) (s : LS) (hNeeds : ∀ pN ∈ (ls_needs U V A dx dy dz s), pN) : RoundOk (roundC (lsF U V A dx dy dz) (bodyOf Try.prog (sums K_items) L_it 33 0) 2416 s) :=
  RoundOk.of (ps := (ls_needs U V A dx dy dz s)) (by kernel_rfl) (by kernel_rfl) hNeeds
theorem set_set' {α : Type} (l : List α) (i : Nat) (a b : α) : (l.set i a).set i b = l.set i b := by simp
theorem getD_set {α : Type} (l : List α) (i : Nat) (a d : α) (h : i < l.length) : (l.set i a).getD i d = a := by simp [List.getD, h]
theorem set_getD {α : Type} (l : List α) (i : Nat) (d : α) : l.set i (l.getD i d) = l := by
  by_cases h : i < l.length
  · simp [List.getD, h]
  · rw [List.set_eq_of_length_le (by omega)]
theorem lsN_len (dx dy dz : Int) : ∀ (k : Nat) (s : LS), (lsN dx dy dz k s).R.length = s.R.length
  | 0, _ => rfl
  | k + 1, s => by
    show (lsN dx dy dz k (lsStep dx dy dz s)).R.length = _
    rw [lsN_len]; simp [lsStep]
theorem ls_rounds (U V A : List (List Int)) (dx dy dz : Int) : RoundsOk (lsF U V A dx dy dz) (bodyOf Try.prog (sums K_items) L_it 33 0) 2416 := by
  rintro s ⟨h1, h2⟩
  refine ls_round U V A dx dy dz s ?_
  have lt : ls_s0 s → s.i < s.R.length := fun h => by unfold ls_s0 at h; simp at h; omega
  have e3 : ls_s3 dx dy dz s = s.R.set s.i (shA dx dy dz (s.R.getD s.i [])) := rfl
  have e4 : ls_s0 s → ls_s4 dx dy dz s = s.R.set s.i (shD dx dy dz (s.R.getD s.i [])) := fun h => by
    have : ls_s4 dx dy dz s = (ls_s3 dx dy dz s).set s.i (shB dx dy dz (s.R.getD s.i []) ((ls_s3 dx dy dz s).getD s.i [])) := rfl
    rw [this, e3, getD_set _ _ _ _ (lt h), set_set']; rfl
  have l3 : (ls_s3 dx dy dz s).length = s.R.length := by rw [e3]; simp
  have l4 : ls_s0 s → (ls_s4 dx dy dz s).length = s.R.length := fun h => by rw [e4 h]; simp
  have ei : (Int.ofNat s.i).toNat = s.i := rfl
  have e0 : (0 : Int) ≤ Int.ofNat s.i := by simp
  have ew : ls_s0 s → IntKind.i64.wrap (Int.ofNat s.i + 1) = Int.ofNat (s.i + 1) := fun h => by
    have := lt h
    rw [wrI (by simp; omega) (by simp; omega)]; rfl
  unfold ls_needs
  simp only [List.forall_mem_cons, List.not_mem_nil, false_implies, implies_true, and_true, ei, e0, true_and, l3]
  refine ⟨fun h => ?_, fun h => ⟨⟨?_, ?_⟩, ?_, ?_, (ew h).symm, ?_⟩, fun h => ?_⟩
  · simp only [l4 h]
    repeat' first | exact lt h | refine And.intro ?_ ?_ | intro _
  · show s.i + 1 ≤ (s.R.set s.i _).length
    have := lt h
    rw [List.length_set]; omega
  · show (s.R.set s.i _).length ≤ 1000
    rw [List.length_set]; exact h2
  · show (s.R.set s.i _).length - (s.i + 1) < s.R.length - s.i
    have := lt h
    rw [List.length_set]; omega
  · show lsN dx dy dz ((s.R.set s.i _).length - (s.i + 1)) (lsStep dx dy dz s) = lsN dx dy dz (s.R.length - s.i) s
    have := lt h
    rw [List.length_set, show s.R.length - s.i = (s.R.length - (s.i + 1)) + 1 by omega]; rfl
  · show s.R.set s.i (sh dx dy dz (s.R.getD s.i [])) = _
    have e5 : ls_s5 dx dy dz s = ((s.R.getD s.i []).getD 0 0 == 3) := by
      unfold ls_s5; rw [e4 h, ei]; rw [getD_set _ _ _ _ (lt h)]; rfl
    have e2 : ls_s2 s = decide ((s.R.getD s.i []).getD 0 0 > 6) := rfl
    rw [e5, e2, e4 h, getD_set _ _ _ _ (lt h), set_set']
    unfold sh
    cases decide ((s.R.getD s.i []).getD 0 0 > 6)
    · cases (s.R.getD s.i []).getD 0 0 == 3
      · rfl
      · rfl
    · exact set_getD _ _ _
  · have : s.R.length - s.i = 0 := by simp at h; omega
    show (lsN dx dy dz (s.R.length - s.i) s).R = s.R
    rw [this]; rfl
noncomputable def lsLp : LoopS := fun env mem m => match SX.look mem 2406, SX.look mem 2351, SX.look mem 1175, SX.look mem 0, SX.look mem 1 with
  | some (.blk _ [(_, .int _ x), (_, .int _ y), (_, .int _ z)]), some (.row _ _ _ (.lst _ _ R)), some (.row _ _ _ (.lst _ _ A)), some (.row _ _ _ (.lst _ _ U)), some (.row _ _ _ (.lst _ _ V)) => famS (lsF U V A x.val y.val z.val) 2416 (fun _ _ => some ⟨0, R⟩) env mem m
  | _, _, _, _, _ => none
noncomputable def L_ls : FuncId → Nat → Option LoopS := addL L_it 33 4 lsLp
theorem known_lsL : Known Try.prog (sums K_items) L_ls := by
  refine known_addL 0 known_items (by kernel_rfl) (codeOk_of fun env mem m x h => ?_)
  unfold lsLp at h
  have hlen : (loopList Try.prog 33).length = 1 := by kernel_rfl
  split at h
  · exact ⟨_, fam_ok (bodyOf_ok plainN known_items (by omega)) (ls_rounds _ _ _ _ _ _), h⟩
  · cases h
noncomputable def xD (L R : List (List Int)) (j k : Nat) : Int := minus_0 (((contL 0 L).getD (IntKind.i64.wrap (Int.ofNat (contL 0 L).length - 1)).toNat []).getD j 0) (((contL 0 R).getD 0 []).getD k 0)
/-- The second contour, moved. -/
noncomputable def xB (L R : List (List Int)) : List (List Int) := (lsN (xD L R 5 2) (xD L R 6 3) (xD L R 7 4) ((contL 0 R).length - 0) ⟨0, contL 0 R⟩).R
noncomputable def itK (k n : Int) : List Int := [k, 0, 0, 0, 0, 0, 0, 0, 0, 0, 0, 0, 0, 0, 0, 0, 0, 0, 0, n, 0, 0]
noncomputable def xL (L R : List (List Int)) : List (List Int) := [itK 12 0] ++ contL 0 L ++ [itK 7 3] ++ xB L R
theorem xB_len (L R : List (List Int)) : (xB L R).length = (contL 0 R).length := by unfold xB; rw [lsN_len]
theorem xL_len (L R : List (List Int)) : 8 ≤ (xL L R).length ∧ (xL L R).length ≤ 18 := by
  have h1 := contL_len 0 L
  have h2 := contL_len 0 R
  have h3 := xB_len L R
  unfold xL
  simp only [List.length_append, List.length_cons, List.length_nil]; omega
noncomputable def rlist_tpl : Tpl := ⟨[.one (.wh 0), .one (.wh 1)], [(0, .row true 3 1 2 [.int .i64]), (1, .row true 3 1 3 [.int .i64])], 4⟩
noncomputable def rlist_0 (L : List (List Int)) (R : List (List Int)) : List (List Int) :=
  [[12, 0, 0, 0, 0, 0, 0, 0, 0, 0, 0, 0, 0, 0, 0, 0, 0, 0, 0, 0, 0, 0]] ++ contL 0 L ++ [[7, 0, 0, 0, 0, 0, 0, 0, 0, 0, 0, 0, 0, 0, 0, 0, 0, 0, 0, 3, 0, 0]] ++
   ((lsF L R (contL 0 L) (minus_0 (((contL 0 L).getD (IntKind.i64.wrap (Int.ofNat (contL 0 L).length - 1)).toNat []).getD 5 0) (((contL 0 R).getD 0 []).getD 2 0))
   (minus_0 (((contL 0 L).getD (IntKind.i64.wrap (Int.ofNat (contL 0 L).length - 1)).toNat []).getD 6 0) (((contL 0 R).getD 0 []).getD 3 0))
   (minus_0 (((contL 0 L).getD (IntKind.i64.wrap (Int.ofNat (contL 0 L).length - 1)).toNat []).getD 7 0) (((contL 0 R).getD 0 []).getD 4 0))).fin
   (LS.mk 0 (contL 0 R))).R
noncomputable def rlist_s0 (L : List (List Int)) : Int :=
  IntKind.i64.wrap (Int.ofNat (contL 0 L).length - 1)
noncomputable def rlist_s1 (L : List (List Int)) : List (List Int) :=
  [[12, 0, 0, 0, 0, 0, 0, 0, 0, 0, 0, 0, 0, 0, 0, 0, 0, 0, 0, 0, 0, 0]] ++ contL 0 L
noncomputable def rlist_needs (L : List (List Int)) (R : List (List Int)) : List Prop :=
  [Int.ofNat 0 ≤ 0, L.length ≤ 1000000, Int.ofNat 0 ≤ 0, R.length ≤ 1000000, 0 ≤ rlist_s0 L, (rlist_s0 L).toNat < (contL 0 L).length, (rlist_s0 L).toNat < (contL 0 L).length,
   (rlist_s0 L).toNat < (contL 0 L).length, 0 < (contL 0 R).length, 0 < (contL 0 R).length, 0 < (contL 0 R).length,
   (LS.mk 0 (contL 0 R)).i ≤ (LS.mk 0 (contL 0 R)).R.length ∧ (LS.mk 0 (contL 0 R)).R.length ≤ 1000, Int.ofNat (LS.mk 0 (contL 0 R)).i = 0, (LS.mk 0 (contL 0 R)).R = contL 0 R,
   (1 + (contL 0 L).length) * 176 ≤ 140737488355328, 1 + (contL 0 L).length ≤ 9223372036854775807, ((rlist_s1 L).length + 1) * 176 ≤ 140737488355328, (rlist_s1 L).length + 1 ≤ 9223372036854775807,
   ((rlist_s1 L ++ [[7, 0, 0, 0, 0, 0, 0, 0, 0, 0, 0, 0, 0, 0, 0, 0, 0, 0, 0, 3, 0, 0]]).length +
   ((lsF L R (contL 0 L) (minus_0 (((contL 0 L).getD (rlist_s0 L).toNat []).getD 5 0) (((contL 0 R).getD 0 []).getD 2 0))
   (minus_0 (((contL 0 L).getD (rlist_s0 L).toNat []).getD 6 0) (((contL 0 R).getD 0 []).getD 3 0))
   (minus_0 (((contL 0 L).getD (rlist_s0 L).toNat []).getD 7 0) (((contL 0 R).getD 0 []).getD 4 0))).fin
   (LS.mk 0 (contL 0 R))).R.length) *
   176 ≤
   140737488355328,
   (rlist_s1 L ++ [[7, 0, 0, 0, 0, 0, 0, 0, 0, 0, 0, 0, 0, 0, 0, 0, 0, 0, 0, 3, 0, 0]]).length +
   ((lsF L R (contL 0 L) (minus_0 (((contL 0 L).getD (rlist_s0 L).toNat []).getD 5 0) (((contL 0 R).getD 0 []).getD 2 0))
   (minus_0 (((contL 0 L).getD (rlist_s0 L).toNat []).getD 6 0) (((contL 0 R).getD 0 []).getD 3 0))
   (minus_0 (((contL 0 L).getD (rlist_s0 L).toNat []).getD 7 0) (((contL 0 R).getD 0 []).getD 4 0))).fin
   (LS.mk 0 (contL 0 R))).R.length ≤
   9223372036854775807]
theorem rlist_weak {L : List (List Int)} {R : List (List Int)} (hW : ∀ q ∈ ([L.length ≤ 1000000, R.length ≤ 1000000] : List Prop), q) : ∀ q ∈ (rlist_needs L R), q := by
  simp only [List.mem_cons, List.not_mem_nil, or_false, forall_eq_or_imp, forall_eq] at hW
  unfold rlist_needs
  simp only [List.forall_mem_cons, List.not_mem_nil, false_implies, implies_true, and_true]
  obtain ⟨h1, h2⟩ := hW
  have a1 := contL_len 0 L
  have a2 := contL_len 0 R
  have a3 := xB_len L R
  have w : (rlist_s0 L).toNat < (contL 0 L).length ∧ 0 ≤ rlist_s0 L := by
    unfold rlist_s0; rw [Int.ofNat_eq_natCast, wrI (by omega) (by omega)]; omega
  have p : 0 < (contL 0 R).length := by omega
  have e1 : (rlist_s1 L).length = 1 + (contL 0 L).length := by unfold rlist_s1; simp; omega
  have e2 : ∀ r, (rlist_s1 L ++ [r]).length = 2 + (contL 0 L).length := fun r => by rw [List.length_append, e1]; simp; omega
  refine ⟨by decide, h1, by decide, h2, w.2, w.1, w.1, w.1, p, p, p, ⟨Nat.zero_le _, (show (contL 0 R).length ≤ 1000 by omega)⟩, (by first | exact trivial | rfl), (by first | exact trivial | rfl), by omega, by omega, by omega, by omega, ?_, ?_⟩
  · rw [e2]
    show (2 + (contL 0 L).length + (xB L R).length) * 176 ≤ _
    omega
  · rw [e2]
    show 2 + (contL 0 L).length + (xB L R).length ≤ _
    omega
set_option maxRecDepth 1000000 in
theorem rlist_runs (L R : List (List Int)) (hNeeds : ∀ pN ∈ (rlist_needs L R), pN) : Runs (runF (sums K_items) L_ls 33) (rlist_tpl.args []) (rlist_tpl.memo [] [L, R]) rlist_tpl.n (SV.one (SC.wh 2536))
    ([(2536,
     Obj.row false 86 22
     (RowC.lst 2538
     [CK.int IntKind.i64, CK.int IntKind.i64, CK.int IntKind.i64, CK.int IntKind.i64, CK.int IntKind.i64, CK.int IntKind.i64, CK.int IntKind.i64, CK.int IntKind.i64, CK.int IntKind.i64,
     CK.int IntKind.i64, CK.int IntKind.i64, CK.int IntKind.i64, CK.int IntKind.i64, CK.bool, CK.int IntKind.i64, CK.bool, CK.int IntKind.i64, CK.int IntKind.i64, CK.int IntKind.i64,
     CK.int IntKind.i64, CK.int IntKind.i64, CK.bool]
     (rlist_0 L R))),
    (0, Obj.row true 3 1 (RowC.lst 2 [CK.int IntKind.i64] L)), (1, Obj.row true 3 1 (RowC.lst 3 [CK.int IntKind.i64] R))]) :=
  Runs.of1 (ps := (rlist_needs L R)) (by kernel_rfl) hNeeds
noncomputable def rlist_out : List Pm → Lss → Option CRes
  | [], [L, R] => some ⟨SV.one (SC.wh 2536),
    [(2536,
     Obj.row false 86 22
     (RowC.lst 2538
     [CK.int IntKind.i64, CK.int IntKind.i64, CK.int IntKind.i64, CK.int IntKind.i64, CK.int IntKind.i64, CK.int IntKind.i64, CK.int IntKind.i64, CK.int IntKind.i64, CK.int IntKind.i64,
     CK.int IntKind.i64, CK.int IntKind.i64, CK.int IntKind.i64, CK.int IntKind.i64, CK.bool, CK.int IntKind.i64, CK.bool, CK.int IntKind.i64, CK.int IntKind.i64, CK.int IntKind.i64,
     CK.int IntKind.i64, CK.int IntKind.i64, CK.bool]
     ((xL L R)))),
    (0, Obj.row true 3 1 (RowC.lst 2 [CK.int IntKind.i64] L)), (1, Obj.row true 3 1 (RowC.lst 3 [CK.int IntKind.i64] R))],
    [L.length ≤ 1000000, R.length ≤ 1000000], [], 2541⟩
  | _, _ => none
theorem rlist_turned (L R : List (List Int)) (hNeeds : ∀ pN ∈ (rlist_needs L R), pN) : Runs (runF (sums K_items) L_ls 33) (rlist_tpl.args []) (rlist_tpl.memo [] [L, R]) rlist_tpl.n (SV.one (SC.wh 2536))
    ([(2536,
     Obj.row false 86 22
     (RowC.lst 2538
     [CK.int IntKind.i64, CK.int IntKind.i64, CK.int IntKind.i64, CK.int IntKind.i64, CK.int IntKind.i64, CK.int IntKind.i64, CK.int IntKind.i64, CK.int IntKind.i64, CK.int IntKind.i64,
     CK.int IntKind.i64, CK.int IntKind.i64, CK.int IntKind.i64, CK.int IntKind.i64, CK.bool, CK.int IntKind.i64, CK.bool, CK.int IntKind.i64, CK.int IntKind.i64, CK.int IntKind.i64,
     CK.int IntKind.i64, CK.int IntKind.i64, CK.bool]
     ((xL L R)))),
    (0, Obj.row true 3 1 (RowC.lst 2 [CK.int IntKind.i64] L)), (1, Obj.row true 3 1 (RowC.lst 3 [CK.int IntKind.i64] R))]) :=
  (rlist_runs L R hNeeds).to (by first | rfl | (simp only [])) (by first | rfl | (simp only []))
theorem rlist_ok : FOk Try.prog 33 (tplS rlist_tpl rlist_out) := by
  refine tplS_ok (runF_ok known_lsL 33) fun ps ls r hr hn _ => ?_
  unfold rlist_out at hr
  split at hr
  · cases hr; exact ⟨_, rlist_turned _ _ (rlist_weak (by exact hn)), fun _ => rfl⟩
  · cases hr
noncomputable def K_rlist : List (Nat × Summ) := (33, tplS rlist_tpl rlist_out) :: K_items
theorem known_rlist : Known Try.prog (sums K_rlist) L_ls := known_cons known_lsL rlist_ok
noncomputable def K_xl : List (Nat × Summ) := (33, roS (tplS rlist_tpl rlist_out)) :: K_items
theorem known_xl : Known Try.prog (sums K_xl) L_ls := known_cons known_lsL (roS_ok rlist_ok)
end Go.Proofs.Ythgiaoidekdpfaa
