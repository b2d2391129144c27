/-
  THE LAW ClearanceContours. Conditions: none.
-/
import Derived.Test.YthgiaoidekdpfaaHX
set_option linter.all false
namespace Go.Proofs.Ythgiaoidekdpfaa
open Go.SX Go.RowKit
theorem light_len {L : List (List Int)} (h : light_0 L = true) : L.length ≤ 1000000 := by
  unfold light_0 at h; simp at h; omega
noncomputable def lawCo_tpl : Tpl := ⟨[.one (.wh 0), .one (.wh 1)], [(0, .row true 3 1 2 [.int .i64]), (1, .row true 3 1 3 [.int .i64])], 4⟩
noncomputable def lawCo_0 (L : List (List Int)) (R : List (List Int)) : Bool :=
  bif !light_0 L || !light_0 R then true
  else
   bif
   !!(Int.ofNat ((coF (xL L R) (xL L R).length).fin (CO.mk 0 [])).fst.f != Int.ofNat ((rcF (xL L R) (xL L R).length).fin (RQ.mk 0 0 false [])).fst.f ||
   Int.ofNat ((coF (xL L R) (xL L R).length).fin (CO.mk 0 [])).fst.e != Int.ofNat ((rcF (xL L R) (xL L R).length).fin (RQ.mk 0 0 false [])).fst.e ||
   ((coF (xL L R) (xL L R).length).fin (CO.mk 0 [])).fst.sd != ((rcF (xL L R) (xL L R).length).fin (RQ.mk 0 0 false [])).fst.sd ||
   ((coF (xL L R) (xL L R).length).fin (CO.mk 0 [])).fst.ra != ((rcF (xL L R) (xL L R).length).fin (RQ.mk 0 0 false [])).fst.ra ||
   Int.ofNat ((coF (xL L R) (xL L R).length).fin (CO.mk 0 [])).fst.R.length != Int.ofNat ((rcF (xL L R) (xL L R).length).fin (RQ.mk 0 0 false [])).fst.R.length) then
   false
   else
   bif
   !!(Int.ofNat ((coF (xL L R) (xL L R).length).fin (CO.mk 0 [])).snd.f != Int.ofNat ((rcF (xL L R) (xL L R).length).fin (RQ.mk 0 0 false [])).snd.f ||
   Int.ofNat ((coF (xL L R) (xL L R).length).fin (CO.mk 0 [])).snd.e != Int.ofNat ((rcF (xL L R) (xL L R).length).fin (RQ.mk 0 0 false [])).snd.e ||
   ((coF (xL L R) (xL L R).length).fin (CO.mk 0 [])).snd.sd != ((rcF (xL L R) (xL L R).length).fin (RQ.mk 0 0 false [])).snd.sd ||
   ((coF (xL L R) (xL L R).length).fin (CO.mk 0 [])).snd.ra != ((rcF (xL L R) (xL L R).length).fin (RQ.mk 0 0 false [])).snd.ra ||
   Int.ofNat ((coF (xL L R) (xL L R).length).fin (CO.mk 0 [])).snd.R.length != Int.ofNat ((rcF (xL L R) (xL L R).length).fin (RQ.mk 0 0 false [])).snd.R.length) then
   false
   else
   bif
   !!(Int.ofNat ((coF (xL L R) ((IntKind.i64.wrap (Int.ofNat (xL L R).length - 1)).toNat - 0)).fin (CO.mk 0 [])).fst.f !=
   Int.ofNat ((rcF (xL L R) ((IntKind.i64.wrap (Int.ofNat (xL L R).length - 1)).toNat - 0)).fin (RQ.mk 0 0 false [])).fst.f ||
   Int.ofNat ((coF (xL L R) ((IntKind.i64.wrap (Int.ofNat (xL L R).length - 1)).toNat - 0)).fin (CO.mk 0 [])).fst.e !=
   Int.ofNat ((rcF (xL L R) ((IntKind.i64.wrap (Int.ofNat (xL L R).length - 1)).toNat - 0)).fin (RQ.mk 0 0 false [])).fst.e ||
   ((coF (xL L R) ((IntKind.i64.wrap (Int.ofNat (xL L R).length - 1)).toNat - 0)).fin (CO.mk 0 [])).fst.sd !=
   ((rcF (xL L R) ((IntKind.i64.wrap (Int.ofNat (xL L R).length - 1)).toNat - 0)).fin (RQ.mk 0 0 false [])).fst.sd ||
   ((coF (xL L R) ((IntKind.i64.wrap (Int.ofNat (xL L R).length - 1)).toNat - 0)).fin (CO.mk 0 [])).fst.ra !=
   ((rcF (xL L R) ((IntKind.i64.wrap (Int.ofNat (xL L R).length - 1)).toNat - 0)).fin (RQ.mk 0 0 false [])).fst.ra ||
   Int.ofNat ((coF (xL L R) ((IntKind.i64.wrap (Int.ofNat (xL L R).length - 1)).toNat - 0)).fin (CO.mk 0 [])).fst.R.length !=
   Int.ofNat ((rcF (xL L R) ((IntKind.i64.wrap (Int.ofNat (xL L R).length - 1)).toNat - 0)).fin (RQ.mk 0 0 false [])).fst.R.length) then
   false
   else
   bif
   !!(Int.ofNat ((coF (xL L R) ((IntKind.i64.wrap (Int.ofNat (xL L R).length - 1)).toNat - 0)).fin (CO.mk 0 [])).snd.f !=
   Int.ofNat ((rcF (xL L R) ((IntKind.i64.wrap (Int.ofNat (xL L R).length - 1)).toNat - 0)).fin (RQ.mk 0 0 false [])).snd.f ||
   Int.ofNat ((coF (xL L R) ((IntKind.i64.wrap (Int.ofNat (xL L R).length - 1)).toNat - 0)).fin (CO.mk 0 [])).snd.e !=
   Int.ofNat ((rcF (xL L R) ((IntKind.i64.wrap (Int.ofNat (xL L R).length - 1)).toNat - 0)).fin (RQ.mk 0 0 false [])).snd.e ||
   ((coF (xL L R) ((IntKind.i64.wrap (Int.ofNat (xL L R).length - 1)).toNat - 0)).fin (CO.mk 0 [])).snd.sd !=
   ((rcF (xL L R) ((IntKind.i64.wrap (Int.ofNat (xL L R).length - 1)).toNat - 0)).fin (RQ.mk 0 0 false [])).snd.sd ||
   ((coF (xL L R) ((IntKind.i64.wrap (Int.ofNat (xL L R).length - 1)).toNat - 0)).fin (CO.mk 0 [])).snd.ra !=
   ((rcF (xL L R) ((IntKind.i64.wrap (Int.ofNat (xL L R).length - 1)).toNat - 0)).fin (RQ.mk 0 0 false [])).snd.ra ||
   Int.ofNat ((coF (xL L R) ((IntKind.i64.wrap (Int.ofNat (xL L R).length - 1)).toNat - 0)).fin (CO.mk 0 [])).snd.R.length !=
   Int.ofNat ((rcF (xL L R) ((IntKind.i64.wrap (Int.ofNat (xL L R).length - 1)).toNat - 0)).fin (RQ.mk 0 0 false [])).snd.R.length) then
   false
   else true
noncomputable def lawCo_s0 (L : List (List Int)) (R : List (List Int)) : Int :=
  IntKind.i64.wrap (Int.ofNat (xL L R).length - 1)
noncomputable def lawCo_s1 (L : List (List Int)) (R : List (List Int)) : Prop :=
  0 + (segOf (stX (xL L R)) (goX (xL L R)) (xL L R).length 0).length = 2
noncomputable def lawCo_s2 (L : List (List Int)) (R : List (List Int)) : Int :=
  Int.ofNat ((coF (xL L R) (xL L R).length).fin (CO.mk 0 [])).fst.f
noncomputable def lawCo_s3 (L : List (List Int)) (R : List (List Int)) : Int :=
  Int.ofNat ((rcF (xL L R) (xL L R).length).fin (RQ.mk 0 0 false [])).fst.f
noncomputable def lawCo_s4 (L : List (List Int)) (R : List (List Int)) : Int :=
  Int.ofNat ((coF (xL L R) (xL L R).length).fin (CO.mk 0 [])).fst.e
noncomputable def lawCo_s5 (L : List (List Int)) (R : List (List Int)) : Int :=
  Int.ofNat ((rcF (xL L R) (xL L R).length).fin (RQ.mk 0 0 false [])).fst.e
noncomputable def lawCo_s6 (L : List (List Int)) (R : List (List Int)) : Int :=
  ((coF (xL L R) (xL L R).length).fin (CO.mk 0 [])).fst.sd
noncomputable def lawCo_s7 (L : List (List Int)) (R : List (List Int)) : Int :=
  ((rcF (xL L R) (xL L R).length).fin (RQ.mk 0 0 false [])).fst.sd
noncomputable def lawCo_s8 (L : List (List Int)) (R : List (List Int)) : Int :=
  ((coF (xL L R) (xL L R).length).fin (CO.mk 0 [])).fst.ra
noncomputable def lawCo_s9 (L : List (List Int)) (R : List (List Int)) : Int :=
  ((rcF (xL L R) (xL L R).length).fin (RQ.mk 0 0 false [])).fst.ra
noncomputable def lawCo_s10 (L : List (List Int)) (R : List (List Int)) : List (List Int) :=
  ((coF (xL L R) (xL L R).length).fin (CO.mk 0 [])).fst.R
noncomputable def lawCo_s11 (L : List (List Int)) (R : List (List Int)) : List (List Int) :=
  ((rcF (xL L R) (xL L R).length).fin (RQ.mk 0 0 false [])).fst.R
noncomputable def lawCo_s12 (L : List (List Int)) (R : List (List Int)) : Bool :=
  lawCo_s2 L R != lawCo_s3 L R || lawCo_s4 L R != lawCo_s5 L R || lawCo_s6 L R != lawCo_s7 L R || lawCo_s8 L R != lawCo_s9 L R || Int.ofNat (lawCo_s10 L R).length != Int.ofNat (lawCo_s11 L R).length
noncomputable def lawCo_s13 (L : List (List Int)) (R : List (List Int)) : List (List Int) :=
  (CT.mk (lawCo_s2 L R).toNat (lawCo_s4 L R).toNat (lawCo_s6 L R) (lawCo_s8 L R) (lawCo_s10 L R)).R
noncomputable def lawCo_s14 (L : List (List Int)) (R : List (List Int)) : Int :=
  Int.ofNat ((coF (xL L R) (xL L R).length).fin (CO.mk 0 [])).snd.f
noncomputable def lawCo_s15 (L : List (List Int)) (R : List (List Int)) : Int :=
  Int.ofNat ((rcF (xL L R) (xL L R).length).fin (RQ.mk 0 0 false [])).snd.f
noncomputable def lawCo_s16 (L : List (List Int)) (R : List (List Int)) : Int :=
  Int.ofNat ((coF (xL L R) (xL L R).length).fin (CO.mk 0 [])).snd.e
noncomputable def lawCo_s17 (L : List (List Int)) (R : List (List Int)) : Int :=
  Int.ofNat ((rcF (xL L R) (xL L R).length).fin (RQ.mk 0 0 false [])).snd.e
noncomputable def lawCo_s18 (L : List (List Int)) (R : List (List Int)) : Int :=
  ((coF (xL L R) (xL L R).length).fin (CO.mk 0 [])).snd.sd
noncomputable def lawCo_s19 (L : List (List Int)) (R : List (List Int)) : Int :=
  ((rcF (xL L R) (xL L R).length).fin (RQ.mk 0 0 false [])).snd.sd
noncomputable def lawCo_s20 (L : List (List Int)) (R : List (List Int)) : Int :=
  ((coF (xL L R) (xL L R).length).fin (CO.mk 0 [])).snd.ra
noncomputable def lawCo_s21 (L : List (List Int)) (R : List (List Int)) : Int :=
  ((rcF (xL L R) (xL L R).length).fin (RQ.mk 0 0 false [])).snd.ra
noncomputable def lawCo_s22 (L : List (List Int)) (R : List (List Int)) : List (List Int) :=
  ((coF (xL L R) (xL L R).length).fin (CO.mk 0 [])).snd.R
noncomputable def lawCo_s23 (L : List (List Int)) (R : List (List Int)) : List (List Int) :=
  ((rcF (xL L R) (xL L R).length).fin (RQ.mk 0 0 false [])).snd.R
noncomputable def lawCo_s24 (L : List (List Int)) (R : List (List Int)) : Bool :=
  lawCo_s14 L R != lawCo_s15 L R || lawCo_s16 L R != lawCo_s17 L R || lawCo_s18 L R != lawCo_s19 L R || lawCo_s20 L R != lawCo_s21 L R ||
   Int.ofNat (lawCo_s22 L R).length != Int.ofNat (lawCo_s23 L R).length
noncomputable def lawCo_s25 (L : List (List Int)) (R : List (List Int)) : List (List Int) :=
  (CT.mk (lawCo_s14 L R).toNat (lawCo_s16 L R).toNat (lawCo_s18 L R) (lawCo_s20 L R) (lawCo_s22 L R)).R
noncomputable def lawCo_s26 (L : List (List Int)) (R : List (List Int)) : Prop :=
  0 + (segOf (stX (xL L R)) (goX (xL L R)) ((lawCo_s0 L R).toNat - 0) 0).length = 2
noncomputable def lawCo_s27 (L : List (List Int)) (R : List (List Int)) : Int :=
  Int.ofNat ((coF (xL L R) ((lawCo_s0 L R).toNat - 0)).fin (CO.mk 0 [])).fst.f
noncomputable def lawCo_s28 (L : List (List Int)) (R : List (List Int)) : Int :=
  Int.ofNat ((rcF (xL L R) ((lawCo_s0 L R).toNat - 0)).fin (RQ.mk 0 0 false [])).fst.f
noncomputable def lawCo_s29 (L : List (List Int)) (R : List (List Int)) : Int :=
  Int.ofNat ((coF (xL L R) ((lawCo_s0 L R).toNat - 0)).fin (CO.mk 0 [])).fst.e
noncomputable def lawCo_s30 (L : List (List Int)) (R : List (List Int)) : Int :=
  Int.ofNat ((rcF (xL L R) ((lawCo_s0 L R).toNat - 0)).fin (RQ.mk 0 0 false [])).fst.e
noncomputable def lawCo_s31 (L : List (List Int)) (R : List (List Int)) : Int :=
  ((coF (xL L R) ((lawCo_s0 L R).toNat - 0)).fin (CO.mk 0 [])).fst.sd
noncomputable def lawCo_s32 (L : List (List Int)) (R : List (List Int)) : Int :=
  ((rcF (xL L R) ((lawCo_s0 L R).toNat - 0)).fin (RQ.mk 0 0 false [])).fst.sd
noncomputable def lawCo_s33 (L : List (List Int)) (R : List (List Int)) : Int :=
  ((coF (xL L R) ((lawCo_s0 L R).toNat - 0)).fin (CO.mk 0 [])).fst.ra
noncomputable def lawCo_s34 (L : List (List Int)) (R : List (List Int)) : Int :=
  ((rcF (xL L R) ((lawCo_s0 L R).toNat - 0)).fin (RQ.mk 0 0 false [])).fst.ra
noncomputable def lawCo_s35 (L : List (List Int)) (R : List (List Int)) : List (List Int) :=
  ((coF (xL L R) ((lawCo_s0 L R).toNat - 0)).fin (CO.mk 0 [])).fst.R
noncomputable def lawCo_s36 (L : List (List Int)) (R : List (List Int)) : List (List Int) :=
  ((rcF (xL L R) ((lawCo_s0 L R).toNat - 0)).fin (RQ.mk 0 0 false [])).fst.R
noncomputable def lawCo_s37 (L : List (List Int)) (R : List (List Int)) : Bool :=
  lawCo_s27 L R != lawCo_s28 L R || lawCo_s29 L R != lawCo_s30 L R || lawCo_s31 L R != lawCo_s32 L R || lawCo_s33 L R != lawCo_s34 L R ||
   Int.ofNat (lawCo_s35 L R).length != Int.ofNat (lawCo_s36 L R).length
noncomputable def lawCo_s38 (L : List (List Int)) (R : List (List Int)) : List (List Int) :=
  (CT.mk (lawCo_s27 L R).toNat (lawCo_s29 L R).toNat (lawCo_s31 L R) (lawCo_s33 L R) (lawCo_s35 L R)).R
noncomputable def lawCo_s39 (L : List (List Int)) (R : List (List Int)) : Int :=
  Int.ofNat ((coF (xL L R) ((lawCo_s0 L R).toNat - 0)).fin (CO.mk 0 [])).snd.f
noncomputable def lawCo_s40 (L : List (List Int)) (R : List (List Int)) : Int :=
  Int.ofNat ((rcF (xL L R) ((lawCo_s0 L R).toNat - 0)).fin (RQ.mk 0 0 false [])).snd.f
noncomputable def lawCo_s41 (L : List (List Int)) (R : List (List Int)) : Int :=
  Int.ofNat ((coF (xL L R) ((lawCo_s0 L R).toNat - 0)).fin (CO.mk 0 [])).snd.e
noncomputable def lawCo_s42 (L : List (List Int)) (R : List (List Int)) : Int :=
  Int.ofNat ((rcF (xL L R) ((lawCo_s0 L R).toNat - 0)).fin (RQ.mk 0 0 false [])).snd.e
noncomputable def lawCo_s43 (L : List (List Int)) (R : List (List Int)) : Int :=
  ((coF (xL L R) ((lawCo_s0 L R).toNat - 0)).fin (CO.mk 0 [])).snd.sd
noncomputable def lawCo_s44 (L : List (List Int)) (R : List (List Int)) : Int :=
  ((rcF (xL L R) ((lawCo_s0 L R).toNat - 0)).fin (RQ.mk 0 0 false [])).snd.sd
noncomputable def lawCo_s45 (L : List (List Int)) (R : List (List Int)) : Int :=
  ((coF (xL L R) ((lawCo_s0 L R).toNat - 0)).fin (CO.mk 0 [])).snd.ra
noncomputable def lawCo_s46 (L : List (List Int)) (R : List (List Int)) : Int :=
  ((rcF (xL L R) ((lawCo_s0 L R).toNat - 0)).fin (RQ.mk 0 0 false [])).snd.ra
noncomputable def lawCo_s47 (L : List (List Int)) (R : List (List Int)) : List (List Int) :=
  ((coF (xL L R) ((lawCo_s0 L R).toNat - 0)).fin (CO.mk 0 [])).snd.R
noncomputable def lawCo_s48 (L : List (List Int)) (R : List (List Int)) : List (List Int) :=
  ((rcF (xL L R) ((lawCo_s0 L R).toNat - 0)).fin (RQ.mk 0 0 false [])).snd.R
noncomputable def lawCo_s49 (L : List (List Int)) (R : List (List Int)) : Bool :=
  lawCo_s39 L R != lawCo_s40 L R || lawCo_s41 L R != lawCo_s42 L R || lawCo_s43 L R != lawCo_s44 L R || lawCo_s45 L R != lawCo_s46 L R ||
   Int.ofNat (lawCo_s47 L R).length != Int.ofNat (lawCo_s48 L R).length
noncomputable def lawCo_s50 (L : List (List Int)) (R : List (List Int)) : List (List Int) :=
  (CT.mk (lawCo_s39 L R).toNat (lawCo_s41 L R).toNat (lawCo_s43 L R) (lawCo_s45 L R) (lawCo_s47 L R)).R
noncomputable def lawCo_s51 (L : List (List Int)) : Prop :=
  (itmL 0 L).length ≤ 1000 ∧ ∀ (j : Nat), j < (itmL 0 L).length → stX (itmL 0 L) j = false
noncomputable def lawCo_needs (L : List (List Int)) (R : List (List Int)) : List Prop :=
  [(!light_0 L || !light_0 R) = false →
   L.length ≤ 1000000 ∧
   R.length ≤ 1000000 ∧
   0 ≤ lawCo_s0 L R ∧
   0 ≤ (lawCo_s0 L R).toNat ∧
   (lawCo_s0 L R).toNat ≤ (xL L R).length ∧
   (xL L R).length ≤ (xL L R).length ∧
   Int.ofNat 0 ≤ 0 ∧
   L.length ≤ 1000000 ∧
   (0 ≤ (xL L R).length + 1 ∧ (xL L R).length ≤ (xL L R).length ∧ (xL L R).length ≤ 1000 ∧ lawCo_s1 L R) ∧
   Int.ofNat 0 = 0 ∧
   (xL L R).length = (xL L R).length ∧
   (0 ≤ (xL L R).length ∧
   (xL L R).length ≤ (xL L R).length ∧
   (xL L R).length ≤ 1000 ∧
   (∀ (j : Nat),
   j < (xL L R).length →
   (rmot_0 (((xL L R).getD j []).getD 0 0) = true → ((xL L R).getD j []).getD 0 0 = 1 ∨ ((xL L R).getD j []).getD 0 0 = 2 ∨ ((xL L R).getD j []).getD 0 0 = 3) ∧
   (((xL L R).getD j []).getD 13 0 ≠ 0 → ((xL L R).getD j []).getD 0 0 = 3)) ∧
   lawCo_s1 L R) ∧
   Int.ofNat 0 = 0 ∧
   Int.ofNat 0 = 0 ∧
   (xL L R).length = (xL L R).length ∧
   (lawCo_s12 L R = false →
   (0 ≤ (lawCo_s13 L R).length ∧
   (lawCo_s13 L R).length ≤ 1000 ∧ lawCo_s13 L R = (CT.mk (lawCo_s3 L R).toNat (lawCo_s5 L R).toNat (lawCo_s7 L R) (lawCo_s9 L R) (lawCo_s11 L R)).R) ∧
   Int.ofNat 0 = 0) ∧
   ((!!lawCo_s12 L R) = false →
   lawCo_s24 L R = false →
   (0 ≤ (lawCo_s25 L R).length ∧
   (lawCo_s25 L R).length ≤ 1000 ∧ lawCo_s25 L R = (CT.mk (lawCo_s15 L R).toNat (lawCo_s17 L R).toNat (lawCo_s19 L R) (lawCo_s21 L R) (lawCo_s23 L R)).R) ∧
   Int.ofNat 0 = 0) ∧
   ((!!lawCo_s12 L R) = false →
   (!!lawCo_s24 L R) = false →
   (0 ≤ (lawCo_s0 L R).toNat - 0 + 1 ∧ (lawCo_s0 L R).toNat - 0 ≤ (xL L R).length ∧ (xL L R).length ≤ 1000 ∧ lawCo_s26 L R) ∧
   Int.ofNat 0 = 0 ∧
   (lawCo_s0 L R).toNat - 0 = (lawCo_s0 L R).toNat - 0 ∧
   (0 ≤ (lawCo_s0 L R).toNat - 0 ∧
   (lawCo_s0 L R).toNat - 0 ≤ (xL L R).length ∧
   (xL L R).length ≤ 1000 ∧
   (∀ (j : Nat),
   j < (lawCo_s0 L R).toNat - 0 →
   (rmot_0 (((xL L R).getD j []).getD 0 0) = true →
   ((xL L R).getD j []).getD 0 0 = 1 ∨ ((xL L R).getD j []).getD 0 0 = 2 ∨ ((xL L R).getD j []).getD 0 0 = 3) ∧
   (((xL L R).getD j []).getD 13 0 ≠ 0 → ((xL L R).getD j []).getD 0 0 = 3)) ∧
   lawCo_s26 L R) ∧
   Int.ofNat 0 = 0 ∧
   Int.ofNat 0 = 0 ∧
   (lawCo_s0 L R).toNat - 0 = (lawCo_s0 L R).toNat - 0 ∧
   (lawCo_s37 L R = false →
   (0 ≤ (lawCo_s38 L R).length ∧
   (lawCo_s38 L R).length ≤ 1000 ∧
   lawCo_s38 L R = (CT.mk (lawCo_s28 L R).toNat (lawCo_s30 L R).toNat (lawCo_s32 L R) (lawCo_s34 L R) (lawCo_s36 L R)).R) ∧
   Int.ofNat 0 = 0) ∧
   ((!!lawCo_s37 L R) = false →
   lawCo_s49 L R = false →
   (0 ≤ (lawCo_s50 L R).length ∧
   (lawCo_s50 L R).length ≤ 1000 ∧
   lawCo_s50 L R = (CT.mk (lawCo_s40 L R).toNat (lawCo_s42 L R).toNat (lawCo_s44 L R) (lawCo_s46 L R) (lawCo_s48 L R)).R) ∧
   Int.ofNat 0 = 0) ∧
   ((!!lawCo_s37 L R) = false →
   (!!lawCo_s49 L R) = false →
   (0 ≤ (itmL 0 L).length ∧ lawCo_s51 L) ∧ Int.ofNat 0 = 0 ∧ (0 ≤ (itmL 0 L).length ∧ lawCo_s51 L) ∧ Int.ofNat 0 = 0 ∧ Int.ofNat 0 = 0))]
theorem lawCo_0_eq (L R : List (List Int)) : (lawCo_0 L R) = true := by
  unfold lawCo_0
  simp only [fin_same, bne_self_eq_false, Bool.or_self, Bool.not_false, Bool.not_true, cond_false]
  cases !light_0 L || !light_0 R <;> rfl
theorem lawCo_need {L : List (List Int)} {R : List (List Int)} : ∀ q ∈ (lawCo_needs L R), q := by
  unfold lawCo_needs
  simp only [List.forall_mem_cons, List.not_mem_nil, false_implies, implies_true, and_true]
  intro hl
  simp only [Bool.or_eq_false_iff, Bool.not_eq_false'] at hl
  have h1 := light_len hl.1
  have h2 := light_len hl.2
  have hx := xL_len L R
  have e0 : (lawCo_s0 L R).toNat = (xL L R).length - 1 ∧ 0 ≤ lawCo_s0 L R := by
    unfold lawCo_s0
    rw [Int.ofNat_eq_natCast, wrI (by omega) (by omega)]; omega
  have t1 : lawCo_s1 L R := by unfold lawCo_s1; rw [Nat.zero_add]; exact (xL_two L R).1
  have t2 : lawCo_s26 L R := by unfold lawCo_s26; rw [Nat.zero_add, e0.1, Nat.sub_zero]; exact (xL_two L R).2
  have f1 := fin_len (xL L R) (xL L R).length (by omega)
  have f2 := fin_len (xL L R) ((lawCo_s0 L R).toNat - 0) (by omega)
  have hi : (itmL 0 L).length ≤ 1000 := by have := itmL_len 0 L; omega
  have ti : lawCo_s51 L := ⟨hi, itmL_st 0 L⟩
  have gd : ∀ j, j < (xL L R).length → gdR ((xL L R).getD j []) := xL_gd L R
  have gd' : ∀ j, j < (lawCo_s0 L R).toNat - 0 → gdR ((xL L R).getD j []) := fun j hj => gd j (by omega)
  have a13 : (lawCo_s13 L R).length ≤ 1000 := by unfold lawCo_s13 lawCo_s10; exact f1.1
  have r13 : lawCo_s13 L R = lawCo_s11 L R := by
    unfold lawCo_s13
    show lawCo_s10 L R = lawCo_s11 L R
    unfold lawCo_s10 lawCo_s11; rw [fin_same]
  have a25 : (lawCo_s25 L R).length ≤ 1000 := by unfold lawCo_s25 lawCo_s22; exact f1.2
  have r25 : lawCo_s25 L R = lawCo_s23 L R := by
    unfold lawCo_s25
    show lawCo_s22 L R = lawCo_s23 L R
    unfold lawCo_s22 lawCo_s23; rw [fin_same]
  have a38 : (lawCo_s38 L R).length ≤ 1000 := by unfold lawCo_s38 lawCo_s35; exact f2.1
  have r38 : lawCo_s38 L R = lawCo_s36 L R := by
    unfold lawCo_s38
    show lawCo_s35 L R = lawCo_s36 L R
    unfold lawCo_s35 lawCo_s36; rw [fin_same]
  have a50 : (lawCo_s50 L R).length ≤ 1000 := by unfold lawCo_s50 lawCo_s47; exact f2.2
  have r50 : lawCo_s50 L R = lawCo_s48 L R := by
    unfold lawCo_s50
    show lawCo_s47 L R = lawCo_s48 L R
    unfold lawCo_s47 lawCo_s48; rw [fin_same]
  refine ⟨h1, h2, e0.2, Nat.zero_le _, ?_, Nat.le_refl _, ?_, h1, ⟨Nat.zero_le _, Nat.le_refl _, ?_, t1⟩, ?_, ?_, ⟨Nat.zero_le _, Nat.le_refl _, ?_, gd, t1⟩, ?_, ?_, ?_,
    fun _ => ⟨⟨Nat.zero_le _, a13, r13⟩, ?_⟩, fun _ _ => ⟨⟨Nat.zero_le _, a25, r25⟩, ?_⟩,
    fun _ _ => ⟨⟨Nat.zero_le _, ?_, ?_, t2⟩, ?_, ?_, ⟨Nat.zero_le _, ?_, ?_, gd', t2⟩, ?_, ?_, ?_, fun _ => ⟨⟨Nat.zero_le _, a38, r38⟩, ?_⟩, fun _ _ => ⟨⟨Nat.zero_le _, a50, r50⟩, ?_⟩,
      fun _ _ => ⟨⟨Nat.zero_le _, ti⟩, ?_, ⟨Nat.zero_le _, ti⟩, ?_, ?_⟩⟩⟩ <;> first | exact trivial | (with_reducible rfl) | decide | omega
set_option maxRecDepth 1000000 in
theorem lawCo_runs (L R : List (List Int)) (hNeeds : ∀ pN ∈ (lawCo_needs L R), pN) : Runs (runF (sums K_mk) L_sm 10) (lawCo_tpl.args []) (lawCo_tpl.memo [] [L, R]) lawCo_tpl.n (SV.one (SC.bool (SB.v (lawCo_0 L R))))
    ([(0, Obj.row true 3 1 (RowC.lst 2 [CK.int IntKind.i64] L)), (1, Obj.row true 3 1 (RowC.lst 3 [CK.int IntKind.i64] R))]) :=
  Runs.of1 (ps := (lawCo_needs L R)) (by kernel_rfl) hNeeds
noncomputable def lawCo_out : List Pm → Lss → Option CRes
  | [], [L, R] => some ⟨SV.one (SC.bool (SB.c true)),
    [(0, Obj.row true 3 1 (RowC.lst 2 [CK.int IntKind.i64] L)), (1, Obj.row true 3 1 (RowC.lst 3 [CK.int IntKind.i64] R))],
    [], [], 7133⟩
  | _, _ => none
theorem lawCo_ok : FOk Try.prog 10 (tplS lawCo_tpl lawCo_out) := by
  refine tplS_ok (runF_ok known_smL 10) fun ps ls r hr hn _ => ?_
  unfold lawCo_out at hr
  split at hr
  · cases hr; exact ⟨_, lawCo_runs _ _ (fun p hp => lawCo_need p hp), fun _ => by simp only [SV.den, SC.den, SB.val, lawCo_0_eq]⟩
  · cases hr
noncomputable def K_lawCo : List (Nat × Summ) := (10, tplS lawCo_tpl lawCo_out) :: K_mk
theorem known_lawCo : Known Try.prog (sums K_lawCo) L_sm := known_cons known_smL lawCo_ok
end Go.Proofs.Ythgiaoidekdpfaa
