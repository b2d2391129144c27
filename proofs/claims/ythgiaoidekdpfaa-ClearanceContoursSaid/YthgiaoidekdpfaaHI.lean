/-
  ITEMS. Conditions: none.
-/
import Derived.Test.YthgiaoidekdpfaaHG
set_option linter.all false
namespace Go.Proofs.Ythgiaoidekdpfaa
open Go.SX Go.RowKit
structure IS where
  k : Nat
  a : Int
  x : Int
  y : Int
  z : Int
  R : List (List Int)
noncomputable def itG (L : List (List Int)) (a x y z : Int) : List GC := [.i (sitem_0 a L), .i (sitem_1 a L), .i (sitem_2 x a L), .i (sitem_2 y a L), .i (sitem_2 z a L), .i (sitem_5 x a L), .i (sitem_6 y a L), .i (sitem_7 z a L), .i (sitem_8 a L), .i (sitem_9 x a L), .i (sitem_10 y a L), .i (sitem_11 z a L), .i (sitem_12 a L), .b (sitem_13 a L), .i (sitem_14 a L), .b (sitem_15 a L), .i 0, .i 0, .i (sitem_16 a L), .i (sitem_17 a L), .i (sitem_18 a L), .b (sitem_19 a L)]
noncomputable def itV (L : List (List Int)) (s : IS) : Bool := rvalid_0 (itG L s.a s.x s.y s.z)
/-- An item that is left out, and one that is not. -/
noncomputable def imA (L : List (List Int)) (s : IS) : IS := ⟨s.k - 1, sitem_20 s.a L, s.x, s.y, s.z, s.R⟩
noncomputable def imB (L : List (List Int)) (s : IS) : IS := ⟨s.k - 1, sitem_20 s.a L, bif rmot_0 (sitem_0 s.a L) then sitem_5 s.x s.a L else s.x, bif rmot_0 (sitem_0 s.a L) then sitem_6 s.y s.a L else s.y, bif rmot_0 (sitem_0 s.a L) then sitem_7 s.z s.a L else s.z, s.R ++ [toRow (itG L s.a s.x s.y s.z)]⟩
noncomputable def itStep (L : List (List Int)) (s : IS) : IS := bif !itV L s then imA L s else imB L s
noncomputable def itN (L : List (List Int)) : Nat → IS → IS
  | 0, s => s
  | k + 1, s => itN L k (itStep L s)
noncomputable def itF (L : List (List Int)) : Fam IS IS where
  k := 100
  E s := [(5, ent 1000000000 (.one (I (Int.ofNat s.k)))), (4, ent 1000000001 (.one (.wh 326))), (3, ent 256 (.one (.ptr 252 0))), (0, ent 0 (.one (.ptr 0 0)))]
  M s := [(0, .blk 76 [(2, .wh 1), (1000000002, I s.a)]), rowL L, (252, .blk 43 [(1000000003, I s.x), (1000000004, I s.y), (1000000005, I s.z)]), rowI 326 1000000006 s.R]
  out s := .leaf (.exit 0) [(4, ent 321 (.one (.wh 326))), (3, ent 256 (.one (.ptr 252 0))), (0, ent 0 (.one (.ptr 0 0)))] [(0, .blk 76 [(2, .wh 1), (322, I s.a)]), rowL L, (252, .blk 43 [(323, I s.x), (324, I s.y), (325, I s.z)]), rowI 326 327 s.R]
  fin s := itN L s.k s
  next s i := match i with
    | 0 => imA L s
    | _ => imB L s
  J s := 0 ≤ s.a ∧ L.length ≤ 1000000 ∧ s.R.length + s.k ≤ 1000
  μ s := s.k
theorem bif_nn {c : Bool} {a b : Int} (h : 0 ≤ a) (h' : 0 ≤ b) : 0 ≤ (bif c then a else b) := by cases c <;> assumption
theorem bif_nn3 {c : Bool} {a b : Int} (h : 0 ≤ a) (h' : 0 ≤ b) : 0 ≤ (bif c then a else b) := bif_nn h h'
theorem sarc_end_nn {a : Int} {L : List (List Int)} (h1 : 0 ≤ a) (h2 : L.length ≤ 1000000) : 0 ≤ sitem_20 a L := by
  have nn : ∀ x, 0 ≤ x → 0 ≤ next_1 x L := fun x h => next_1_nn x L h h2
  have sp : ∀ x, 0 ≤ x → 0 ≤ spokes_6 x L := fun x h => spokes_6_nn x L h h2
  unfold sitem_20
  repeat' first | with_reducible exact h1 | with_reducible refine nn _ ?_ | with_reducible refine sp _ ?_ | with_reducible refine bif_nn ?_ ?_
noncomputable def it_s0 (s : IS) : Prop :=
  decide (Int.ofNat s.k > 0) = true
noncomputable def it_s1 (L : List (List Int)) (s : IS) : Prop :=
  (!rvalid_0
   [GC.i (sitem_0 s.a L), GC.i (sitem_1 s.a L), GC.i (sitem_2 s.x s.a L), GC.i (sitem_2 s.y s.a L), GC.i (sitem_2 s.z s.a L), GC.i (sitem_5 s.x s.a L), GC.i (sitem_6 s.y s.a L),
   GC.i (sitem_7 s.z s.a L), GC.i (sitem_8 s.a L), GC.i (sitem_9 s.x s.a L), GC.i (sitem_10 s.y s.a L), GC.i (sitem_11 s.z s.a L), GC.i (sitem_12 s.a L), GC.b (sitem_13 s.a L),
   GC.i (sitem_14 s.a L), GC.b (sitem_15 s.a L), GC.i 0, GC.i 0, GC.i (sitem_16 s.a L), GC.i (sitem_17 s.a L), GC.i (sitem_18 s.a L), GC.b (sitem_19 s.a L)]) =
   false
noncomputable def it_needs (L : List (List Int)) (s : IS) : List Prop :=
  [it_s0 s → 0 ≤ s.a ∧ L.length ≤ 1000000 ∧ (it_s1 L s → (s.R.length + 1) * 176 ≤ 140737488355328 ∧ s.R.length + 1 ≤ 9223372036854775807),
    it_s0 s →
     ((!rvalid_0
     [GC.i (sitem_0 s.a L), GC.i (sitem_1 s.a L), GC.i (sitem_2 s.x s.a L), GC.i (sitem_2 s.y s.a L), GC.i (sitem_2 s.z s.a L), GC.i (sitem_5 s.x s.a L), GC.i (sitem_6 s.y s.a L),
     GC.i (sitem_7 s.z s.a L), GC.i (sitem_8 s.a L), GC.i (sitem_9 s.x s.a L), GC.i (sitem_10 s.y s.a L), GC.i (sitem_11 s.z s.a L), GC.i (sitem_12 s.a L), GC.b (sitem_13 s.a L),
     GC.i (sitem_14 s.a L), GC.b (sitem_15 s.a L), GC.i 0, GC.i 0, GC.i (sitem_16 s.a L), GC.i (sitem_17 s.a L), GC.i (sitem_18 s.a L), GC.b (sitem_19 s.a L)]) =
     true →
     (0 ≤ ((itF L).next s 0).a ∧ L.length ≤ 1000000 ∧ ((itF L).next s 0).R.length + ((itF L).next s 0).k ≤ 1000) ∧
     (itF L).μ ((itF L).next s 0) < (itF L).μ s ∧
     (itF L).fin ((itF L).next s 0) = (itF L).fin s ∧
     Int.ofNat ((itF L).next s 0).k = IntKind.i64.wrap (Int.ofNat s.k - 1) ∧
     ((itF L).next s 0).a = sitem_20 s.a L ∧ ((itF L).next s 0).x = s.x ∧ ((itF L).next s 0).y = s.y ∧ ((itF L).next s 0).z = s.z ∧ ((itF L).next s 0).R = s.R) ∧
     (it_s1 L s →
     (0 ≤ ((itF L).next s 1).a ∧ L.length ≤ 1000000 ∧ ((itF L).next s 1).R.length + ((itF L).next s 1).k ≤ 1000) ∧
     (itF L).μ ((itF L).next s 1) < (itF L).μ s ∧
     (itF L).fin ((itF L).next s 1) = (itF L).fin s ∧
     Int.ofNat ((itF L).next s 1).k = IntKind.i64.wrap (Int.ofNat s.k - 1) ∧
     ((itF L).next s 1).a = sitem_20 s.a L ∧
     (((itF L).next s 1).x = bif rmot_0 (sitem_0 s.a L) then sitem_5 s.x s.a L else s.x) ∧
     (((itF L).next s 1).y = bif rmot_0 (sitem_0 s.a L) then sitem_6 s.y s.a L else s.y) ∧
     (((itF L).next s 1).z = bif rmot_0 (sitem_0 s.a L) then sitem_7 s.z s.a L else s.z) ∧
     ((itF L).next s 1).R =
     s.R ++
     [[sitem_0 s.a L, sitem_1 s.a L, sitem_2 s.x s.a L, sitem_2 s.y s.a L, sitem_2 s.z s.a L, sitem_5 s.x s.a L, sitem_6 s.y s.a L, sitem_7 s.z s.a L, sitem_8 s.a L,
     sitem_9 s.x s.a L, sitem_10 s.y s.a L, sitem_11 s.z s.a L, sitem_12 s.a L, bif sitem_13 s.a L then 1 else 0, sitem_14 s.a L, bif sitem_15 s.a L then 1 else 0, 0, 0,
     sitem_16 s.a L, sitem_17 s.a L, sitem_18 s.a L, bif sitem_19 s.a L then 1 else 0]]),
    decide (Int.ofNat s.k > 0) = false → ((itF L).fin s).a = s.a ∧ ((itF L).fin s).x = s.x ∧ ((itF L).fin s).y = s.y ∧ ((itF L).fin s).z = s.z ∧ ((itF L).fin s).R = s.R]
theorem it_round (L : List (List Int)) (s : IS) (hNeeds : ∀ pN ∈ (it_needs L s), pN) : RoundOk (roundC (itF L) (bodyOf Try.prog (sums K_sitem) L_con 34 0) 320 s) :=
  RoundOk.of (ps := (it_needs L s)) (by kernel_rfl) (by kernel_rfl) hNeeds
theorem it_rounds (L : List (List Int)) : RoundsOk (itF L) (bodyOf Try.prog (sums K_sitem) L_con 34 0) 320 := by
  intro s hJ
  obtain ⟨h1, h2, h3⟩ : 0 ≤ s.a ∧ L.length ≤ 1000000 ∧ s.R.length + s.k ≤ 1000 := hJ
  refine it_round L s ?_
  unfold it_needs
  simp only [List.forall_mem_cons, List.not_mem_nil, false_implies, implies_true, and_true]
  have en := sarc_end_nn h1 h2
  have pos : it_s0 s → ∃ k, s.k = k + 1 := fun h => ⟨s.k - 1, by unfold it_s0 at h; simp at h; omega⟩
  have ek : it_s0 s → IntKind.i64.wrap (Int.ofNat s.k - 1) = Int.ofNat (s.k - 1) := fun h => by
    obtain ⟨k, hk⟩ := pos h
    rw [wrI (by simp; omega) (by simp; omega)]; simp; omega
  have key : ∀ t, it_s0 s → t.k = s.k - 1 → t = itStep L s → itN L t.k t = itN L s.k s := fun t h h1 h2 => by
    obtain ⟨k, hk⟩ := pos h
    rw [h1, h2, hk]; rfl
  refine ⟨fun h => ⟨h1, h2, fun _ => ⟨by omega, by omega⟩⟩, fun h => ⟨fun hv => ⟨⟨en, h2, ?_⟩, ?_, key _ h rfl ?_, (ek h).symm, rfl, rfl, rfl, rfl, rfl⟩, fun hv => ⟨⟨en, h2, ?_⟩, ?_, key _ h rfl ?_, (ek h).symm, rfl, rfl, rfl, rfl, rfl⟩⟩, fun h => ?_⟩
  · show s.R.length + (s.k - 1) ≤ 1000; omega
  · obtain ⟨k, hk⟩ := pos h
    show s.k - 1 < s.k; omega
  · unfold itStep
    have hv' : (!itV L s) = true := hv
    rw [hv']; rfl
  · obtain ⟨k, hk⟩ := pos h
    show (s.R ++ [_]).length + (s.k - 1) ≤ 1000
    rw [List.length_append, List.length_cons, List.length_nil]; omega
  · obtain ⟨k, hk⟩ := pos h
    show s.k - 1 < s.k; omega
  · unfold itStep
    have hv' : (!itV L s) = false := hv
    rw [hv']; rfl
  · have hk : s.k = 0 := by simp at h; omega
    have e : itN L s.k s = s := by rw [hk]; rfl
    show (itN L s.k s).a = s.a ∧ (itN L s.k s).x = s.x ∧ (itN L s.k s).y = s.y ∧ (itN L s.k s).z = s.z ∧ (itN L s.k s).R = s.R
    rw [e]
    exact ⟨rfl, rfl, rfl, rfl, rfl⟩
noncomputable def itLp : LoopS := fun env mem m => match SX.look env 5, SX.look mem 0, SX.look mem 1, SX.look mem 252 with
  | some ⟨_, _, _, .one (.int _ n)⟩, some (.blk _ [_, (_, .int _ a)]), some (.row _ _ _ (.lst _ _ L)), some (.blk _ [(_, .int _ x), (_, .int _ y), (_, .int _ z)]) => famS (itF L) 320 (fun _ _ => some ⟨n.val.toNat, a.val, x.val, y.val, z.val, []⟩) env mem m
  | _, _, _, _ => none
noncomputable def L_it : FuncId → Nat → Option LoopS := addL L_con 34 4 itLp
theorem known_itL : Known Try.prog (sums K_sitem) L_it := by
  refine known_addL 0 known_sitem (by kernel_rfl) (codeOk_of fun env mem m x h => ?_)
  unfold itLp at h
  have hlen : (loopList Try.prog 34).length = 1 := by kernel_rfl
  split at h
  · exact ⟨_, fam_ok (bodyOf_ok plainN known_sitem (by omega)) (it_rounds _), h⟩
  · cases h
noncomputable def is0 (a : Int) (L : List (List Int)) : IS := ⟨(next_0 9 (next_1 (next_1 (next_1 a L) L) L) L).toNat, next_1 (next_1 (next_1 (next_1 a L) L) L) L, ptm_0 2000 a L, ptm_1 2000 a L, svec_2 2000 a L, []⟩
/-- The items. -/
noncomputable def itmL (a : Int) (L : List (List Int)) : List (List Int) := (itN L (is0 a L).k (is0 a L)).R
noncomputable def items_tpl : Tpl := ⟨[.one (.ptr 0 0)], [(0, .blk 76 [(2, .wh 1), (3, .int .i64)]), (1, .row true 3 1 4 [.int .i64])], 5⟩
noncomputable def items_0 (a : Int) (L : List (List Int)) : Int :=
  ((itF L).fin (IS.mk (next_0 9 (next_1 (next_1 (next_1 a L) L) L) L).toNat (next_1 (next_1 (next_1 (next_1 a L) L) L) L) (ptm_0 2000 a L) (ptm_1 2000 a L) (svec_2 2000 a L) [])).a
noncomputable def items_1 (a : Int) (L : List (List Int)) : List (List Int) :=
  ((itF L).fin (IS.mk (next_0 9 (next_1 (next_1 (next_1 a L) L) L) L).toNat (next_1 (next_1 (next_1 (next_1 a L) L) L) L) (ptm_0 2000 a L) (ptm_1 2000 a L) (svec_2 2000 a L) [])).R
noncomputable def items_s0 (a : Int) (L : List (List Int)) : Int :=
  (IS.mk (next_0 9 (next_1 (next_1 (next_1 a L) L) L) L).toNat (next_1 (next_1 (next_1 (next_1 a L) L) L) L) (ptm_0 2000 a L) (ptm_1 2000 a L) (svec_2 2000 a L) []).a
noncomputable def items_s1 (a : Int) (L : List (List Int)) : List (List Int) :=
  (IS.mk (next_0 9 (next_1 (next_1 (next_1 a L) L) L) L).toNat (next_1 (next_1 (next_1 (next_1 a L) L) L) L) (ptm_0 2000 a L) (ptm_1 2000 a L) (svec_2 2000 a L) []).R
noncomputable def items_needs (a : Int) (L : List (List Int)) : List Prop :=
  [0 ≤ a, L.length ≤ 1000000, Int.ofNat 0 ≤ 2000 ∧ Int.ofNat 2000 ≤ 1000000, 0 ≤ next_1 (next_1 (next_1 a L) L) L, L.length ≤ 1000000, Int.ofNat 9 ≠ 0,
   0 ≤ items_s0 a L ∧
   L.length ≤ 1000000 ∧
   (items_s1 a L).length + (IS.mk (next_0 9 (next_1 (next_1 (next_1 a L) L) L) L).toNat (next_1 (next_1 (next_1 (next_1 a L) L) L) L) (ptm_0 2000 a L) (ptm_1 2000 a L) (svec_2 2000 a L) []).k ≤
   1000,
   Int.ofNat (IS.mk (next_0 9 (next_1 (next_1 (next_1 a L) L) L) L).toNat (next_1 (next_1 (next_1 (next_1 a L) L) L) L) (ptm_0 2000 a L) (ptm_1 2000 a L) (svec_2 2000 a L) []).k =
   next_0 9 (next_1 (next_1 (next_1 a L) L) L) L,
   items_s0 a L = next_1 (next_1 (next_1 (next_1 a L) L) L) L,
   (IS.mk (next_0 9 (next_1 (next_1 (next_1 a L) L) L) L).toNat (next_1 (next_1 (next_1 (next_1 a L) L) L) L) (ptm_0 2000 a L) (ptm_1 2000 a L) (svec_2 2000 a L) []).x = ptm_0 2000 a L,
   (IS.mk (next_0 9 (next_1 (next_1 (next_1 a L) L) L) L).toNat (next_1 (next_1 (next_1 (next_1 a L) L) L) L) (ptm_0 2000 a L) (ptm_1 2000 a L) (svec_2 2000 a L) []).y = ptm_1 2000 a L,
   (IS.mk (next_0 9 (next_1 (next_1 (next_1 a L) L) L) L).toNat (next_1 (next_1 (next_1 (next_1 a L) L) L) L) (ptm_0 2000 a L) (ptm_1 2000 a L) (svec_2 2000 a L) []).z = svec_2 2000 a L,
   items_s1 a L = []]
theorem items_weak {a : Int} {L : List (List Int)} (hW : ∀ q ∈ ([0 ≤ a, L.length ≤ 1000000] : List Prop), q) : ∀ q ∈ (items_needs a L), q := by
  simp only [List.mem_cons, List.not_mem_nil, or_false, forall_eq_or_imp, forall_eq] at hW
  unfold items_needs
  simp only [List.forall_mem_cons, List.not_mem_nil, false_implies, implies_true, and_true]
  obtain ⟨h1, h2⟩ := hW
  have nn : ∀ x, 0 ≤ x → 0 ≤ next_1 x L := fun x h => next_1_nn x L h h2
  have r9 := next_0_range 9 (next_1 (next_1 (next_1 a L) L) L) L (by omega) (by omega)
  refine ⟨h1, h2, by decide, nn _ (nn _ (nn _ h1)), h2, by decide, ⟨nn _ (nn _ (nn _ (nn _ h1))), h2, (show 0 + (next_0 9 (next_1 (next_1 (next_1 a L) L) L) L).toNat ≤ 1000 by omega)⟩, Int.toNat_of_nonneg r9.1, ?_⟩
  repeat' first | exact trivial | rfl | refine And.intro ?_ ?_
set_option maxRecDepth 1000000 in
theorem items_runs (a : Int) (L : List (List Int)) (hNeeds : ∀ pN ∈ (items_needs a L), pN) : Runs (runF (sums K_sitem) L_it 34) (items_tpl.args [.i a]) (items_tpl.memo [.i a] [L]) items_tpl.n (SV.one (SC.wh 326))
    ([(0, Obj.blk 76 [(2, SC.wh 1), (322, SC.int IntKind.i64 (SI.v (items_0 a L)))]), (1, Obj.row true 3 1 (RowC.lst 4 [CK.int IntKind.i64] L)),
    (326,
     Obj.row false 86 22
     (RowC.lst 327
     [CK.int IntKind.i64, CK.int IntKind.i64, CK.int IntKind.i64, CK.int IntKind.i64, CK.int IntKind.i64, CK.int IntKind.i64, CK.int IntKind.i64, CK.int IntKind.i64, CK.int IntKind.i64,
     CK.int IntKind.i64, CK.int IntKind.i64, CK.int IntKind.i64, CK.int IntKind.i64, CK.bool, CK.int IntKind.i64, CK.bool, CK.int IntKind.i64, CK.int IntKind.i64, CK.int IntKind.i64,
     CK.int IntKind.i64, CK.int IntKind.i64, CK.bool]
     (items_1 a L)))]) :=
  Runs.of1 (ps := (items_needs a L)) (by kernel_rfl) hNeeds
noncomputable def items_out : List Pm → Lss → Option CRes
  | [.i a], [L] => some ⟨SV.one (SC.wh 326),
    [(0, Obj.blk 76 [(2, SC.wh 1), (322, SC.int IntKind.i64 (SI.v (items_0 a L)))]), (1, Obj.row true 3 1 (RowC.lst 4 [CK.int IntKind.i64] L)),
    (326,
     Obj.row false 86 22
     (RowC.lst 327
     [CK.int IntKind.i64, CK.int IntKind.i64, CK.int IntKind.i64, CK.int IntKind.i64, CK.int IntKind.i64, CK.int IntKind.i64, CK.int IntKind.i64, CK.int IntKind.i64, CK.int IntKind.i64,
     CK.int IntKind.i64, CK.int IntKind.i64, CK.int IntKind.i64, CK.int IntKind.i64, CK.bool, CK.int IntKind.i64, CK.bool, CK.int IntKind.i64, CK.int IntKind.i64, CK.int IntKind.i64,
     CK.int IntKind.i64, CK.int IntKind.i64, CK.bool]
     ((itmL a L))))],
    [0 ≤ a, L.length ≤ 1000000], [], 422⟩
  | _, _ => none
theorem items_turned (a : Int) (L : List (List Int)) (hNeeds : ∀ pN ∈ (items_needs a L), pN) : Runs (runF (sums K_sitem) L_it 34) (items_tpl.args [.i a]) (items_tpl.memo [.i a] [L]) items_tpl.n (SV.one (SC.wh 326))
    ([(0, Obj.blk 76 [(2, SC.wh 1), (322, SC.int IntKind.i64 (SI.v (items_0 a L)))]), (1, Obj.row true 3 1 (RowC.lst 4 [CK.int IntKind.i64] L)),
    (326,
     Obj.row false 86 22
     (RowC.lst 327
     [CK.int IntKind.i64, CK.int IntKind.i64, CK.int IntKind.i64, CK.int IntKind.i64, CK.int IntKind.i64, CK.int IntKind.i64, CK.int IntKind.i64, CK.int IntKind.i64, CK.int IntKind.i64,
     CK.int IntKind.i64, CK.int IntKind.i64, CK.int IntKind.i64, CK.int IntKind.i64, CK.bool, CK.int IntKind.i64, CK.bool, CK.int IntKind.i64, CK.int IntKind.i64, CK.int IntKind.i64,
     CK.int IntKind.i64, CK.int IntKind.i64, CK.bool]
     ((itmL a L))))]) :=
  (items_runs a L hNeeds).to (by first | rfl | (simp only [])) (by first | rfl | (simp only []))
theorem items_ok : FOk Try.prog 34 (tplS items_tpl items_out) := by
  refine tplS_ok (runF_ok known_itL 34) fun ps ls r hr hn _ => ?_
  unfold items_out at hr
  split at hr
  · cases hr; exact ⟨_, items_turned _ _ (items_weak (by exact hn)), fun _ => rfl⟩
  · cases hr
noncomputable def K_items : List (Nat × Summ) := (34, tplS items_tpl items_out) :: K_sitem
theorem known_items : Known Try.prog (sums K_items) L_it := known_cons known_itL items_ok
end Go.Proofs.Ythgiaoidekdpfaa
