/-
  OFFSETS: Trim; the sanity check. Conditions: none.
-/
import Derived.Test.YtmbfbhimdkjkoaaV4
set_option linter.all false
namespace Go.Proofs.Ytmbfbhimdkjkoaa
open Go.SX Go.RowKit
theorem nest_bd (A B C D X : Int) (hX : X = A ∨ X = B ∨ X = C ∨ X = D) : bd 1048576 (bif !oin_0 A 1048576 then 0 else bif !oin_0 B 1048576 then 0 else bif !oin_0 C 1048576 then 0 else bif !oin_0 D 1048576 then 0 else X) := by
  have z : bd 1048576 0 := by decide
  cases hA : oin_0 A 1048576
  · exact z
  cases hB : oin_0 B 1048576
  · exact z
  cases hC : oin_0 C 1048576
  · exact z
  cases hD : oin_0 D 1048576
  · exact z
  have q : ∀ {x}, oin_0 x 1048576 = true → bd 1048576 x := fun h => (oin_iff (by omega) (by omega)).1 h
  rcases hX with rfl | rfl | rfl | rfl
  · exact q hA
  · exact q hB
  · exact q hC
  · exact q hD
theorem oends_bd (e0 e1 e2 e3 e4 e5 e6 r : Int) : bd 1048576 (oends_0 e0 e1 e2 e3 e4 e5 e6 r) ∧ bd 1048576 (oends_1 e0 e1 e2 e3 e4 e5 e6 r) ∧ bd 1048576 (oends_2 e0 e1 e2 e3 e4 e5 e6 r) ∧ bd 1048576 (oends_3 e0 e1 e2 e3 e4 e5 e6 r) := by
  have z : bd 1048576 0 := by decide
  have key : ∀ (p q s : Bool) (x : Int), bd 1048576 x → bd 1048576 (bif p then bif q then 0 else bif s then 0 else x else x) := fun p q s x h => by
    cases p <;> cases q <;> cases s <;> first | exact h | exact z
  refine ⟨key _ _ _ _ ?_, key _ _ _ _ ?_, key _ _ _ _ ?_, key _ _ _ _ ?_⟩
  · exact nest_bd _ _ _ _ _ (.inl rfl)
  · exact nest_bd _ _ _ _ _ (.inr (.inl rfl))
  · exact nest_bd _ _ _ _ _ (.inr (.inr (.inl rfl)))
  · exact nest_bd _ _ _ _ _ (.inr (.inr (.inr rfl)))
noncomputable def trim_tpl : Tpl := ⟨[.agg [.int .i64, .int .i64, .int .i64, .int .i64, .int .i64, .int .i64, .int .i64, .bool], .agg [.int .i64, .int .i64, .int .i64, .int .i64, .int .i64, .int .i64, .int .i64, .bool], .one (.int .i64)], [], 0⟩
noncomputable def trim_s0 (e0 : Int) (e1 : Int) (e2 : Int) (e3 : Int) (e4 : Int) (e5 : Int) (e6 : Int) (e7 : Bool) (f0 : Int) (f1 : Int) (f2 : Int) (f3 : Int) (f4 : Int) (f5 : Int) (f6 : Int) (f7 : Bool) (r : Int) : Int := bif f6 == 0 then straight_0 (oends_0 f0 f1 f2 f3 f4 f5 f6 r) (oends_1 f0 f1 f2 f3 f4 f5 f6 r) (oends_2 f0 f1 f2 f3 f4 f5 f6 r) (oends_3 f0 f1 f2 f3 f4 f5 f6 r) e0 e1 e2 e3 e4 e5 e6 e7 r else
   curved_0 f0 f1 f2 f3 f4 f5 f6 f7 (oends_0 f0 f1 f2 f3 f4 f5 f6 r) (oends_1 f0 f1 f2 f3 f4 f5 f6 r) (oends_2 f0 f1 f2 f3 f4 f5 f6 r) (oends_3 f0 f1 f2 f3 f4 f5 f6 r) r e0 e1 e2 e3 e4 e5 e6 e7 r
noncomputable def trim_s1 (e0 : Int) (e1 : Int) (e2 : Int) (e3 : Int) (e4 : Int) (e5 : Int) (e6 : Int) (e7 : Bool) (f0 : Int) (f1 : Int) (f2 : Int) (f3 : Int) (f4 : Int) (f5 : Int) (f6 : Int) (f7 : Bool) (r : Int) : Int := bif f6 == 0 then straight_1 (oends_0 f0 f1 f2 f3 f4 f5 f6 r) (oends_1 f0 f1 f2 f3 f4 f5 f6 r) (oends_2 f0 f1 f2 f3 f4 f5 f6 r) (oends_3 f0 f1 f2 f3 f4 f5 f6 r) e0 e1 e2 e3 e4 e5 e6 e7 r else
   curved_1 f0 f1 f2 f3 f4 f5 f6 f7 (oends_0 f0 f1 f2 f3 f4 f5 f6 r) (oends_1 f0 f1 f2 f3 f4 f5 f6 r) (oends_2 f0 f1 f2 f3 f4 f5 f6 r) (oends_3 f0 f1 f2 f3 f4 f5 f6 r) r e0 e1 e2 e3 e4 e5 e6 e7 r
noncomputable def trim_0 (e0 : Int) (e1 : Int) (e2 : Int) (e3 : Int) (e4 : Int) (e5 : Int) (e6 : Int) (e7 : Bool) (f0 : Int) (f1 : Int) (f2 : Int) (f3 : Int) (f4 : Int) (f5 : Int) (f6 : Int) (f7 : Bool) (r : Int) : Int := bif oends_4 e0 e1 e2 e3 e4 e5 e6 r != 0 then 0 else bif oends_4 f0 f1 f2 f3 f4 f5 f6 r != 0 then 0 else bif !oclear_0 e0 e1 e2 e3 e4 e5 e6 (oends_2 f0 f1 f2 f3 f4 f5 f6 r) (oends_3 f0 f1 f2 f3 f4 f5
   f6 r) r then 0 else bif !oin_0 (trim_s0 e0 e1 e2 e3 e4 e5 e6 e7 f0 f1 f2 f3 f4 f5 f6 f7 r) 1048576 || !oin_0 (trim_s1 e0 e1 e2 e3 e4 e5 e6 e7 f0 f1 f2 f3 f4 f5 f6 f7 r) 1048576 then 0 else bif
   !ahead_0 e0 e1 e2 e3 e4 e5 e6 e7 (trim_s0 e0 e1 e2 e3 e4 e5 e6 e7 f0 f1 f2 f3 f4 f5 f6 f7 r) (trim_s1 e0 e1 e2 e3 e4 e5 e6 e7 f0 f1 f2 f3 f4 f5 f6 f7 r) (oends_0 e0 e1 e2 e3 e4 e5 e6 r) (oends_1 e0
   e1 e2 e3 e4 e5 e6 r) then 0 else trim_s0 e0 e1 e2 e3 e4 e5 e6 e7 f0 f1 f2 f3 f4 f5 f6 f7 r
noncomputable def trim_1 (e0 : Int) (e1 : Int) (e2 : Int) (e3 : Int) (e4 : Int) (e5 : Int) (e6 : Int) (e7 : Bool) (f0 : Int) (f1 : Int) (f2 : Int) (f3 : Int) (f4 : Int) (f5 : Int) (f6 : Int) (f7 : Bool) (r : Int) : Int := bif oends_4 e0 e1 e2 e3 e4 e5 e6 r != 0 then 0 else bif oends_4 f0 f1 f2 f3 f4 f5 f6 r != 0 then 0 else bif !oclear_0 e0 e1 e2 e3 e4 e5 e6 (oends_2 f0 f1 f2 f3 f4 f5 f6 r) (oends_3 f0 f1 f2 f3 f4 f5
   f6 r) r then 0 else bif !oin_0 (trim_s0 e0 e1 e2 e3 e4 e5 e6 e7 f0 f1 f2 f3 f4 f5 f6 f7 r) 1048576 || !oin_0 (trim_s1 e0 e1 e2 e3 e4 e5 e6 e7 f0 f1 f2 f3 f4 f5 f6 f7 r) 1048576 then 0 else bif
   !ahead_0 e0 e1 e2 e3 e4 e5 e6 e7 (trim_s0 e0 e1 e2 e3 e4 e5 e6 e7 f0 f1 f2 f3 f4 f5 f6 f7 r) (trim_s1 e0 e1 e2 e3 e4 e5 e6 e7 f0 f1 f2 f3 f4 f5 f6 f7 r) (oends_0 e0 e1 e2 e3 e4 e5 e6 r) (oends_1 e0
   e1 e2 e3 e4 e5 e6 r) then 0 else trim_s1 e0 e1 e2 e3 e4 e5 e6 e7 f0 f1 f2 f3 f4 f5 f6 f7 r
noncomputable def trim_2 (e0 : Int) (e1 : Int) (e2 : Int) (e3 : Int) (e4 : Int) (e5 : Int) (e6 : Int) (e7 : Bool) (f0 : Int) (f1 : Int) (f2 : Int) (f3 : Int) (f4 : Int) (f5 : Int) (f6 : Int) (f7 : Bool) (r : Int) : Int := bif oends_4 e0 e1 e2 e3 e4 e5 e6 r != 0 then oends_4 e0 e1 e2 e3 e4 e5 e6 r else bif oends_4 f0 f1 f2 f3 f4 f5 f6 r != 0 then oends_4 f0 f1 f2 f3 f4 f5 f6 r else bif !oclear_0 e0 e1 e2 e3 e4 e5 e6
   (oends_2 f0 f1 f2 f3 f4 f5 f6 r) (oends_3 f0 f1 f2 f3 f4 f5 f6 r) r then 16 else bif !oin_0 (trim_s0 e0 e1 e2 e3 e4 e5 e6 e7 f0 f1 f2 f3 f4 f5 f6 f7 r) 1048576 || !oin_0 (trim_s1 e0 e1 e2 e3 e4 e5 e6
   e7 f0 f1 f2 f3 f4 f5 f6 f7 r) 1048576 then 3 else bif !ahead_0 e0 e1 e2 e3 e4 e5 e6 e7 (trim_s0 e0 e1 e2 e3 e4 e5 e6 e7 f0 f1 f2 f3 f4 f5 f6 f7 r) (trim_s1 e0 e1 e2 e3 e4 e5 e6 e7 f0 f1 f2 f3 f4 f5
   f6 f7 r) (oends_0 e0 e1 e2 e3 e4 e5 e6 r) (oends_1 e0 e1 e2 e3 e4 e5 e6 r) then 16 else 0
noncomputable def trim_needs (e0 : Int) (e1 : Int) (e2 : Int) (e3 : Int) (e4 : Int) (e5 : Int) (e6 : Int) (f0 : Int) (f1 : Int) (f2 : Int) (f3 : Int) (f4 : Int) (f5 : Int) (f6 : Int) (r : Int) : List Prop := [(oends_4 e0 e1 e2 e3 e4 e5 e6 r != 0) = false → (oends_4 f0 f1 f2 f3 f4 f5 f6 r != 0) = false → (!oclear_0 e0 e1 e2 e3 e4 e5 e6 (oends_2 f0 f1 f2 f3 f4 f5 f6 r) (oends_3 f0 f1 f2 f3 f4 f5 f6 r) r)
   = false → (f6 == 0) = true → (-1048576 ≤ oends_0 f0 f1 f2 f3 f4 f5 f6 r ∧ oends_0 f0 f1 f2 f3 f4 f5 f6 r ≤ 1048576) ∧ (-1048576 ≤ oends_1 f0 f1 f2 f3 f4 f5 f6 r ∧ oends_1 f0 f1 f2 f3 f4 f5 f6 r ≤
   1048576) ∧ (-1048576 ≤ oends_2 f0 f1 f2 f3 f4 f5 f6 r ∧ oends_2 f0 f1 f2 f3 f4 f5 f6 r ≤ 1048576) ∧ -1048576 ≤ oends_3 f0 f1 f2 f3 f4 f5 f6 r ∧ oends_3 f0 f1 f2 f3 f4 f5 f6 r ≤ 1048576]
theorem trim_need {e0 : Int} {e1 : Int} {e2 : Int} {e3 : Int} {e4 : Int} {e5 : Int} {e6 : Int} {f0 : Int} {f1 : Int} {f2 : Int} {f3 : Int} {f4 : Int} {f5 : Int} {f6 : Int} {r : Int} : ∀ q ∈ (trim_needs e0 e1 e2 e3 e4 e5 e6 f0 f1 f2 f3 f4 f5 f6 r), q := by
  unfold trim_needs
  simp only [List.forall_mem_cons, List.not_mem_nil, false_implies, implies_true, and_true]
  intro _ _ _ _
  exact oends_bd _ _ _ _ _ _ _ _
set_option maxRecDepth 1000000 in
theorem trim_runs (e0 e1 e2 e3 e4 e5 e6 : Int) (e7 : Bool) (f0 f1 f2 f3 f4 f5 f6 : Int) (f7 : Bool) (r : Int) (hNeeds : ∀ pN ∈ (trim_needs e0 e1 e2 e3 e4 e5 e6 f0 f1 f2 f3 f4 f5 f6 r), pN) : Runs (runF (sums K_curved) L_cr 67) (trim_tpl.args [.i e0, .i e1, .i e2, .i e3, .i e4, .i e5, .i e6, .b e7, .i f0, .i f1, .i f2, .i f3, .i f4, .i f5, .i f6, .b f7, .i r]) (trim_tpl.memo [.i e0, .i e1, .i e2, .i e3, .i e4, .i e5, .i e6, .b e7, .i f0, .i f1, .i f2, .i f3, .i f4, .i f5, .i f6, .b f7, .i r] []) trim_tpl.n (SV.tup [(true, [SC.int IntKind.i64 (SI.v (trim_0 e0 e1 e2 e3 e4 e5 e6 e7 f0 f1 f2 f3 f4 f5 f6 f7 r)), SC.int IntKind.i64 (SI.v (trim_1 e0 e1 e2 e3 e4 e5 e6 e7 f0 f1 f2 f3 f4 f5 f6 f7 r))]), (false,
   [SC.int IntKind.i64 (SI.v (trim_2 e0 e1 e2 e3 e4 e5 e6 e7 f0 f1 f2 f3 f4 f5 f6 f7 r))])]) ([]) :=
  Runs.of1 (ps := (trim_needs e0 e1 e2 e3 e4 e5 e6 f0 f1 f2 f3 f4 f5 f6 r)) (by kernel_rfl) hNeeds
noncomputable def trim_out : List Pm → Lss → Option CRes
  | [.i e0, .i e1, .i e2, .i e3, .i e4, .i e5, .i e6, .b e7, .i f0, .i f1, .i f2, .i f3, .i f4, .i f5, .i f6, .b f7, .i r], [] => some ⟨SV.tup [(true, [SC.int IntKind.i64 (SI.v (trim_0 e0 e1 e2 e3 e4 e5 e6 e7 f0 f1 f2 f3 f4 f5 f6 f7 r)), SC.int IntKind.i64 (SI.v (trim_1 e0 e1 e2 e3 e4 e5 e6 e7 f0 f1 f2 f3 f4 f5 f6 f7 r))]), (false,
   [SC.int IntKind.i64 (SI.v (trim_2 e0 e1 e2 e3 e4 e5 e6 e7 f0 f1 f2 f3 f4 f5 f6 f7 r))])], [], [], [], 25762⟩
  | _, _ => none
theorem trim_ok : FOk Try.prog 67 (tplS trim_tpl trim_out) := by
  refine tplS_ok (runF_ok known_curved 67) fun ps ls r hr hn _ => ?_
  unfold trim_out at hr
  split at hr
  · cases hr; exact ⟨_, trim_runs _ _ _ _ _ _ _ _ _ _ _ _ _ _ _ _ _ (fun p hp => trim_need p hp), fun _ => rfl⟩
  · cases hr
noncomputable def K_trim : List (Nat × Summ) := (67, tplS trim_tpl trim_out) :: K_curved
theorem known_trim : Known Try.prog (sums K_trim) L_cr := known_cons known_curved trim_ok
noncomputable def acheck_tpl : Tpl := ⟨[.agg [.int .i64, .int .i64, .int .i64, .int .i64, .int .i64, .int .i64, .int .i64, .int .i64, .int .i64, .int .i64, .int .i64, .int .i64, .int .i64, .bool, .int .i64, .bool, .int .i64, .int .i64, .int .i64, .int .i64, .int .i64, .bool]], [], 0⟩
noncomputable def acheck_0 (k : Int) (f0 : Int) (f1 : Int) (f2 : Int) (t0 : Int) (t1 : Int) (t2 : Int) (p : Int) (c0 : Int) (c1 : Int) (c2 : Int) (d : Int) (fu : Bool) : Int := bif k != 3 || !flat_3 p || !vwithin_0 f0 f1 f2 || !vwithin_0 t0 t1 t2 || !vwithin_0 c0 c1 c2 || d != 1 && d != -1 || flat_2 p f0 f1 f2 != flat_2 p c0 c1 c2 then 1 else bif decide (vinner_0
   (aspokes_0 f0 f1 f2 p c0 c1 c2) (aspokes_1 f0 f1 f2 p c0 c1 c2) (aspokes_0 f0 f1 f2 p c0 c1 c2) (aspokes_1 f0 f1 f2 p c0 c1 c2) < 64) || decide (vinner_0 (aspokes_0 t0 t1 t2 p c0 c1 c2) (aspokes_1 t0
   t1 t2 p c0 c1 c2) (aspokes_0 t0 t1 t2 p c0 c1 c2) (aspokes_1 t0 t1 t2 p c0 c1 c2) < 64) || !similar_0 (vinner_0 (aspokes_0 f0 f1 f2 p c0 c1 c2) (aspokes_1 f0 f1 f2 p c0 c1 c2) (aspokes_0 f0 f1 f2 p
   c0 c1 c2) (aspokes_1 f0 f1 f2 p c0 c1 c2)) (vinner_0 (aspokes_0 t0 t1 t2 p c0 c1 c2) (aspokes_1 t0 t1 t2 p c0 c1 c2) (aspokes_0 t0 t1 t2 p c0 c1 c2) (aspokes_1 t0 t1 t2 p c0 c1 c2)) || fu &&
   !(aspokes_0 f0 f1 f2 p c0 c1 c2 == aspokes_0 t0 t1 t2 p c0 c1 c2 && aspokes_1 f0 f1 f2 p c0 c1 c2 == aspokes_1 t0 t1 t2 p c0 c1 c2) || !fu && aligned_0 (aspokes_0 f0 f1 f2 p c0 c1 c2) (aspokes_1 f0
   f1 f2 p c0 c1 c2) (aspokes_0 t0 t1 t2 p c0 c1 c2) (aspokes_1 t0 t1 t2 p c0 c1 c2) then 12 else 0
set_option maxRecDepth 1000000 in
theorem acheck_runs (k bl f0 f1 f2 t0 t1 t2 p c0 c1 c2 d : Int) (fu : Bool) (fe : Int) (pr : Bool) (si ra be n sp : Int) (on : Bool) : Runs (runF (sums K_trim) L_cr 54) (acheck_tpl.args [.i k, .i bl, .i f0, .i f1, .i f2, .i t0, .i t1, .i t2, .i p, .i c0, .i c1, .i c2, .i d, .b fu, .i fe, .b pr, .i si, .i ra, .i be, .i n, .i sp, .b on]) (acheck_tpl.memo [.i k, .i bl, .i f0, .i f1, .i f2, .i t0, .i t1, .i t2, .i p, .i c0, .i c1, .i c2, .i d, .b fu, .i fe, .b pr, .i si, .i ra, .i be, .i n, .i sp, .b on] []) acheck_tpl.n (SV.one (SC.int IntKind.i64 (SI.v (acheck_0 k f0 f1 f2 t0 t1 t2 p c0 c1 c2 d fu)))) ([]) :=
  Runs.of1 (ps := []) (by kernel_rfl) (by simp)
noncomputable def acheck_out : List Pm → Lss → Option CRes
  | [.i k, .i bl, .i f0, .i f1, .i f2, .i t0, .i t1, .i t2, .i p, .i c0, .i c1, .i c2, .i d, .b fu, .i fe, .b pr, .i si, .i ra, .i be, .i n, .i sp, .b on], [] => some ⟨SV.one (SC.int IntKind.i64 (SI.v (acheck_0 k f0 f1 f2 t0 t1 t2 p c0 c1 c2 d fu))), [], [], [], 1152⟩
  | _, _ => none
theorem acheck_ok : FOk Try.prog 54 (tplS acheck_tpl acheck_out) := by
  refine tplS_ok (runF_ok known_trim 54) fun ps ls r hr hn _ => ?_
  unfold acheck_out at hr
  split at hr
  · cases hr; exact ⟨_, acheck_runs _ _ _ _ _ _ _ _ _ _ _ _ _ _ _ _ _ _ _ _ _ _, fun _ => rfl⟩
  · cases hr
noncomputable def K_acheck : List (Nat × Summ) := (54, tplS acheck_tpl acheck_out) :: K_trim
theorem known_acheck : Known Try.prog (sums K_acheck) L_cr := known_cons known_trim acheck_ok
end Go.Proofs.Ytmbfbhimdkjkoaa
