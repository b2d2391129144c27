/-
  OFFSETRIGHT: the walk. Conditions: none.
-/
import Derived.Test.YtjlkecfkjcanaaaV5
import Derived.Test.YtjlkecfkjcanaaaE9
set_option linter.all false
namespace Go.Proofs.Ytjlkecfkjcanaaa
open Go.SX Go.RowKit
theorem right_index {k : Int} {g : Bool} (h : 0 ≤ k ∧ k < 4) : 0 ≤ (bif g then (IntKind.i64.wrap (k + 3)).tmod 4 else (IntKind.i64.wrap (k + 1)).tmod 4) ∧ (bif g then (IntKind.i64.wrap (k + 3)).tmod 4 else (IntKind.i64.wrap (k + 1)).tmod 4) < 4 := by
  have : k = 0 ∨ k = 1 ∨ k = 2 ∨ k = 3 := by omega
  rcases this with rfl | rfl | rfl | rfl <;> cases g <;> decide
def right_d0 (k : Int) : Int := bif k.toNat.beq 0 then 1 else bif k.toNat.beq 1 then 0 else bif k.toNat.beq 2 then -1 else 0
def right_d1 (k : Int) : Int := bif k.toNat.beq 0 then 0 else bif k.toNat.beq 1 then 1 else bif k.toNat.beq 2 then 0 else -1
theorem right_dirs {k : Int} (g : Bool) (h : 0 ≤ k ∧ k < 4) : unit2 (right_d0 k) (right_d1 k) ∧ right_d0 (bif g then (IntKind.i64.wrap (k + 3)).tmod 4 else (IntKind.i64.wrap (k + 1)).tmod 4) = -((bif g then -1 else 1) * right_d1 k) ∧ right_d1 (bif g then (IntKind.i64.wrap (k + 3)).tmod 4 else (IntKind.i64.wrap (k + 1)).tmod 4) = (bif g then -1 else 1) * right_d0 k := by
  have : k = 0 ∨ k = 1 ∨ k = 2 ∨ k = 3 := by omega
  unfold unit2
  rcases this with rfl | rfl | rfl | rfl <;> cases g <;> decide
noncomputable def lawR_tpl : Tpl := ⟨[.agg [.int .i64, .int .i64], .one (.int .i64), .one (.int .i64), .one (.int .i64), .one (.int .i64), .one (.bool)], [], 0⟩
noncomputable def lawR_s0 (r : Int) : Int :=
  IntKind.i64.wrap (between_0 r 1 2000 + 1)
noncomputable def lawR_s1 (t : Int) : Int :=
  bif (mod_0 t 4).toNat.beq 0 then 1 else bif (mod_0 t 4).toNat.beq 1 then 0 else bif (mod_0 t 4).toNat.beq 2 then -1 else 0
noncomputable def lawR_s2 (p0 : Int) (n : Int) (r : Int) (t : Int) : Int :=
  IntKind.i64.wrap (small_0 p0 90000 + IntKind.i64.wrap (between_0 n (lawR_s0 r) 9000 * lawR_s1 t))
noncomputable def lawR_s3 (t : Int) : Int :=
  bif (mod_0 t 4).toNat.beq 0 then 0 else bif (mod_0 t 4).toNat.beq 1 then 1 else bif (mod_0 t 4).toNat.beq 2 then 0 else -1
noncomputable def lawR_s4 (p1 : Int) (n : Int) (r : Int) (t : Int) : Int :=
  IntKind.i64.wrap (small_0 p1 90000 + IntKind.i64.wrap (between_0 n (lawR_s0 r) 9000 * lawR_s3 t))
noncomputable def lawR_s5 (t : Int) (g : Bool) : Int :=
  bif (bif g then (IntKind.i64.wrap (mod_0 t 4 + 3)).tmod 4 else (IntKind.i64.wrap (mod_0 t 4 + 1)).tmod 4).toNat.beq 0 then 1
  else
    bif (bif g then (IntKind.i64.wrap (mod_0 t 4 + 3)).tmod 4 else (IntKind.i64.wrap (mod_0 t 4 + 1)).tmod 4).toNat.beq 1 then 0
    else bif (bif g then (IntKind.i64.wrap (mod_0 t 4 + 3)).tmod 4 else (IntKind.i64.wrap (mod_0 t 4 + 1)).tmod 4).toNat.beq 2 then -1 else 0
noncomputable def lawR_s6 (p0 : Int) (n : Int) (m : Int) (r : Int) (t : Int) (g : Bool) : Int :=
  IntKind.i64.wrap (lawR_s2 p0 n r t + IntKind.i64.wrap (between_0 m (lawR_s0 r) 9000 * lawR_s5 t g))
noncomputable def lawR_s7 (t : Int) (g : Bool) : Int :=
  bif (bif g then (IntKind.i64.wrap (mod_0 t 4 + 3)).tmod 4 else (IntKind.i64.wrap (mod_0 t 4 + 1)).tmod 4).toNat.beq 0 then 0
  else
    bif (bif g then (IntKind.i64.wrap (mod_0 t 4 + 3)).tmod 4 else (IntKind.i64.wrap (mod_0 t 4 + 1)).tmod 4).toNat.beq 1 then 1
    else bif (bif g then (IntKind.i64.wrap (mod_0 t 4 + 3)).tmod 4 else (IntKind.i64.wrap (mod_0 t 4 + 1)).tmod 4).toNat.beq 2 then 0 else -1
noncomputable def lawR_s8 (p1 : Int) (n : Int) (m : Int) (r : Int) (t : Int) (g : Bool) : Int :=
  IntKind.i64.wrap (lawR_s4 p1 n r t + IntKind.i64.wrap (between_0 m (lawR_s0 r) 9000 * lawR_s7 t g))
noncomputable def lawR_s9 (r : Int) (g : Bool) : Int :=
  IntKind.i64.wrap ((bif g then -1 else 1) * between_0 r 1 2000)
noncomputable def lawR_0 (p0 : Int) (p1 : Int) (n : Int) (m : Int) (r : Int) (t : Int) (g : Bool) : Bool :=
  true &&
      trim_2 (small_0 p0 90000) (small_0 p1 90000) (lawR_s2 p0 n r t) (lawR_s4 p1 n r t) 0 0 0 false (lawR_s2 p0 n r t) (lawR_s4 p1 n r t) (lawR_s6 p0 n m r t g) (lawR_s8 p1 n m r t g) 0 0 0 false
          (lawR_s9 r g) ==
        0 &&
    (trim_0 (small_0 p0 90000) (small_0 p1 90000) (lawR_s2 p0 n r t) (lawR_s4 p1 n r t) 0 0 0 false (lawR_s2 p0 n r t) (lawR_s4 p1 n r t) (lawR_s6 p0 n m r t g) (lawR_s8 p1 n m r t g) 0 0 0 false
          (lawR_s9 r g) ==
        IntKind.i64.wrap (IntKind.i64.wrap (lawR_s2 p0 n r t - IntKind.i64.wrap (between_0 r 1 2000 * lawR_s1 t)) + IntKind.i64.wrap (between_0 r 1 2000 * lawR_s5 t g)) &&
      trim_1 (small_0 p0 90000) (small_0 p1 90000) (lawR_s2 p0 n r t) (lawR_s4 p1 n r t) 0 0 0 false (lawR_s2 p0 n r t) (lawR_s4 p1 n r t) (lawR_s6 p0 n m r t g) (lawR_s8 p1 n m r t g) 0 0 0 false
          (lawR_s9 r g) ==
        IntKind.i64.wrap (IntKind.i64.wrap (lawR_s4 p1 n r t - IntKind.i64.wrap (between_0 r 1 2000 * lawR_s3 t)) + IntKind.i64.wrap (between_0 r 1 2000 * lawR_s7 t g)))
noncomputable def lawR_s10 (t : Int) (g : Bool) : Int :=
  bif g then (IntKind.i64.wrap (mod_0 t 4 + 3)).tmod 4 else (IntKind.i64.wrap (mod_0 t 4 + 1)).tmod 4
noncomputable def lawR_needs (r : Int) (t : Int) (g : Bool) : List Prop :=
  [Int.ofNat 180001 ≠ 0, Int.ofNat 180001 ≠ 0, Int.ofNat 2000 ≠ 0, IntKind.i64.wrap (IntKind.i64.wrap (9000 - IntKind.i64.wrap (between_0 r 1 2000 + 1)) + 1) ≠ 0,
    IntKind.i64.wrap (IntKind.i64.wrap (9000 - IntKind.i64.wrap (between_0 r 1 2000 + 1)) + 1) ≠ 0, Int.ofNat 4 ≠ 0, 0 ≤ mod_0 t 4, (mod_0 t 4).toNat < 4, (mod_0 t 4).toNat < 4, (mod_0 t 4).toNat < 4,
    0 ≤ mod_0 t 4, (mod_0 t 4).toNat < 4, (mod_0 t 4).toNat < 4, (mod_0 t 4).toNat < 4, 0 ≤ lawR_s10 t g, (lawR_s10 t g).toNat < 4, (lawR_s10 t g).toNat < 4, (lawR_s10 t g).toNat < 4, 0 ≤ lawR_s10 t g,
    (lawR_s10 t g).toNat < 4, (lawR_s10 t g).toNat < 4, (lawR_s10 t g).toNat < 4, 0 ≤ mod_0 t 4, (mod_0 t 4).toNat < 4, (mod_0 t 4).toNat < 4, (mod_0 t 4).toNat < 4, 0 ≤ lawR_s10 t g,
    (lawR_s10 t g).toNat < 4, (lawR_s10 t g).toNat < 4, (lawR_s10 t g).toNat < 4, 0 ≤ mod_0 t 4, (mod_0 t 4).toNat < 4, (mod_0 t 4).toNat < 4, (mod_0 t 4).toNat < 4, 0 ≤ lawR_s10 t g,
    (lawR_s10 t g).toNat < 4, (lawR_s10 t g).toNat < 4, (lawR_s10 t g).toNat < 4]
theorem lawR_0_eq (p0 p1 n m r t : Int) (g : Bool) : (lawR_0 p0 p1 n m r t g) = true := by
  have hk := mod_rng t 4 (by omega) (by omega)
  have hr := between_rng r 1 2000 (by omega) (by omega) (by omega)
  obtain ⟨u, c0, c1⟩ := right_dirs g hk
  have e0 : lawR_s0 r = between_0 r 1 2000 + 1 := by unfold lawR_s0; rw [wrI (by omega) (by omega)]
  have hn := between_rng n (lawR_s0 r) 9000 (by omega) (by omega) (by omega)
  have hm := between_rng m (lawR_s0 r) 9000 (by omega) (by omega) (by omega)
  have P0 := small_rng p0 90000 (by omega) (by omega)
  have P1 := small_rng p1 90000 (by omega) (by omega)
  have z1 : lawR_s1 t = right_d0 (mod_0 t 4) := rfl
  have z3 : lawR_s3 t = right_d1 (mod_0 t 4) := rfl
  have z5 : lawR_s5 t g = -((bif g then -1 else 1) * right_d1 (mod_0 t 4)) := c0
  have z7 : lawR_s7 t g = (bif g then -1 else 1) * right_d0 (mod_0 t 4) := c1
  have hs : (bif g then (-1 : Int) else 1) = 1 ∨ (bif g then (-1 : Int) else 1) = -1 := by cases g <;> simp
  unfold lawR_0 lawR_s9 lawR_s6 lawR_s8
  have j2 : lawR_s2 p0 n r t = small_0 p0 90000 + between_0 n (lawR_s0 r) 9000 * right_d0 (mod_0 t 4) := by
    unfold lawR_s2
    rw [z1]
    generalize right_d0 (mod_0 t 4) = a at *
    generalize right_d1 (mod_0 t 4) = b at *
    generalize between_0 n (lawR_s0 r) 9000 = N at *
    rcases u with ⟨rfl, rfl⟩ | ⟨rfl, rfl⟩ | ⟨rfl, rfl⟩ | ⟨rfl, rfl⟩ <;> (rw [wrI (x := N * _) (by omega) (by omega), wrI (by omega) (by omega)])
  have j4 : lawR_s4 p1 n r t = small_0 p1 90000 + between_0 n (lawR_s0 r) 9000 * right_d1 (mod_0 t 4) := by
    unfold lawR_s4
    rw [z3]
    generalize right_d0 (mod_0 t 4) = a at *
    generalize right_d1 (mod_0 t 4) = b at *
    generalize between_0 n (lawR_s0 r) 9000 = N at *
    rcases u with ⟨rfl, rfl⟩ | ⟨rfl, rfl⟩ | ⟨rfl, rfl⟩ | ⟨rfl, rfl⟩ <;> (rw [wrI (x := N * _) (by omega) (by omega), wrI (by omega) (by omega)])
  rw [z1, z3, z5, z7, j2, j4]
  generalize right_d0 (mod_0 t 4) = a at *
  generalize right_d1 (mod_0 t 4) = b at *
  generalize between_0 n (lawR_s0 r) 9000 = N at *
  generalize between_0 m (lawR_s0 r) 9000 = M at *
  generalize between_0 r 1 2000 = k at *
  generalize small_0 p0 90000 = x at *
  generalize small_0 p1 90000 = y at *
  generalize (bif g then (-1 : Int) else 1) = s at *
  have wp : ∀ {l z w : Int}, (w = 0 ∨ w = 1 ∨ w = -1) → bd 200000 z → 0 ≤ l ∧ l ≤ 9000 → IntKind.i64.wrap (z + IntKind.i64.wrap (l * w)) = z + l * w := fun {l z w} hw hz hl => by
    rcases hw with rfl | rfl | rfl <;> (rw [wrI (x := l * _) (by omega) (by omega), wrI (by omega) (by omega)])
  have wm : ∀ {l z w : Int}, (w = 0 ∨ w = 1 ∨ w = -1) → bd 200000 z → 0 ≤ l ∧ l ≤ 9000 → IntKind.i64.wrap (z - IntKind.i64.wrap (l * w)) = z - l * w := fun {l z w} hw hz hl => by
    rcases hw with rfl | rfl | rfl <;> (rw [wrI (x := l * _) (by omega) (by omega), wrI (by omega) (by omega)])
  have ua : a = 0 ∨ a = 1 ∨ a = -1 := by unfold unit2 at u; omega
  have ub : b = 0 ∨ b = 1 ∨ b = -1 := by unfold unit2 at u; omega
  have uc : -(s * b) = 0 ∨ -(s * b) = 1 ∨ -(s * b) = -1 := by rcases hs with rfl | rfl <;> omega
  have ud : s * a = 0 ∨ s * a = 1 ∨ s * a = -1 := by rcases hs with rfl | rfl <;> omega
  have bx : bd 100000 (x + N * a) := by rcases ua with rfl | rfl | rfl <;> omega
  have by' : bd 100000 (y + N * b) := by rcases ub with rfl | rfl | rfl <;> omega
  have wR : IntKind.i64.wrap (s * k) = s * k := by rcases hs with rfl | rfl <;> exact wrI (by omega) (by omega)
  have r1 := wm ua (show bd 200000 (x + N * a) by omega) (show 0 ≤ k ∧ k ≤ 9000 by omega)
  have r2 := wm ub (show bd 200000 (y + N * b) by omega) (show 0 ≤ k ∧ k ≤ 9000 by omega)
  have bx2 : bd 110000 (x + N * a - k * a) := by rcases ua with rfl | rfl | rfl <;> omega
  have by2 : bd 110000 (y + N * b - k * b) := by rcases ub with rfl | rfl | rfl <;> omega
  have r3 := wp uc (show bd 200000 (x + N * a - k * a) by omega) (show 0 ≤ k ∧ k ≤ 9000 by omega)
  have r4 := wp ud (show bd 200000 (y + N * b - k * b) by omega) (show 0 ≤ k ∧ k ≤ 9000 by omega)
  rw [wR, wp uc (show bd 200000 (x + N * a) by omega) (show 0 ≤ M ∧ M ≤ 9000 by omega), wp ud (show bd 200000 (y + N * b) by omega) (show 0 ≤ M ∧ M ≤ 9000 by omega), r1, r2, r3, r4]
  obtain ⟨x1, x2, x3⟩ := right_trim (P0 := x) (P1 := y) (R := s * k) u hs (show 1 ≤ k ∧ k ≤ 2000 by omega) (show k < N ∧ N ≤ 9000 by omega) (show k < M ∧ M ≤ 9000 by omega) rfl (by omega) (by omega) rfl rfl rfl rfl
  rw [x1, x2, x3]
  simp
theorem lawR_need {r : Int} {t : Int} {g : Bool} : ∀ q ∈ (lawR_needs r t g), q := by
  intro q hq
  unfold lawR_needs at hq
  simp only [List.mem_cons, List.not_mem_nil, or_false] at hq
  have h1 := mod_rng t 4 (by omega) (by omega)
  have hr := between_rng r 1 2000 (by omega) (by omega) (by omega)
  obtain ⟨i0, i1⟩ := right_index (g := g) h1
  unfold lawR_s10 at hq
  have hw : IntKind.i64.wrap (IntKind.i64.wrap (9000 - IntKind.i64.wrap (between_0 r 1 2000 + 1)) + 1) ≠ 0 := by
    rw [wrI (x := between_0 r 1 2000 + 1) (by omega) (by omega), wrI (x := 9000 - (between_0 r 1 2000 + 1)) (by omega) (by omega), wrI (by omega) (by omega)]; omega
  generalize (bif g then (IntKind.i64.wrap (mod_0 t 4 + 3)).tmod 4 else (IntKind.i64.wrap (mod_0 t 4 + 1)).tmod 4) = i at *
  generalize mod_0 t 4 = k at *
  have a1 : k.toNat < 4 := by omega
  have a2 : i.toNat < 4 := by omega
  repeat' (rcases hq with hq | hq)
  all_goals first | assumption | exact h1.1 | exact hw | decide
set_option maxRecDepth 1000000 in
theorem lawR_runs (p0 p1 n m r t : Int) (g : Bool) (hNeeds : ∀ pN ∈ (lawR_needs r t g), pN) : Runs (runF (sums K_awake) L_cr 14) (lawR_tpl.args [.i p0, .i p1, .i n, .i m, .i r, .i t, .b g]) (lawR_tpl.memo [.i p0, .i p1, .i n, .i m, .i r, .i t, .b g] []) lawR_tpl.n (SV.one (SC.bool (SB.v (lawR_0 p0 p1 n m r t g))))
    ([]) :=
  Runs.of (ps := (lawR_needs r t g)) (by kernel_rfl) (by kernel_rfl) hNeeds
noncomputable def lawR_out : List Pm → Lss → Option CRes
  | [.i p0, .i p1, .i n, .i m, .i r, .i t, .b g], [] => some ⟨SV.one (SC.bool (SB.v (lawR_0 p0 p1 n m r t g))),
    [],
    [], [], 53755⟩
  | _, _ => none
theorem lawR_ok : FOk Try.prog 14 (tplS lawR_tpl lawR_out) := by
  refine tplS_ok (runF_ok known_awake 14) fun ps ls r hr hn _ => ?_
  unfold lawR_out at hr
  split at hr
  · cases hr; exact ⟨_, lawR_runs _ _ _ _ _ _ _ (fun p hp => lawR_need p hp), fun _ => by simp only [SV.den, SC.den, SB.val, lawR_0_eq]⟩
  · cases hr
noncomputable def K_lawR : List (Nat × Summ) := (14, tplS lawR_tpl lawR_out) :: K_awake
theorem known_lawR : Known Try.prog (sums K_lawR) L_cr := known_cons known_awake lawR_ok
end Go.Proofs.Ytjlkecfkjcanaaa
