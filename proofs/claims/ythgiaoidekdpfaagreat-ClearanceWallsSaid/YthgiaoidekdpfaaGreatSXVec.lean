/-
  PARAMETERS IN GROUPS: a summary's numbers and truth values that stand together are one list of integers. Conditions: none.
-/
import Derived.Test.YthgiaoidekdpfaaGreatSXLevel
set_option linter.all false
namespace Go.SX
open Go.RowKit

inductive GK where
  | i | b | v (ks : List Bool)     -- of a group: which components are truth values
/-- A component of a group. -/
inductive GC where
  | i (n : Int) | b (x : Bool)
noncomputable def GC.int : GC → Int
  | .i n => n
  | .b _ => 0
noncomputable def GC.bit : GC → Bool
  | .b x => x
  | .i _ => false
noncomputable def xi (l : List GC) (j : Nat) : Int := (l.getD j (.i 0)).int
noncomputable def xb (l : List GC) (j : Nat) : Bool := (l.getD j (.i 0)).bit
inductive Gm where
  | i (n : Int) | b (x : Bool) | v (l : List GC)
noncomputable def takeV : List Bool → List Pm → Option (List GC × List Pm)
  | [], r => some ([], r)
  | false :: ks, .i n :: r => match takeV ks r with
    | some (l, q) => some (.i n :: l, q)
    | none => none
  | true :: ks, .b x :: r => match takeV ks r with
    | some (l, q) => some (.b x :: l, q)
    | none => none
  | _, _ => none
noncomputable def group : List GK → List Pm → Option (List Gm)
  | [], [] => some []
  | .i :: g, .i n :: r => match group g r with
    | some l => some (.i n :: l)
    | none => none
  | .b :: g, .b x :: r => match group g r with
    | some l => some (.b x :: l)
    | none => none
  | .v ks :: g, r => match takeV ks r with
    | some (l, q) => (match group g q with
      | some m => some (.v l :: m)
      | none => none)
    | none => none
  | _, _ => none
noncomputable def spreadF : List Bool → List GC → Nat → List Pm → List Pm
  | [], _, _, r => r
  | false :: ks, l, j, r => .i (xi l j) :: spreadF ks l (j + 1) r
  | true :: ks, l, j, r => .b (xb l j) :: spreadF ks l (j + 1) r
noncomputable def spread : List GK → List Gm → List Pm
  | .i :: g, .i n :: r => .i n :: spread g r
  | .b :: g, .b x :: r => .b x :: spread g r
  | .v ks :: g, .v l :: r => spreadF ks l 0 (spread g r)
  | _, _ => []
theorem getD_mid (pre l : List GC) (x d : GC) : (pre ++ x :: l).getD pre.length d = x := by
  simp [List.getD]
theorem xi_mid (pre l : List GC) (n : Int) : xi (pre ++ .i n :: l) pre.length = n := by
  rw [xi, getD_mid]; rfl
theorem xb_mid (pre l : List GC) (x : Bool) : xb (pre ++ .b x :: l) pre.length = x := by
  rw [xb, getD_mid]; rfl
theorem takeV_spec : ∀ {ks : List Bool} {r q : List Pm} {l : List GC}, takeV ks r = some (l, q) → ∀ pre, spreadF ks (pre ++ l) pre.length q = r
  | [], r, q, l, h, pre => by cases h; rfl
  | false :: ks, [], q, l, h, pre => by cases h
  | true :: ks, [], q, l, h, pre => by cases h
  | false :: ks, .b x :: r, q, l, h, pre => by cases h
  | true :: ks, .i n :: r, q, l, h, pre => by cases h
  | false :: ks, .i n :: r, q, l, h, pre => by
    simp only [takeV] at h
    split at h
    · rename_i l' q' h'
      cases h
      have := takeV_spec h' (pre ++ [.i n])
      simp only [List.append_assoc, List.singleton_append, List.length_append, List.length_singleton] at this
      simp only [spreadF, xi_mid, this]
    · cases h
  | true :: ks, .b x :: r, q, l, h, pre => by
    simp only [takeV] at h
    split at h
    · rename_i l' q' h'
      cases h
      have := takeV_spec h' (pre ++ [.b x])
      simp only [List.append_assoc, List.singleton_append, List.length_append, List.length_singleton] at this
      simp only [spreadF, xb_mid, this]
    · cases h
theorem spread_group : ∀ {g : List GK} {ps : List Pm} {gs : List Gm}, group g ps = some gs → spread g gs = ps
  | [], [], gs, h => by cases h; rfl
  | [], _ :: _, gs, h => by cases h
  | .i :: g, [], gs, h => by cases h
  | .b :: g, [], gs, h => by cases h
  | .i :: g, .b x :: r, gs, h => by cases h
  | .b :: g, .i n :: r, gs, h => by cases h
  | .i :: g, .i n :: r, gs, h => by
    simp only [group] at h
    split at h
    · rename_i l h'
      cases h
      simp only [spread, spread_group h']
    · cases h
  | .b :: g, .b x :: r, gs, h => by
    simp only [group] at h
    split at h
    · rename_i l h'
      cases h
      simp only [spread, spread_group h']
    · cases h
  | .v ks :: g, r, gs, h => by
    have e : group (.v ks :: g) r = match takeV ks r with
      | some (l, q) => (match group g q with
        | some m => some (.v l :: m)
        | none => none)
      | none => none := by cases r <;> rfl
    rw [e] at h
    split at h
    · rename_i l q h1
      split at h
      · rename_i m h2
        cases h
        simp only [spread, spread_group h2]
        exact takeV_spec h1 []
      · cases h
    · cases h
noncomputable def tplG (g : List GK) (t : Tpl) (out : List Gm → Lss → Option CRes) : Summ := tplS t fun ps ls => match group g ps with
  | some gs => out gs ls
  | none => none
theorem tplG_ok {P : Program} {f : FuncId} {s : Summ} (hg : FOk P f s) {g : List GK} {t : Tpl} {out : List Gm → Lss → Option CRes}
    (h : ∀ gs ls r, out gs ls = some r → (∀ p ∈ r.needs, p) → (∀ p ∈ r.eqs, p.1 = p.2) → ∃ v, Runs s (t.args (spread g gs)) (t.memo (spread g gs) ls) t.n v r.mem ∧ ∀ θ, v.den θ = r.val.den θ) : FOk P f (tplG g t out) := by
  refine tplS_ok hg fun ps ls r hr hn he => ?_
  split at hr
  · rename_i gs hgs
    have := h gs ls r hr hn he
    rw [spread_group hgs] at this
    exact this
  · cases hr
/-- An item (22 cells, truth values at 13, 15, 21) as a group; a row's element as an item; an item as a row's element. -/
noncomputable def nrm (l : List GC) : List GC := [.i (xi l 0), .i (xi l 1), .i (xi l 2), .i (xi l 3), .i (xi l 4), .i (xi l 5), .i (xi l 6), .i (xi l 7), .i (xi l 8), .i (xi l 9), .i (xi l 10), .i (xi l 11), .i (xi l 12), .b (xb l 13), .i (xi l 14), .b (xb l 15), .i (xi l 16), .i (xi l 17), .i (xi l 18), .i (xi l 19), .i (xi l 20), .b (xb l 21)]
noncomputable def ofRow (r : List Int) : List GC := [.i (r.getD 0 0), .i (r.getD 1 0), .i (r.getD 2 0), .i (r.getD 3 0), .i (r.getD 4 0), .i (r.getD 5 0), .i (r.getD 6 0), .i (r.getD 7 0), .i (r.getD 8 0), .i (r.getD 9 0), .i (r.getD 10 0), .i (r.getD 11 0), .i (r.getD 12 0), .b (r.getD 13 0 != 0), .i (r.getD 14 0), .b (r.getD 15 0 != 0), .i (r.getD 16 0), .i (r.getD 17 0), .i (r.getD 18 0), .i (r.getD 19 0), .i (r.getD 20 0), .b (r.getD 21 0 != 0)]
noncomputable def toRow (l : List GC) : List Int := [xi l 0, xi l 1, xi l 2, xi l 3, xi l 4, xi l 5, xi l 6, xi l 7, xi l 8, xi l 9, xi l 10, xi l 11, xi l 12, (bif xb l 13 then 1 else 0), xi l 14, (bif xb l 15 then 1 else 0), xi l 16, xi l 17, xi l 18, xi l 19, xi l 20, (bif xb l 21 then 1 else 0)]
noncomputable def cpRow (r : List Int) : List Int := [r.getD 0 0, r.getD 1 0, r.getD 2 0, r.getD 3 0, r.getD 4 0, r.getD 5 0, r.getD 6 0, r.getD 7 0, r.getD 8 0, r.getD 9 0, r.getD 10 0, r.getD 11 0, r.getD 12 0, (bif (r.getD 13 0 != 0) then 1 else 0), r.getD 14 0, (bif (r.getD 15 0 != 0) then 1 else 0), r.getD 16 0, r.getD 17 0, r.getD 18 0, r.getD 19 0, r.getD 20 0, (bif (r.getD 21 0 != 0) then 1 else 0)]
end Go.SX
