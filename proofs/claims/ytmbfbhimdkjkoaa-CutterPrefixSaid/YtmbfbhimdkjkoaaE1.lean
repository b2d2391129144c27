/-
  CUTTER: what Push tells, and what stays. Conditions: none.
-/
import Derived.Test.YtmbfbhimdkjkoaaA2
set_option linter.all false
namespace Go.Proofs.Ytmbfbhimdkjkoaa
open Go.SX Go.RowKit
theorem oitem_3_id (e : Int) : oitem_3 e = e := by
  unfold oitem_3
  cases h : (e != 0)
  · rw [cond_false]; exact (by simpa using h : e = 0).symm
  · rfl
theorem push_0_eq (x l y : List GC) (a0 a1 : Int) (tr op cl en mo : Bool) (la0 la1 la2 er : Int) (C : List (List Int)) :
    push_0 x l y a0 a1 tr op cl en mo la0 la1 la2 er C = push_55 x l y a0 a1 tr op cl en mo la0 la1 la2 er C := by
  unfold push_0 push_55
  rw [oitem_3_id, oitem_3_id]
theorem pushE_er (x : List GC) (s : St) : pushE x s = (pushS x s).er := push_0_eq ..
theorem pushE_stays (x : List GC) (s : St) (h : s.er ≠ 0) : pushE x s = s.er := by
  unfold pushE
  rw [push_0_eq]
  unfold push_55
  rw [show (s.er == 0) = false from by simpa using h]; rfl
theorem pushO_stays (x : List GC) (s : St) (h : s.er ≠ 0) : pushO x s = [] := by
  unfold pushO push_1 settled_45
  rw [show (s.er == 0) = false from by simpa using h, cond_false]
  cases s.er != 0 <;> rfl
/-- An error, and nothing is settled. -/
theorem pushO_err (x : List GC) (s : St) (h : pushE x s ≠ 0) : pushO x s = [] := by
  unfold pushE push_0 at h
  unfold pushO push_1 settled_45
  cases he : s.er == 0
  · rw [cond_false]; cases s.er != 0 <;> rfl
  · rw [he, cond_true, oitem_3_id] at h
    rw [cond_true, show (take_0 _ _ _ _ _ _ _ _ _ _ _ _ _ _ != 0) = true from by simpa using h]; rfl
theorem cvalid_zero : cvalid_0 (nrm (nrm zeroG)) = false := by decide +kernel
theorem pushE_zero (s : St) : pushE zeroG s ≠ 0 := by
  unfold pushE
  rw [push_0_eq]
  unfold push_55
  cases he : s.er == 0
  · rw [cond_false]; simpa using he
  · rw [cond_true]
    unfold take_0
    cases s.cl
    · rw [cond_false, cvalid_zero]; show ¬ (1 : Int) = 0; decide
    · show ¬ (13 : Int) = 0; decide
theorem light_len {L : List (List Int)} (h : light_0 L = true) : L.length ≤ 120 := by
  unfold light_0 at h
  have := of_decide_eq_true h
  simp at this
  omega
end Go.Proofs.Ytmbfbhimdkjkoaa
