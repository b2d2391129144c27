/-
  CUTTER: a filter's block. Conditions: none.
-/
import Derived.Test.YtmbfbhimdkjkoaaV7
set_option linter.all false
namespace Go.Proofs.Ytmbfbhimdkjkoaa
open Go.SX Go.RowKit
noncomputable def B (x : Bool) : SC := .bool (.v x)
noncomputable def CKi : List CK := [.int .i64, .int .i64, .int .i64, .int .i64, .int .i64, .int .i64, .int .i64, .int .i64, .int .i64, .int .i64, .int .i64, .int .i64, .int .i64, .bool, .int .i64, .bool, .int .i64, .int .i64, .int .i64, .int .i64, .int .i64, .bool]
noncomputable def rowI (id tag : Nat) (xs : List (List Int)) : Nat × SX.Obj := (id, .row false 32 22 (.lst tag CKi xs))
noncomputable def fcells (g : Nat → Nat) (l y : List GC) (a0 a1 : Int) (tr : Bool) (c : Nat) (op cl en mo : Bool) (la0 la1 la2 : Int) (o : Nat) (er : Int) : List (Nat × SC) :=
  [(g 0, I (xi l 0)), (g 1, I (xi l 1)), (g 2, I (xi l 2)), (g 3, I (xi l 3)), (g 4, I (xi l 4)), (g 5, I (xi l 5)), (g 6, I (xi l 6)), (g 7, I (xi l 7)), (g 8, I (xi l 8)), (g 9, I (xi l 9)), (g 10, I (xi l 10)), (g 11, I (xi l 11)), (g 12, I (xi l 12)), (g 13, B (xb l 13)), (g 14, I (xi l 14)), (g 15, B (xb l 15)), (g 16, I (xi l 16)), (g 17, I (xi l 17)), (g 18, I (xi l 18)), (g 19, I (xi l 19)), (g 20, I (xi l 20)), (g 21, B (xb l 21)), (g 22, I (xi y 0)), (g 23, I (xi y 1)), (g 24, I (xi y 2)), (g 25, I (xi y 3)), (g 26, I (xi y 4)), (g 27, I (xi y 5)), (g 28, I (xi y 6)), (g 29, I (xi y 7)), (g 30, I (xi y 8)), (g 31, I (xi y 9)), (g 32, I (xi y 10)), (g 33, I (xi y 11)), (g 34, I (xi y 12)), (g 35, B (xb y 13)), (g 36, I (xi y 14)), (g 37, B (xb y 15)), (g 38, I (xi y 16)), (g 39, I (xi y 17)), (g 40, I (xi y 18)), (g 41, I (xi y 19)), (g 42, I (xi y 20)), (g 43, B (xb y 21)), (g 44, I a0), (g 45, I a1), (g 46, B tr), (g 47, .wh c), (g 48, B op), (g 49, B cl), (g 50, B en), (g 51, B mo), (g 52, I la0), (g 53, I la1), (g 54, I la2), (g 55, .wh o), (g 56, I er)]
noncomputable def gI (cs : List (Nat × SC)) (k : Nat) : Int := match cs.drop k with
  | (_, .int _ x) :: _ => x.val
  | _ => 0
noncomputable def gB (cs : List (Nat × SC)) (k : Nat) : Bool := match cs.drop k with
  | (_, .bool x) :: _ => x.val
  | _ => false
noncomputable def gV (cs : List (Nat × SC)) (k : Nat) : List GC := [.i (gI cs (k + 0)), .i (gI cs (k + 1)), .i (gI cs (k + 2)), .i (gI cs (k + 3)), .i (gI cs (k + 4)), .i (gI cs (k + 5)), .i (gI cs (k + 6)), .i (gI cs (k + 7)), .i (gI cs (k + 8)), .i (gI cs (k + 9)), .i (gI cs (k + 10)), .i (gI cs (k + 11)), .i (gI cs (k + 12)), .b (gB cs (k + 13)), .i (gI cs (k + 14)), .b (gB cs (k + 15)), .i (gI cs (k + 16)), .i (gI cs (k + 17)), .i (gI cs (k + 18)), .i (gI cs (k + 19)), .i (gI cs (k + 20)), .b (gB cs (k + 21))]
noncomputable def takeC : List Bool → List (Nat × SC) → Option (List GC × List (Nat × SC))
  | [], r => some ([], r)
  | false :: ks, (_, .int _ x) :: r => match takeC ks r with
    | some (l, q) => some (.i x.val :: l, q)
    | none => none
  | true :: ks, (_, .bool x) :: r => match takeC ks r with
    | some (l, q) => some (.b x.val :: l, q)
    | none => none
  | _, _ => none
end Go.Proofs.Ytmbfbhimdkjkoaa
