/-
  No cell of these rows narrows 'for every input' (looked for: loops, veiled, ifaces, maps, wideKeys, modest, calm, conditions, laid).
  DERIVED. THE GIVEN ROWS OF THIS SEAT. 6 by the template 'for every input the law returns true; each argument reads behind the call as it read before'; 0 by the template 'total and deterministic' (their statements: YtmbfbhimdkjkoaaTotals.lean).
  GIVEN WITH THE SEED: the statements are not yours to turn. If you find one false, say at which input.
  Laid BY PROGRAM, IN A SANDBOX (cutbox-rows.mjs): the forced cells as the released guide's own fill.sh prints them over the translation 173b399319115fd6… (all of the seat's roots in one cut). By AI agents, Wed Nov 11 2026. No macro, syntax, notation, axiom, sorry.
-/
import Derived.Test.YtmbfbhimdkjkoaaChecked
import GoSem.Claim
import GoSem.ClaimJoined
import GoSem.ClaimMapViews
import Derived.JoinedTies
import Derived.KernelRfl
namespace Go.Proofs.Ytmbfbhimdkjkoaa
/- THE CELL 'sum', in the pinned program and in every row, IS THE sha256 OF THE DUMP (.gsa) THAT YtmbfbhimdkjkoaaProg.lean LOADS. Nothing in Lean hashes anything: it is a label: what it is worth is what the hold of that sum in a sandbox is worth. -/
noncomputable def Try.pinned : Pinned := { name := "ytmbfbhimdkjkoaa", sum := "173b399319115fd6e8da74a10fc9ae3b9571781a3166474dc478164dd97c2fc8", checked := Try.checked }
namespace Rows
def none {H : Type} : Left H := { results := [], args := [] }

/-- 'cnclaw20.CutterRadius': WHATEVER THE INPUT: true; the input reads as it did. -/
def cutterRadiusSpec : ChangeSpec := { name := "cutterRadius", fn := fun _ => fun
  | [d] => { results := [.lit (.bool true)], args := [d] }
  | _ => none }
def cutterRadiusRow : OpenClaim := { program := "ytmbfbhimdkjkoaa", sum := "173b399319115fd6e8da74a10fc9ae3b9571781a3166474dc478164dd97c2fc8", func := "cnc/cnclaw20.CutterRadius", spec := "cutterRadius", inPlace := ["math/bits.Sub64"], unfollowed := true, recurses := true, named := ["math/bits.divideError", "math/bits.overflowError"], apart := false }
def CutterRadiusSaid : Prop := cutterRadiusRow.holds Try.pinned (OpenSpec.ofChange cutterRadiusSpec)

/-- ITS FALSE NEIGHBOUR: 'it returns false'. Refute it at one input. -/
def cutterRadiusWrong : ChangeSpec := { name := "cutterRadius", fn := fun _ => fun
  | [d] => { results := [.lit (.bool false)], args := [d] }
  | _ => none }
def CutterRadiusWrongFalsely : Prop := cutterRadiusRow.holds Try.pinned (OpenSpec.ofChange cutterRadiusWrong)

/-- 'cnclaw20.CutterSquare': WHATEVER THE INPUT: true; the input reads as it did. -/
def cutterSquareSpec : ChangeSpec := { name := "cutterSquare", fn := fun _ => fun
  | [d1, d2, d3, d4] => { results := [.lit (.bool true)], args := [d1, d2, d3, d4] }
  | _ => none }
def cutterSquareRow : OpenClaim := { program := "ytmbfbhimdkjkoaa", sum := "173b399319115fd6e8da74a10fc9ae3b9571781a3166474dc478164dd97c2fc8", func := "cnc/cnclaw20.CutterSquare", spec := "cutterSquare", inPlace := ["math/bits.Sub64"], unfollowed := true, recurses := true, named := ["math/bits.divideError", "math/bits.overflowError"], apart := false }
def CutterSquareSaid : Prop := cutterSquareRow.holds Try.pinned (OpenSpec.ofChange cutterSquareSpec)

/-- ITS FALSE NEIGHBOUR: 'it returns false'. Refute it at one input. -/
def cutterSquareWrong : ChangeSpec := { name := "cutterSquare", fn := fun _ => fun
  | [d1, d2, d3, d4] => { results := [.lit (.bool false)], args := [d1, d2, d3, d4] }
  | _ => none }
def CutterSquareWrongFalsely : Prop := cutterSquareRow.holds Try.pinned (OpenSpec.ofChange cutterSquareWrong)

/-- 'cnclaw20.CutterPrefix': WHATEVER THE INPUT: true; the input reads as it did. -/
def cutterPrefixSpec : ChangeSpec := { name := "cutterPrefix", fn := fun _ => fun
  | [d1, d2] => { results := [.lit (.bool true)], args := [d1, d2] }
  | _ => none }
def cutterPrefixRow : OpenClaim := { program := "ytmbfbhimdkjkoaa", sum := "173b399319115fd6e8da74a10fc9ae3b9571781a3166474dc478164dd97c2fc8", func := "cnc/cnclaw20.CutterPrefix", spec := "cutterPrefix", inPlace := ["math/bits.Sub64"], unfollowed := true, recurses := true, named := ["math/bits.divideError", "math/bits.overflowError"], apart := false }
def CutterPrefixSaid : Prop := cutterPrefixRow.holds Try.pinned (OpenSpec.ofChange cutterPrefixSpec)

/-- ITS FALSE NEIGHBOUR: 'it returns false'. Refute it at one input. -/
def cutterPrefixWrong : ChangeSpec := { name := "cutterPrefix", fn := fun _ => fun
  | [d1, d2] => { results := [.lit (.bool false)], args := [d1, d2] }
  | _ => none }
def CutterPrefixWrongFalsely : Prop := cutterPrefixRow.holds Try.pinned (OpenSpec.ofChange cutterPrefixWrong)

/-- 'cnclaw20.CutterFinal': WHATEVER THE INPUT: true; the input reads as it did. -/
def cutterFinalSpec : ChangeSpec := { name := "cutterFinal", fn := fun _ => fun
  | [d1, d2] => { results := [.lit (.bool true)], args := [d1, d2] }
  | _ => none }
def cutterFinalRow : OpenClaim := { program := "ytmbfbhimdkjkoaa", sum := "173b399319115fd6e8da74a10fc9ae3b9571781a3166474dc478164dd97c2fc8", func := "cnc/cnclaw20.CutterFinal", spec := "cutterFinal", inPlace := ["math/bits.Sub64"], unfollowed := true, recurses := true, named := ["math/bits.divideError", "math/bits.overflowError"], apart := false }
def CutterFinalSaid : Prop := cutterFinalRow.holds Try.pinned (OpenSpec.ofChange cutterFinalSpec)

/-- ITS FALSE NEIGHBOUR: 'it returns false'. Refute it at one input. -/
def cutterFinalWrong : ChangeSpec := { name := "cutterFinal", fn := fun _ => fun
  | [d1, d2] => { results := [.lit (.bool false)], args := [d1, d2] }
  | _ => none }
def CutterFinalWrongFalsely : Prop := cutterFinalRow.holds Try.pinned (OpenSpec.ofChange cutterFinalWrong)

/-- 'cnclaw20.CutterCopies': WHATEVER THE INPUT: true; the input reads as it did. -/
def cutterCopiesSpec : ChangeSpec := { name := "cutterCopies", fn := fun _ => fun
  | [d1, d2] => { results := [.lit (.bool true)], args := [d1, d2] }
  | _ => none }
def cutterCopiesRow : OpenClaim := { program := "ytmbfbhimdkjkoaa", sum := "173b399319115fd6e8da74a10fc9ae3b9571781a3166474dc478164dd97c2fc8", func := "cnc/cnclaw20.CutterCopies", spec := "cutterCopies", inPlace := ["math/bits.Sub64"], unfollowed := true, recurses := true, named := ["math/bits.divideError", "math/bits.overflowError"], apart := false }
def CutterCopiesSaid : Prop := cutterCopiesRow.holds Try.pinned (OpenSpec.ofChange cutterCopiesSpec)

/-- ITS FALSE NEIGHBOUR: 'it returns false'. Refute it at one input. -/
def cutterCopiesWrong : ChangeSpec := { name := "cutterCopies", fn := fun _ => fun
  | [d1, d2] => { results := [.lit (.bool false)], args := [d1, d2] }
  | _ => none }
def CutterCopiesWrongFalsely : Prop := cutterCopiesRow.holds Try.pinned (OpenSpec.ofChange cutterCopiesWrong)

/-- 'cnclaw20.CutterCanonical': WHATEVER THE INPUT: true; the input reads as it did. -/
def cutterCanonicalSpec : ChangeSpec := { name := "cutterCanonical", fn := fun _ => fun
  | [d] => { results := [.lit (.bool true)], args := [d] }
  | _ => none }
def cutterCanonicalRow : OpenClaim := { program := "ytmbfbhimdkjkoaa", sum := "173b399319115fd6e8da74a10fc9ae3b9571781a3166474dc478164dd97c2fc8", func := "cnc/cnclaw20.CutterCanonical", spec := "cutterCanonical", inPlace := ["math/bits.Sub64"], unfollowed := true, recurses := true, named := ["math/bits.divideError", "math/bits.overflowError"], apart := false }
def CutterCanonicalSaid : Prop := cutterCanonicalRow.holds Try.pinned (OpenSpec.ofChange cutterCanonicalSpec)

/-- ITS FALSE NEIGHBOUR: 'it returns false'. Refute it at one input. -/
def cutterCanonicalWrong : ChangeSpec := { name := "cutterCanonical", fn := fun _ => fun
  | [d] => { results := [.lit (.bool false)], args := [d] }
  | _ => none }
def CutterCanonicalWrongFalsely : Prop := cutterCanonicalRow.holds Try.pinned (OpenSpec.ofChange cutterCanonicalWrong)

/- THE SECOND FORM. 'bulk': how many values and letters a reading holds, each counted each time it is reached (what is shared counts as often as it is met; a slice's spare places count too). A statement '..UptoSaid' is the law's where the arguments, and the package variables that the reading takes, are together of bulk at most 1048576: NARROWER than '..Said'. Prove '..Said' where nothing that the law and all that it calls make is longer than what came in: it says more and counts as full. Else prove '..UptoSaid'. A law counts once. -/
mutual
def uptoBulk {H : Type} : DataW H → Nat
  | .lit (.string bytes) => bytes.length + 1
  | .lit _ => 1
  | .nil => 1
  | .ptr d => uptoBulk d + 1
  | .slice elems spare => uptoBulkAll elems + uptoBulkAll spare + 1
  | .agg parts => uptoBulkAll parts + 1
  | .iface _ d => uptoBulk d + 1
  | .map entries => uptoBulkEntries entries + 1
  | .held _ => 1
def uptoBulkAll {H : Type} : List (DataW H) → Nat
  | [] => 0
  | d :: r => uptoBulk d + uptoBulkAll r
def uptoBulkEntries {H : Type} : List (Lit × DataW H) → Nat
  | [] => 0
  | x :: r => uptoBulkEntry x + uptoBulkEntries r
def uptoBulkEntry {H : Type} : Lit × DataW H → Nat
  | (.string bytes, d) => bytes.length + uptoBulk d + 1
  | (_, d) => uptoBulk d + 1
 end
def uptoSmall : (H : Type) → List (DataW H) → Bool := fun _ ds => decide (uptoBulkAll ds ≤ 1048576)
def OpenSpec.upto (s : _root_.Go.ChangeSpec) : _root_.Go.OpenSpec := { _root_.Go.OpenSpec.ofChange s with cond := some uptoSmall }

/-- 'cnclaw20.CutterRadius', WHERE WHAT IT READS IS OF BULK AT MOST 1048576: true; the input reads as it did. -/
def cutterRadiusUptoRow : OpenClaim := { program := "ytmbfbhimdkjkoaa", sum := "173b399319115fd6e8da74a10fc9ae3b9571781a3166474dc478164dd97c2fc8", func := "cnc/cnclaw20.CutterRadius", spec := "cutterRadius", inPlace := ["math/bits.Sub64"], unfollowed := true, recurses := true, named := ["math/bits.divideError", "math/bits.overflowError"], apart := false, narrowed := true }
def CutterRadiusUptoSaid : Prop := cutterRadiusUptoRow.holds Try.pinned (OpenSpec.upto cutterRadiusSpec)

/-- 'cnclaw20.CutterSquare', WHERE WHAT IT READS IS OF BULK AT MOST 1048576: true; the input reads as it did. -/
def cutterSquareUptoRow : OpenClaim := { program := "ytmbfbhimdkjkoaa", sum := "173b399319115fd6e8da74a10fc9ae3b9571781a3166474dc478164dd97c2fc8", func := "cnc/cnclaw20.CutterSquare", spec := "cutterSquare", inPlace := ["math/bits.Sub64"], unfollowed := true, recurses := true, named := ["math/bits.divideError", "math/bits.overflowError"], apart := false, narrowed := true }
def CutterSquareUptoSaid : Prop := cutterSquareUptoRow.holds Try.pinned (OpenSpec.upto cutterSquareSpec)

/-- 'cnclaw20.CutterPrefix', WHERE WHAT IT READS IS OF BULK AT MOST 1048576: true; the input reads as it did. -/
def cutterPrefixUptoRow : OpenClaim := { program := "ytmbfbhimdkjkoaa", sum := "173b399319115fd6e8da74a10fc9ae3b9571781a3166474dc478164dd97c2fc8", func := "cnc/cnclaw20.CutterPrefix", spec := "cutterPrefix", inPlace := ["math/bits.Sub64"], unfollowed := true, recurses := true, named := ["math/bits.divideError", "math/bits.overflowError"], apart := false, narrowed := true }
def CutterPrefixUptoSaid : Prop := cutterPrefixUptoRow.holds Try.pinned (OpenSpec.upto cutterPrefixSpec)

/-- 'cnclaw20.CutterFinal', WHERE WHAT IT READS IS OF BULK AT MOST 1048576: true; the input reads as it did. -/
def cutterFinalUptoRow : OpenClaim := { program := "ytmbfbhimdkjkoaa", sum := "173b399319115fd6e8da74a10fc9ae3b9571781a3166474dc478164dd97c2fc8", func := "cnc/cnclaw20.CutterFinal", spec := "cutterFinal", inPlace := ["math/bits.Sub64"], unfollowed := true, recurses := true, named := ["math/bits.divideError", "math/bits.overflowError"], apart := false, narrowed := true }
def CutterFinalUptoSaid : Prop := cutterFinalUptoRow.holds Try.pinned (OpenSpec.upto cutterFinalSpec)

/-- 'cnclaw20.CutterCopies', WHERE WHAT IT READS IS OF BULK AT MOST 1048576: true; the input reads as it did. -/
def cutterCopiesUptoRow : OpenClaim := { program := "ytmbfbhimdkjkoaa", sum := "173b399319115fd6e8da74a10fc9ae3b9571781a3166474dc478164dd97c2fc8", func := "cnc/cnclaw20.CutterCopies", spec := "cutterCopies", inPlace := ["math/bits.Sub64"], unfollowed := true, recurses := true, named := ["math/bits.divideError", "math/bits.overflowError"], apart := false, narrowed := true }
def CutterCopiesUptoSaid : Prop := cutterCopiesUptoRow.holds Try.pinned (OpenSpec.upto cutterCopiesSpec)

/-- 'cnclaw20.CutterCanonical', WHERE WHAT IT READS IS OF BULK AT MOST 1048576: true; the input reads as it did. -/
def cutterCanonicalUptoRow : OpenClaim := { program := "ytmbfbhimdkjkoaa", sum := "173b399319115fd6e8da74a10fc9ae3b9571781a3166474dc478164dd97c2fc8", func := "cnc/cnclaw20.CutterCanonical", spec := "cutterCanonical", inPlace := ["math/bits.Sub64"], unfollowed := true, recurses := true, named := ["math/bits.divideError", "math/bits.overflowError"], apart := false, narrowed := true }
def CutterCanonicalUptoSaid : Prop := cutterCanonicalUptoRow.holds Try.pinned (OpenSpec.upto cutterCanonicalSpec)

end Rows
end Go.Proofs.Ytmbfbhimdkjkoaa
