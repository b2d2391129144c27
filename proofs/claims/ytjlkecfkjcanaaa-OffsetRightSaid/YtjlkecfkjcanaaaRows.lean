/-
  No cell of these rows narrows 'for every input' (looked for: loops, veiled, ifaces, maps, wideKeys, modest, calm, conditions, laid).
  DERIVED. THE GIVEN ROWS OF THIS SEAT. 12 by the template 'for every input the law returns true; each argument reads behind the call as it read before'; 0 by the template 'total and deterministic' (their statements: YtjlkecfkjcanaaaTotals.lean).
  GIVEN WITH THE SEED: the statements are not yours to turn. If you find one false, say at which input.
  Laid BY PROGRAM, IN A SANDBOX (cutbox-rows.mjs): the forced cells as the released guide's own fill.sh prints them over the translation 9f6b310d1e301dda… (all of the seat's roots in one cut). By AI agents, Wed Nov 11 2026. No macro, syntax, notation, axiom, sorry.
-/
import Derived.Test.YtjlkecfkjcanaaaChecked
import GoSem.Claim
import GoSem.ClaimJoined
import GoSem.ClaimMapViews
import Derived.JoinedTies
import Derived.KernelRfl
namespace Go.Proofs.Ytjlkecfkjcanaaa
/- THE CELL 'sum', in the pinned program and in every row, IS THE sha256 OF THE DUMP (.gsa) THAT YtjlkecfkjcanaaaProg.lean LOADS. Nothing in Lean hashes anything: it is a label: what it is worth is what the hold of that sum in a sandbox is worth. -/
noncomputable def Try.pinned : Pinned := { name := "ytjlkecfkjcanaaa", sum := "9f6b310d1e301dda64f5303a20f8e21b740dbf4e2679b254755dafefe6480107", checked := Try.checked }
namespace Rows
def none {H : Type} : Left H := { results := [], args := [] }

/-- 'cnclaw19.OffsetNormal': WHATEVER THE INPUT: true; the input reads as it did. -/
def offsetNormalSpec : ChangeSpec := { name := "offsetNormal", fn := fun _ => fun
  | [d1, d2, d3] => { results := [.lit (.bool true)], args := [d1, d2, d3] }
  | _ => none }
def offsetNormalRow : OpenClaim := { program := "ytjlkecfkjcanaaa", sum := "9f6b310d1e301dda64f5303a20f8e21b740dbf4e2679b254755dafefe6480107", func := "cnc/cnclaw19.OffsetNormal", spec := "offsetNormal", inPlace := ["math/bits.Sub64"], unfollowed := true, recurses := true, named := ["math/bits.divideError", "math/bits.overflowError"], apart := false }
def OffsetNormalSaid : Prop := offsetNormalRow.holds Try.pinned (OpenSpec.ofChange offsetNormalSpec)

/-- ITS FALSE NEIGHBOUR: 'it returns false'. Refute it at one input. -/
def offsetNormalWrong : ChangeSpec := { name := "offsetNormal", fn := fun _ => fun
  | [d1, d2, d3] => { results := [.lit (.bool false)], args := [d1, d2, d3] }
  | _ => none }
def OffsetNormalWrongFalsely : Prop := offsetNormalRow.holds Try.pinned (OpenSpec.ofChange offsetNormalWrong)

/-- 'cnclaw19.OffsetCorner': WHATEVER THE INPUT: true; the input reads as it did. -/
def offsetCornerSpec : ChangeSpec := { name := "offsetCorner", fn := fun _ => fun
  | [d1, d2, d3] => { results := [.lit (.bool true)], args := [d1, d2, d3] }
  | _ => none }
def offsetCornerRow : OpenClaim := { program := "ytjlkecfkjcanaaa", sum := "9f6b310d1e301dda64f5303a20f8e21b740dbf4e2679b254755dafefe6480107", func := "cnc/cnclaw19.OffsetCorner", spec := "offsetCorner", inPlace := ["math/bits.Sub64"], unfollowed := true, recurses := true, named := ["math/bits.divideError", "math/bits.overflowError"], apart := false }
def OffsetCornerSaid : Prop := offsetCornerRow.holds Try.pinned (OpenSpec.ofChange offsetCornerSpec)

/-- ITS FALSE NEIGHBOUR: 'it returns false'. Refute it at one input. -/
def offsetCornerWrong : ChangeSpec := { name := "offsetCorner", fn := fun _ => fun
  | [d1, d2, d3] => { results := [.lit (.bool false)], args := [d1, d2, d3] }
  | _ => none }
def OffsetCornerWrongFalsely : Prop := offsetCornerRow.holds Try.pinned (OpenSpec.ofChange offsetCornerWrong)

/-- 'cnclaw19.OffsetClear': WHATEVER THE INPUT: true; the input reads as it did. -/
def offsetClearSpec : ChangeSpec := { name := "offsetClear", fn := fun _ => fun
  | [d1, d2, d3] => { results := [.lit (.bool true)], args := [d1, d2, d3] }
  | _ => none }
def offsetClearRow : OpenClaim := { program := "ytjlkecfkjcanaaa", sum := "9f6b310d1e301dda64f5303a20f8e21b740dbf4e2679b254755dafefe6480107", func := "cnc/cnclaw19.OffsetClear", spec := "offsetClear", inPlace := ["math/bits.Sub64"], unfollowed := true, recurses := true, named := ["math/bits.divideError", "math/bits.overflowError"], apart := false }
def OffsetClearSaid : Prop := offsetClearRow.holds Try.pinned (OpenSpec.ofChange offsetClearSpec)

/-- ITS FALSE NEIGHBOUR: 'it returns false'. Refute it at one input. -/
def offsetClearWrong : ChangeSpec := { name := "offsetClear", fn := fun _ => fun
  | [d1, d2, d3] => { results := [.lit (.bool false)], args := [d1, d2, d3] }
  | _ => none }
def OffsetClearWrongFalsely : Prop := offsetClearRow.holds Try.pinned (OpenSpec.ofChange offsetClearWrong)

/-- 'cnclaw19.OffsetEnds': WHATEVER THE INPUT: true; the input reads as it did. -/
def offsetEndsSpec : ChangeSpec := { name := "offsetEnds", fn := fun _ => fun
  | [d1, d2] => { results := [.lit (.bool true)], args := [d1, d2] }
  | _ => none }
def offsetEndsRow : OpenClaim := { program := "ytjlkecfkjcanaaa", sum := "9f6b310d1e301dda64f5303a20f8e21b740dbf4e2679b254755dafefe6480107", func := "cnc/cnclaw19.OffsetEnds", spec := "offsetEnds", inPlace := ["math/bits.Sub64"], unfollowed := true, recurses := true, named := ["math/bits.divideError", "math/bits.overflowError"], apart := false }
def OffsetEndsSaid : Prop := offsetEndsRow.holds Try.pinned (OpenSpec.ofChange offsetEndsSpec)

/-- ITS FALSE NEIGHBOUR: 'it returns false'. Refute it at one input. -/
def offsetEndsWrong : ChangeSpec := { name := "offsetEnds", fn := fun _ => fun
  | [d1, d2] => { results := [.lit (.bool false)], args := [d1, d2] }
  | _ => none }
def OffsetEndsWrongFalsely : Prop := offsetEndsRow.holds Try.pinned (OpenSpec.ofChange offsetEndsWrong)

/-- 'cnclaw19.OffsetHalf': WHATEVER THE INPUT: true; the input reads as it did. -/
def offsetHalfSpec : ChangeSpec := { name := "offsetHalf", fn := fun _ => fun
  | [d1, d2, d3, d4] => { results := [.lit (.bool true)], args := [d1, d2, d3, d4] }
  | _ => none }
def offsetHalfRow : OpenClaim := { program := "ytjlkecfkjcanaaa", sum := "9f6b310d1e301dda64f5303a20f8e21b740dbf4e2679b254755dafefe6480107", func := "cnc/cnclaw19.OffsetHalf", spec := "offsetHalf", inPlace := ["math/bits.Sub64"], unfollowed := true, recurses := true, named := ["math/bits.divideError", "math/bits.overflowError"], apart := false }
def OffsetHalfSaid : Prop := offsetHalfRow.holds Try.pinned (OpenSpec.ofChange offsetHalfSpec)

/-- ITS FALSE NEIGHBOUR: 'it returns false'. Refute it at one input. -/
def offsetHalfWrong : ChangeSpec := { name := "offsetHalf", fn := fun _ => fun
  | [d1, d2, d3, d4] => { results := [.lit (.bool false)], args := [d1, d2, d3, d4] }
  | _ => none }
def OffsetHalfWrongFalsely : Prop := offsetHalfRow.holds Try.pinned (OpenSpec.ofChange offsetHalfWrong)

/-- 'cnclaw19.OffsetTrim': WHATEVER THE INPUT: true; the input reads as it did. -/
def offsetTrimSpec : ChangeSpec := { name := "offsetTrim", fn := fun _ => fun
  | [d] => { results := [.lit (.bool true)], args := [d] }
  | _ => none }
def offsetTrimRow : OpenClaim := { program := "ytjlkecfkjcanaaa", sum := "9f6b310d1e301dda64f5303a20f8e21b740dbf4e2679b254755dafefe6480107", func := "cnc/cnclaw19.OffsetTrim", spec := "offsetTrim", inPlace := ["math/bits.Sub64"], unfollowed := true, recurses := true, named := ["math/bits.divideError", "math/bits.overflowError"], apart := false }
def OffsetTrimSaid : Prop := offsetTrimRow.holds Try.pinned (OpenSpec.ofChange offsetTrimSpec)

/-- ITS FALSE NEIGHBOUR: 'it returns false'. Refute it at one input. -/
def offsetTrimWrong : ChangeSpec := { name := "offsetTrim", fn := fun _ => fun
  | [d] => { results := [.lit (.bool false)], args := [d] }
  | _ => none }
def OffsetTrimWrongFalsely : Prop := offsetTrimRow.holds Try.pinned (OpenSpec.ofChange offsetTrimWrong)

/-- 'cnclaw19.OffsetBeside': WHATEVER THE INPUT: true; the input reads as it did. -/
def offsetBesideSpec : ChangeSpec := { name := "offsetBeside", fn := fun _ => fun
  | [d1, d2, d3] => { results := [.lit (.bool true)], args := [d1, d2, d3] }
  | _ => none }
def offsetBesideRow : OpenClaim := { program := "ytjlkecfkjcanaaa", sum := "9f6b310d1e301dda64f5303a20f8e21b740dbf4e2679b254755dafefe6480107", func := "cnc/cnclaw19.OffsetBeside", spec := "offsetBeside", inPlace := ["math/bits.Sub64"], unfollowed := true, recurses := true, named := ["math/bits.divideError", "math/bits.overflowError"], apart := false }
def OffsetBesideSaid : Prop := offsetBesideRow.holds Try.pinned (OpenSpec.ofChange offsetBesideSpec)

/-- ITS FALSE NEIGHBOUR: 'it returns false'. Refute it at one input. -/
def offsetBesideWrong : ChangeSpec := { name := "offsetBeside", fn := fun _ => fun
  | [d1, d2, d3] => { results := [.lit (.bool false)], args := [d1, d2, d3] }
  | _ => none }
def OffsetBesideWrongFalsely : Prop := offsetBesideRow.holds Try.pinned (OpenSpec.ofChange offsetBesideWrong)

/-- 'cnclaw19.OffsetMirrors': WHATEVER THE INPUT: true; the input reads as it did. -/
def offsetMirrorsSpec : ChangeSpec := { name := "offsetMirrors", fn := fun _ => fun
  | [d1, d2, d3, d4, d5] => { results := [.lit (.bool true)], args := [d1, d2, d3, d4, d5] }
  | _ => none }
def offsetMirrorsRow : OpenClaim := { program := "ytjlkecfkjcanaaa", sum := "9f6b310d1e301dda64f5303a20f8e21b740dbf4e2679b254755dafefe6480107", func := "cnc/cnclaw19.OffsetMirrors", spec := "offsetMirrors", inPlace := ["math/bits.Sub64"], unfollowed := true, recurses := true, named := ["math/bits.divideError", "math/bits.overflowError"], apart := false }
def OffsetMirrorsSaid : Prop := offsetMirrorsRow.holds Try.pinned (OpenSpec.ofChange offsetMirrorsSpec)

/-- ITS FALSE NEIGHBOUR: 'it returns false'. Refute it at one input. -/
def offsetMirrorsWrong : ChangeSpec := { name := "offsetMirrors", fn := fun _ => fun
  | [d1, d2, d3, d4, d5] => { results := [.lit (.bool false)], args := [d1, d2, d3, d4, d5] }
  | _ => none }
def OffsetMirrorsWrongFalsely : Prop := offsetMirrorsRow.holds Try.pinned (OpenSpec.ofChange offsetMirrorsWrong)

/-- 'cnclaw19.OffsetSides': WHATEVER THE INPUT: true; the input reads as it did. -/
def offsetSidesSpec : ChangeSpec := { name := "offsetSides", fn := fun _ => fun
  | [d1, d2] => { results := [.lit (.bool true)], args := [d1, d2] }
  | _ => none }
def offsetSidesRow : OpenClaim := { program := "ytjlkecfkjcanaaa", sum := "9f6b310d1e301dda64f5303a20f8e21b740dbf4e2679b254755dafefe6480107", func := "cnc/cnclaw19.OffsetSides", spec := "offsetSides", inPlace := ["math/bits.Sub64"], unfollowed := true, recurses := true, named := ["math/bits.divideError", "math/bits.overflowError"], apart := false }
def OffsetSidesSaid : Prop := offsetSidesRow.holds Try.pinned (OpenSpec.ofChange offsetSidesSpec)

/-- ITS FALSE NEIGHBOUR: 'it returns false'. Refute it at one input. -/
def offsetSidesWrong : ChangeSpec := { name := "offsetSides", fn := fun _ => fun
  | [d1, d2] => { results := [.lit (.bool false)], args := [d1, d2] }
  | _ => none }
def OffsetSidesWrongFalsely : Prop := offsetSidesRow.holds Try.pinned (OpenSpec.ofChange offsetSidesWrong)

/-- 'cnclaw19.OffsetDistance': WHATEVER THE INPUT: true; the input reads as it did. -/
def offsetDistanceSpec : ChangeSpec := { name := "offsetDistance", fn := fun _ => fun
  | [d] => { results := [.lit (.bool true)], args := [d] }
  | _ => none }
def offsetDistanceRow : OpenClaim := { program := "ytjlkecfkjcanaaa", sum := "9f6b310d1e301dda64f5303a20f8e21b740dbf4e2679b254755dafefe6480107", func := "cnc/cnclaw19.OffsetDistance", spec := "offsetDistance", inPlace := ["math/bits.Sub64"], unfollowed := true, recurses := true, named := ["math/bits.divideError", "math/bits.overflowError"], apart := false }
def OffsetDistanceSaid : Prop := offsetDistanceRow.holds Try.pinned (OpenSpec.ofChange offsetDistanceSpec)

/-- ITS FALSE NEIGHBOUR: 'it returns false'. Refute it at one input. -/
def offsetDistanceWrong : ChangeSpec := { name := "offsetDistance", fn := fun _ => fun
  | [d] => { results := [.lit (.bool false)], args := [d] }
  | _ => none }
def OffsetDistanceWrongFalsely : Prop := offsetDistanceRow.holds Try.pinned (OpenSpec.ofChange offsetDistanceWrong)

/-- 'cnclaw19.OffsetMeets': WHATEVER THE INPUT: true; the input reads as it did. -/
def offsetMeetsSpec : ChangeSpec := { name := "offsetMeets", fn := fun _ => fun
  | [d] => { results := [.lit (.bool true)], args := [d] }
  | _ => none }
def offsetMeetsRow : OpenClaim := { program := "ytjlkecfkjcanaaa", sum := "9f6b310d1e301dda64f5303a20f8e21b740dbf4e2679b254755dafefe6480107", func := "cnc/cnclaw19.OffsetMeets", spec := "offsetMeets", inPlace := ["math/bits.Sub64"], unfollowed := true, recurses := true, named := ["math/bits.divideError", "math/bits.overflowError"], apart := false }
def OffsetMeetsSaid : Prop := offsetMeetsRow.holds Try.pinned (OpenSpec.ofChange offsetMeetsSpec)

/-- ITS FALSE NEIGHBOUR: 'it returns false'. Refute it at one input. -/
def offsetMeetsWrong : ChangeSpec := { name := "offsetMeets", fn := fun _ => fun
  | [d] => { results := [.lit (.bool false)], args := [d] }
  | _ => none }
def OffsetMeetsWrongFalsely : Prop := offsetMeetsRow.holds Try.pinned (OpenSpec.ofChange offsetMeetsWrong)

/-- 'cnclaw19.OffsetRight': WHATEVER THE INPUT: true; the input reads as it did. -/
def offsetRightSpec : ChangeSpec := { name := "offsetRight", fn := fun _ => fun
  | [d1, d2, d3, d4, d5, d6] => { results := [.lit (.bool true)], args := [d1, d2, d3, d4, d5, d6] }
  | _ => none }
def offsetRightRow : OpenClaim := { program := "ytjlkecfkjcanaaa", sum := "9f6b310d1e301dda64f5303a20f8e21b740dbf4e2679b254755dafefe6480107", func := "cnc/cnclaw19.OffsetRight", spec := "offsetRight", inPlace := ["math/bits.Sub64"], unfollowed := true, recurses := true, named := ["math/bits.divideError", "math/bits.overflowError"], apart := false }
def OffsetRightSaid : Prop := offsetRightRow.holds Try.pinned (OpenSpec.ofChange offsetRightSpec)

/-- ITS FALSE NEIGHBOUR: 'it returns false'. Refute it at one input. -/
def offsetRightWrong : ChangeSpec := { name := "offsetRight", fn := fun _ => fun
  | [d1, d2, d3, d4, d5, d6] => { results := [.lit (.bool false)], args := [d1, d2, d3, d4, d5, d6] }
  | _ => none }
def OffsetRightWrongFalsely : Prop := offsetRightRow.holds Try.pinned (OpenSpec.ofChange offsetRightWrong)

/- THE SECOND FORM. 'bulk': how many values and letters a reading holds, each counted each time it is reached (what is shared counts as often as it is met; a slice's spare places count too). A statement '..UptoSaid' is the law's where the arguments, and the package variables that the reading takes, are together of bulk at most 1048576: NARROWER than '..Said'. Prove '..Said' where nothing that the law and all that it calls make is longer than what came in: it says more and counts as full. Else prove '..UptoSaid'. A law counts once. -/
mutual
def uptoBulk {H : Type} : DataW H → Nat
  | .lit (.string bytes) => bytes.length + 1
  | .lit _ => 1
  | .nil => 1
  | .ptr d => uptoBulk d + 1
  | .slice elems spare => uptoBulkAll elems + uptoBulkAll spare + 1
  | .agg parts => uptoBulkAll parts + 1
  | .iface _ d => uptoBulk d + 1
  | .map entries => uptoBulkEntries entries + 1
  | .held _ => 1
def uptoBulkAll {H : Type} : List (DataW H) → Nat
  | [] => 0
  | d :: r => uptoBulk d + uptoBulkAll r
def uptoBulkEntries {H : Type} : List (Lit × DataW H) → Nat
  | [] => 0
  | x :: r => uptoBulkEntry x + uptoBulkEntries r
def uptoBulkEntry {H : Type} : Lit × DataW H → Nat
  | (.string bytes, d) => bytes.length + uptoBulk d + 1
  | (_, d) => uptoBulk d + 1
 end
def uptoSmall : (H : Type) → List (DataW H) → Bool := fun _ ds => decide (uptoBulkAll ds ≤ 1048576)
def OpenSpec.upto (s : _root_.Go.ChangeSpec) : _root_.Go.OpenSpec := { _root_.Go.OpenSpec.ofChange s with cond := some uptoSmall }

/-- 'cnclaw19.OffsetNormal', WHERE WHAT IT READS IS OF BULK AT MOST 1048576: true; the input reads as it did. -/
def offsetNormalUptoRow : OpenClaim := { program := "ytjlkecfkjcanaaa", sum := "9f6b310d1e301dda64f5303a20f8e21b740dbf4e2679b254755dafefe6480107", func := "cnc/cnclaw19.OffsetNormal", spec := "offsetNormal", inPlace := ["math/bits.Sub64"], unfollowed := true, recurses := true, named := ["math/bits.divideError", "math/bits.overflowError"], apart := false, narrowed := true }
def OffsetNormalUptoSaid : Prop := offsetNormalUptoRow.holds Try.pinned (OpenSpec.upto offsetNormalSpec)

/-- 'cnclaw19.OffsetCorner', WHERE WHAT IT READS IS OF BULK AT MOST 1048576: true; the input reads as it did. -/
def offsetCornerUptoRow : OpenClaim := { program := "ytjlkecfkjcanaaa", sum := "9f6b310d1e301dda64f5303a20f8e21b740dbf4e2679b254755dafefe6480107", func := "cnc/cnclaw19.OffsetCorner", spec := "offsetCorner", inPlace := ["math/bits.Sub64"], unfollowed := true, recurses := true, named := ["math/bits.divideError", "math/bits.overflowError"], apart := false, narrowed := true }
def OffsetCornerUptoSaid : Prop := offsetCornerUptoRow.holds Try.pinned (OpenSpec.upto offsetCornerSpec)

/-- 'cnclaw19.OffsetClear', WHERE WHAT IT READS IS OF BULK AT MOST 1048576: true; the input reads as it did. -/
def offsetClearUptoRow : OpenClaim := { program := "ytjlkecfkjcanaaa", sum := "9f6b310d1e301dda64f5303a20f8e21b740dbf4e2679b254755dafefe6480107", func := "cnc/cnclaw19.OffsetClear", spec := "offsetClear", inPlace := ["math/bits.Sub64"], unfollowed := true, recurses := true, named := ["math/bits.divideError", "math/bits.overflowError"], apart := false, narrowed := true }
def OffsetClearUptoSaid : Prop := offsetClearUptoRow.holds Try.pinned (OpenSpec.upto offsetClearSpec)

/-- 'cnclaw19.OffsetEnds', WHERE WHAT IT READS IS OF BULK AT MOST 1048576: true; the input reads as it did. -/
def offsetEndsUptoRow : OpenClaim := { program := "ytjlkecfkjcanaaa", sum := "9f6b310d1e301dda64f5303a20f8e21b740dbf4e2679b254755dafefe6480107", func := "cnc/cnclaw19.OffsetEnds", spec := "offsetEnds", inPlace := ["math/bits.Sub64"], unfollowed := true, recurses := true, named := ["math/bits.divideError", "math/bits.overflowError"], apart := false, narrowed := true }
def OffsetEndsUptoSaid : Prop := offsetEndsUptoRow.holds Try.pinned (OpenSpec.upto offsetEndsSpec)

/-- 'cnclaw19.OffsetHalf', WHERE WHAT IT READS IS OF BULK AT MOST 1048576: true; the input reads as it did. -/
def offsetHalfUptoRow : OpenClaim := { program := "ytjlkecfkjcanaaa", sum := "9f6b310d1e301dda64f5303a20f8e21b740dbf4e2679b254755dafefe6480107", func := "cnc/cnclaw19.OffsetHalf", spec := "offsetHalf", inPlace := ["math/bits.Sub64"], unfollowed := true, recurses := true, named := ["math/bits.divideError", "math/bits.overflowError"], apart := false, narrowed := true }
def OffsetHalfUptoSaid : Prop := offsetHalfUptoRow.holds Try.pinned (OpenSpec.upto offsetHalfSpec)

/-- 'cnclaw19.OffsetTrim', WHERE WHAT IT READS IS OF BULK AT MOST 1048576: true; the input reads as it did. -/
def offsetTrimUptoRow : OpenClaim := { program := "ytjlkecfkjcanaaa", sum := "9f6b310d1e301dda64f5303a20f8e21b740dbf4e2679b254755dafefe6480107", func := "cnc/cnclaw19.OffsetTrim", spec := "offsetTrim", inPlace := ["math/bits.Sub64"], unfollowed := true, recurses := true, named := ["math/bits.divideError", "math/bits.overflowError"], apart := false, narrowed := true }
def OffsetTrimUptoSaid : Prop := offsetTrimUptoRow.holds Try.pinned (OpenSpec.upto offsetTrimSpec)

/-- 'cnclaw19.OffsetBeside', WHERE WHAT IT READS IS OF BULK AT MOST 1048576: true; the input reads as it did. -/
def offsetBesideUptoRow : OpenClaim := { program := "ytjlkecfkjcanaaa", sum := "9f6b310d1e301dda64f5303a20f8e21b740dbf4e2679b254755dafefe6480107", func := "cnc/cnclaw19.OffsetBeside", spec := "offsetBeside", inPlace := ["math/bits.Sub64"], unfollowed := true, recurses := true, named := ["math/bits.divideError", "math/bits.overflowError"], apart := false, narrowed := true }
def OffsetBesideUptoSaid : Prop := offsetBesideUptoRow.holds Try.pinned (OpenSpec.upto offsetBesideSpec)

/-- 'cnclaw19.OffsetMirrors', WHERE WHAT IT READS IS OF BULK AT MOST 1048576: true; the input reads as it did. -/
def offsetMirrorsUptoRow : OpenClaim := { program := "ytjlkecfkjcanaaa", sum := "9f6b310d1e301dda64f5303a20f8e21b740dbf4e2679b254755dafefe6480107", func := "cnc/cnclaw19.OffsetMirrors", spec := "offsetMirrors", inPlace := ["math/bits.Sub64"], unfollowed := true, recurses := true, named := ["math/bits.divideError", "math/bits.overflowError"], apart := false, narrowed := true }
def OffsetMirrorsUptoSaid : Prop := offsetMirrorsUptoRow.holds Try.pinned (OpenSpec.upto offsetMirrorsSpec)

/-- 'cnclaw19.OffsetSides', WHERE WHAT IT READS IS OF BULK AT MOST 1048576: true; the input reads as it did. -/
def offsetSidesUptoRow : OpenClaim := { program := "ytjlkecfkjcanaaa", sum := "9f6b310d1e301dda64f5303a20f8e21b740dbf4e2679b254755dafefe6480107", func := "cnc/cnclaw19.OffsetSides", spec := "offsetSides", inPlace := ["math/bits.Sub64"], unfollowed := true, recurses := true, named := ["math/bits.divideError", "math/bits.overflowError"], apart := false, narrowed := true }
def OffsetSidesUptoSaid : Prop := offsetSidesUptoRow.holds Try.pinned (OpenSpec.upto offsetSidesSpec)

/-- 'cnclaw19.OffsetDistance', WHERE WHAT IT READS IS OF BULK AT MOST 1048576: true; the input reads as it did. -/
def offsetDistanceUptoRow : OpenClaim := { program := "ytjlkecfkjcanaaa", sum := "9f6b310d1e301dda64f5303a20f8e21b740dbf4e2679b254755dafefe6480107", func := "cnc/cnclaw19.OffsetDistance", spec := "offsetDistance", inPlace := ["math/bits.Sub64"], unfollowed := true, recurses := true, named := ["math/bits.divideError", "math/bits.overflowError"], apart := false, narrowed := true }
def OffsetDistanceUptoSaid : Prop := offsetDistanceUptoRow.holds Try.pinned (OpenSpec.upto offsetDistanceSpec)

/-- 'cnclaw19.OffsetMeets', WHERE WHAT IT READS IS OF BULK AT MOST 1048576: true; the input reads as it did. -/
def offsetMeetsUptoRow : OpenClaim := { program := "ytjlkecfkjcanaaa", sum := "9f6b310d1e301dda64f5303a20f8e21b740dbf4e2679b254755dafefe6480107", func := "cnc/cnclaw19.OffsetMeets", spec := "offsetMeets", inPlace := ["math/bits.Sub64"], unfollowed := true, recurses := true, named := ["math/bits.divideError", "math/bits.overflowError"], apart := false, narrowed := true }
def OffsetMeetsUptoSaid : Prop := offsetMeetsUptoRow.holds Try.pinned (OpenSpec.upto offsetMeetsSpec)

/-- 'cnclaw19.OffsetRight', WHERE WHAT IT READS IS OF BULK AT MOST 1048576: true; the input reads as it did. -/
def offsetRightUptoRow : OpenClaim := { program := "ytjlkecfkjcanaaa", sum := "9f6b310d1e301dda64f5303a20f8e21b740dbf4e2679b254755dafefe6480107", func := "cnc/cnclaw19.OffsetRight", spec := "offsetRight", inPlace := ["math/bits.Sub64"], unfollowed := true, recurses := true, named := ["math/bits.divideError", "math/bits.overflowError"], apart := false, narrowed := true }
def OffsetRightUptoSaid : Prop := offsetRightUptoRow.holds Try.pinned (OpenSpec.upto offsetRightSpec)

end Rows
end Go.Proofs.Ytjlkecfkjcanaaa
