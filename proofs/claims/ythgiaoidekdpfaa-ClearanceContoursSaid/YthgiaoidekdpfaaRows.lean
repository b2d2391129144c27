/-
  No cell of these rows narrows 'for every input' (looked for: loops, veiled, ifaces, maps, wideKeys, modest, calm, conditions, laid).
  DERIVED. THE GIVEN ROWS OF THIS SEAT. 8 by the template 'for every input the law returns true; each argument reads behind the call as it read before'; 0 by the template 'total and deterministic' (their statements: YthgiaoidekdpfaaTotals.lean).
  GIVEN WITH THE SEED: the statements are not yours to turn. If you find one false, say at which input.
  Laid BY PROGRAM, IN A SANDBOX (cutbox-rows.mjs): the forced cells as the released guide's own fill.sh prints them over the translation 0c8bd3dc1a6f68b4… (all of the seat's roots in one cut). By AI agents, Wed Nov 11 2026. No macro, syntax, notation, axiom, sorry.
-/
import Derived.Test.YthgiaoidekdpfaaChecked
import GoSem.Claim
import GoSem.ClaimJoined
import GoSem.ClaimMapViews
import Derived.JoinedTies
import Derived.KernelRfl
namespace Go.Proofs.Ythgiaoidekdpfaa
/- THE CELL 'sum', in the pinned program and in every row, IS THE sha256 OF THE DUMP (.gsa) THAT YthgiaoidekdpfaaProg.lean LOADS. Nothing in Lean hashes anything: it is a label: what it is worth is what the hold of that sum in a sandbox is worth. -/
noncomputable def Try.pinned : Pinned := { name := "ythgiaoidekdpfaa", sum := "0c8bd3dc1a6f68b47797c683e5fb283db3ee552b7d1fec0e28d392eeb485b31a", checked := Try.checked }
namespace Rows
def none {H : Type} : Left H := { results := [], args := [] }

/-- 'cnclaw21.ClearanceCross': WHATEVER THE INPUT: true; the input reads as it did. -/
def clearanceCrossSpec : ChangeSpec := { name := "clearanceCross", fn := fun _ => fun
  | [d1, d2, d3, d4, d5, d6] => { results := [.lit (.bool true)], args := [d1, d2, d3, d4, d5, d6] }
  | _ => none }
def clearanceCrossRow : OpenClaim := { program := "ythgiaoidekdpfaa", sum := "0c8bd3dc1a6f68b47797c683e5fb283db3ee552b7d1fec0e28d392eeb485b31a", func := "cnc/cnclaw21.ClearanceCross", spec := "clearanceCross", unfollowed := true, recurses := true, apart := false }
def ClearanceCrossSaid : Prop := clearanceCrossRow.holds Try.pinned (OpenSpec.ofChange clearanceCrossSpec)

/-- ITS FALSE NEIGHBOUR: 'it returns false'. Refute it at one input. -/
def clearanceCrossWrong : ChangeSpec := { name := "clearanceCross", fn := fun _ => fun
  | [d1, d2, d3, d4, d5, d6] => { results := [.lit (.bool false)], args := [d1, d2, d3, d4, d5, d6] }
  | _ => none }
def ClearanceCrossWrongFalsely : Prop := clearanceCrossRow.holds Try.pinned (OpenSpec.ofChange clearanceCrossWrong)

/-- 'cnclaw21.ClearanceDistance': WHATEVER THE INPUT: true; the input reads as it did. -/
def clearanceDistanceSpec : ChangeSpec := { name := "clearanceDistance", fn := fun _ => fun
  | [d1, d2, d3] => { results := [.lit (.bool true)], args := [d1, d2, d3] }
  | _ => none }
def clearanceDistanceRow : OpenClaim := { program := "ythgiaoidekdpfaa", sum := "0c8bd3dc1a6f68b47797c683e5fb283db3ee552b7d1fec0e28d392eeb485b31a", func := "cnc/cnclaw21.ClearanceDistance", spec := "clearanceDistance", unfollowed := true, recurses := true, apart := false }
def ClearanceDistanceSaid : Prop := clearanceDistanceRow.holds Try.pinned (OpenSpec.ofChange clearanceDistanceSpec)

/-- ITS FALSE NEIGHBOUR: 'it returns false'. Refute it at one input. -/
def clearanceDistanceWrong : ChangeSpec := { name := "clearanceDistance", fn := fun _ => fun
  | [d1, d2, d3] => { results := [.lit (.bool false)], args := [d1, d2, d3] }
  | _ => none }
def ClearanceDistanceWrongFalsely : Prop := clearanceDistanceRow.holds Try.pinned (OpenSpec.ofChange clearanceDistanceWrong)

/-- 'cnclaw21.ClearanceDecides': WHATEVER THE INPUT: true; the input reads as it did. -/
def clearanceDecidesSpec : ChangeSpec := { name := "clearanceDecides", fn := fun _ => fun
  | [d1, d2, d3, d4] => { results := [.lit (.bool true)], args := [d1, d2, d3, d4] }
  | _ => none }
def clearanceDecidesRow : OpenClaim := { program := "ythgiaoidekdpfaa", sum := "0c8bd3dc1a6f68b47797c683e5fb283db3ee552b7d1fec0e28d392eeb485b31a", func := "cnc/cnclaw21.ClearanceDecides", spec := "clearanceDecides", unfollowed := true, recurses := true, apart := false }
def ClearanceDecidesSaid : Prop := clearanceDecidesRow.holds Try.pinned (OpenSpec.ofChange clearanceDecidesSpec)

/-- ITS FALSE NEIGHBOUR: 'it returns false'. Refute it at one input. -/
def clearanceDecidesWrong : ChangeSpec := { name := "clearanceDecides", fn := fun _ => fun
  | [d1, d2, d3, d4] => { results := [.lit (.bool false)], args := [d1, d2, d3, d4] }
  | _ => none }
def ClearanceDecidesWrongFalsely : Prop := clearanceDecidesRow.holds Try.pinned (OpenSpec.ofChange clearanceDecidesWrong)

/-- 'cnclaw21.ClearanceEnds': WHATEVER THE INPUT: true; the input reads as it did. -/
def clearanceEndsSpec : ChangeSpec := { name := "clearanceEnds", fn := fun _ => fun
  | [d1, d2] => { results := [.lit (.bool true)], args := [d1, d2] }
  | _ => none }
def clearanceEndsRow : OpenClaim := { program := "ythgiaoidekdpfaa", sum := "0c8bd3dc1a6f68b47797c683e5fb283db3ee552b7d1fec0e28d392eeb485b31a", func := "cnc/cnclaw21.ClearanceEnds", spec := "clearanceEnds", unfollowed := true, recurses := true, apart := false }
def ClearanceEndsSaid : Prop := clearanceEndsRow.holds Try.pinned (OpenSpec.ofChange clearanceEndsSpec)

/-- ITS FALSE NEIGHBOUR: 'it returns false'. Refute it at one input. -/
def clearanceEndsWrong : ChangeSpec := { name := "clearanceEnds", fn := fun _ => fun
  | [d1, d2] => { results := [.lit (.bool false)], args := [d1, d2] }
  | _ => none }
def ClearanceEndsWrongFalsely : Prop := clearanceEndsRow.holds Try.pinned (OpenSpec.ofChange clearanceEndsWrong)

/-- 'cnclaw21.ClearanceReverses': WHATEVER THE INPUT: true; the input reads as it did. -/
def clearanceReversesSpec : ChangeSpec := { name := "clearanceReverses", fn := fun _ => fun
  | [d1, d2, d3] => { results := [.lit (.bool true)], args := [d1, d2, d3] }
  | _ => none }
def clearanceReversesRow : OpenClaim := { program := "ythgiaoidekdpfaa", sum := "0c8bd3dc1a6f68b47797c683e5fb283db3ee552b7d1fec0e28d392eeb485b31a", func := "cnc/cnclaw21.ClearanceReverses", spec := "clearanceReverses", unfollowed := true, recurses := true, apart := false }
def ClearanceReversesSaid : Prop := clearanceReversesRow.holds Try.pinned (OpenSpec.ofChange clearanceReversesSpec)

/-- ITS FALSE NEIGHBOUR: 'it returns false'. Refute it at one input. -/
def clearanceReversesWrong : ChangeSpec := { name := "clearanceReverses", fn := fun _ => fun
  | [d1, d2, d3] => { results := [.lit (.bool false)], args := [d1, d2, d3] }
  | _ => none }
def ClearanceReversesWrongFalsely : Prop := clearanceReversesRow.holds Try.pinned (OpenSpec.ofChange clearanceReversesWrong)

/-- 'cnclaw21.ClearanceCrossing': WHATEVER THE INPUT: true; the input reads as it did. -/
def clearanceCrossingSpec : ChangeSpec := { name := "clearanceCrossing", fn := fun _ => fun
  | [d1, d2, d3, d4, d5] => { results := [.lit (.bool true)], args := [d1, d2, d3, d4, d5] }
  | _ => none }
def clearanceCrossingRow : OpenClaim := { program := "ythgiaoidekdpfaa", sum := "0c8bd3dc1a6f68b47797c683e5fb283db3ee552b7d1fec0e28d392eeb485b31a", func := "cnc/cnclaw21.ClearanceCrossing", spec := "clearanceCrossing", unfollowed := true, recurses := true, apart := false }
def ClearanceCrossingSaid : Prop := clearanceCrossingRow.holds Try.pinned (OpenSpec.ofChange clearanceCrossingSpec)

/-- ITS FALSE NEIGHBOUR: 'it returns false'. Refute it at one input. -/
def clearanceCrossingWrong : ChangeSpec := { name := "clearanceCrossing", fn := fun _ => fun
  | [d1, d2, d3, d4, d5] => { results := [.lit (.bool false)], args := [d1, d2, d3, d4, d5] }
  | _ => none }
def ClearanceCrossingWrongFalsely : Prop := clearanceCrossingRow.holds Try.pinned (OpenSpec.ofChange clearanceCrossingWrong)

/-- 'cnclaw21.ClearanceCheck': WHATEVER THE INPUT: true; the input reads as it did. -/
def clearanceCheckSpec : ChangeSpec := { name := "clearanceCheck", fn := fun _ => fun
  | [d1, d2, d3] => { results := [.lit (.bool true)], args := [d1, d2, d3] }
  | _ => none }
def clearanceCheckRow : OpenClaim := { program := "ythgiaoidekdpfaa", sum := "0c8bd3dc1a6f68b47797c683e5fb283db3ee552b7d1fec0e28d392eeb485b31a", func := "cnc/cnclaw21.ClearanceCheck", spec := "clearanceCheck", unfollowed := true, recurses := true, apart := false }
def ClearanceCheckSaid : Prop := clearanceCheckRow.holds Try.pinned (OpenSpec.ofChange clearanceCheckSpec)

/-- ITS FALSE NEIGHBOUR: 'it returns false'. Refute it at one input. -/
def clearanceCheckWrong : ChangeSpec := { name := "clearanceCheck", fn := fun _ => fun
  | [d1, d2, d3] => { results := [.lit (.bool false)], args := [d1, d2, d3] }
  | _ => none }
def ClearanceCheckWrongFalsely : Prop := clearanceCheckRow.holds Try.pinned (OpenSpec.ofChange clearanceCheckWrong)

/-- 'cnclaw21.ClearanceContours': WHATEVER THE INPUT: true; the input reads as it did. -/
def clearanceContoursSpec : ChangeSpec := { name := "clearanceContours", fn := fun _ => fun
  | [d1, d2] => { results := [.lit (.bool true)], args := [d1, d2] }
  | _ => none }
def clearanceContoursRow : OpenClaim := { program := "ythgiaoidekdpfaa", sum := "0c8bd3dc1a6f68b47797c683e5fb283db3ee552b7d1fec0e28d392eeb485b31a", func := "cnc/cnclaw21.ClearanceContours", spec := "clearanceContours", unfollowed := true, recurses := true, apart := false }
def ClearanceContoursSaid : Prop := clearanceContoursRow.holds Try.pinned (OpenSpec.ofChange clearanceContoursSpec)

/-- ITS FALSE NEIGHBOUR: 'it returns false'. Refute it at one input. -/
def clearanceContoursWrong : ChangeSpec := { name := "clearanceContours", fn := fun _ => fun
  | [d1, d2] => { results := [.lit (.bool false)], args := [d1, d2] }
  | _ => none }
def ClearanceContoursWrongFalsely : Prop := clearanceContoursRow.holds Try.pinned (OpenSpec.ofChange clearanceContoursWrong)

/- THE SECOND FORM. 'bulk': how many values and letters a reading holds, each counted each time it is reached (what is shared counts as often as it is met; a slice's spare places count too). A statement '..UptoSaid' is the law's where the arguments, and the package variables that the reading takes, are together of bulk at most 1048576: NARROWER than '..Said'. Prove '..Said' where nothing that the law and all that it calls make is longer than what came in: it says more and counts as full. Else prove '..UptoSaid'. A law counts once. -/
mutual
def uptoBulk {H : Type} : DataW H → Nat
  | .lit (.string bytes) => bytes.length + 1
  | .lit _ => 1
  | .nil => 1
  | .ptr d => uptoBulk d + 1
  | .slice elems spare => uptoBulkAll elems + uptoBulkAll spare + 1
  | .agg parts => uptoBulkAll parts + 1
  | .iface _ d => uptoBulk d + 1
  | .map entries => uptoBulkEntries entries + 1
  | .held _ => 1
def uptoBulkAll {H : Type} : List (DataW H) → Nat
  | [] => 0
  | d :: r => uptoBulk d + uptoBulkAll r
def uptoBulkEntries {H : Type} : List (Lit × DataW H) → Nat
  | [] => 0
  | x :: r => uptoBulkEntry x + uptoBulkEntries r
def uptoBulkEntry {H : Type} : Lit × DataW H → Nat
  | (.string bytes, d) => bytes.length + uptoBulk d + 1
  | (_, d) => uptoBulk d + 1
 end
def uptoSmall : (H : Type) → List (DataW H) → Bool := fun _ ds => decide (uptoBulkAll ds ≤ 1048576)
def OpenSpec.upto (s : _root_.Go.ChangeSpec) : _root_.Go.OpenSpec := { _root_.Go.OpenSpec.ofChange s with cond := some uptoSmall }

/-- 'cnclaw21.ClearanceCross', WHERE WHAT IT READS IS OF BULK AT MOST 1048576: true; the input reads as it did. -/
def clearanceCrossUptoRow : OpenClaim := { program := "ythgiaoidekdpfaa", sum := "0c8bd3dc1a6f68b47797c683e5fb283db3ee552b7d1fec0e28d392eeb485b31a", func := "cnc/cnclaw21.ClearanceCross", spec := "clearanceCross", unfollowed := true, recurses := true, apart := false, narrowed := true }
def ClearanceCrossUptoSaid : Prop := clearanceCrossUptoRow.holds Try.pinned (OpenSpec.upto clearanceCrossSpec)

/-- 'cnclaw21.ClearanceDistance', WHERE WHAT IT READS IS OF BULK AT MOST 1048576: true; the input reads as it did. -/
def clearanceDistanceUptoRow : OpenClaim := { program := "ythgiaoidekdpfaa", sum := "0c8bd3dc1a6f68b47797c683e5fb283db3ee552b7d1fec0e28d392eeb485b31a", func := "cnc/cnclaw21.ClearanceDistance", spec := "clearanceDistance", unfollowed := true, recurses := true, apart := false, narrowed := true }
def ClearanceDistanceUptoSaid : Prop := clearanceDistanceUptoRow.holds Try.pinned (OpenSpec.upto clearanceDistanceSpec)

/-- 'cnclaw21.ClearanceDecides', WHERE WHAT IT READS IS OF BULK AT MOST 1048576: true; the input reads as it did. -/
def clearanceDecidesUptoRow : OpenClaim := { program := "ythgiaoidekdpfaa", sum := "0c8bd3dc1a6f68b47797c683e5fb283db3ee552b7d1fec0e28d392eeb485b31a", func := "cnc/cnclaw21.ClearanceDecides", spec := "clearanceDecides", unfollowed := true, recurses := true, apart := false, narrowed := true }
def ClearanceDecidesUptoSaid : Prop := clearanceDecidesUptoRow.holds Try.pinned (OpenSpec.upto clearanceDecidesSpec)

/-- 'cnclaw21.ClearanceEnds', WHERE WHAT IT READS IS OF BULK AT MOST 1048576: true; the input reads as it did. -/
def clearanceEndsUptoRow : OpenClaim := { program := "ythgiaoidekdpfaa", sum := "0c8bd3dc1a6f68b47797c683e5fb283db3ee552b7d1fec0e28d392eeb485b31a", func := "cnc/cnclaw21.ClearanceEnds", spec := "clearanceEnds", unfollowed := true, recurses := true, apart := false, narrowed := true }
def ClearanceEndsUptoSaid : Prop := clearanceEndsUptoRow.holds Try.pinned (OpenSpec.upto clearanceEndsSpec)

/-- 'cnclaw21.ClearanceReverses', WHERE WHAT IT READS IS OF BULK AT MOST 1048576: true; the input reads as it did. -/
def clearanceReversesUptoRow : OpenClaim := { program := "ythgiaoidekdpfaa", sum := "0c8bd3dc1a6f68b47797c683e5fb283db3ee552b7d1fec0e28d392eeb485b31a", func := "cnc/cnclaw21.ClearanceReverses", spec := "clearanceReverses", unfollowed := true, recurses := true, apart := false, narrowed := true }
def ClearanceReversesUptoSaid : Prop := clearanceReversesUptoRow.holds Try.pinned (OpenSpec.upto clearanceReversesSpec)

/-- 'cnclaw21.ClearanceCrossing', WHERE WHAT IT READS IS OF BULK AT MOST 1048576: true; the input reads as it did. -/
def clearanceCrossingUptoRow : OpenClaim := { program := "ythgiaoidekdpfaa", sum := "0c8bd3dc1a6f68b47797c683e5fb283db3ee552b7d1fec0e28d392eeb485b31a", func := "cnc/cnclaw21.ClearanceCrossing", spec := "clearanceCrossing", unfollowed := true, recurses := true, apart := false, narrowed := true }
def ClearanceCrossingUptoSaid : Prop := clearanceCrossingUptoRow.holds Try.pinned (OpenSpec.upto clearanceCrossingSpec)

/-- 'cnclaw21.ClearanceCheck', WHERE WHAT IT READS IS OF BULK AT MOST 1048576: true; the input reads as it did. -/
def clearanceCheckUptoRow : OpenClaim := { program := "ythgiaoidekdpfaa", sum := "0c8bd3dc1a6f68b47797c683e5fb283db3ee552b7d1fec0e28d392eeb485b31a", func := "cnc/cnclaw21.ClearanceCheck", spec := "clearanceCheck", unfollowed := true, recurses := true, apart := false, narrowed := true }
def ClearanceCheckUptoSaid : Prop := clearanceCheckUptoRow.holds Try.pinned (OpenSpec.upto clearanceCheckSpec)

/-- 'cnclaw21.ClearanceContours', WHERE WHAT IT READS IS OF BULK AT MOST 1048576: true; the input reads as it did. -/
def clearanceContoursUptoRow : OpenClaim := { program := "ythgiaoidekdpfaa", sum := "0c8bd3dc1a6f68b47797c683e5fb283db3ee552b7d1fec0e28d392eeb485b31a", func := "cnc/cnclaw21.ClearanceContours", spec := "clearanceContours", unfollowed := true, recurses := true, apart := false, narrowed := true }
def ClearanceContoursUptoSaid : Prop := clearanceContoursUptoRow.holds Try.pinned (OpenSpec.upto clearanceContoursSpec)

end Rows
end Go.Proofs.Ythgiaoidekdpfaa
