/-
  No cell of these rows narrows 'for every input' (looked for: loops, veiled, ifaces, maps, wideKeys, modest, calm, conditions, laid).
  DERIVED. THE GIVEN ROWS OF THIS SEAT. 10 by the template 'for every input the law returns true; each argument reads behind the call as it read before'; 0 by the template 'total and deterministic' (their statements: YtkggdhnliiagjaaTotals.lean).
  GIVEN WITH THE SEED: the statements are not yours to turn. If you find one false, say at which input.
  Laid BY PROGRAM, IN A SANDBOX (cutbox-rows.mjs): the forced cells as the released guide's own fill.sh prints them over the translation 2c14da55b0e66875… (all of the seat's roots in one cut). By AI agents, Wed Nov 11 2026. No macro, syntax, notation, axiom, sorry.
-/
import Derived.Test.YtkggdhnliiagjaaChecked
import GoSem.Claim
import GoSem.ClaimJoined
import GoSem.ClaimMapViews
import Derived.JoinedTies
import Derived.KernelRfl
namespace Go.Proofs.Ytkggdhnliiagjaa
/- THE CELL 'sum', in the pinned program and in every row, IS THE sha256 OF THE DUMP (.gsa) THAT YtkggdhnliiagjaaProg.lean LOADS. Nothing in Lean hashes anything: it is a label: what it is worth is what the hold of that sum in a sandbox is worth. -/
noncomputable def Try.pinned : Pinned := { name := "ytkggdhnliiagjaa", sum := "2c14da55b0e66875d6b86bc7da77eebf801f928c33d7eab1343ca707ff2cef85", checked := Try.checked }
namespace Rows
def none {H : Type} : Left H := { results := [], args := [] }

/-- 'cnclaw13.ArcRadius': WHATEVER THE INPUT: true; the input reads as it did. -/
def arcRadiusSpec : ChangeSpec := { name := "arcRadius", fn := fun _ => fun
  | [d1, d2, d3, d4, d5] => { results := [.lit (.bool true)], args := [d1, d2, d3, d4, d5] }
  | _ => none }
def arcRadiusRow : OpenClaim := { program := "ytkggdhnliiagjaa", sum := "2c14da55b0e66875d6b86bc7da77eebf801f928c33d7eab1343ca707ff2cef85", func := "cnc/cnclaw13.ArcRadius", spec := "arcRadius", inPlace := ["math/bits.Sub64"], named := ["math/bits.divideError", "math/bits.overflowError"], apart := false }
def ArcRadiusSaid : Prop := arcRadiusRow.holds Try.pinned (OpenSpec.ofChange arcRadiusSpec)

/-- ITS FALSE NEIGHBOUR: 'it returns false'. Refute it at one input. -/
def arcRadiusWrong : ChangeSpec := { name := "arcRadius", fn := fun _ => fun
  | [d1, d2, d3, d4, d5] => { results := [.lit (.bool false)], args := [d1, d2, d3, d4, d5] }
  | _ => none }
def ArcRadiusWrongFalsely : Prop := arcRadiusRow.holds Try.pinned (OpenSpec.ofChange arcRadiusWrong)

/-- 'cnclaw13.ArcCheck': WHATEVER THE INPUT: true; the input reads as it did. -/
def arcCheckSpec : ChangeSpec := { name := "arcCheck", fn := fun _ => fun
  | [d1, d2, d3, d4] => { results := [.lit (.bool true)], args := [d1, d2, d3, d4] }
  | _ => none }
def arcCheckRow : OpenClaim := { program := "ytkggdhnliiagjaa", sum := "2c14da55b0e66875d6b86bc7da77eebf801f928c33d7eab1343ca707ff2cef85", func := "cnc/cnclaw13.ArcCheck", spec := "arcCheck", inPlace := ["math/bits.Sub64"], named := ["math/bits.divideError", "math/bits.overflowError"], apart := false }
def ArcCheckSaid : Prop := arcCheckRow.holds Try.pinned (OpenSpec.ofChange arcCheckSpec)

/-- ITS FALSE NEIGHBOUR: 'it returns false'. Refute it at one input. -/
def arcCheckWrong : ChangeSpec := { name := "arcCheck", fn := fun _ => fun
  | [d1, d2, d3, d4] => { results := [.lit (.bool false)], args := [d1, d2, d3, d4] }
  | _ => none }
def ArcCheckWrongFalsely : Prop := arcCheckRow.holds Try.pinned (OpenSpec.ofChange arcCheckWrong)

/-- 'cnclaw13.ArcFits': WHATEVER THE INPUT: true; the input reads as it did. -/
def arcFitsSpec : ChangeSpec := { name := "arcFits", fn := fun _ => fun
  | [d1, d2, d3, d4, d5] => { results := [.lit (.bool true)], args := [d1, d2, d3, d4, d5] }
  | _ => none }
def arcFitsRow : OpenClaim := { program := "ytkggdhnliiagjaa", sum := "2c14da55b0e66875d6b86bc7da77eebf801f928c33d7eab1343ca707ff2cef85", func := "cnc/cnclaw13.ArcFits", spec := "arcFits", inPlace := ["math/bits.Sub64"], named := ["math/bits.divideError", "math/bits.overflowError"], apart := false }
def ArcFitsSaid : Prop := arcFitsRow.holds Try.pinned (OpenSpec.ofChange arcFitsSpec)

/-- ITS FALSE NEIGHBOUR: 'it returns false'. Refute it at one input. -/
def arcFitsWrong : ChangeSpec := { name := "arcFits", fn := fun _ => fun
  | [d1, d2, d3, d4, d5] => { results := [.lit (.bool false)], args := [d1, d2, d3, d4, d5] }
  | _ => none }
def ArcFitsWrongFalsely : Prop := arcFitsRow.holds Try.pinned (OpenSpec.ofChange arcFitsWrong)

/-- 'cnclaw13.ArcReverses': WHATEVER THE INPUT: true; the input reads as it did. -/
def arcReversesSpec : ChangeSpec := { name := "arcReverses", fn := fun _ => fun
  | [d1, d2] => { results := [.lit (.bool true)], args := [d1, d2] }
  | _ => none }
def arcReversesRow : OpenClaim := { program := "ytkggdhnliiagjaa", sum := "2c14da55b0e66875d6b86bc7da77eebf801f928c33d7eab1343ca707ff2cef85", func := "cnc/cnclaw13.ArcReverses", spec := "arcReverses", inPlace := ["math/bits.Sub64"], named := ["math/bits.divideError", "math/bits.overflowError"], apart := false }
def ArcReversesSaid : Prop := arcReversesRow.holds Try.pinned (OpenSpec.ofChange arcReversesSpec)

/-- ITS FALSE NEIGHBOUR: 'it returns false'. Refute it at one input. -/
def arcReversesWrong : ChangeSpec := { name := "arcReverses", fn := fun _ => fun
  | [d1, d2] => { results := [.lit (.bool false)], args := [d1, d2] }
  | _ => none }
def ArcReversesWrongFalsely : Prop := arcReversesRow.holds Try.pinned (OpenSpec.ofChange arcReversesWrong)

/-- 'cnclaw13.ArcInside': WHATEVER THE INPUT: true; the input reads as it did. -/
def arcInsideSpec : ChangeSpec := { name := "arcInside", fn := fun _ => fun
  | [d1, d2] => { results := [.lit (.bool true)], args := [d1, d2] }
  | _ => none }
def arcInsideRow : OpenClaim := { program := "ytkggdhnliiagjaa", sum := "2c14da55b0e66875d6b86bc7da77eebf801f928c33d7eab1343ca707ff2cef85", func := "cnc/cnclaw13.ArcInside", spec := "arcInside", inPlace := ["math/bits.Sub64"], named := ["math/bits.divideError", "math/bits.overflowError"], apart := false }
def ArcInsideSaid : Prop := arcInsideRow.holds Try.pinned (OpenSpec.ofChange arcInsideSpec)

/-- ITS FALSE NEIGHBOUR: 'it returns false'. Refute it at one input. -/
def arcInsideWrong : ChangeSpec := { name := "arcInside", fn := fun _ => fun
  | [d1, d2] => { results := [.lit (.bool false)], args := [d1, d2] }
  | _ => none }
def ArcInsideWrongFalsely : Prop := arcInsideRow.holds Try.pinned (OpenSpec.ofChange arcInsideWrong)

/-- 'cnclaw13.ArcSpokes': WHATEVER THE INPUT: true; the input reads as it did. -/
def arcSpokesSpec : ChangeSpec := { name := "arcSpokes", fn := fun _ => fun
  | [d1, d2] => { results := [.lit (.bool true)], args := [d1, d2] }
  | _ => none }
def arcSpokesRow : OpenClaim := { program := "ytkggdhnliiagjaa", sum := "2c14da55b0e66875d6b86bc7da77eebf801f928c33d7eab1343ca707ff2cef85", func := "cnc/cnclaw13.ArcSpokes", spec := "arcSpokes", inPlace := ["math/bits.Sub64"], named := ["math/bits.divideError", "math/bits.overflowError"], apart := false }
def ArcSpokesSaid : Prop := arcSpokesRow.holds Try.pinned (OpenSpec.ofChange arcSpokesSpec)

/-- ITS FALSE NEIGHBOUR: 'it returns false'. Refute it at one input. -/
def arcSpokesWrong : ChangeSpec := { name := "arcSpokes", fn := fun _ => fun
  | [d1, d2] => { results := [.lit (.bool false)], args := [d1, d2] }
  | _ => none }
def ArcSpokesWrongFalsely : Prop := arcSpokesRow.holds Try.pinned (OpenSpec.ofChange arcSpokesWrong)

/-- 'cnclaw13.ArcSide': WHATEVER THE INPUT: true; the input reads as it did. -/
def arcSideSpec : ChangeSpec := { name := "arcSide", fn := fun _ => fun
  | [d1, d2] => { results := [.lit (.bool true)], args := [d1, d2] }
  | _ => none }
def arcSideRow : OpenClaim := { program := "ytkggdhnliiagjaa", sum := "2c14da55b0e66875d6b86bc7da77eebf801f928c33d7eab1343ca707ff2cef85", func := "cnc/cnclaw13.ArcSide", spec := "arcSide", inPlace := ["math/bits.Sub64"], named := ["math/bits.divideError", "math/bits.overflowError"], apart := false }
def ArcSideSaid : Prop := arcSideRow.holds Try.pinned (OpenSpec.ofChange arcSideSpec)

/-- ITS FALSE NEIGHBOUR: 'it returns false'. Refute it at one input. -/
def arcSideWrong : ChangeSpec := { name := "arcSide", fn := fun _ => fun
  | [d1, d2] => { results := [.lit (.bool false)], args := [d1, d2] }
  | _ => none }
def ArcSideWrongFalsely : Prop := arcSideRow.holds Try.pinned (OpenSpec.ofChange arcSideWrong)

/-- 'cnclaw13.ArcOffset': WHATEVER THE INPUT: true; the input reads as it did. -/
def arcOffsetSpec : ChangeSpec := { name := "arcOffset", fn := fun _ => fun
  | [d1, d2, d3, d4, d5] => { results := [.lit (.bool true)], args := [d1, d2, d3, d4, d5] }
  | _ => none }
def arcOffsetRow : OpenClaim := { program := "ytkggdhnliiagjaa", sum := "2c14da55b0e66875d6b86bc7da77eebf801f928c33d7eab1343ca707ff2cef85", func := "cnc/cnclaw13.ArcOffset", spec := "arcOffset", inPlace := ["math/bits.Sub64"], named := ["math/bits.divideError", "math/bits.overflowError"], apart := false }
def ArcOffsetSaid : Prop := arcOffsetRow.holds Try.pinned (OpenSpec.ofChange arcOffsetSpec)

/-- ITS FALSE NEIGHBOUR: 'it returns false'. Refute it at one input. -/
def arcOffsetWrong : ChangeSpec := { name := "arcOffset", fn := fun _ => fun
  | [d1, d2, d3, d4, d5] => { results := [.lit (.bool false)], args := [d1, d2, d3, d4, d5] }
  | _ => none }
def ArcOffsetWrongFalsely : Prop := arcOffsetRow.holds Try.pinned (OpenSpec.ofChange arcOffsetWrong)

/-- 'cnclaw13.ArcTangents': WHATEVER THE INPUT: true; the input reads as it did. -/
def arcTangentsSpec : ChangeSpec := { name := "arcTangents", fn := fun _ => fun
  | [d1, d2] => { results := [.lit (.bool true)], args := [d1, d2] }
  | _ => none }
def arcTangentsRow : OpenClaim := { program := "ytkggdhnliiagjaa", sum := "2c14da55b0e66875d6b86bc7da77eebf801f928c33d7eab1343ca707ff2cef85", func := "cnc/cnclaw13.ArcTangents", spec := "arcTangents", inPlace := ["math/bits.Sub64"], named := ["math/bits.divideError", "math/bits.overflowError"], apart := false }
def ArcTangentsSaid : Prop := arcTangentsRow.holds Try.pinned (OpenSpec.ofChange arcTangentsSpec)

/-- ITS FALSE NEIGHBOUR: 'it returns false'. Refute it at one input. -/
def arcTangentsWrong : ChangeSpec := { name := "arcTangents", fn := fun _ => fun
  | [d1, d2] => { results := [.lit (.bool false)], args := [d1, d2] }
  | _ => none }
def ArcTangentsWrongFalsely : Prop := arcTangentsRow.holds Try.pinned (OpenSpec.ofChange arcTangentsWrong)

/-- 'cnclaw13.ArcBoxes': WHATEVER THE INPUT: true; the input reads as it did. -/
def arcBoxesSpec : ChangeSpec := { name := "arcBoxes", fn := fun _ => fun
  | [d] => { results := [.lit (.bool true)], args := [d] }
  | _ => none }
def arcBoxesRow : OpenClaim := { program := "ytkggdhnliiagjaa", sum := "2c14da55b0e66875d6b86bc7da77eebf801f928c33d7eab1343ca707ff2cef85", func := "cnc/cnclaw13.ArcBoxes", spec := "arcBoxes", inPlace := ["math/bits.Sub64"], named := ["math/bits.divideError", "math/bits.overflowError"], apart := false }
def ArcBoxesSaid : Prop := arcBoxesRow.holds Try.pinned (OpenSpec.ofChange arcBoxesSpec)

/-- ITS FALSE NEIGHBOUR: 'it returns false'. Refute it at one input. -/
def arcBoxesWrong : ChangeSpec := { name := "arcBoxes", fn := fun _ => fun
  | [d] => { results := [.lit (.bool false)], args := [d] }
  | _ => none }
def ArcBoxesWrongFalsely : Prop := arcBoxesRow.holds Try.pinned (OpenSpec.ofChange arcBoxesWrong)

/- THE SECOND FORM. 'bulk': how many values and letters a reading holds, each counted each time it is reached (what is shared counts as often as it is met; a slice's spare places count too). A statement '..UptoSaid' is the law's where the arguments, and the package variables that the reading takes, are together of bulk at most 1048576: NARROWER than '..Said'. Prove '..Said' where nothing that the law and all that it calls make is longer than what came in: it says more and counts as full. Else prove '..UptoSaid'. A law counts once. -/
mutual
def uptoBulk {H : Type} : DataW H → Nat
  | .lit (.string bytes) => bytes.length + 1
  | .lit _ => 1
  | .nil => 1
  | .ptr d => uptoBulk d + 1
  | .slice elems spare => uptoBulkAll elems + uptoBulkAll spare + 1
  | .agg parts => uptoBulkAll parts + 1
  | .iface _ d => uptoBulk d + 1
  | .map entries => uptoBulkEntries entries + 1
  | .held _ => 1
def uptoBulkAll {H : Type} : List (DataW H) → Nat
  | [] => 0
  | d :: r => uptoBulk d + uptoBulkAll r
def uptoBulkEntries {H : Type} : List (Lit × DataW H) → Nat
  | [] => 0
  | x :: r => uptoBulkEntry x + uptoBulkEntries r
def uptoBulkEntry {H : Type} : Lit × DataW H → Nat
  | (.string bytes, d) => bytes.length + uptoBulk d + 1
  | (_, d) => uptoBulk d + 1
 end
def uptoSmall : (H : Type) → List (DataW H) → Bool := fun _ ds => decide (uptoBulkAll ds ≤ 1048576)
def OpenSpec.upto (s : _root_.Go.ChangeSpec) : _root_.Go.OpenSpec := { _root_.Go.OpenSpec.ofChange s with cond := some uptoSmall }

/-- 'cnclaw13.ArcRadius', WHERE WHAT IT READS IS OF BULK AT MOST 1048576: true; the input reads as it did. -/
def arcRadiusUptoRow : OpenClaim := { program := "ytkggdhnliiagjaa", sum := "2c14da55b0e66875d6b86bc7da77eebf801f928c33d7eab1343ca707ff2cef85", func := "cnc/cnclaw13.ArcRadius", spec := "arcRadius", inPlace := ["math/bits.Sub64"], named := ["math/bits.divideError", "math/bits.overflowError"], apart := false, narrowed := true }
def ArcRadiusUptoSaid : Prop := arcRadiusUptoRow.holds Try.pinned (OpenSpec.upto arcRadiusSpec)

/-- 'cnclaw13.ArcCheck', WHERE WHAT IT READS IS OF BULK AT MOST 1048576: true; the input reads as it did. -/
def arcCheckUptoRow : OpenClaim := { program := "ytkggdhnliiagjaa", sum := "2c14da55b0e66875d6b86bc7da77eebf801f928c33d7eab1343ca707ff2cef85", func := "cnc/cnclaw13.ArcCheck", spec := "arcCheck", inPlace := ["math/bits.Sub64"], named := ["math/bits.divideError", "math/bits.overflowError"], apart := false, narrowed := true }
def ArcCheckUptoSaid : Prop := arcCheckUptoRow.holds Try.pinned (OpenSpec.upto arcCheckSpec)

/-- 'cnclaw13.ArcFits', WHERE WHAT IT READS IS OF BULK AT MOST 1048576: true; the input reads as it did. -/
def arcFitsUptoRow : OpenClaim := { program := "ytkggdhnliiagjaa", sum := "2c14da55b0e66875d6b86bc7da77eebf801f928c33d7eab1343ca707ff2cef85", func := "cnc/cnclaw13.ArcFits", spec := "arcFits", inPlace := ["math/bits.Sub64"], named := ["math/bits.divideError", "math/bits.overflowError"], apart := false, narrowed := true }
def ArcFitsUptoSaid : Prop := arcFitsUptoRow.holds Try.pinned (OpenSpec.upto arcFitsSpec)

/-- 'cnclaw13.ArcReverses', WHERE WHAT IT READS IS OF BULK AT MOST 1048576: true; the input reads as it did. -/
def arcReversesUptoRow : OpenClaim := { program := "ytkggdhnliiagjaa", sum := "2c14da55b0e66875d6b86bc7da77eebf801f928c33d7eab1343ca707ff2cef85", func := "cnc/cnclaw13.ArcReverses", spec := "arcReverses", inPlace := ["math/bits.Sub64"], named := ["math/bits.divideError", "math/bits.overflowError"], apart := false, narrowed := true }
def ArcReversesUptoSaid : Prop := arcReversesUptoRow.holds Try.pinned (OpenSpec.upto arcReversesSpec)

/-- 'cnclaw13.ArcInside', WHERE WHAT IT READS IS OF BULK AT MOST 1048576: true; the input reads as it did. -/
def arcInsideUptoRow : OpenClaim := { program := "ytkggdhnliiagjaa", sum := "2c14da55b0e66875d6b86bc7da77eebf801f928c33d7eab1343ca707ff2cef85", func := "cnc/cnclaw13.ArcInside", spec := "arcInside", inPlace := ["math/bits.Sub64"], named := ["math/bits.divideError", "math/bits.overflowError"], apart := false, narrowed := true }
def ArcInsideUptoSaid : Prop := arcInsideUptoRow.holds Try.pinned (OpenSpec.upto arcInsideSpec)

/-- 'cnclaw13.ArcSpokes', WHERE WHAT IT READS IS OF BULK AT MOST 1048576: true; the input reads as it did. -/
def arcSpokesUptoRow : OpenClaim := { program := "ytkggdhnliiagjaa", sum := "2c14da55b0e66875d6b86bc7da77eebf801f928c33d7eab1343ca707ff2cef85", func := "cnc/cnclaw13.ArcSpokes", spec := "arcSpokes", inPlace := ["math/bits.Sub64"], named := ["math/bits.divideError", "math/bits.overflowError"], apart := false, narrowed := true }
def ArcSpokesUptoSaid : Prop := arcSpokesUptoRow.holds Try.pinned (OpenSpec.upto arcSpokesSpec)

/-- 'cnclaw13.ArcSide', WHERE WHAT IT READS IS OF BULK AT MOST 1048576: true; the input reads as it did. -/
def arcSideUptoRow : OpenClaim := { program := "ytkggdhnliiagjaa", sum := "2c14da55b0e66875d6b86bc7da77eebf801f928c33d7eab1343ca707ff2cef85", func := "cnc/cnclaw13.ArcSide", spec := "arcSide", inPlace := ["math/bits.Sub64"], named := ["math/bits.divideError", "math/bits.overflowError"], apart := false, narrowed := true }
def ArcSideUptoSaid : Prop := arcSideUptoRow.holds Try.pinned (OpenSpec.upto arcSideSpec)

/-- 'cnclaw13.ArcOffset', WHERE WHAT IT READS IS OF BULK AT MOST 1048576: true; the input reads as it did. -/
def arcOffsetUptoRow : OpenClaim := { program := "ytkggdhnliiagjaa", sum := "2c14da55b0e66875d6b86bc7da77eebf801f928c33d7eab1343ca707ff2cef85", func := "cnc/cnclaw13.ArcOffset", spec := "arcOffset", inPlace := ["math/bits.Sub64"], named := ["math/bits.divideError", "math/bits.overflowError"], apart := false, narrowed := true }
def ArcOffsetUptoSaid : Prop := arcOffsetUptoRow.holds Try.pinned (OpenSpec.upto arcOffsetSpec)

/-- 'cnclaw13.ArcTangents', WHERE WHAT IT READS IS OF BULK AT MOST 1048576: true; the input reads as it did. -/
def arcTangentsUptoRow : OpenClaim := { program := "ytkggdhnliiagjaa", sum := "2c14da55b0e66875d6b86bc7da77eebf801f928c33d7eab1343ca707ff2cef85", func := "cnc/cnclaw13.ArcTangents", spec := "arcTangents", inPlace := ["math/bits.Sub64"], named := ["math/bits.divideError", "math/bits.overflowError"], apart := false, narrowed := true }
def ArcTangentsUptoSaid : Prop := arcTangentsUptoRow.holds Try.pinned (OpenSpec.upto arcTangentsSpec)

/-- 'cnclaw13.ArcBoxes', WHERE WHAT IT READS IS OF BULK AT MOST 1048576: true; the input reads as it did. -/
def arcBoxesUptoRow : OpenClaim := { program := "ytkggdhnliiagjaa", sum := "2c14da55b0e66875d6b86bc7da77eebf801f928c33d7eab1343ca707ff2cef85", func := "cnc/cnclaw13.ArcBoxes", spec := "arcBoxes", inPlace := ["math/bits.Sub64"], named := ["math/bits.divideError", "math/bits.overflowError"], apart := false, narrowed := true }
def ArcBoxesUptoSaid : Prop := arcBoxesUptoRow.holds Try.pinned (OpenSpec.upto arcBoxesSpec)

end Rows
end Go.Proofs.Ytkggdhnliiagjaa
