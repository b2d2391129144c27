/-
  No cell of these rows narrows 'for every input' (looked for: loops, veiled, ifaces, maps, wideKeys, modest, calm, conditions, laid).
  DERIVED. THE GIVEN ROWS OF THIS SEAT. 7 by the template 'for every input the law returns true; each argument reads behind the call as it read before'; 0 by the template 'total and deterministic' (their statements: YtgimheibnpgphaaTotals.lean).
  GIVEN WITH THE SEED: the statements are not yours to turn. If you find one false, say at which input.
  Laid BY PROGRAM, IN A SANDBOX (cutbox-rows.mjs): the forced cells as the released guide's own fill.sh prints them over the translation bcc592a5052d9d63… (all of the seat's roots in one cut). By AI agents, Wed Nov 11 2026. No macro, syntax, notation, axiom, sorry.
-/
import Derived.Test.YtgimheibnpgphaaChecked
import GoSem.Claim
import GoSem.ClaimJoined
import GoSem.ClaimMapViews
import Derived.JoinedTies
import Derived.KernelRfl
namespace Go.Proofs.Ytgimheibnpgphaa
/- THE CELL 'sum', in the pinned program and in every row, IS THE sha256 OF THE DUMP (.gsa) THAT YtgimheibnpgphaaProg.lean LOADS. Nothing in Lean hashes anything: it is a label: what it is worth is what the hold of that sum in a sandbox is worth. -/
noncomputable def Try.pinned : Pinned := { name := "ytgimheibnpgphaa", sum := "bcc592a5052d9d632863aa0e469e636294cd4b2fd07b51d8e35ab4cb90ea473b", checked := Try.checked }
namespace Rows
def none {H : Type} : Left H := { results := [], args := [] }

/-- 'cnclaw14.DrillExpands': WHATEVER THE INPUT: true; the input reads as it did. -/
def drillExpandsSpec : ChangeSpec := { name := "drillExpands", fn := fun _ => fun
  | [d] => { results := [.lit (.bool true)], args := [d] }
  | _ => none }
def drillExpandsRow : OpenClaim := { program := "ytgimheibnpgphaa", sum := "bcc592a5052d9d632863aa0e469e636294cd4b2fd07b51d8e35ab4cb90ea473b", func := "cnc/cnclaw14.DrillExpands", spec := "drillExpands", apart := false }
def DrillExpandsSaid : Prop := drillExpandsRow.holds Try.pinned (OpenSpec.ofChange drillExpandsSpec)

/-- ITS FALSE NEIGHBOUR: 'it returns false'. Refute it at one input. -/
def drillExpandsWrong : ChangeSpec := { name := "drillExpands", fn := fun _ => fun
  | [d] => { results := [.lit (.bool false)], args := [d] }
  | _ => none }
def DrillExpandsWrongFalsely : Prop := drillExpandsRow.holds Try.pinned (OpenSpec.ofChange drillExpandsWrong)

/-- 'cnclaw14.DrillChecks': WHATEVER THE INPUT: true; the input reads as it did. -/
def drillChecksSpec : ChangeSpec := { name := "drillChecks", fn := fun _ => fun
  | [d1, d2, d3, d4] => { results := [.lit (.bool true)], args := [d1, d2, d3, d4] }
  | _ => none }
def drillChecksRow : OpenClaim := { program := "ytgimheibnpgphaa", sum := "bcc592a5052d9d632863aa0e469e636294cd4b2fd07b51d8e35ab4cb90ea473b", func := "cnc/cnclaw14.DrillChecks", spec := "drillChecks", apart := false }
def DrillChecksSaid : Prop := drillChecksRow.holds Try.pinned (OpenSpec.ofChange drillChecksSpec)

/-- ITS FALSE NEIGHBOUR: 'it returns false'. Refute it at one input. -/
def drillChecksWrong : ChangeSpec := { name := "drillChecks", fn := fun _ => fun
  | [d1, d2, d3, d4] => { results := [.lit (.bool false)], args := [d1, d2, d3, d4] }
  | _ => none }
def DrillChecksWrongFalsely : Prop := drillChecksRow.holds Try.pinned (OpenSpec.ofChange drillChecksWrong)

/-- 'cnclaw14.DrillEnds': WHATEVER THE INPUT: true; the input reads as it did. -/
def drillEndsSpec : ChangeSpec := { name := "drillEnds", fn := fun _ => fun
  | [d] => { results := [.lit (.bool true)], args := [d] }
  | _ => none }
def drillEndsRow : OpenClaim := { program := "ytgimheibnpgphaa", sum := "bcc592a5052d9d632863aa0e469e636294cd4b2fd07b51d8e35ab4cb90ea473b", func := "cnc/cnclaw14.DrillEnds", spec := "drillEnds", apart := false }
def DrillEndsSaid : Prop := drillEndsRow.holds Try.pinned (OpenSpec.ofChange drillEndsSpec)

/-- ITS FALSE NEIGHBOUR: 'it returns false'. Refute it at one input. -/
def drillEndsWrong : ChangeSpec := { name := "drillEnds", fn := fun _ => fun
  | [d] => { results := [.lit (.bool false)], args := [d] }
  | _ => none }
def DrillEndsWrongFalsely : Prop := drillEndsRow.holds Try.pinned (OpenSpec.ofChange drillEndsWrong)

/-- 'cnclaw14.DrillDepth': WHATEVER THE INPUT: true; the input reads as it did. -/
def drillDepthSpec : ChangeSpec := { name := "drillDepth", fn := fun _ => fun
  | [d] => { results := [.lit (.bool true)], args := [d] }
  | _ => none }
def drillDepthRow : OpenClaim := { program := "ytgimheibnpgphaa", sum := "bcc592a5052d9d632863aa0e469e636294cd4b2fd07b51d8e35ab4cb90ea473b", func := "cnc/cnclaw14.DrillDepth", spec := "drillDepth", apart := false }
def DrillDepthSaid : Prop := drillDepthRow.holds Try.pinned (OpenSpec.ofChange drillDepthSpec)

/-- ITS FALSE NEIGHBOUR: 'it returns false'. Refute it at one input. -/
def drillDepthWrong : ChangeSpec := { name := "drillDepth", fn := fun _ => fun
  | [d] => { results := [.lit (.bool false)], args := [d] }
  | _ => none }
def DrillDepthWrongFalsely : Prop := drillDepthRow.holds Try.pinned (OpenSpec.ofChange drillDepthWrong)

/-- 'cnclaw14.DrillPecks': WHATEVER THE INPUT: true; the input reads as it did. -/
def drillPecksSpec : ChangeSpec := { name := "drillPecks", fn := fun _ => fun
  | [d1, d2] => { results := [.lit (.bool true)], args := [d1, d2] }
  | _ => none }
def drillPecksRow : OpenClaim := { program := "ytgimheibnpgphaa", sum := "bcc592a5052d9d632863aa0e469e636294cd4b2fd07b51d8e35ab4cb90ea473b", func := "cnc/cnclaw14.DrillPecks", spec := "drillPecks", apart := false }
def DrillPecksSaid : Prop := drillPecksRow.holds Try.pinned (OpenSpec.ofChange drillPecksSpec)

/-- ITS FALSE NEIGHBOUR: 'it returns false'. Refute it at one input. -/
def drillPecksWrong : ChangeSpec := { name := "drillPecks", fn := fun _ => fun
  | [d1, d2] => { results := [.lit (.bool false)], args := [d1, d2] }
  | _ => none }
def DrillPecksWrongFalsely : Prop := drillPecksRow.holds Try.pinned (OpenSpec.ofChange drillPecksWrong)

/-- 'cnclaw14.DrillPlanes': WHATEVER THE INPUT: true; the input reads as it did. -/
def drillPlanesSpec : ChangeSpec := { name := "drillPlanes", fn := fun _ => fun
  | [d1, d2] => { results := [.lit (.bool true)], args := [d1, d2] }
  | _ => none }
def drillPlanesRow : OpenClaim := { program := "ytgimheibnpgphaa", sum := "bcc592a5052d9d632863aa0e469e636294cd4b2fd07b51d8e35ab4cb90ea473b", func := "cnc/cnclaw14.DrillPlanes", spec := "drillPlanes", apart := false }
def DrillPlanesSaid : Prop := drillPlanesRow.holds Try.pinned (OpenSpec.ofChange drillPlanesSpec)

/-- ITS FALSE NEIGHBOUR: 'it returns false'. Refute it at one input. -/
def drillPlanesWrong : ChangeSpec := { name := "drillPlanes", fn := fun _ => fun
  | [d1, d2] => { results := [.lit (.bool false)], args := [d1, d2] }
  | _ => none }
def DrillPlanesWrongFalsely : Prop := drillPlanesRow.holds Try.pinned (OpenSpec.ofChange drillPlanesWrong)

/-- 'cnclaw14.DrillTaps': WHATEVER THE INPUT: true; the input reads as it did. -/
def drillTapsSpec : ChangeSpec := { name := "drillTaps", fn := fun _ => fun
  | [d1, d2] => { results := [.lit (.bool true)], args := [d1, d2] }
  | _ => none }
def drillTapsRow : OpenClaim := { program := "ytgimheibnpgphaa", sum := "bcc592a5052d9d632863aa0e469e636294cd4b2fd07b51d8e35ab4cb90ea473b", func := "cnc/cnclaw14.DrillTaps", spec := "drillTaps", apart := false }
def DrillTapsSaid : Prop := drillTapsRow.holds Try.pinned (OpenSpec.ofChange drillTapsSpec)

/-- ITS FALSE NEIGHBOUR: 'it returns false'. Refute it at one input. -/
def drillTapsWrong : ChangeSpec := { name := "drillTaps", fn := fun _ => fun
  | [d1, d2] => { results := [.lit (.bool false)], args := [d1, d2] }
  | _ => none }
def DrillTapsWrongFalsely : Prop := drillTapsRow.holds Try.pinned (OpenSpec.ofChange drillTapsWrong)

/- THE SECOND FORM. 'bulk': how many values and letters a reading holds, each counted each time it is reached (what is shared counts as often as it is met; a slice's spare places count too). A statement '..UptoSaid' is the law's where the arguments, and the package variables that the reading takes, are together of bulk at most 1048576: NARROWER than '..Said'. Prove '..Said' where nothing that the law and all that it calls make is longer than what came in: it says more and counts as full. Else prove '..UptoSaid'. A law counts once. -/
mutual
def uptoBulk {H : Type} : DataW H → Nat
  | .lit (.string bytes) => bytes.length + 1
  | .lit _ => 1
  | .nil => 1
  | .ptr d => uptoBulk d + 1
  | .slice elems spare => uptoBulkAll elems + uptoBulkAll spare + 1
  | .agg parts => uptoBulkAll parts + 1
  | .iface _ d => uptoBulk d + 1
  | .map entries => uptoBulkEntries entries + 1
  | .held _ => 1
def uptoBulkAll {H : Type} : List (DataW H) → Nat
  | [] => 0
  | d :: r => uptoBulk d + uptoBulkAll r
def uptoBulkEntries {H : Type} : List (Lit × DataW H) → Nat
  | [] => 0
  | x :: r => uptoBulkEntry x + uptoBulkEntries r
def uptoBulkEntry {H : Type} : Lit × DataW H → Nat
  | (.string bytes, d) => bytes.length + uptoBulk d + 1
  | (_, d) => uptoBulk d + 1
 end
def uptoSmall : (H : Type) → List (DataW H) → Bool := fun _ ds => decide (uptoBulkAll ds ≤ 1048576)
def OpenSpec.upto (s : _root_.Go.ChangeSpec) : _root_.Go.OpenSpec := { _root_.Go.OpenSpec.ofChange s with cond := some uptoSmall }

/-- 'cnclaw14.DrillExpands', WHERE WHAT IT READS IS OF BULK AT MOST 1048576: true; the input reads as it did. -/
def drillExpandsUptoRow : OpenClaim := { program := "ytgimheibnpgphaa", sum := "bcc592a5052d9d632863aa0e469e636294cd4b2fd07b51d8e35ab4cb90ea473b", func := "cnc/cnclaw14.DrillExpands", spec := "drillExpands", apart := false, narrowed := true }
def DrillExpandsUptoSaid : Prop := drillExpandsUptoRow.holds Try.pinned (OpenSpec.upto drillExpandsSpec)

/-- 'cnclaw14.DrillChecks', WHERE WHAT IT READS IS OF BULK AT MOST 1048576: true; the input reads as it did. -/
def drillChecksUptoRow : OpenClaim := { program := "ytgimheibnpgphaa", sum := "bcc592a5052d9d632863aa0e469e636294cd4b2fd07b51d8e35ab4cb90ea473b", func := "cnc/cnclaw14.DrillChecks", spec := "drillChecks", apart := false, narrowed := true }
def DrillChecksUptoSaid : Prop := drillChecksUptoRow.holds Try.pinned (OpenSpec.upto drillChecksSpec)

/-- 'cnclaw14.DrillEnds', WHERE WHAT IT READS IS OF BULK AT MOST 1048576: true; the input reads as it did. -/
def drillEndsUptoRow : OpenClaim := { program := "ytgimheibnpgphaa", sum := "bcc592a5052d9d632863aa0e469e636294cd4b2fd07b51d8e35ab4cb90ea473b", func := "cnc/cnclaw14.DrillEnds", spec := "drillEnds", apart := false, narrowed := true }
def DrillEndsUptoSaid : Prop := drillEndsUptoRow.holds Try.pinned (OpenSpec.upto drillEndsSpec)

/-- 'cnclaw14.DrillDepth', WHERE WHAT IT READS IS OF BULK AT MOST 1048576: true; the input reads as it did. -/
def drillDepthUptoRow : OpenClaim := { program := "ytgimheibnpgphaa", sum := "bcc592a5052d9d632863aa0e469e636294cd4b2fd07b51d8e35ab4cb90ea473b", func := "cnc/cnclaw14.DrillDepth", spec := "drillDepth", apart := false, narrowed := true }
def DrillDepthUptoSaid : Prop := drillDepthUptoRow.holds Try.pinned (OpenSpec.upto drillDepthSpec)

/-- 'cnclaw14.DrillPecks', WHERE WHAT IT READS IS OF BULK AT MOST 1048576: true; the input reads as it did. -/
def drillPecksUptoRow : OpenClaim := { program := "ytgimheibnpgphaa", sum := "bcc592a5052d9d632863aa0e469e636294cd4b2fd07b51d8e35ab4cb90ea473b", func := "cnc/cnclaw14.DrillPecks", spec := "drillPecks", apart := false, narrowed := true }
def DrillPecksUptoSaid : Prop := drillPecksUptoRow.holds Try.pinned (OpenSpec.upto drillPecksSpec)

/-- 'cnclaw14.DrillPlanes', WHERE WHAT IT READS IS OF BULK AT MOST 1048576: true; the input reads as it did. -/
def drillPlanesUptoRow : OpenClaim := { program := "ytgimheibnpgphaa", sum := "bcc592a5052d9d632863aa0e469e636294cd4b2fd07b51d8e35ab4cb90ea473b", func := "cnc/cnclaw14.DrillPlanes", spec := "drillPlanes", apart := false, narrowed := true }
def DrillPlanesUptoSaid : Prop := drillPlanesUptoRow.holds Try.pinned (OpenSpec.upto drillPlanesSpec)

/-- 'cnclaw14.DrillTaps', WHERE WHAT IT READS IS OF BULK AT MOST 1048576: true; the input reads as it did. -/
def drillTapsUptoRow : OpenClaim := { program := "ytgimheibnpgphaa", sum := "bcc592a5052d9d632863aa0e469e636294cd4b2fd07b51d8e35ab4cb90ea473b", func := "cnc/cnclaw14.DrillTaps", spec := "drillTaps", apart := false, narrowed := true }
def DrillTapsUptoSaid : Prop := drillTapsUptoRow.holds Try.pinned (OpenSpec.upto drillTapsSpec)

end Rows
end Go.Proofs.Ytgimheibnpgphaa
