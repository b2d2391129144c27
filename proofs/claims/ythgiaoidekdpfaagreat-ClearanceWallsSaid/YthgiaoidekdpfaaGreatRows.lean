/-
  No cell of these rows narrows 'for every input' (looked for: loops, veiled, ifaces, maps, wideKeys, modest, calm, conditions, laid).
  DERIVED. THE GIVEN ROWS OF THIS SEAT. 2 by the template 'for every input the law returns true; each argument reads behind the call as it read before'; 0 by the template 'total and deterministic' (their statements: YthgiaoidekdpfaaGreatTotals.lean).
  GIVEN WITH THE SEED: the statements are not yours to turn. If you find one false, say at which input.
  Laid BY PROGRAM, IN A SANDBOX (cutbox-rows.mjs): the forced cells as the released guide's own fill.sh prints them over the translation 95dc6b9cf36d967a… (all of the seat's roots in one cut). By AI agents, Wed Nov 11 2026. No macro, syntax, notation, axiom, sorry.
-/
import Derived.Test.YthgiaoidekdpfaaGreatChecked
import GoSem.Claim
import GoSem.ClaimJoined
import GoSem.ClaimMapViews
import Derived.JoinedTies
import Derived.KernelRfl
namespace Go.Proofs.YthgiaoidekdpfaaGreat
/- THE CELL 'sum', in the pinned program and in every row, IS THE sha256 OF THE DUMP (.gsa) THAT YthgiaoidekdpfaaGreatProg.lean LOADS. Nothing in Lean hashes anything: it is a label: what it is worth is what the hold of that sum in a sandbox is worth. -/
noncomputable def Tryz.pinned : Pinned := { name := "ythgiaoidekdpfaagreat", sum := "95dc6b9cf36d967a401f8655af8aa29982aaee71316c435a0ffb4ad74db88650", checked := Tryz.checked }
namespace Rows
def none {H : Type} : Left H := { results := [], args := [] }

/-- 'cnclaw21.ClearanceWalls': WHATEVER THE INPUT: true; the input reads as it did. -/
def clearanceWallsSpec : ChangeSpec := { name := "clearanceWalls", fn := fun _ => fun
  | [d1, d2, d3, d4] => { results := [.lit (.bool true)], args := [d1, d2, d3, d4] }
  | _ => none }
def clearanceWallsRow : OpenClaim := { program := "ythgiaoidekdpfaagreat", sum := "95dc6b9cf36d967a401f8655af8aa29982aaee71316c435a0ffb4ad74db88650", func := "cnc/cnclaw21.ClearanceWalls", spec := "clearanceWalls", inPlace := ["math/bits.Sub64"], unfollowed := true, recurses := true, named := ["math/bits.divideError", "math/bits.overflowError"], apart := false }
def ClearanceWallsSaid : Prop := clearanceWallsRow.holds Tryz.pinned (OpenSpec.ofChange clearanceWallsSpec)

/-- ITS FALSE NEIGHBOUR: 'it returns false'. Refute it at one input. -/
def clearanceWallsWrong : ChangeSpec := { name := "clearanceWalls", fn := fun _ => fun
  | [d1, d2, d3, d4] => { results := [.lit (.bool false)], args := [d1, d2, d3, d4] }
  | _ => none }
def ClearanceWallsWrongFalsely : Prop := clearanceWallsRow.holds Tryz.pinned (OpenSpec.ofChange clearanceWallsWrong)

/-- 'cnclaw21.ClearanceCertify': WHATEVER THE INPUT: true; the input reads as it did. -/
def clearanceCertifySpec : ChangeSpec := { name := "clearanceCertify", fn := fun _ => fun
  | [d1, d2, d3, d4] => { results := [.lit (.bool true)], args := [d1, d2, d3, d4] }
  | _ => none }
def clearanceCertifyRow : OpenClaim := { program := "ythgiaoidekdpfaagreat", sum := "95dc6b9cf36d967a401f8655af8aa29982aaee71316c435a0ffb4ad74db88650", func := "cnc/cnclaw21.ClearanceCertify", spec := "clearanceCertify", inPlace := ["math/bits.Sub64"], unfollowed := true, recurses := true, named := ["math/bits.divideError", "math/bits.overflowError"], apart := false }
def ClearanceCertifySaid : Prop := clearanceCertifyRow.holds Tryz.pinned (OpenSpec.ofChange clearanceCertifySpec)

/-- ITS FALSE NEIGHBOUR: 'it returns false'. Refute it at one input. -/
def clearanceCertifyWrong : ChangeSpec := { name := "clearanceCertify", fn := fun _ => fun
  | [d1, d2, d3, d4] => { results := [.lit (.bool false)], args := [d1, d2, d3, d4] }
  | _ => none }
def ClearanceCertifyWrongFalsely : Prop := clearanceCertifyRow.holds Tryz.pinned (OpenSpec.ofChange clearanceCertifyWrong)

/- THE SECOND FORM. 'bulk': how many values and letters a reading holds, each counted each time it is reached (what is shared counts as often as it is met; a slice's spare places count too). A statement '..UptoSaid' is the law's where the arguments, and the package variables that the reading takes, are together of bulk at most 1048576: NARROWER than '..Said'. Prove '..Said' where nothing that the law and all that it calls make is longer than what came in: it says more and counts as full. Else prove '..UptoSaid'. A law counts once. -/
mutual
def uptoBulk {H : Type} : DataW H → Nat
  | .lit (.string bytes) => bytes.length + 1
  | .lit _ => 1
  | .nil => 1
  | .ptr d => uptoBulk d + 1
  | .slice elems spare => uptoBulkAll elems + uptoBulkAll spare + 1
  | .agg parts => uptoBulkAll parts + 1
  | .iface _ d => uptoBulk d + 1
  | .map entries => uptoBulkEntries entries + 1
  | .held _ => 1
def uptoBulkAll {H : Type} : List (DataW H) → Nat
  | [] => 0
  | d :: r => uptoBulk d + uptoBulkAll r
def uptoBulkEntries {H : Type} : List (Lit × DataW H) → Nat
  | [] => 0
  | x :: r => uptoBulkEntry x + uptoBulkEntries r
def uptoBulkEntry {H : Type} : Lit × DataW H → Nat
  | (.string bytes, d) => bytes.length + uptoBulk d + 1
  | (_, d) => uptoBulk d + 1
 end
def uptoSmall : (H : Type) → List (DataW H) → Bool := fun _ ds => decide (uptoBulkAll ds ≤ 1048576)
def OpenSpec.upto (s : _root_.Go.ChangeSpec) : _root_.Go.OpenSpec := { _root_.Go.OpenSpec.ofChange s with cond := some uptoSmall }

/-- 'cnclaw21.ClearanceWalls', WHERE WHAT IT READS IS OF BULK AT MOST 1048576: true; the input reads as it did. -/
def clearanceWallsUptoRow : OpenClaim := { program := "ythgiaoidekdpfaagreat", sum := "95dc6b9cf36d967a401f8655af8aa29982aaee71316c435a0ffb4ad74db88650", func := "cnc/cnclaw21.ClearanceWalls", spec := "clearanceWalls", inPlace := ["math/bits.Sub64"], unfollowed := true, recurses := true, named := ["math/bits.divideError", "math/bits.overflowError"], apart := false, narrowed := true }
def ClearanceWallsUptoSaid : Prop := clearanceWallsUptoRow.holds Tryz.pinned (OpenSpec.upto clearanceWallsSpec)

/-- 'cnclaw21.ClearanceCertify', WHERE WHAT IT READS IS OF BULK AT MOST 1048576: true; the input reads as it did. -/
def clearanceCertifyUptoRow : OpenClaim := { program := "ythgiaoidekdpfaagreat", sum := "95dc6b9cf36d967a401f8655af8aa29982aaee71316c435a0ffb4ad74db88650", func := "cnc/cnclaw21.ClearanceCertify", spec := "clearanceCertify", inPlace := ["math/bits.Sub64"], unfollowed := true, recurses := true, named := ["math/bits.divideError", "math/bits.overflowError"], apart := false, narrowed := true }
def ClearanceCertifyUptoSaid : Prop := clearanceCertifyUptoRow.holds Tryz.pinned (OpenSpec.upto clearanceCertifySpec)

end Rows
end Go.Proofs.YthgiaoidekdpfaaGreat
