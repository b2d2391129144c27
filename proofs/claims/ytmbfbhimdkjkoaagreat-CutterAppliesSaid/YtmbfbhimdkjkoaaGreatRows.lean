/-
  No cell of these rows narrows 'for every input' (looked for: loops, veiled, ifaces, maps, wideKeys, modest, calm, conditions, laid).
  DERIVED. THE GIVEN ROWS OF THIS SEAT. 4 by the template 'for every input the law returns true; each argument reads behind the call as it read before'; 0 by the template 'total and deterministic' (their statements: YtmbfbhimdkjkoaaGreatTotals.lean).
  GIVEN WITH THE SEED: the statements are not yours to turn. If you find one false, say at which input.
  Laid BY PROGRAM, IN A SANDBOX (cutbox-rows.mjs): the forced cells as the released guide's own fill.sh prints them over the translation 639cfd4417ff40e9… (all of the seat's roots in one cut). By AI agents, Wed Nov 11 2026. No macro, syntax, notation, axiom, sorry.
-/
import Derived.Test.YtmbfbhimdkjkoaaGreatChecked
import GoSem.Claim
import GoSem.ClaimJoined
import GoSem.ClaimMapViews
import Derived.JoinedTies
import Derived.KernelRfl
namespace Go.Proofs.YtmbfbhimdkjkoaaGreat
/- THE CELL 'sum', in the pinned program and in every row, IS THE sha256 OF THE DUMP (.gsa) THAT YtmbfbhimdkjkoaaGreatProg.lean LOADS. Nothing in Lean hashes anything: it is a label: what it is worth is what the hold of that sum in a sandbox is worth. -/
noncomputable def Tryz.pinned : Pinned := { name := "ytmbfbhimdkjkoaagreat", sum := "639cfd4417ff40e9f8c083d3411d56fa8c7c3e7fbfe8f3904b6870f166cdda0b", checked := Tryz.checked }
namespace Rows
def none {H : Type} : Left H := { results := [], args := [] }

/-- 'cnclaw20.CutterApplies': WHATEVER THE INPUT: true; the input reads as it did. -/
def cutterAppliesSpec : ChangeSpec := { name := "cutterApplies", fn := fun _ => fun
  | [d1, d2] => { results := [.lit (.bool true)], args := [d1, d2] }
  | _ => none }
def cutterAppliesRow : OpenClaim := { program := "ytmbfbhimdkjkoaagreat", sum := "639cfd4417ff40e9f8c083d3411d56fa8c7c3e7fbfe8f3904b6870f166cdda0b", func := "cnc/cnclaw20.CutterApplies", spec := "cutterApplies", inPlace := ["math/bits.Sub64"], unfollowed := true, recurses := true, named := ["math/bits.divideError", "math/bits.overflowError"], apart := false }
def CutterAppliesSaid : Prop := cutterAppliesRow.holds Tryz.pinned (OpenSpec.ofChange cutterAppliesSpec)

/-- ITS FALSE NEIGHBOUR: 'it returns false'. Refute it at one input. -/
def cutterAppliesWrong : ChangeSpec := { name := "cutterApplies", fn := fun _ => fun
  | [d1, d2] => { results := [.lit (.bool false)], args := [d1, d2] }
  | _ => none }
def CutterAppliesWrongFalsely : Prop := cutterAppliesRow.holds Tryz.pinned (OpenSpec.ofChange cutterAppliesWrong)

/-- 'cnclaw20.CutterPlays': WHATEVER THE INPUT: true; the input reads as it did. -/
def cutterPlaysSpec : ChangeSpec := { name := "cutterPlays", fn := fun _ => fun
  | [d] => { results := [.lit (.bool true)], args := [d] }
  | _ => none }
def cutterPlaysRow : OpenClaim := { program := "ytmbfbhimdkjkoaagreat", sum := "639cfd4417ff40e9f8c083d3411d56fa8c7c3e7fbfe8f3904b6870f166cdda0b", func := "cnc/cnclaw20.CutterPlays", spec := "cutterPlays", inPlace := ["math/bits.Sub64"], unfollowed := true, recurses := true, named := ["math/bits.divideError", "math/bits.overflowError"], apart := false }
def CutterPlaysSaid : Prop := cutterPlaysRow.holds Tryz.pinned (OpenSpec.ofChange cutterPlaysSpec)

/-- ITS FALSE NEIGHBOUR: 'it returns false'. Refute it at one input. -/
def cutterPlaysWrong : ChangeSpec := { name := "cutterPlays", fn := fun _ => fun
  | [d] => { results := [.lit (.bool false)], args := [d] }
  | _ => none }
def CutterPlaysWrongFalsely : Prop := cutterPlaysRow.holds Tryz.pinned (OpenSpec.ofChange cutterPlaysWrong)

/-- 'cnclaw20.CutterSpoilt': WHATEVER THE INPUT: true; the input reads as it did. -/
def cutterSpoiltSpec : ChangeSpec := { name := "cutterSpoilt", fn := fun _ => fun
  | [d1, d2, d3, d4, d5] => { results := [.lit (.bool true)], args := [d1, d2, d3, d4, d5] }
  | _ => none }
def cutterSpoiltRow : OpenClaim := { program := "ytmbfbhimdkjkoaagreat", sum := "639cfd4417ff40e9f8c083d3411d56fa8c7c3e7fbfe8f3904b6870f166cdda0b", func := "cnc/cnclaw20.CutterSpoilt", spec := "cutterSpoilt", inPlace := ["math/bits.Sub64"], unfollowed := true, recurses := true, named := ["math/bits.divideError", "math/bits.overflowError"], apart := false }
def CutterSpoiltSaid : Prop := cutterSpoiltRow.holds Tryz.pinned (OpenSpec.ofChange cutterSpoiltSpec)

/-- ITS FALSE NEIGHBOUR: 'it returns false'. Refute it at one input. -/
def cutterSpoiltWrong : ChangeSpec := { name := "cutterSpoilt", fn := fun _ => fun
  | [d1, d2, d3, d4, d5] => { results := [.lit (.bool false)], args := [d1, d2, d3, d4, d5] }
  | _ => none }
def CutterSpoiltWrongFalsely : Prop := cutterSpoiltRow.holds Tryz.pinned (OpenSpec.ofChange cutterSpoiltWrong)

/-- 'cnclaw20.CutterPlain': WHATEVER THE INPUT: true; the input reads as it did. -/
def cutterPlainSpec : ChangeSpec := { name := "cutterPlain", fn := fun _ => fun
  | [d] => { results := [.lit (.bool true)], args := [d] }
  | _ => none }
def cutterPlainRow : OpenClaim := { program := "ytmbfbhimdkjkoaagreat", sum := "639cfd4417ff40e9f8c083d3411d56fa8c7c3e7fbfe8f3904b6870f166cdda0b", func := "cnc/cnclaw20.CutterPlain", spec := "cutterPlain", inPlace := ["math/bits.Sub64"], unfollowed := true, recurses := true, named := ["math/bits.divideError", "math/bits.overflowError"], apart := false }
def CutterPlainSaid : Prop := cutterPlainRow.holds Tryz.pinned (OpenSpec.ofChange cutterPlainSpec)

/-- ITS FALSE NEIGHBOUR: 'it returns false'. Refute it at one input. -/
def cutterPlainWrong : ChangeSpec := { name := "cutterPlain", fn := fun _ => fun
  | [d] => { results := [.lit (.bool false)], args := [d] }
  | _ => none }
def CutterPlainWrongFalsely : Prop := cutterPlainRow.holds Tryz.pinned (OpenSpec.ofChange cutterPlainWrong)

/- THE SECOND FORM. 'bulk': how many values and letters a reading holds, each counted each time it is reached (what is shared counts as often as it is met; a slice's spare places count too). A statement '..UptoSaid' is the law's where the arguments, and the package variables that the reading takes, are together of bulk at most 1048576: NARROWER than '..Said'. Prove '..Said' where nothing that the law and all that it calls make is longer than what came in: it says more and counts as full. Else prove '..UptoSaid'. A law counts once. -/
mutual
def uptoBulk {H : Type} : DataW H → Nat
  | .lit (.string bytes) => bytes.length + 1
  | .lit _ => 1
  | .nil => 1
  | .ptr d => uptoBulk d + 1
  | .slice elems spare => uptoBulkAll elems + uptoBulkAll spare + 1
  | .agg parts => uptoBulkAll parts + 1
  | .iface _ d => uptoBulk d + 1
  | .map entries => uptoBulkEntries entries + 1
  | .held _ => 1
def uptoBulkAll {H : Type} : List (DataW H) → Nat
  | [] => 0
  | d :: r => uptoBulk d + uptoBulkAll r
def uptoBulkEntries {H : Type} : List (Lit × DataW H) → Nat
  | [] => 0
  | x :: r => uptoBulkEntry x + uptoBulkEntries r
def uptoBulkEntry {H : Type} : Lit × DataW H → Nat
  | (.string bytes, d) => bytes.length + uptoBulk d + 1
  | (_, d) => uptoBulk d + 1
 end
def uptoSmall : (H : Type) → List (DataW H) → Bool := fun _ ds => decide (uptoBulkAll ds ≤ 1048576)
def OpenSpec.upto (s : _root_.Go.ChangeSpec) : _root_.Go.OpenSpec := { _root_.Go.OpenSpec.ofChange s with cond := some uptoSmall }

/-- 'cnclaw20.CutterApplies', WHERE WHAT IT READS IS OF BULK AT MOST 1048576: true; the input reads as it did. -/
def cutterAppliesUptoRow : OpenClaim := { program := "ytmbfbhimdkjkoaagreat", sum := "639cfd4417ff40e9f8c083d3411d56fa8c7c3e7fbfe8f3904b6870f166cdda0b", func := "cnc/cnclaw20.CutterApplies", spec := "cutterApplies", inPlace := ["math/bits.Sub64"], unfollowed := true, recurses := true, named := ["math/bits.divideError", "math/bits.overflowError"], apart := false, narrowed := true }
def CutterAppliesUptoSaid : Prop := cutterAppliesUptoRow.holds Tryz.pinned (OpenSpec.upto cutterAppliesSpec)

/-- 'cnclaw20.CutterPlays', WHERE WHAT IT READS IS OF BULK AT MOST 1048576: true; the input reads as it did. -/
def cutterPlaysUptoRow : OpenClaim := { program := "ytmbfbhimdkjkoaagreat", sum := "639cfd4417ff40e9f8c083d3411d56fa8c7c3e7fbfe8f3904b6870f166cdda0b", func := "cnc/cnclaw20.CutterPlays", spec := "cutterPlays", inPlace := ["math/bits.Sub64"], unfollowed := true, recurses := true, named := ["math/bits.divideError", "math/bits.overflowError"], apart := false, narrowed := true }
def CutterPlaysUptoSaid : Prop := cutterPlaysUptoRow.holds Tryz.pinned (OpenSpec.upto cutterPlaysSpec)

/-- 'cnclaw20.CutterSpoilt', WHERE WHAT IT READS IS OF BULK AT MOST 1048576: true; the input reads as it did. -/
def cutterSpoiltUptoRow : OpenClaim := { program := "ytmbfbhimdkjkoaagreat", sum := "639cfd4417ff40e9f8c083d3411d56fa8c7c3e7fbfe8f3904b6870f166cdda0b", func := "cnc/cnclaw20.CutterSpoilt", spec := "cutterSpoilt", inPlace := ["math/bits.Sub64"], unfollowed := true, recurses := true, named := ["math/bits.divideError", "math/bits.overflowError"], apart := false, narrowed := true }
def CutterSpoiltUptoSaid : Prop := cutterSpoiltUptoRow.holds Tryz.pinned (OpenSpec.upto cutterSpoiltSpec)

/-- 'cnclaw20.CutterPlain', WHERE WHAT IT READS IS OF BULK AT MOST 1048576: true; the input reads as it did. -/
def cutterPlainUptoRow : OpenClaim := { program := "ytmbfbhimdkjkoaagreat", sum := "639cfd4417ff40e9f8c083d3411d56fa8c7c3e7fbfe8f3904b6870f166cdda0b", func := "cnc/cnclaw20.CutterPlain", spec := "cutterPlain", inPlace := ["math/bits.Sub64"], unfollowed := true, recurses := true, named := ["math/bits.divideError", "math/bits.overflowError"], apart := false, narrowed := true }
def CutterPlainUptoSaid : Prop := cutterPlainUptoRow.holds Tryz.pinned (OpenSpec.upto cutterPlainSpec)

end Rows
end Go.Proofs.YtmbfbhimdkjkoaaGreat
