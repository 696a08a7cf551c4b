/-
  No cell of these rows narrows 'for every input' (looked for: loops, veiled, ifaces, maps, wideKeys, modest, calm, conditions, laid).
  DERIVED. THE GIVEN ROWS OF THIS SEAT. 8 by the template 'for every input the law returns true; each argument reads behind the call as it read before'; 0 by the template 'total and deterministic' (their statements: YthhjbngoibmpgaaGreatTotals.lean).
  GIVEN WITH THE SEED: the statements are not yours to turn. If you find one false, say at which input.
  Laid BY PROGRAM, IN A SANDBOX (cutbox-rows.mjs): the forced cells as the released guide's own fill.sh prints them over the translation 24694d81f9e79633… (all of the seat's roots in one cut). By AI agents, Wed Nov 11 2026. No macro, syntax, notation, axiom, sorry.
-/
import Derived.Test.YthhjbngoibmpgaaGreatChecked
import GoSem.Claim
import GoSem.ClaimJoined
import GoSem.ClaimMapViews
import Derived.JoinedTies
import Derived.KernelRfl
namespace Go.Proofs.YthhjbngoibmpgaaGreat
/- THE CELL 'sum', in the pinned program and in every row, IS THE sha256 OF THE DUMP (.gsa) THAT YthhjbngoibmpgaaGreatProg.lean LOADS. Nothing in Lean hashes anything: it is a label: what it is worth is what the hold of that sum in a sandbox is worth. -/
noncomputable def Tryz.pinned : Pinned := { name := "ythhjbngoibmpgaagreat", sum := "24694d81f9e79633317fba137f98c5f9471a37ae9084e51aaf9fdecef723a1bc", checked := Tryz.checked }
namespace Rows
def none {H : Type} : Left H := { results := [], args := [] }

/-- 'shardqueuelaw15.SectionAlone': WHATEVER THE INPUT: true; the input reads as it did. -/
def sectionAloneSpec : ChangeSpec := { name := "sectionAlone", fn := fun _ => fun
  | [d] => { results := [.lit (.bool true)], args := [d] }
  | _ => none }
def sectionAloneRow : OpenClaim := { program := "ythhjbngoibmpgaagreat", sum := "24694d81f9e79633317fba137f98c5f9471a37ae9084e51aaf9fdecef723a1bc", func := "shardqueue/shardqueuelaw15.SectionAlone", spec := "sectionAlone", inPlace := ["slices.overlaps[shardqueue/api.Span]"], unfollowed := true, recurses := true, apart := false }
def SectionAloneSaid : Prop := sectionAloneRow.holds Tryz.pinned (OpenSpec.ofChange sectionAloneSpec)

/-- ITS FALSE NEIGHBOUR: 'it returns false'. Refute it at one input. -/
def sectionAloneWrong : ChangeSpec := { name := "sectionAlone", fn := fun _ => fun
  | [d] => { results := [.lit (.bool false)], args := [d] }
  | _ => none }
def SectionAloneWrongFalsely : Prop := sectionAloneRow.holds Tryz.pinned (OpenSpec.ofChange sectionAloneWrong)

/-- 'shardqueuelaw15.SectionHolds': WHATEVER THE INPUT: true; the input reads as it did. -/
def sectionHoldsSpec : ChangeSpec := { name := "sectionHolds", fn := fun _ => fun
  | [d] => { results := [.lit (.bool true)], args := [d] }
  | _ => none }
def sectionHoldsRow : OpenClaim := { program := "ythhjbngoibmpgaagreat", sum := "24694d81f9e79633317fba137f98c5f9471a37ae9084e51aaf9fdecef723a1bc", func := "shardqueue/shardqueuelaw15.SectionHolds", spec := "sectionHolds", inPlace := ["slices.overlaps[shardqueue/api.Span]"], unfollowed := true, recurses := true, apart := false }
def SectionHoldsSaid : Prop := sectionHoldsRow.holds Tryz.pinned (OpenSpec.ofChange sectionHoldsSpec)

/-- ITS FALSE NEIGHBOUR: 'it returns false'. Refute it at one input. -/
def sectionHoldsWrong : ChangeSpec := { name := "sectionHolds", fn := fun _ => fun
  | [d] => { results := [.lit (.bool false)], args := [d] }
  | _ => none }
def SectionHoldsWrongFalsely : Prop := sectionHoldsRow.holds Tryz.pinned (OpenSpec.ofChange sectionHoldsWrong)

/-- 'shardqueuelaw25.SplitRefuses': WHATEVER THE INPUT: true; the input reads as it did. -/
def splitRefusesSpec : ChangeSpec := { name := "splitRefuses", fn := fun _ => fun
  | [d] => { results := [.lit (.bool true)], args := [d] }
  | _ => none }
def splitRefusesRow : OpenClaim := { program := "ythhjbngoibmpgaagreat", sum := "24694d81f9e79633317fba137f98c5f9471a37ae9084e51aaf9fdecef723a1bc", func := "shardqueue/shardqueuelaw25.SplitRefuses", spec := "splitRefuses", inPlace := ["slices.overlaps[shardqueue/api.Span]", "slices.overlaps[shardqueue/api.Lease]"], unfollowed := true, recurses := true, apart := false }
def SplitRefusesSaid : Prop := splitRefusesRow.holds Tryz.pinned (OpenSpec.ofChange splitRefusesSpec)

/-- ITS FALSE NEIGHBOUR: 'it returns false'. Refute it at one input. -/
def splitRefusesWrong : ChangeSpec := { name := "splitRefuses", fn := fun _ => fun
  | [d] => { results := [.lit (.bool false)], args := [d] }
  | _ => none }
def SplitRefusesWrongFalsely : Prop := splitRefusesRow.holds Tryz.pinned (OpenSpec.ofChange splitRefusesWrong)

/-- 'shardqueuelaw25.SplitLeases': WHATEVER THE INPUT: true; the input reads as it did. -/
def splitLeasesSpec : ChangeSpec := { name := "splitLeases", fn := fun _ => fun
  | [d] => { results := [.lit (.bool true)], args := [d] }
  | _ => none }
def splitLeasesRow : OpenClaim := { program := "ythhjbngoibmpgaagreat", sum := "24694d81f9e79633317fba137f98c5f9471a37ae9084e51aaf9fdecef723a1bc", func := "shardqueue/shardqueuelaw25.SplitLeases", spec := "splitLeases", inPlace := ["slices.overlaps[shardqueue/api.Span]", "slices.overlaps[shardqueue/api.Lease]"], unfollowed := true, recurses := true, apart := false }
def SplitLeasesSaid : Prop := splitLeasesRow.holds Tryz.pinned (OpenSpec.ofChange splitLeasesSpec)

/-- ITS FALSE NEIGHBOUR: 'it returns false'. Refute it at one input. -/
def splitLeasesWrong : ChangeSpec := { name := "splitLeases", fn := fun _ => fun
  | [d] => { results := [.lit (.bool false)], args := [d] }
  | _ => none }
def SplitLeasesWrongFalsely : Prop := splitLeasesRow.holds Tryz.pinned (OpenSpec.ofChange splitLeasesWrong)

/-- 'shardqueuelaw26.MergeRefuses': WHATEVER THE INPUT: true; the input reads as it did. -/
def mergeRefusesSpec : ChangeSpec := { name := "mergeRefuses", fn := fun _ => fun
  | [d] => { results := [.lit (.bool true)], args := [d] }
  | _ => none }
def mergeRefusesRow : OpenClaim := { program := "ythhjbngoibmpgaagreat", sum := "24694d81f9e79633317fba137f98c5f9471a37ae9084e51aaf9fdecef723a1bc", func := "shardqueue/shardqueuelaw26.MergeRefuses", spec := "mergeRefuses", inPlace := ["slices.overlaps[shardqueue/api.Span]", "slices.overlaps[shardqueue/api.Lease]"], unfollowed := true, recurses := true, apart := false }
def MergeRefusesSaid : Prop := mergeRefusesRow.holds Tryz.pinned (OpenSpec.ofChange mergeRefusesSpec)

/-- ITS FALSE NEIGHBOUR: 'it returns false'. Refute it at one input. -/
def mergeRefusesWrong : ChangeSpec := { name := "mergeRefuses", fn := fun _ => fun
  | [d] => { results := [.lit (.bool false)], args := [d] }
  | _ => none }
def MergeRefusesWrongFalsely : Prop := mergeRefusesRow.holds Tryz.pinned (OpenSpec.ofChange mergeRefusesWrong)

/-- 'shardqueuelaw26.MergeLeases': WHATEVER THE INPUT: true; the input reads as it did. -/
def mergeLeasesSpec : ChangeSpec := { name := "mergeLeases", fn := fun _ => fun
  | [d] => { results := [.lit (.bool true)], args := [d] }
  | _ => none }
def mergeLeasesRow : OpenClaim := { program := "ythhjbngoibmpgaagreat", sum := "24694d81f9e79633317fba137f98c5f9471a37ae9084e51aaf9fdecef723a1bc", func := "shardqueue/shardqueuelaw26.MergeLeases", spec := "mergeLeases", inPlace := ["slices.overlaps[shardqueue/api.Span]", "slices.overlaps[shardqueue/api.Lease]"], unfollowed := true, recurses := true, apart := false }
def MergeLeasesSaid : Prop := mergeLeasesRow.holds Tryz.pinned (OpenSpec.ofChange mergeLeasesSpec)

/-- ITS FALSE NEIGHBOUR: 'it returns false'. Refute it at one input. -/
def mergeLeasesWrong : ChangeSpec := { name := "mergeLeases", fn := fun _ => fun
  | [d] => { results := [.lit (.bool false)], args := [d] }
  | _ => none }
def MergeLeasesWrongFalsely : Prop := mergeLeasesRow.holds Tryz.pinned (OpenSpec.ofChange mergeLeasesWrong)

/-- 'shardqueuelaw26.MergeMoves': WHATEVER THE INPUT: true; the input reads as it did. -/
def mergeMovesSpec : ChangeSpec := { name := "mergeMoves", fn := fun _ => fun
  | [d] => { results := [.lit (.bool true)], args := [d] }
  | _ => none }
def mergeMovesRow : OpenClaim := { program := "ythhjbngoibmpgaagreat", sum := "24694d81f9e79633317fba137f98c5f9471a37ae9084e51aaf9fdecef723a1bc", func := "shardqueue/shardqueuelaw26.MergeMoves", spec := "mergeMoves", inPlace := ["slices.overlaps[shardqueue/api.Span]", "slices.overlaps[shardqueue/api.Lease]"], unfollowed := true, recurses := true, apart := false }
def MergeMovesSaid : Prop := mergeMovesRow.holds Tryz.pinned (OpenSpec.ofChange mergeMovesSpec)

/-- ITS FALSE NEIGHBOUR: 'it returns false'. Refute it at one input. -/
def mergeMovesWrong : ChangeSpec := { name := "mergeMoves", fn := fun _ => fun
  | [d] => { results := [.lit (.bool false)], args := [d] }
  | _ => none }
def MergeMovesWrongFalsely : Prop := mergeMovesRow.holds Tryz.pinned (OpenSpec.ofChange mergeMovesWrong)

/-- 'shardqueuelaw27.SweepRefuses': WHATEVER THE INPUT: true; the input reads as it did. -/
def sweepRefusesSpec : ChangeSpec := { name := "sweepRefuses", fn := fun _ => fun
  | [d] => { results := [.lit (.bool true)], args := [d] }
  | _ => none }
def sweepRefusesRow : OpenClaim := { program := "ythhjbngoibmpgaagreat", sum := "24694d81f9e79633317fba137f98c5f9471a37ae9084e51aaf9fdecef723a1bc", func := "shardqueue/shardqueuelaw27.SweepRefuses", spec := "sweepRefuses", inPlace := ["slices.overlaps[shardqueue/api.Span]"], unfollowed := true, recurses := true, apart := false }
def SweepRefusesSaid : Prop := sweepRefusesRow.holds Tryz.pinned (OpenSpec.ofChange sweepRefusesSpec)

/-- ITS FALSE NEIGHBOUR: 'it returns false'. Refute it at one input. -/
def sweepRefusesWrong : ChangeSpec := { name := "sweepRefuses", fn := fun _ => fun
  | [d] => { results := [.lit (.bool false)], args := [d] }
  | _ => none }
def SweepRefusesWrongFalsely : Prop := sweepRefusesRow.holds Tryz.pinned (OpenSpec.ofChange sweepRefusesWrong)

/- THE SECOND FORM. 'bulk': how many values and letters a reading holds, each counted each time it is reached (what is shared counts as often as it is met; a slice's spare places count too). A statement '..UptoSaid' is the law's where the arguments, and the package variables that the reading takes, are together of bulk at most 1048576: NARROWER than '..Said'. Prove '..Said' where nothing that the law and all that it calls make is longer than what came in: it says more and counts as full. Else prove '..UptoSaid'. A law counts once. -/
mutual
def uptoBulk {H : Type} : DataW H → Nat
  | .lit (.string bytes) => bytes.length + 1
  | .lit _ => 1
  | .nil => 1
  | .ptr d => uptoBulk d + 1
  | .slice elems spare => uptoBulkAll elems + uptoBulkAll spare + 1
  | .agg parts => uptoBulkAll parts + 1
  | .iface _ d => uptoBulk d + 1
  | .map entries => uptoBulkEntries entries + 1
  | .held _ => 1
def uptoBulkAll {H : Type} : List (DataW H) → Nat
  | [] => 0
  | d :: r => uptoBulk d + uptoBulkAll r
def uptoBulkEntries {H : Type} : List (Lit × DataW H) → Nat
  | [] => 0
  | x :: r => uptoBulkEntry x + uptoBulkEntries r
def uptoBulkEntry {H : Type} : Lit × DataW H → Nat
  | (.string bytes, d) => bytes.length + uptoBulk d + 1
  | (_, d) => uptoBulk d + 1
 end
def uptoSmall : (H : Type) → List (DataW H) → Bool := fun _ ds => decide (uptoBulkAll ds ≤ 1048576)
def OpenSpec.upto (s : _root_.Go.ChangeSpec) : _root_.Go.OpenSpec := { _root_.Go.OpenSpec.ofChange s with cond := some uptoSmall }

/-- 'shardqueuelaw15.SectionAlone', WHERE WHAT IT READS IS OF BULK AT MOST 1048576: true; the input reads as it did. -/
def sectionAloneUptoRow : OpenClaim := { program := "ythhjbngoibmpgaagreat", sum := "24694d81f9e79633317fba137f98c5f9471a37ae9084e51aaf9fdecef723a1bc", func := "shardqueue/shardqueuelaw15.SectionAlone", spec := "sectionAlone", inPlace := ["slices.overlaps[shardqueue/api.Span]"], unfollowed := true, recurses := true, apart := false, narrowed := true }
def SectionAloneUptoSaid : Prop := sectionAloneUptoRow.holds Tryz.pinned (OpenSpec.upto sectionAloneSpec)

/-- 'shardqueuelaw15.SectionHolds', WHERE WHAT IT READS IS OF BULK AT MOST 1048576: true; the input reads as it did. -/
def sectionHoldsUptoRow : OpenClaim := { program := "ythhjbngoibmpgaagreat", sum := "24694d81f9e79633317fba137f98c5f9471a37ae9084e51aaf9fdecef723a1bc", func := "shardqueue/shardqueuelaw15.SectionHolds", spec := "sectionHolds", inPlace := ["slices.overlaps[shardqueue/api.Span]"], unfollowed := true, recurses := true, apart := false, narrowed := true }
def SectionHoldsUptoSaid : Prop := sectionHoldsUptoRow.holds Tryz.pinned (OpenSpec.upto sectionHoldsSpec)

/-- 'shardqueuelaw25.SplitRefuses', WHERE WHAT IT READS IS OF BULK AT MOST 1048576: true; the input reads as it did. -/
def splitRefusesUptoRow : OpenClaim := { program := "ythhjbngoibmpgaagreat", sum := "24694d81f9e79633317fba137f98c5f9471a37ae9084e51aaf9fdecef723a1bc", func := "shardqueue/shardqueuelaw25.SplitRefuses", spec := "splitRefuses", inPlace := ["slices.overlaps[shardqueue/api.Span]", "slices.overlaps[shardqueue/api.Lease]"], unfollowed := true, recurses := true, apart := false, narrowed := true }
def SplitRefusesUptoSaid : Prop := splitRefusesUptoRow.holds Tryz.pinned (OpenSpec.upto splitRefusesSpec)

/-- 'shardqueuelaw25.SplitLeases', WHERE WHAT IT READS IS OF BULK AT MOST 1048576: true; the input reads as it did. -/
def splitLeasesUptoRow : OpenClaim := { program := "ythhjbngoibmpgaagreat", sum := "24694d81f9e79633317fba137f98c5f9471a37ae9084e51aaf9fdecef723a1bc", func := "shardqueue/shardqueuelaw25.SplitLeases", spec := "splitLeases", inPlace := ["slices.overlaps[shardqueue/api.Span]", "slices.overlaps[shardqueue/api.Lease]"], unfollowed := true, recurses := true, apart := false, narrowed := true }
def SplitLeasesUptoSaid : Prop := splitLeasesUptoRow.holds Tryz.pinned (OpenSpec.upto splitLeasesSpec)

/-- 'shardqueuelaw26.MergeRefuses', WHERE WHAT IT READS IS OF BULK AT MOST 1048576: true; the input reads as it did. -/
def mergeRefusesUptoRow : OpenClaim := { program := "ythhjbngoibmpgaagreat", sum := "24694d81f9e79633317fba137f98c5f9471a37ae9084e51aaf9fdecef723a1bc", func := "shardqueue/shardqueuelaw26.MergeRefuses", spec := "mergeRefuses", inPlace := ["slices.overlaps[shardqueue/api.Span]", "slices.overlaps[shardqueue/api.Lease]"], unfollowed := true, recurses := true, apart := false, narrowed := true }
def MergeRefusesUptoSaid : Prop := mergeRefusesUptoRow.holds Tryz.pinned (OpenSpec.upto mergeRefusesSpec)

/-- 'shardqueuelaw26.MergeLeases', WHERE WHAT IT READS IS OF BULK AT MOST 1048576: true; the input reads as it did. -/
def mergeLeasesUptoRow : OpenClaim := { program := "ythhjbngoibmpgaagreat", sum := "24694d81f9e79633317fba137f98c5f9471a37ae9084e51aaf9fdecef723a1bc", func := "shardqueue/shardqueuelaw26.MergeLeases", spec := "mergeLeases", inPlace := ["slices.overlaps[shardqueue/api.Span]", "slices.overlaps[shardqueue/api.Lease]"], unfollowed := true, recurses := true, apart := false, narrowed := true }
def MergeLeasesUptoSaid : Prop := mergeLeasesUptoRow.holds Tryz.pinned (OpenSpec.upto mergeLeasesSpec)

/-- 'shardqueuelaw26.MergeMoves', WHERE WHAT IT READS IS OF BULK AT MOST 1048576: true; the input reads as it did. -/
def mergeMovesUptoRow : OpenClaim := { program := "ythhjbngoibmpgaagreat", sum := "24694d81f9e79633317fba137f98c5f9471a37ae9084e51aaf9fdecef723a1bc", func := "shardqueue/shardqueuelaw26.MergeMoves", spec := "mergeMoves", inPlace := ["slices.overlaps[shardqueue/api.Span]", "slices.overlaps[shardqueue/api.Lease]"], unfollowed := true, recurses := true, apart := false, narrowed := true }
def MergeMovesUptoSaid : Prop := mergeMovesUptoRow.holds Tryz.pinned (OpenSpec.upto mergeMovesSpec)

/-- 'shardqueuelaw27.SweepRefuses', WHERE WHAT IT READS IS OF BULK AT MOST 1048576: true; the input reads as it did. -/
def sweepRefusesUptoRow : OpenClaim := { program := "ythhjbngoibmpgaagreat", sum := "24694d81f9e79633317fba137f98c5f9471a37ae9084e51aaf9fdecef723a1bc", func := "shardqueue/shardqueuelaw27.SweepRefuses", spec := "sweepRefuses", inPlace := ["slices.overlaps[shardqueue/api.Span]"], unfollowed := true, recurses := true, apart := false, narrowed := true }
def SweepRefusesUptoSaid : Prop := sweepRefusesUptoRow.holds Tryz.pinned (OpenSpec.upto sweepRefusesSpec)

end Rows
end Go.Proofs.YthhjbngoibmpgaaGreat
