/-
  No cell of these rows narrows 'for every input' (looked for: loops, veiled, ifaces, maps, wideKeys, modest, calm, conditions, laid).
  DERIVED. THE GIVEN ROWS OF THIS SEAT. 4 by the template 'for every input the law returns true; each argument reads behind the call as it read before'; 0 by the template 'total and deterministic' (their statements: YtgnhijkjlebcmaaGreatTotals.lean).
  GIVEN WITH THE SEED: the statements are not yours to turn. If you find one false, say at which input.
  Laid BY PROGRAM, IN A SANDBOX (cutbox-rows.mjs): the forced cells as the released guide's own fill.sh prints them over the translation 514415b353406dcf… (all of the seat's roots in one cut). By AI agents, Wed Nov 11 2026. No macro, syntax, notation, axiom, sorry.
-/
import Derived.Test.YtgnhijkjlebcmaaGreatChecked
import GoSem.Claim
import GoSem.ClaimJoined
import GoSem.ClaimMapViews
import Derived.JoinedTies
import Derived.KernelRfl
namespace Go.Proofs.YtgnhijkjlebcmaaGreat
/- THE CELL 'sum', in the pinned program and in every row, IS THE sha256 OF THE DUMP (.gsa) THAT YtgnhijkjlebcmaaGreatProg.lean LOADS. Nothing in Lean hashes anything: it is a label: what it is worth is what the hold of that sum in a sandbox is worth. -/
noncomputable def Tryz.pinned : Pinned := { name := "ytgnhijkjlebcmaagreat", sum := "514415b353406dcfac92bcc6fd8bbe3c5df933f2832016ab703b74fca7b5cd8e", checked := Tryz.checked }
namespace Rows
def none {H : Type} : Left H := { results := [], args := [] }

/-- 'shardqueuelaw25.SplitLeases': WHATEVER THE INPUT: true; the input reads as it did. -/
def splitLeasesSpec : ChangeSpec := { name := "splitLeases", fn := fun _ => fun
  | [d] => { results := [.lit (.bool true)], args := [d] }
  | _ => none }
def splitLeasesRow : OpenClaim := { program := "ytgnhijkjlebcmaagreat", sum := "514415b353406dcfac92bcc6fd8bbe3c5df933f2832016ab703b74fca7b5cd8e", func := "shardqueue/shardqueuelaw25.SplitLeases", spec := "splitLeases", inPlace := ["slices.overlaps[shardqueue/api.Span]", "slices.overlaps[shardqueue/api.Lease]"], unfollowed := true, recurses := true, apart := false }
def SplitLeasesSaid : Prop := splitLeasesRow.holds Tryz.pinned (OpenSpec.ofChange splitLeasesSpec)

/-- ITS FALSE NEIGHBOUR: 'it returns false'. Refute it at one input. -/
def splitLeasesWrong : ChangeSpec := { name := "splitLeases", fn := fun _ => fun
  | [d] => { results := [.lit (.bool false)], args := [d] }
  | _ => none }
def SplitLeasesWrongFalsely : Prop := splitLeasesRow.holds Tryz.pinned (OpenSpec.ofChange splitLeasesWrong)

/-- 'shardqueuelaw26.MergeLeases': WHATEVER THE INPUT: true; the input reads as it did. -/
def mergeLeasesSpec : ChangeSpec := { name := "mergeLeases", fn := fun _ => fun
  | [d] => { results := [.lit (.bool true)], args := [d] }
  | _ => none }
def mergeLeasesRow : OpenClaim := { program := "ytgnhijkjlebcmaagreat", sum := "514415b353406dcfac92bcc6fd8bbe3c5df933f2832016ab703b74fca7b5cd8e", func := "shardqueue/shardqueuelaw26.MergeLeases", spec := "mergeLeases", inPlace := ["slices.overlaps[shardqueue/api.Span]", "slices.overlaps[shardqueue/api.Lease]"], unfollowed := true, recurses := true, apart := false }
def MergeLeasesSaid : Prop := mergeLeasesRow.holds Tryz.pinned (OpenSpec.ofChange mergeLeasesSpec)

/-- ITS FALSE NEIGHBOUR: 'it returns false'. Refute it at one input. -/
def mergeLeasesWrong : ChangeSpec := { name := "mergeLeases", fn := fun _ => fun
  | [d] => { results := [.lit (.bool false)], args := [d] }
  | _ => none }
def MergeLeasesWrongFalsely : Prop := mergeLeasesRow.holds Tryz.pinned (OpenSpec.ofChange mergeLeasesWrong)

/-- 'shardqueuelaw20.SettleHints': WHATEVER THE INPUT: true; the input reads as it did. -/
def settleHintsSpec : ChangeSpec := { name := "settleHints", fn := fun _ => fun
  | [d] => { results := [.lit (.bool true)], args := [d] }
  | _ => none }
def settleHintsRow : OpenClaim := { program := "ytgnhijkjlebcmaagreat", sum := "514415b353406dcfac92bcc6fd8bbe3c5df933f2832016ab703b74fca7b5cd8e", func := "shardqueue/shardqueuelaw20.SettleHints", spec := "settleHints", inPlace := ["slices.overlaps[shardqueue/api.Span]"], unfollowed := true, recurses := true, apart := false }
def SettleHintsSaid : Prop := settleHintsRow.holds Tryz.pinned (OpenSpec.ofChange settleHintsSpec)

/-- ITS FALSE NEIGHBOUR: 'it returns false'. Refute it at one input. -/
def settleHintsWrong : ChangeSpec := { name := "settleHints", fn := fun _ => fun
  | [d] => { results := [.lit (.bool false)], args := [d] }
  | _ => none }
def SettleHintsWrongFalsely : Prop := settleHintsRow.holds Tryz.pinned (OpenSpec.ofChange settleHintsWrong)

/-- 'shardqueuelaw19.ReceiveOrder': WHATEVER THE INPUT: true; the input reads as it did. -/
def receiveOrderSpec : ChangeSpec := { name := "receiveOrder", fn := fun _ => fun
  | [d1, d2] => { results := [.lit (.bool true)], args := [d1, d2] }
  | _ => none }
def receiveOrderRow : OpenClaim := { program := "ytgnhijkjlebcmaagreat", sum := "514415b353406dcfac92bcc6fd8bbe3c5df933f2832016ab703b74fca7b5cd8e", func := "shardqueue/shardqueuelaw19.ReceiveOrder", spec := "receiveOrder", inPlace := ["slices.overlaps[shardqueue/api.Span]", "slices.overlaps[shardqueue/api.Lease]"], unfollowed := true, recurses := true, apart := false }
def ReceiveOrderSaid : Prop := receiveOrderRow.holds Tryz.pinned (OpenSpec.ofChange receiveOrderSpec)

/-- ITS FALSE NEIGHBOUR: 'it returns false'. Refute it at one input. -/
def receiveOrderWrong : ChangeSpec := { name := "receiveOrder", fn := fun _ => fun
  | [d1, d2] => { results := [.lit (.bool false)], args := [d1, d2] }
  | _ => none }
def ReceiveOrderWrongFalsely : Prop := receiveOrderRow.holds Tryz.pinned (OpenSpec.ofChange receiveOrderWrong)

/- THE SECOND FORM. 'bulk': how many values and letters a reading holds, each counted each time it is reached (what is shared counts as often as it is met; a slice's spare places count too). A statement '..UptoSaid' is the law's where the arguments, and the package variables that the reading takes, are together of bulk at most 1048576: NARROWER than '..Said'. Prove '..Said' where nothing that the law and all that it calls make is longer than what came in: it says more and counts as full. Else prove '..UptoSaid'. A law counts once. -/
mutual
def uptoBulk {H : Type} : DataW H → Nat
  | .lit (.string bytes) => bytes.length + 1
  | .lit _ => 1
  | .nil => 1
  | .ptr d => uptoBulk d + 1
  | .slice elems spare => uptoBulkAll elems + uptoBulkAll spare + 1
  | .agg parts => uptoBulkAll parts + 1
  | .iface _ d => uptoBulk d + 1
  | .map entries => uptoBulkEntries entries + 1
  | .held _ => 1
def uptoBulkAll {H : Type} : List (DataW H) → Nat
  | [] => 0
  | d :: r => uptoBulk d + uptoBulkAll r
def uptoBulkEntries {H : Type} : List (Lit × DataW H) → Nat
  | [] => 0
  | x :: r => uptoBulkEntry x + uptoBulkEntries r
def uptoBulkEntry {H : Type} : Lit × DataW H → Nat
  | (.string bytes, d) => bytes.length + uptoBulk d + 1
  | (_, d) => uptoBulk d + 1
 end
def uptoSmall : (H : Type) → List (DataW H) → Bool := fun _ ds => decide (uptoBulkAll ds ≤ 1048576)
def OpenSpec.upto (s : _root_.Go.ChangeSpec) : _root_.Go.OpenSpec := { _root_.Go.OpenSpec.ofChange s with cond := some uptoSmall }

/-- 'shardqueuelaw25.SplitLeases', WHERE WHAT IT READS IS OF BULK AT MOST 1048576: true; the input reads as it did. -/
def splitLeasesUptoRow : OpenClaim := { program := "ytgnhijkjlebcmaagreat", sum := "514415b353406dcfac92bcc6fd8bbe3c5df933f2832016ab703b74fca7b5cd8e", func := "shardqueue/shardqueuelaw25.SplitLeases", spec := "splitLeases", inPlace := ["slices.overlaps[shardqueue/api.Span]", "slices.overlaps[shardqueue/api.Lease]"], unfollowed := true, recurses := true, apart := false, narrowed := true }
def SplitLeasesUptoSaid : Prop := splitLeasesUptoRow.holds Tryz.pinned (OpenSpec.upto splitLeasesSpec)

/-- 'shardqueuelaw26.MergeLeases', WHERE WHAT IT READS IS OF BULK AT MOST 1048576: true; the input reads as it did. -/
def mergeLeasesUptoRow : OpenClaim := { program := "ytgnhijkjlebcmaagreat", sum := "514415b353406dcfac92bcc6fd8bbe3c5df933f2832016ab703b74fca7b5cd8e", func := "shardqueue/shardqueuelaw26.MergeLeases", spec := "mergeLeases", inPlace := ["slices.overlaps[shardqueue/api.Span]", "slices.overlaps[shardqueue/api.Lease]"], unfollowed := true, recurses := true, apart := false, narrowed := true }
def MergeLeasesUptoSaid : Prop := mergeLeasesUptoRow.holds Tryz.pinned (OpenSpec.upto mergeLeasesSpec)

/-- 'shardqueuelaw20.SettleHints', WHERE WHAT IT READS IS OF BULK AT MOST 1048576: true; the input reads as it did. -/
def settleHintsUptoRow : OpenClaim := { program := "ytgnhijkjlebcmaagreat", sum := "514415b353406dcfac92bcc6fd8bbe3c5df933f2832016ab703b74fca7b5cd8e", func := "shardqueue/shardqueuelaw20.SettleHints", spec := "settleHints", inPlace := ["slices.overlaps[shardqueue/api.Span]"], unfollowed := true, recurses := true, apart := false, narrowed := true }
def SettleHintsUptoSaid : Prop := settleHintsUptoRow.holds Tryz.pinned (OpenSpec.upto settleHintsSpec)

/-- 'shardqueuelaw19.ReceiveOrder', WHERE WHAT IT READS IS OF BULK AT MOST 1048576: true; the input reads as it did. -/
def receiveOrderUptoRow : OpenClaim := { program := "ytgnhijkjlebcmaagreat", sum := "514415b353406dcfac92bcc6fd8bbe3c5df933f2832016ab703b74fca7b5cd8e", func := "shardqueue/shardqueuelaw19.ReceiveOrder", spec := "receiveOrder", inPlace := ["slices.overlaps[shardqueue/api.Span]", "slices.overlaps[shardqueue/api.Lease]"], unfollowed := true, recurses := true, apart := false, narrowed := true }
def ReceiveOrderUptoSaid : Prop := receiveOrderUptoRow.holds Tryz.pinned (OpenSpec.upto receiveOrderSpec)

end Rows
end Go.Proofs.YtgnhijkjlebcmaaGreat
