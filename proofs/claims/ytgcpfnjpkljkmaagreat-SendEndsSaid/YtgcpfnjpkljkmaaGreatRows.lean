/-
  No cell of these rows narrows 'for every input' (looked for: loops, veiled, ifaces, maps, wideKeys, modest, calm, conditions, laid).
  DERIVED. THE GIVEN ROWS OF THIS SEAT. 5 by the template 'for every input the law returns true; each argument reads behind the call as it read before'; 0 by the template 'total and deterministic' (their statements: YtgcpfnjpkljkmaaGreatTotals.lean).
  GIVEN WITH THE SEED: the statements are not yours to turn. If you find one false, say at which input.
  Laid BY PROGRAM, IN A SANDBOX (cutbox-rows.mjs): the forced cells as the released guide's own fill.sh prints them over the translation c1046f5e2ef36169… (all of the seat's roots in one cut). By AI agents, Wed Nov 11 2026. No macro, syntax, notation, axiom, sorry.
-/
import Derived.Test.YtgcpfnjpkljkmaaGreatChecked
import GoSem.Claim
import GoSem.ClaimJoined
import GoSem.ClaimMapViews
import Derived.JoinedTies
import Derived.KernelRfl
namespace Go.Proofs.YtgcpfnjpkljkmaaGreat
/- THE CELL 'sum', in the pinned program and in every row, IS THE sha256 OF THE DUMP (.gsa) THAT YtgcpfnjpkljkmaaGreatProg.lean LOADS. Nothing in Lean hashes anything: it is a label: what it is worth is what the hold of that sum in a sandbox is worth. -/
noncomputable def Tryz.pinned : Pinned := { name := "ytgcpfnjpkljkmaagreat", sum := "c1046f5e2ef36169d7f124b9708907843ca5a377e9093248fe07a3b0004f86c0", checked := Tryz.checked }
namespace Rows
def none {H : Type} : Left H := { results := [], args := [] }

/-- 'shardqueuelaw18.SendFull': WHATEVER THE INPUT: true; the input reads as it did. -/
def sendFullSpec : ChangeSpec := { name := "sendFull", fn := fun _ => fun
  | [d1, d2, d3] => { results := [.lit (.bool true)], args := [d1, d2, d3] }
  | _ => none }
def sendFullRow : OpenClaim := { program := "ytgcpfnjpkljkmaagreat", sum := "c1046f5e2ef36169d7f124b9708907843ca5a377e9093248fe07a3b0004f86c0", func := "shardqueue/shardqueuelaw18.SendFull", spec := "sendFull", inPlace := ["sync/atomic.StoreInt64", "sync/atomic.CompareAndSwapInt64", "sync/atomic.LoadInt64", "slices.overlaps[shardqueue/api.Span]"], unfollowed := true, recurses := true, apart := false }
def SendFullSaid : Prop := sendFullRow.holds Tryz.pinned (OpenSpec.ofChange sendFullSpec)

/-- ITS FALSE NEIGHBOUR: 'it returns false'. Refute it at one input. -/
def sendFullWrong : ChangeSpec := { name := "sendFull", fn := fun _ => fun
  | [d1, d2, d3] => { results := [.lit (.bool false)], args := [d1, d2, d3] }
  | _ => none }
def SendFullWrongFalsely : Prop := sendFullRow.holds Tryz.pinned (OpenSpec.ofChange sendFullWrong)

/-- 'shardqueuelaw18.SendEnds': WHATEVER THE INPUT: true; the input reads as it did. -/
def sendEndsSpec : ChangeSpec := { name := "sendEnds", fn := fun _ => fun
  | [d1, d2] => { results := [.lit (.bool true)], args := [d1, d2] }
  | _ => none }
def sendEndsRow : OpenClaim := { program := "ytgcpfnjpkljkmaagreat", sum := "c1046f5e2ef36169d7f124b9708907843ca5a377e9093248fe07a3b0004f86c0", func := "shardqueue/shardqueuelaw18.SendEnds", spec := "sendEnds", inPlace := ["sync/atomic.StoreInt64", "sync/atomic.CompareAndSwapInt64", "sync/atomic.LoadInt64", "slices.overlaps[shardqueue/api.Span]"], unfollowed := true, recurses := true, apart := false }
def SendEndsSaid : Prop := sendEndsRow.holds Tryz.pinned (OpenSpec.ofChange sendEndsSpec)

/-- ITS FALSE NEIGHBOUR: 'it returns false'. Refute it at one input. -/
def sendEndsWrong : ChangeSpec := { name := "sendEnds", fn := fun _ => fun
  | [d1, d2] => { results := [.lit (.bool false)], args := [d1, d2] }
  | _ => none }
def SendEndsWrongFalsely : Prop := sendEndsRow.holds Tryz.pinned (OpenSpec.ofChange sendEndsWrong)

/-- 'shardqueuelaw20.SettleLimit': WHATEVER THE INPUT: true; the input reads as it did. -/
def settleLimitSpec : ChangeSpec := { name := "settleLimit", fn := fun _ => fun
  | [d] => { results := [.lit (.bool true)], args := [d] }
  | _ => none }
def settleLimitRow : OpenClaim := { program := "ytgcpfnjpkljkmaagreat", sum := "c1046f5e2ef36169d7f124b9708907843ca5a377e9093248fe07a3b0004f86c0", func := "shardqueue/shardqueuelaw20.SettleLimit", spec := "settleLimit", inPlace := ["slices.overlaps[shardqueue/api.Span]"], unfollowed := true, recurses := true, apart := false }
def SettleLimitSaid : Prop := settleLimitRow.holds Tryz.pinned (OpenSpec.ofChange settleLimitSpec)

/-- ITS FALSE NEIGHBOUR: 'it returns false'. Refute it at one input. -/
def settleLimitWrong : ChangeSpec := { name := "settleLimit", fn := fun _ => fun
  | [d] => { results := [.lit (.bool false)], args := [d] }
  | _ => none }
def SettleLimitWrongFalsely : Prop := settleLimitRow.holds Tryz.pinned (OpenSpec.ofChange settleLimitWrong)

/-- 'shardqueuelaw26.MergeMoves': WHATEVER THE INPUT: true; the input reads as it did. -/
def mergeMovesSpec : ChangeSpec := { name := "mergeMoves", fn := fun _ => fun
  | [d] => { results := [.lit (.bool true)], args := [d] }
  | _ => none }
def mergeMovesRow : OpenClaim := { program := "ytgcpfnjpkljkmaagreat", sum := "c1046f5e2ef36169d7f124b9708907843ca5a377e9093248fe07a3b0004f86c0", func := "shardqueue/shardqueuelaw26.MergeMoves", spec := "mergeMoves", inPlace := ["slices.overlaps[shardqueue/api.Span]", "slices.overlaps[shardqueue/api.Lease]"], unfollowed := true, recurses := true, apart := false }
def MergeMovesSaid : Prop := mergeMovesRow.holds Tryz.pinned (OpenSpec.ofChange mergeMovesSpec)

/-- ITS FALSE NEIGHBOUR: 'it returns false'. Refute it at one input. -/
def mergeMovesWrong : ChangeSpec := { name := "mergeMoves", fn := fun _ => fun
  | [d] => { results := [.lit (.bool false)], args := [d] }
  | _ => none }
def MergeMovesWrongFalsely : Prop := mergeMovesRow.holds Tryz.pinned (OpenSpec.ofChange mergeMovesWrong)

/-- 'shardqueuelaw26.MergeLeases': WHATEVER THE INPUT: true; the input reads as it did. -/
def mergeLeasesSpec : ChangeSpec := { name := "mergeLeases", fn := fun _ => fun
  | [d] => { results := [.lit (.bool true)], args := [d] }
  | _ => none }
def mergeLeasesRow : OpenClaim := { program := "ytgcpfnjpkljkmaagreat", sum := "c1046f5e2ef36169d7f124b9708907843ca5a377e9093248fe07a3b0004f86c0", func := "shardqueue/shardqueuelaw26.MergeLeases", spec := "mergeLeases", inPlace := ["slices.overlaps[shardqueue/api.Span]", "slices.overlaps[shardqueue/api.Lease]"], unfollowed := true, recurses := true, apart := false }
def MergeLeasesSaid : Prop := mergeLeasesRow.holds Tryz.pinned (OpenSpec.ofChange mergeLeasesSpec)

/-- ITS FALSE NEIGHBOUR: 'it returns false'. Refute it at one input. -/
def mergeLeasesWrong : ChangeSpec := { name := "mergeLeases", fn := fun _ => fun
  | [d] => { results := [.lit (.bool false)], args := [d] }
  | _ => none }
def MergeLeasesWrongFalsely : Prop := mergeLeasesRow.holds Tryz.pinned (OpenSpec.ofChange mergeLeasesWrong)

/- THE SECOND FORM. 'bulk': how many values and letters a reading holds, each counted each time it is reached (what is shared counts as often as it is met; a slice's spare places count too). A statement '..UptoSaid' is the law's where the arguments, and the package variables that the reading takes, are together of bulk at most 1048576: NARROWER than '..Said'. Prove '..Said' where nothing that the law and all that it calls make is longer than what came in: it says more and counts as full. Else prove '..UptoSaid'. A law counts once. -/
mutual
def uptoBulk {H : Type} : DataW H → Nat
  | .lit (.string bytes) => bytes.length + 1
  | .lit _ => 1
  | .nil => 1
  | .ptr d => uptoBulk d + 1
  | .slice elems spare => uptoBulkAll elems + uptoBulkAll spare + 1
  | .agg parts => uptoBulkAll parts + 1
  | .iface _ d => uptoBulk d + 1
  | .map entries => uptoBulkEntries entries + 1
  | .held _ => 1
def uptoBulkAll {H : Type} : List (DataW H) → Nat
  | [] => 0
  | d :: r => uptoBulk d + uptoBulkAll r
def uptoBulkEntries {H : Type} : List (Lit × DataW H) → Nat
  | [] => 0
  | x :: r => uptoBulkEntry x + uptoBulkEntries r
def uptoBulkEntry {H : Type} : Lit × DataW H → Nat
  | (.string bytes, d) => bytes.length + uptoBulk d + 1
  | (_, d) => uptoBulk d + 1
 end
def uptoSmall : (H : Type) → List (DataW H) → Bool := fun _ ds => decide (uptoBulkAll ds ≤ 1048576)
def OpenSpec.upto (s : _root_.Go.ChangeSpec) : _root_.Go.OpenSpec := { _root_.Go.OpenSpec.ofChange s with cond := some uptoSmall }

/-- 'shardqueuelaw18.SendFull', WHERE WHAT IT READS IS OF BULK AT MOST 1048576: true; the input reads as it did. -/
def sendFullUptoRow : OpenClaim := { program := "ytgcpfnjpkljkmaagreat", sum := "c1046f5e2ef36169d7f124b9708907843ca5a377e9093248fe07a3b0004f86c0", func := "shardqueue/shardqueuelaw18.SendFull", spec := "sendFull", inPlace := ["sync/atomic.StoreInt64", "sync/atomic.CompareAndSwapInt64", "sync/atomic.LoadInt64", "slices.overlaps[shardqueue/api.Span]"], unfollowed := true, recurses := true, apart := false, narrowed := true }
def SendFullUptoSaid : Prop := sendFullUptoRow.holds Tryz.pinned (OpenSpec.upto sendFullSpec)

/-- 'shardqueuelaw18.SendEnds', WHERE WHAT IT READS IS OF BULK AT MOST 1048576: true; the input reads as it did. -/
def sendEndsUptoRow : OpenClaim := { program := "ytgcpfnjpkljkmaagreat", sum := "c1046f5e2ef36169d7f124b9708907843ca5a377e9093248fe07a3b0004f86c0", func := "shardqueue/shardqueuelaw18.SendEnds", spec := "sendEnds", inPlace := ["sync/atomic.StoreInt64", "sync/atomic.CompareAndSwapInt64", "sync/atomic.LoadInt64", "slices.overlaps[shardqueue/api.Span]"], unfollowed := true, recurses := true, apart := false, narrowed := true }
def SendEndsUptoSaid : Prop := sendEndsUptoRow.holds Tryz.pinned (OpenSpec.upto sendEndsSpec)

/-- 'shardqueuelaw20.SettleLimit', WHERE WHAT IT READS IS OF BULK AT MOST 1048576: true; the input reads as it did. -/
def settleLimitUptoRow : OpenClaim := { program := "ytgcpfnjpkljkmaagreat", sum := "c1046f5e2ef36169d7f124b9708907843ca5a377e9093248fe07a3b0004f86c0", func := "shardqueue/shardqueuelaw20.SettleLimit", spec := "settleLimit", inPlace := ["slices.overlaps[shardqueue/api.Span]"], unfollowed := true, recurses := true, apart := false, narrowed := true }
def SettleLimitUptoSaid : Prop := settleLimitUptoRow.holds Tryz.pinned (OpenSpec.upto settleLimitSpec)

/-- 'shardqueuelaw26.MergeMoves', WHERE WHAT IT READS IS OF BULK AT MOST 1048576: true; the input reads as it did. -/
def mergeMovesUptoRow : OpenClaim := { program := "ytgcpfnjpkljkmaagreat", sum := "c1046f5e2ef36169d7f124b9708907843ca5a377e9093248fe07a3b0004f86c0", func := "shardqueue/shardqueuelaw26.MergeMoves", spec := "mergeMoves", inPlace := ["slices.overlaps[shardqueue/api.Span]", "slices.overlaps[shardqueue/api.Lease]"], unfollowed := true, recurses := true, apart := false, narrowed := true }
def MergeMovesUptoSaid : Prop := mergeMovesUptoRow.holds Tryz.pinned (OpenSpec.upto mergeMovesSpec)

/-- 'shardqueuelaw26.MergeLeases', WHERE WHAT IT READS IS OF BULK AT MOST 1048576: true; the input reads as it did. -/
def mergeLeasesUptoRow : OpenClaim := { program := "ytgcpfnjpkljkmaagreat", sum := "c1046f5e2ef36169d7f124b9708907843ca5a377e9093248fe07a3b0004f86c0", func := "shardqueue/shardqueuelaw26.MergeLeases", spec := "mergeLeases", inPlace := ["slices.overlaps[shardqueue/api.Span]", "slices.overlaps[shardqueue/api.Lease]"], unfollowed := true, recurses := true, apart := false, narrowed := true }
def MergeLeasesUptoSaid : Prop := mergeLeasesUptoRow.holds Tryz.pinned (OpenSpec.upto mergeLeasesSpec)

end Rows
end Go.Proofs.YtgcpfnjpkljkmaaGreat
