/-
  No cell of these rows narrows 'for every input' (looked for: loops, veiled, ifaces, maps, wideKeys, modest, calm, conditions, laid).
  DERIVED. THE GIVEN ROWS OF THIS SEAT. 4 by the template 'for every input the law returns true; each argument reads behind the call as it read before'; 0 by the template 'total and deterministic' (their statements: YthcgieflnpkgnaaGreatTotals.lean).
  GIVEN WITH THE SEED: the statements are not yours to turn. If you find one false, say at which input.
  Laid BY PROGRAM, IN A SANDBOX (cutbox-rows.mjs): the forced cells as the released guide's own fill.sh prints them over the translation b97c711d225909b4… (all of the seat's roots in one cut). By AI agents, Wed Nov 11 2026. No macro, syntax, notation, axiom, sorry.
-/
import Derived.Test.YthcgieflnpkgnaaGreatChecked
import GoSem.Claim
import GoSem.ClaimJoined
import GoSem.ClaimMapViews
import Derived.JoinedTies
import Derived.KernelRfl
namespace Go.Proofs.YthcgieflnpkgnaaGreat
/- THE CELL 'sum', in the pinned program and in every row, IS THE sha256 OF THE DUMP (.gsa) THAT YthcgieflnpkgnaaGreatProg.lean LOADS. Nothing in Lean hashes anything: it is a label: what it is worth is what the hold of that sum in a sandbox is worth. -/
noncomputable def Tryz.pinned : Pinned := { name := "ythcgieflnpkgnaagreat", sum := "b97c711d225909b4aab7c8f08c0120ea4b3b96a27c3253843fe9d4134cf5dfeb", checked := Tryz.checked }
namespace Rows
def none {H : Type} : Left H := { results := [], args := [] }

/-- 'shardqueuelaw18.SendPlaces': WHATEVER THE INPUT: true; the input reads as it did. -/
def sendPlacesSpec : ChangeSpec := { name := "sendPlaces", fn := fun _ => fun
  | [d1, d2, d3] => { results := [.lit (.bool true)], args := [d1, d2, d3] }
  | _ => none }
def sendPlacesRow : OpenClaim := { program := "ythcgieflnpkgnaagreat", sum := "b97c711d225909b4aab7c8f08c0120ea4b3b96a27c3253843fe9d4134cf5dfeb", func := "shardqueue/shardqueuelaw18.SendPlaces", spec := "sendPlaces", inPlace := ["sync/atomic.StoreInt64", "sync/atomic.CompareAndSwapInt64", "sync/atomic.LoadInt64", "slices.overlaps[shardqueue/api.Span]"], unfollowed := true, recurses := true, apart := false }
def SendPlacesSaid : Prop := sendPlacesRow.holds Tryz.pinned (OpenSpec.ofChange sendPlacesSpec)

/-- ITS FALSE NEIGHBOUR: 'it returns false'. Refute it at one input. -/
def sendPlacesWrong : ChangeSpec := { name := "sendPlaces", fn := fun _ => fun
  | [d1, d2, d3] => { results := [.lit (.bool false)], args := [d1, d2, d3] }
  | _ => none }
def SendPlacesWrongFalsely : Prop := sendPlacesRow.holds Tryz.pinned (OpenSpec.ofChange sendPlacesWrong)

/-- 'shardqueuelaw20.SettleBatch': WHATEVER THE INPUT: true; the input reads as it did. -/
def settleBatchSpec : ChangeSpec := { name := "settleBatch", fn := fun _ => fun
  | [d1, d2] => { results := [.lit (.bool true)], args := [d1, d2] }
  | _ => none }
def settleBatchRow : OpenClaim := { program := "ythcgieflnpkgnaagreat", sum := "b97c711d225909b4aab7c8f08c0120ea4b3b96a27c3253843fe9d4134cf5dfeb", func := "shardqueue/shardqueuelaw20.SettleBatch", spec := "settleBatch", inPlace := ["slices.overlaps[shardqueue/api.Span]"], unfollowed := true, recurses := true, apart := false }
def SettleBatchSaid : Prop := settleBatchRow.holds Tryz.pinned (OpenSpec.ofChange settleBatchSpec)

/-- ITS FALSE NEIGHBOUR: 'it returns false'. Refute it at one input. -/
def settleBatchWrong : ChangeSpec := { name := "settleBatch", fn := fun _ => fun
  | [d1, d2] => { results := [.lit (.bool false)], args := [d1, d2] }
  | _ => none }
def SettleBatchWrongFalsely : Prop := settleBatchRow.holds Tryz.pinned (OpenSpec.ofChange settleBatchWrong)

/-- 'shardqueuelaw19.ReceiveEnds': WHATEVER THE INPUT: true; the input reads as it did. -/
def receiveEndsSpec : ChangeSpec := { name := "receiveEnds", fn := fun _ => fun
  | [d1, d2] => { results := [.lit (.bool true)], args := [d1, d2] }
  | _ => none }
def receiveEndsRow : OpenClaim := { program := "ythcgieflnpkgnaagreat", sum := "b97c711d225909b4aab7c8f08c0120ea4b3b96a27c3253843fe9d4134cf5dfeb", func := "shardqueue/shardqueuelaw19.ReceiveEnds", spec := "receiveEnds", inPlace := ["slices.overlaps[shardqueue/api.Span]", "slices.overlaps[shardqueue/api.Lease]"], unfollowed := true, recurses := true, apart := false }
def ReceiveEndsSaid : Prop := receiveEndsRow.holds Tryz.pinned (OpenSpec.ofChange receiveEndsSpec)

/-- ITS FALSE NEIGHBOUR: 'it returns false'. Refute it at one input. -/
def receiveEndsWrong : ChangeSpec := { name := "receiveEnds", fn := fun _ => fun
  | [d1, d2] => { results := [.lit (.bool false)], args := [d1, d2] }
  | _ => none }
def ReceiveEndsWrongFalsely : Prop := receiveEndsRow.holds Tryz.pinned (OpenSpec.ofChange receiveEndsWrong)

/-- 'shardqueuelaw30.MachineFull': WHATEVER THE INPUT: true; the input reads as it did. -/
def machineFullSpec : ChangeSpec := { name := "machineFull", fn := fun _ => fun
  | [d] => { results := [.lit (.bool true)], args := [d] }
  | _ => none }
def machineFullRow : OpenClaim := { program := "ythcgieflnpkgnaagreat", sum := "b97c711d225909b4aab7c8f08c0120ea4b3b96a27c3253843fe9d4134cf5dfeb", func := "shardqueue/shardqueuelaw30.MachineFull", spec := "machineFull", inPlace := ["sync/atomic.StoreInt64", "sync/atomic.CompareAndSwapInt64", "sync/atomic.LoadInt64", "slices.overlaps[shardqueue/api.Span]", "slices.overlaps[shardqueue/api.Lease]"], unfollowed := true, recurses := true, apart := false }
def MachineFullSaid : Prop := machineFullRow.holds Tryz.pinned (OpenSpec.ofChange machineFullSpec)

/-- ITS FALSE NEIGHBOUR: 'it returns false'. Refute it at one input. -/
def machineFullWrong : ChangeSpec := { name := "machineFull", fn := fun _ => fun
  | [d] => { results := [.lit (.bool false)], args := [d] }
  | _ => none }
def MachineFullWrongFalsely : Prop := machineFullRow.holds Tryz.pinned (OpenSpec.ofChange machineFullWrong)

/- THE SECOND FORM. 'bulk': how many values and letters a reading holds, each counted each time it is reached (what is shared counts as often as it is met; a slice's spare places count too). A statement '..UptoSaid' is the law's where the arguments, and the package variables that the reading takes, are together of bulk at most 1048576: NARROWER than '..Said'. Prove '..Said' where nothing that the law and all that it calls make is longer than what came in: it says more and counts as full. Else prove '..UptoSaid'. A law counts once. -/
mutual
def uptoBulk {H : Type} : DataW H → Nat
  | .lit (.string bytes) => bytes.length + 1
  | .lit _ => 1
  | .nil => 1
  | .ptr d => uptoBulk d + 1
  | .slice elems spare => uptoBulkAll elems + uptoBulkAll spare + 1
  | .agg parts => uptoBulkAll parts + 1
  | .iface _ d => uptoBulk d + 1
  | .map entries => uptoBulkEntries entries + 1
  | .held _ => 1
def uptoBulkAll {H : Type} : List (DataW H) → Nat
  | [] => 0
  | d :: r => uptoBulk d + uptoBulkAll r
def uptoBulkEntries {H : Type} : List (Lit × DataW H) → Nat
  | [] => 0
  | x :: r => uptoBulkEntry x + uptoBulkEntries r
def uptoBulkEntry {H : Type} : Lit × DataW H → Nat
  | (.string bytes, d) => bytes.length + uptoBulk d + 1
  | (_, d) => uptoBulk d + 1
 end
def uptoSmall : (H : Type) → List (DataW H) → Bool := fun _ ds => decide (uptoBulkAll ds ≤ 1048576)
def OpenSpec.upto (s : _root_.Go.ChangeSpec) : _root_.Go.OpenSpec := { _root_.Go.OpenSpec.ofChange s with cond := some uptoSmall }

/-- 'shardqueuelaw18.SendPlaces', WHERE WHAT IT READS IS OF BULK AT MOST 1048576: true; the input reads as it did. -/
def sendPlacesUptoRow : OpenClaim := { program := "ythcgieflnpkgnaagreat", sum := "b97c711d225909b4aab7c8f08c0120ea4b3b96a27c3253843fe9d4134cf5dfeb", func := "shardqueue/shardqueuelaw18.SendPlaces", spec := "sendPlaces", inPlace := ["sync/atomic.StoreInt64", "sync/atomic.CompareAndSwapInt64", "sync/atomic.LoadInt64", "slices.overlaps[shardqueue/api.Span]"], unfollowed := true, recurses := true, apart := false, narrowed := true }
def SendPlacesUptoSaid : Prop := sendPlacesUptoRow.holds Tryz.pinned (OpenSpec.upto sendPlacesSpec)

/-- 'shardqueuelaw20.SettleBatch', WHERE WHAT IT READS IS OF BULK AT MOST 1048576: true; the input reads as it did. -/
def settleBatchUptoRow : OpenClaim := { program := "ythcgieflnpkgnaagreat", sum := "b97c711d225909b4aab7c8f08c0120ea4b3b96a27c3253843fe9d4134cf5dfeb", func := "shardqueue/shardqueuelaw20.SettleBatch", spec := "settleBatch", inPlace := ["slices.overlaps[shardqueue/api.Span]"], unfollowed := true, recurses := true, apart := false, narrowed := true }
def SettleBatchUptoSaid : Prop := settleBatchUptoRow.holds Tryz.pinned (OpenSpec.upto settleBatchSpec)

/-- 'shardqueuelaw19.ReceiveEnds', WHERE WHAT IT READS IS OF BULK AT MOST 1048576: true; the input reads as it did. -/
def receiveEndsUptoRow : OpenClaim := { program := "ythcgieflnpkgnaagreat", sum := "b97c711d225909b4aab7c8f08c0120ea4b3b96a27c3253843fe9d4134cf5dfeb", func := "shardqueue/shardqueuelaw19.ReceiveEnds", spec := "receiveEnds", inPlace := ["slices.overlaps[shardqueue/api.Span]", "slices.overlaps[shardqueue/api.Lease]"], unfollowed := true, recurses := true, apart := false, narrowed := true }
def ReceiveEndsUptoSaid : Prop := receiveEndsUptoRow.holds Tryz.pinned (OpenSpec.upto receiveEndsSpec)

/-- 'shardqueuelaw30.MachineFull', WHERE WHAT IT READS IS OF BULK AT MOST 1048576: true; the input reads as it did. -/
def machineFullUptoRow : OpenClaim := { program := "ythcgieflnpkgnaagreat", sum := "b97c711d225909b4aab7c8f08c0120ea4b3b96a27c3253843fe9d4134cf5dfeb", func := "shardqueue/shardqueuelaw30.MachineFull", spec := "machineFull", inPlace := ["sync/atomic.StoreInt64", "sync/atomic.CompareAndSwapInt64", "sync/atomic.LoadInt64", "slices.overlaps[shardqueue/api.Span]", "slices.overlaps[shardqueue/api.Lease]"], unfollowed := true, recurses := true, apart := false, narrowed := true }
def MachineFullUptoSaid : Prop := machineFullUptoRow.holds Tryz.pinned (OpenSpec.upto machineFullSpec)

end Rows
end Go.Proofs.YthcgieflnpkgnaaGreat
