/-
  No cell of these rows narrows 'for every input' (looked for: loops, veiled, ifaces, maps, wideKeys, modest, calm, conditions, laid).
  DERIVED. THE GIVEN ROWS OF THIS SEAT. 4 by the template 'for every input the law returns true; each argument reads behind the call as it read before'; 0 by the template 'total and deterministic' (their statements: YtfcecgfjjamlcaaGreatTotals.lean).
  GIVEN WITH THE SEED: the statements are not yours to turn. If you find one false, say at which input.
  Laid BY PROGRAM, IN A SANDBOX (cutbox-rows.mjs): the forced cells as the released guide's own fill.sh prints them over the translation 06adaf00374a947c… (all of the seat's roots in one cut). By AI agents, Wed Nov 11 2026. No macro, syntax, notation, axiom, sorry.
-/
import Derived.Test.YtfcecgfjjamlcaaGreatChecked
import GoSem.Claim
import GoSem.ClaimJoined
import GoSem.ClaimMapViews
import Derived.JoinedTies
import Derived.KernelRfl
namespace Go.Proofs.YtfcecgfjjamlcaaGreat
/- THE CELL 'sum', in the pinned program and in every row, IS THE sha256 OF THE DUMP (.gsa) THAT YtfcecgfjjamlcaaGreatProg.lean LOADS. Nothing in Lean hashes anything: it is a label: what it is worth is what the hold of that sum in a sandbox is worth. -/
noncomputable def Tryz.pinned : Pinned := { name := "ytfcecgfjjamlcaagreat", sum := "06adaf00374a947cc82d375e5a1eff220280fcc3ea6115bfe9eb0369a3aa0919", checked := Tryz.checked }
namespace Rows
def none {H : Type} : Left H := { results := [], args := [] }

/-- 'shardqueuelaw20.SettleLimit': WHATEVER THE INPUT: true; the input reads as it did. -/
def settleLimitSpec : ChangeSpec := { name := "settleLimit", fn := fun _ => fun
  | [d] => { results := [.lit (.bool true)], args := [d] }
  | _ => none }
def settleLimitRow : OpenClaim := { program := "ytfcecgfjjamlcaagreat", sum := "06adaf00374a947cc82d375e5a1eff220280fcc3ea6115bfe9eb0369a3aa0919", func := "shardqueue/shardqueuelaw20.SettleLimit", spec := "settleLimit", inPlace := ["slices.overlaps[shardqueue/api.Span]"], unfollowed := true, recurses := true, apart := false }
def SettleLimitSaid : Prop := settleLimitRow.holds Tryz.pinned (OpenSpec.ofChange settleLimitSpec)

/-- ITS FALSE NEIGHBOUR: 'it returns false'. Refute it at one input. -/
def settleLimitWrong : ChangeSpec := { name := "settleLimit", fn := fun _ => fun
  | [d] => { results := [.lit (.bool false)], args := [d] }
  | _ => none }
def SettleLimitWrongFalsely : Prop := settleLimitRow.holds Tryz.pinned (OpenSpec.ofChange settleLimitWrong)

/-- 'shardqueuelaw30.MachineLimits': WHATEVER THE INPUT: true; the input reads as it did. -/
def machineLimitsSpec : ChangeSpec := { name := "machineLimits", fn := fun _ => fun
  | [d] => { results := [.lit (.bool true)], args := [d] }
  | _ => none }
def machineLimitsRow : OpenClaim := { program := "ytfcecgfjjamlcaagreat", sum := "06adaf00374a947cc82d375e5a1eff220280fcc3ea6115bfe9eb0369a3aa0919", func := "shardqueue/shardqueuelaw30.MachineLimits", spec := "machineLimits", inPlace := ["sync/atomic.StoreInt64", "sync/atomic.CompareAndSwapInt64", "sync/atomic.LoadInt64", "slices.overlaps[shardqueue/api.Span]", "slices.overlaps[shardqueue/api.Lease]"], unfollowed := true, recurses := true, apart := false }
def MachineLimitsSaid : Prop := machineLimitsRow.holds Tryz.pinned (OpenSpec.ofChange machineLimitsSpec)

/-- ITS FALSE NEIGHBOUR: 'it returns false'. Refute it at one input. -/
def machineLimitsWrong : ChangeSpec := { name := "machineLimits", fn := fun _ => fun
  | [d] => { results := [.lit (.bool false)], args := [d] }
  | _ => none }
def MachineLimitsWrongFalsely : Prop := machineLimitsRow.holds Tryz.pinned (OpenSpec.ofChange machineLimitsWrong)

/-- 'shardqueuelaw30.MachineFull': WHATEVER THE INPUT: true; the input reads as it did. -/
def machineFullSpec : ChangeSpec := { name := "machineFull", fn := fun _ => fun
  | [d] => { results := [.lit (.bool true)], args := [d] }
  | _ => none }
def machineFullRow : OpenClaim := { program := "ytfcecgfjjamlcaagreat", sum := "06adaf00374a947cc82d375e5a1eff220280fcc3ea6115bfe9eb0369a3aa0919", func := "shardqueue/shardqueuelaw30.MachineFull", spec := "machineFull", inPlace := ["sync/atomic.StoreInt64", "sync/atomic.CompareAndSwapInt64", "sync/atomic.LoadInt64", "slices.overlaps[shardqueue/api.Span]", "slices.overlaps[shardqueue/api.Lease]"], unfollowed := true, recurses := true, apart := false }
def MachineFullSaid : Prop := machineFullRow.holds Tryz.pinned (OpenSpec.ofChange machineFullSpec)

/-- ITS FALSE NEIGHBOUR: 'it returns false'. Refute it at one input. -/
def machineFullWrong : ChangeSpec := { name := "machineFull", fn := fun _ => fun
  | [d] => { results := [.lit (.bool false)], args := [d] }
  | _ => none }
def MachineFullWrongFalsely : Prop := machineFullRow.holds Tryz.pinned (OpenSpec.ofChange machineFullWrong)

/-- 'shardqueuelaw34.ScriptLimits': WHATEVER THE INPUT: true; the input reads as it did. -/
def scriptLimitsSpec : ChangeSpec := { name := "scriptLimits", fn := fun _ => fun
  | [d1, d2] => { results := [.lit (.bool true)], args := [d1, d2] }
  | _ => none }
def scriptLimitsRow : OpenClaim := { program := "ytfcecgfjjamlcaagreat", sum := "06adaf00374a947cc82d375e5a1eff220280fcc3ea6115bfe9eb0369a3aa0919", func := "shardqueue/shardqueuelaw34.ScriptLimits", spec := "scriptLimits", inPlace := ["sync/atomic.StoreInt64", "sync/atomic.CompareAndSwapInt64", "sync/atomic.LoadInt64", "slices.overlaps[shardqueue/api.Span]", "slices.overlaps[shardqueue/api.Lease]"], unfollowed := true, recurses := true, apart := false }
def ScriptLimitsSaid : Prop := scriptLimitsRow.holds Tryz.pinned (OpenSpec.ofChange scriptLimitsSpec)

/-- ITS FALSE NEIGHBOUR: 'it returns false'. Refute it at one input. -/
def scriptLimitsWrong : ChangeSpec := { name := "scriptLimits", fn := fun _ => fun
  | [d1, d2] => { results := [.lit (.bool false)], args := [d1, d2] }
  | _ => none }
def ScriptLimitsWrongFalsely : Prop := scriptLimitsRow.holds Tryz.pinned (OpenSpec.ofChange scriptLimitsWrong)

/- THE SECOND FORM. 'bulk': how many values and letters a reading holds, each counted each time it is reached (what is shared counts as often as it is met; a slice's spare places count too). A statement '..UptoSaid' is the law's where the arguments, and the package variables that the reading takes, are together of bulk at most 1048576: NARROWER than '..Said'. Prove '..Said' where nothing that the law and all that it calls make is longer than what came in: it says more and counts as full. Else prove '..UptoSaid'. A law counts once. -/
mutual
def uptoBulk {H : Type} : DataW H → Nat
  | .lit (.string bytes) => bytes.length + 1
  | .lit _ => 1
  | .nil => 1
  | .ptr d => uptoBulk d + 1
  | .slice elems spare => uptoBulkAll elems + uptoBulkAll spare + 1
  | .agg parts => uptoBulkAll parts + 1
  | .iface _ d => uptoBulk d + 1
  | .map entries => uptoBulkEntries entries + 1
  | .held _ => 1
def uptoBulkAll {H : Type} : List (DataW H) → Nat
  | [] => 0
  | d :: r => uptoBulk d + uptoBulkAll r
def uptoBulkEntries {H : Type} : List (Lit × DataW H) → Nat
  | [] => 0
  | x :: r => uptoBulkEntry x + uptoBulkEntries r
def uptoBulkEntry {H : Type} : Lit × DataW H → Nat
  | (.string bytes, d) => bytes.length + uptoBulk d + 1
  | (_, d) => uptoBulk d + 1
 end
def uptoSmall : (H : Type) → List (DataW H) → Bool := fun _ ds => decide (uptoBulkAll ds ≤ 1048576)
def OpenSpec.upto (s : _root_.Go.ChangeSpec) : _root_.Go.OpenSpec := { _root_.Go.OpenSpec.ofChange s with cond := some uptoSmall }

/-- 'shardqueuelaw20.SettleLimit', WHERE WHAT IT READS IS OF BULK AT MOST 1048576: true; the input reads as it did. -/
def settleLimitUptoRow : OpenClaim := { program := "ytfcecgfjjamlcaagreat", sum := "06adaf00374a947cc82d375e5a1eff220280fcc3ea6115bfe9eb0369a3aa0919", func := "shardqueue/shardqueuelaw20.SettleLimit", spec := "settleLimit", inPlace := ["slices.overlaps[shardqueue/api.Span]"], unfollowed := true, recurses := true, apart := false, narrowed := true }
def SettleLimitUptoSaid : Prop := settleLimitUptoRow.holds Tryz.pinned (OpenSpec.upto settleLimitSpec)

/-- 'shardqueuelaw30.MachineLimits', WHERE WHAT IT READS IS OF BULK AT MOST 1048576: true; the input reads as it did. -/
def machineLimitsUptoRow : OpenClaim := { program := "ytfcecgfjjamlcaagreat", sum := "06adaf00374a947cc82d375e5a1eff220280fcc3ea6115bfe9eb0369a3aa0919", func := "shardqueue/shardqueuelaw30.MachineLimits", spec := "machineLimits", inPlace := ["sync/atomic.StoreInt64", "sync/atomic.CompareAndSwapInt64", "sync/atomic.LoadInt64", "slices.overlaps[shardqueue/api.Span]", "slices.overlaps[shardqueue/api.Lease]"], unfollowed := true, recurses := true, apart := false, narrowed := true }
def MachineLimitsUptoSaid : Prop := machineLimitsUptoRow.holds Tryz.pinned (OpenSpec.upto machineLimitsSpec)

/-- 'shardqueuelaw30.MachineFull', WHERE WHAT IT READS IS OF BULK AT MOST 1048576: true; the input reads as it did. -/
def machineFullUptoRow : OpenClaim := { program := "ytfcecgfjjamlcaagreat", sum := "06adaf00374a947cc82d375e5a1eff220280fcc3ea6115bfe9eb0369a3aa0919", func := "shardqueue/shardqueuelaw30.MachineFull", spec := "machineFull", inPlace := ["sync/atomic.StoreInt64", "sync/atomic.CompareAndSwapInt64", "sync/atomic.LoadInt64", "slices.overlaps[shardqueue/api.Span]", "slices.overlaps[shardqueue/api.Lease]"], unfollowed := true, recurses := true, apart := false, narrowed := true }
def MachineFullUptoSaid : Prop := machineFullUptoRow.holds Tryz.pinned (OpenSpec.upto machineFullSpec)

/-- 'shardqueuelaw34.ScriptLimits', WHERE WHAT IT READS IS OF BULK AT MOST 1048576: true; the input reads as it did. -/
def scriptLimitsUptoRow : OpenClaim := { program := "ytfcecgfjjamlcaagreat", sum := "06adaf00374a947cc82d375e5a1eff220280fcc3ea6115bfe9eb0369a3aa0919", func := "shardqueue/shardqueuelaw34.ScriptLimits", spec := "scriptLimits", inPlace := ["sync/atomic.StoreInt64", "sync/atomic.CompareAndSwapInt64", "sync/atomic.LoadInt64", "slices.overlaps[shardqueue/api.Span]", "slices.overlaps[shardqueue/api.Lease]"], unfollowed := true, recurses := true, apart := false, narrowed := true }
def ScriptLimitsUptoSaid : Prop := scriptLimitsUptoRow.holds Tryz.pinned (OpenSpec.upto scriptLimitsSpec)

end Rows
end Go.Proofs.YtfcecgfjjamlcaaGreat
