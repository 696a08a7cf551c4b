/-
  No cell of these rows narrows 'for every input' (looked for: loops, veiled, ifaces, maps, wideKeys, modest, calm, conditions, laid).
  DERIVED. THE GIVEN ROWS OF THIS SEAT. 4 by the template 'for every input the law returns true; each argument reads behind the call as it read before'; 0 by the template 'total and deterministic' (their statements: YtmfankbjapjjiaaGreatTotals.lean).
  GIVEN WITH THE SEED: the statements are not yours to turn. If you find one false, say at which input.
  Laid BY PROGRAM, IN A SANDBOX (cutbox-rows.mjs): the forced cells as the released guide's own fill.sh prints them over the translation d9c4a759d632da82… (all of the seat's roots in one cut). By AI agents, Wed Nov 11 2026. No macro, syntax, notation, axiom, sorry.
-/
import Derived.Test.YtmfankbjapjjiaaGreatChecked
import GoSem.Claim
import GoSem.ClaimJoined
import GoSem.ClaimMapViews
import Derived.JoinedTies
import Derived.KernelRfl
namespace Go.Proofs.YtmfankbjapjjiaaGreat
/- THE CELL 'sum', in the pinned program and in every row, IS THE sha256 OF THE DUMP (.gsa) THAT YtmfankbjapjjiaaGreatProg.lean LOADS. Nothing in Lean hashes anything: it is a label: what it is worth is what the hold of that sum in a sandbox is worth. -/
noncomputable def Tryz.pinned : Pinned := { name := "ytmfankbjapjjiaagreat", sum := "d9c4a759d632da82e54a1c888224666522117d59a9440fb893001cd763d239ce", checked := Tryz.checked }
namespace Rows
def none {H : Type} : Left H := { results := [], args := [] }

/-- 'shardqueuelaw23.RedriveRefuses': WHATEVER THE INPUT: true; the input reads as it did. -/
def redriveRefusesSpec : ChangeSpec := { name := "redriveRefuses", fn := fun _ => fun
  | [d] => { results := [.lit (.bool true)], args := [d] }
  | _ => none }
def redriveRefusesRow : OpenClaim := { program := "ytmfankbjapjjiaagreat", sum := "d9c4a759d632da82e54a1c888224666522117d59a9440fb893001cd763d239ce", func := "shardqueue/shardqueuelaw23.RedriveRefuses", spec := "redriveRefuses", inPlace := ["slices.overlaps[shardqueue/api.Span]"], unfollowed := true, recurses := true, apart := false }
def RedriveRefusesSaid : Prop := redriveRefusesRow.holds Tryz.pinned (OpenSpec.ofChange redriveRefusesSpec)

/-- ITS FALSE NEIGHBOUR: 'it returns false'. Refute it at one input. -/
def redriveRefusesWrong : ChangeSpec := { name := "redriveRefuses", fn := fun _ => fun
  | [d] => { results := [.lit (.bool false)], args := [d] }
  | _ => none }
def RedriveRefusesWrongFalsely : Prop := redriveRefusesRow.holds Tryz.pinned (OpenSpec.ofChange redriveRefusesWrong)

/-- 'shardqueuelaw18.SendRefuses': WHATEVER THE INPUT: true; the input reads as it did. -/
def sendRefusesSpec : ChangeSpec := { name := "sendRefuses", fn := fun _ => fun
  | [d] => { results := [.lit (.bool true)], args := [d] }
  | _ => none }
def sendRefusesRow : OpenClaim := { program := "ytmfankbjapjjiaagreat", sum := "d9c4a759d632da82e54a1c888224666522117d59a9440fb893001cd763d239ce", func := "shardqueue/shardqueuelaw18.SendRefuses", spec := "sendRefuses", inPlace := ["sync/atomic.StoreInt64", "sync/atomic.CompareAndSwapInt64", "sync/atomic.LoadInt64", "slices.overlaps[shardqueue/api.Span]"], unfollowed := true, recurses := true, apart := false }
def SendRefusesSaid : Prop := sendRefusesRow.holds Tryz.pinned (OpenSpec.ofChange sendRefusesSpec)

/-- ITS FALSE NEIGHBOUR: 'it returns false'. Refute it at one input. -/
def sendRefusesWrong : ChangeSpec := { name := "sendRefuses", fn := fun _ => fun
  | [d] => { results := [.lit (.bool false)], args := [d] }
  | _ => none }
def SendRefusesWrongFalsely : Prop := sendRefusesRow.holds Tryz.pinned (OpenSpec.ofChange sendRefusesWrong)

/-- 'shardqueuelaw20.SettleRefuses': WHATEVER THE INPUT: true; the input reads as it did. -/
def settleRefusesSpec : ChangeSpec := { name := "settleRefuses", fn := fun _ => fun
  | [d] => { results := [.lit (.bool true)], args := [d] }
  | _ => none }
def settleRefusesRow : OpenClaim := { program := "ytmfankbjapjjiaagreat", sum := "d9c4a759d632da82e54a1c888224666522117d59a9440fb893001cd763d239ce", func := "shardqueue/shardqueuelaw20.SettleRefuses", spec := "settleRefuses", inPlace := ["slices.overlaps[shardqueue/api.Span]"], unfollowed := true, recurses := true, apart := false }
def SettleRefusesSaid : Prop := settleRefusesRow.holds Tryz.pinned (OpenSpec.ofChange settleRefusesSpec)

/-- ITS FALSE NEIGHBOUR: 'it returns false'. Refute it at one input. -/
def settleRefusesWrong : ChangeSpec := { name := "settleRefuses", fn := fun _ => fun
  | [d] => { results := [.lit (.bool false)], args := [d] }
  | _ => none }
def SettleRefusesWrongFalsely : Prop := settleRefusesRow.holds Tryz.pinned (OpenSpec.ofChange settleRefusesWrong)

/-- 'shardqueuelaw19.ReceiveRefuses': WHATEVER THE INPUT: true; the input reads as it did. -/
def receiveRefusesSpec : ChangeSpec := { name := "receiveRefuses", fn := fun _ => fun
  | [d] => { results := [.lit (.bool true)], args := [d] }
  | _ => none }
def receiveRefusesRow : OpenClaim := { program := "ytmfankbjapjjiaagreat", sum := "d9c4a759d632da82e54a1c888224666522117d59a9440fb893001cd763d239ce", func := "shardqueue/shardqueuelaw19.ReceiveRefuses", spec := "receiveRefuses", inPlace := ["slices.overlaps[shardqueue/api.Span]", "slices.overlaps[shardqueue/api.Lease]"], unfollowed := true, recurses := true, apart := false }
def ReceiveRefusesSaid : Prop := receiveRefusesRow.holds Tryz.pinned (OpenSpec.ofChange receiveRefusesSpec)

/-- ITS FALSE NEIGHBOUR: 'it returns false'. Refute it at one input. -/
def receiveRefusesWrong : ChangeSpec := { name := "receiveRefuses", fn := fun _ => fun
  | [d] => { results := [.lit (.bool false)], args := [d] }
  | _ => none }
def ReceiveRefusesWrongFalsely : Prop := receiveRefusesRow.holds Tryz.pinned (OpenSpec.ofChange receiveRefusesWrong)

/- THE SECOND FORM. 'bulk': how many values and letters a reading holds, each counted each time it is reached (what is shared counts as often as it is met; a slice's spare places count too). A statement '..UptoSaid' is the law's where the arguments, and the package variables that the reading takes, are together of bulk at most 1048576: NARROWER than '..Said'. Prove '..Said' where nothing that the law and all that it calls make is longer than what came in: it says more and counts as full. Else prove '..UptoSaid'. A law counts once. -/
mutual
def uptoBulk {H : Type} : DataW H → Nat
  | .lit (.string bytes) => bytes.length + 1
  | .lit _ => 1
  | .nil => 1
  | .ptr d => uptoBulk d + 1
  | .slice elems spare => uptoBulkAll elems + uptoBulkAll spare + 1
  | .agg parts => uptoBulkAll parts + 1
  | .iface _ d => uptoBulk d + 1
  | .map entries => uptoBulkEntries entries + 1
  | .held _ => 1
def uptoBulkAll {H : Type} : List (DataW H) → Nat
  | [] => 0
  | d :: r => uptoBulk d + uptoBulkAll r
def uptoBulkEntries {H : Type} : List (Lit × DataW H) → Nat
  | [] => 0
  | x :: r => uptoBulkEntry x + uptoBulkEntries r
def uptoBulkEntry {H : Type} : Lit × DataW H → Nat
  | (.string bytes, d) => bytes.length + uptoBulk d + 1
  | (_, d) => uptoBulk d + 1
 end
def uptoSmall : (H : Type) → List (DataW H) → Bool := fun _ ds => decide (uptoBulkAll ds ≤ 1048576)
def OpenSpec.upto (s : _root_.Go.ChangeSpec) : _root_.Go.OpenSpec := { _root_.Go.OpenSpec.ofChange s with cond := some uptoSmall }

/-- 'shardqueuelaw23.RedriveRefuses', WHERE WHAT IT READS IS OF BULK AT MOST 1048576: true; the input reads as it did. -/
def redriveRefusesUptoRow : OpenClaim := { program := "ytmfankbjapjjiaagreat", sum := "d9c4a759d632da82e54a1c888224666522117d59a9440fb893001cd763d239ce", func := "shardqueue/shardqueuelaw23.RedriveRefuses", spec := "redriveRefuses", inPlace := ["slices.overlaps[shardqueue/api.Span]"], unfollowed := true, recurses := true, apart := false, narrowed := true }
def RedriveRefusesUptoSaid : Prop := redriveRefusesUptoRow.holds Tryz.pinned (OpenSpec.upto redriveRefusesSpec)

/-- 'shardqueuelaw18.SendRefuses', WHERE WHAT IT READS IS OF BULK AT MOST 1048576: true; the input reads as it did. -/
def sendRefusesUptoRow : OpenClaim := { program := "ytmfankbjapjjiaagreat", sum := "d9c4a759d632da82e54a1c888224666522117d59a9440fb893001cd763d239ce", func := "shardqueue/shardqueuelaw18.SendRefuses", spec := "sendRefuses", inPlace := ["sync/atomic.StoreInt64", "sync/atomic.CompareAndSwapInt64", "sync/atomic.LoadInt64", "slices.overlaps[shardqueue/api.Span]"], unfollowed := true, recurses := true, apart := false, narrowed := true }
def SendRefusesUptoSaid : Prop := sendRefusesUptoRow.holds Tryz.pinned (OpenSpec.upto sendRefusesSpec)

/-- 'shardqueuelaw20.SettleRefuses', WHERE WHAT IT READS IS OF BULK AT MOST 1048576: true; the input reads as it did. -/
def settleRefusesUptoRow : OpenClaim := { program := "ytmfankbjapjjiaagreat", sum := "d9c4a759d632da82e54a1c888224666522117d59a9440fb893001cd763d239ce", func := "shardqueue/shardqueuelaw20.SettleRefuses", spec := "settleRefuses", inPlace := ["slices.overlaps[shardqueue/api.Span]"], unfollowed := true, recurses := true, apart := false, narrowed := true }
def SettleRefusesUptoSaid : Prop := settleRefusesUptoRow.holds Tryz.pinned (OpenSpec.upto settleRefusesSpec)

/-- 'shardqueuelaw19.ReceiveRefuses', WHERE WHAT IT READS IS OF BULK AT MOST 1048576: true; the input reads as it did. -/
def receiveRefusesUptoRow : OpenClaim := { program := "ytmfankbjapjjiaagreat", sum := "d9c4a759d632da82e54a1c888224666522117d59a9440fb893001cd763d239ce", func := "shardqueue/shardqueuelaw19.ReceiveRefuses", spec := "receiveRefuses", inPlace := ["slices.overlaps[shardqueue/api.Span]", "slices.overlaps[shardqueue/api.Lease]"], unfollowed := true, recurses := true, apart := false, narrowed := true }
def ReceiveRefusesUptoSaid : Prop := receiveRefusesUptoRow.holds Tryz.pinned (OpenSpec.upto receiveRefusesSpec)

end Rows
end Go.Proofs.YtmfankbjapjjiaaGreat
