/-
  No cell of these rows narrows 'for every input' (looked for: loops, veiled, ifaces, maps, wideKeys, modest, calm, conditions, laid).
  DERIVED. THE GIVEN ROWS OF THIS SEAT. 4 by the template 'for every input the law returns true; each argument reads behind the call as it read before'; 0 by the template 'total and deterministic' (their statements: YthciknbicfnhfaaGreatTotals.lean).
  GIVEN WITH THE SEED: the statements are not yours to turn. If you find one false, say at which input.
  Laid BY PROGRAM, IN A SANDBOX (cutbox-rows.mjs): the forced cells as the released guide's own fill.sh prints them over the translation 5001877a9036db41… (all of the seat's roots in one cut). By AI agents, Wed Nov 11 2026. No macro, syntax, notation, axiom, sorry.
-/
import Derived.Test.YthciknbicfnhfaaGreatChecked
import GoSem.Claim
import GoSem.ClaimJoined
import GoSem.ClaimMapViews
import Derived.JoinedTies
import Derived.KernelRfl
namespace Go.Proofs.YthciknbicfnhfaaGreat
/- THE CELL 'sum', in the pinned program and in every row, IS THE sha256 OF THE DUMP (.gsa) THAT YthciknbicfnhfaaGreatProg.lean LOADS. Nothing in Lean hashes anything: it is a label: what it is worth is what the hold of that sum in a sandbox is worth. -/
noncomputable def Tryz.pinned : Pinned := { name := "ythciknbicfnhfaagreat", sum := "5001877a9036db41be233f3395f1b6a398cb167a823f4ceeca2c42ff505c8367", checked := Tryz.checked }
namespace Rows
def none {H : Type} : Left H := { results := [], args := [] }

/-- 'shardqueuelaw20.SettleOnce': WHATEVER THE INPUT: true; the input reads as it did. -/
def settleOnceSpec : ChangeSpec := { name := "settleOnce", fn := fun _ => fun
  | [d1, d2] => { results := [.lit (.bool true)], args := [d1, d2] }
  | _ => none }
def settleOnceRow : OpenClaim := { program := "ythciknbicfnhfaagreat", sum := "5001877a9036db41be233f3395f1b6a398cb167a823f4ceeca2c42ff505c8367", func := "shardqueue/shardqueuelaw20.SettleOnce", spec := "settleOnce", inPlace := ["slices.overlaps[shardqueue/api.Span]"], unfollowed := true, recurses := true, apart := false }
def SettleOnceSaid : Prop := settleOnceRow.holds Tryz.pinned (OpenSpec.ofChange settleOnceSpec)

/-- ITS FALSE NEIGHBOUR: 'it returns false'. Refute it at one input. -/
def settleOnceWrong : ChangeSpec := { name := "settleOnce", fn := fun _ => fun
  | [d1, d2] => { results := [.lit (.bool false)], args := [d1, d2] }
  | _ => none }
def SettleOnceWrongFalsely : Prop := settleOnceRow.holds Tryz.pinned (OpenSpec.ofChange settleOnceWrong)

/-- 'shardqueuelaw20.SettleLimit': WHATEVER THE INPUT: true; the input reads as it did. -/
def settleLimitSpec : ChangeSpec := { name := "settleLimit", fn := fun _ => fun
  | [d] => { results := [.lit (.bool true)], args := [d] }
  | _ => none }
def settleLimitRow : OpenClaim := { program := "ythciknbicfnhfaagreat", sum := "5001877a9036db41be233f3395f1b6a398cb167a823f4ceeca2c42ff505c8367", func := "shardqueue/shardqueuelaw20.SettleLimit", spec := "settleLimit", inPlace := ["slices.overlaps[shardqueue/api.Span]"], unfollowed := true, recurses := true, apart := false }
def SettleLimitSaid : Prop := settleLimitRow.holds Tryz.pinned (OpenSpec.ofChange settleLimitSpec)

/-- ITS FALSE NEIGHBOUR: 'it returns false'. Refute it at one input. -/
def settleLimitWrong : ChangeSpec := { name := "settleLimit", fn := fun _ => fun
  | [d] => { results := [.lit (.bool false)], args := [d] }
  | _ => none }
def SettleLimitWrongFalsely : Prop := settleLimitRow.holds Tryz.pinned (OpenSpec.ofChange settleLimitWrong)

/-- 'shardqueuelaw19.ReceiveLapses': WHATEVER THE INPUT: true; the input reads as it did. -/
def receiveLapsesSpec : ChangeSpec := { name := "receiveLapses", fn := fun _ => fun
  | [d1, d2, d3] => { results := [.lit (.bool true)], args := [d1, d2, d3] }
  | _ => none }
def receiveLapsesRow : OpenClaim := { program := "ythciknbicfnhfaagreat", sum := "5001877a9036db41be233f3395f1b6a398cb167a823f4ceeca2c42ff505c8367", func := "shardqueue/shardqueuelaw19.ReceiveLapses", spec := "receiveLapses", inPlace := ["slices.overlaps[shardqueue/api.Span]", "slices.overlaps[shardqueue/api.Lease]"], unfollowed := true, recurses := true, apart := false }
def ReceiveLapsesSaid : Prop := receiveLapsesRow.holds Tryz.pinned (OpenSpec.ofChange receiveLapsesSpec)

/-- ITS FALSE NEIGHBOUR: 'it returns false'. Refute it at one input. -/
def receiveLapsesWrong : ChangeSpec := { name := "receiveLapses", fn := fun _ => fun
  | [d1, d2, d3] => { results := [.lit (.bool false)], args := [d1, d2, d3] }
  | _ => none }
def ReceiveLapsesWrongFalsely : Prop := receiveLapsesRow.holds Tryz.pinned (OpenSpec.ofChange receiveLapsesWrong)

/-- 'shardqueuelaw19.ReceiveEnds': WHATEVER THE INPUT: true; the input reads as it did. -/
def receiveEndsSpec : ChangeSpec := { name := "receiveEnds", fn := fun _ => fun
  | [d1, d2] => { results := [.lit (.bool true)], args := [d1, d2] }
  | _ => none }
def receiveEndsRow : OpenClaim := { program := "ythciknbicfnhfaagreat", sum := "5001877a9036db41be233f3395f1b6a398cb167a823f4ceeca2c42ff505c8367", func := "shardqueue/shardqueuelaw19.ReceiveEnds", spec := "receiveEnds", inPlace := ["slices.overlaps[shardqueue/api.Span]", "slices.overlaps[shardqueue/api.Lease]"], unfollowed := true, recurses := true, apart := false }
def ReceiveEndsSaid : Prop := receiveEndsRow.holds Tryz.pinned (OpenSpec.ofChange receiveEndsSpec)

/-- ITS FALSE NEIGHBOUR: 'it returns false'. Refute it at one input. -/
def receiveEndsWrong : ChangeSpec := { name := "receiveEnds", fn := fun _ => fun
  | [d1, d2] => { results := [.lit (.bool false)], args := [d1, d2] }
  | _ => none }
def ReceiveEndsWrongFalsely : Prop := receiveEndsRow.holds Tryz.pinned (OpenSpec.ofChange receiveEndsWrong)

/- THE SECOND FORM. 'bulk': how many values and letters a reading holds, each counted each time it is reached (what is shared counts as often as it is met; a slice's spare places count too). A statement '..UptoSaid' is the law's where the arguments, and the package variables that the reading takes, are together of bulk at most 1048576: NARROWER than '..Said'. Prove '..Said' where nothing that the law and all that it calls make is longer than what came in: it says more and counts as full. Else prove '..UptoSaid'. A law counts once. -/
mutual
def uptoBulk {H : Type} : DataW H → Nat
  | .lit (.string bytes) => bytes.length + 1
  | .lit _ => 1
  | .nil => 1
  | .ptr d => uptoBulk d + 1
  | .slice elems spare => uptoBulkAll elems + uptoBulkAll spare + 1
  | .agg parts => uptoBulkAll parts + 1
  | .iface _ d => uptoBulk d + 1
  | .map entries => uptoBulkEntries entries + 1
  | .held _ => 1
def uptoBulkAll {H : Type} : List (DataW H) → Nat
  | [] => 0
  | d :: r => uptoBulk d + uptoBulkAll r
def uptoBulkEntries {H : Type} : List (Lit × DataW H) → Nat
  | [] => 0
  | x :: r => uptoBulkEntry x + uptoBulkEntries r
def uptoBulkEntry {H : Type} : Lit × DataW H → Nat
  | (.string bytes, d) => bytes.length + uptoBulk d + 1
  | (_, d) => uptoBulk d + 1
 end
def uptoSmall : (H : Type) → List (DataW H) → Bool := fun _ ds => decide (uptoBulkAll ds ≤ 1048576)
def OpenSpec.upto (s : _root_.Go.ChangeSpec) : _root_.Go.OpenSpec := { _root_.Go.OpenSpec.ofChange s with cond := some uptoSmall }

/-- 'shardqueuelaw20.SettleOnce', WHERE WHAT IT READS IS OF BULK AT MOST 1048576: true; the input reads as it did. -/
def settleOnceUptoRow : OpenClaim := { program := "ythciknbicfnhfaagreat", sum := "5001877a9036db41be233f3395f1b6a398cb167a823f4ceeca2c42ff505c8367", func := "shardqueue/shardqueuelaw20.SettleOnce", spec := "settleOnce", inPlace := ["slices.overlaps[shardqueue/api.Span]"], unfollowed := true, recurses := true, apart := false, narrowed := true }
def SettleOnceUptoSaid : Prop := settleOnceUptoRow.holds Tryz.pinned (OpenSpec.upto settleOnceSpec)

/-- 'shardqueuelaw20.SettleLimit', WHERE WHAT IT READS IS OF BULK AT MOST 1048576: true; the input reads as it did. -/
def settleLimitUptoRow : OpenClaim := { program := "ythciknbicfnhfaagreat", sum := "5001877a9036db41be233f3395f1b6a398cb167a823f4ceeca2c42ff505c8367", func := "shardqueue/shardqueuelaw20.SettleLimit", spec := "settleLimit", inPlace := ["slices.overlaps[shardqueue/api.Span]"], unfollowed := true, recurses := true, apart := false, narrowed := true }
def SettleLimitUptoSaid : Prop := settleLimitUptoRow.holds Tryz.pinned (OpenSpec.upto settleLimitSpec)

/-- 'shardqueuelaw19.ReceiveLapses', WHERE WHAT IT READS IS OF BULK AT MOST 1048576: true; the input reads as it did. -/
def receiveLapsesUptoRow : OpenClaim := { program := "ythciknbicfnhfaagreat", sum := "5001877a9036db41be233f3395f1b6a398cb167a823f4ceeca2c42ff505c8367", func := "shardqueue/shardqueuelaw19.ReceiveLapses", spec := "receiveLapses", inPlace := ["slices.overlaps[shardqueue/api.Span]", "slices.overlaps[shardqueue/api.Lease]"], unfollowed := true, recurses := true, apart := false, narrowed := true }
def ReceiveLapsesUptoSaid : Prop := receiveLapsesUptoRow.holds Tryz.pinned (OpenSpec.upto receiveLapsesSpec)

/-- 'shardqueuelaw19.ReceiveEnds', WHERE WHAT IT READS IS OF BULK AT MOST 1048576: true; the input reads as it did. -/
def receiveEndsUptoRow : OpenClaim := { program := "ythciknbicfnhfaagreat", sum := "5001877a9036db41be233f3395f1b6a398cb167a823f4ceeca2c42ff505c8367", func := "shardqueue/shardqueuelaw19.ReceiveEnds", spec := "receiveEnds", inPlace := ["slices.overlaps[shardqueue/api.Span]", "slices.overlaps[shardqueue/api.Lease]"], unfollowed := true, recurses := true, apart := false, narrowed := true }
def ReceiveEndsUptoSaid : Prop := receiveEndsUptoRow.holds Tryz.pinned (OpenSpec.upto receiveEndsSpec)

end Rows
end Go.Proofs.YthciknbicfnhfaaGreat
