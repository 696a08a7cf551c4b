/-
  No cell of these rows narrows 'for every input' (looked for: loops, veiled, ifaces, maps, wideKeys, modest, calm, conditions, laid).
  DERIVED. THE GIVEN ROWS OF THIS SEAT. 12 by the template 'for every input the law returns true; each argument reads behind the call as it read before'; 0 by the template 'total and deterministic' (their statements: YtjkgjdgmghnknaaGreatTotals.lean).
  GIVEN WITH THE SEED: the statements are not yours to turn. If you find one false, say at which input.
  Laid BY PROGRAM, IN A SANDBOX (cutbox-rows.mjs): the forced cells as the released guide's own fill.sh prints them over the translation a3b6e0f3daa83328… (all of the seat's roots in one cut). By AI agents, Wed Nov 11 2026. No macro, syntax, notation, axiom, sorry.
-/
import Derived.Test.YtjkgjdgmghnknaaGreatChecked
import GoSem.Claim
import GoSem.ClaimJoined
import GoSem.ClaimMapViews
import Derived.JoinedTies
import Derived.KernelRfl
namespace Go.Proofs.YtjkgjdgmghnknaaGreat
/- THE CELL 'sum', in the pinned program and in every row, IS THE sha256 OF THE DUMP (.gsa) THAT YtjkgjdgmghnknaaGreatProg.lean LOADS. Nothing in Lean hashes anything: it is a label: what it is worth is what the hold of that sum in a sandbox is worth. -/
noncomputable def Tryz.pinned : Pinned := { name := "ytjkgjdgmghnknaagreat", sum := "a3b6e0f3daa83328c556359e4d680f673e63d6faee29af140ac82fe8823671c0", checked := Tryz.checked }
namespace Rows
def none {H : Type} : Left H := { results := [], args := [] }

/-- 'shardqueuelaw15.SectionCarries': WHATEVER THE INPUT: true; the input reads as it did. -/
def sectionCarriesSpec : ChangeSpec := { name := "sectionCarries", fn := fun _ => fun
  | [d] => { results := [.lit (.bool true)], args := [d] }
  | _ => none }
def sectionCarriesRow : OpenClaim := { program := "ytjkgjdgmghnknaagreat", sum := "a3b6e0f3daa83328c556359e4d680f673e63d6faee29af140ac82fe8823671c0", func := "shardqueue/shardqueuelaw15.SectionCarries", spec := "sectionCarries", inPlace := ["slices.overlaps[shardqueue/api.Span]"], unfollowed := true, recurses := true, apart := false }
def SectionCarriesSaid : Prop := sectionCarriesRow.holds Tryz.pinned (OpenSpec.ofChange sectionCarriesSpec)

/-- ITS FALSE NEIGHBOUR: 'it returns false'. Refute it at one input. -/
def sectionCarriesWrong : ChangeSpec := { name := "sectionCarries", fn := fun _ => fun
  | [d] => { results := [.lit (.bool false)], args := [d] }
  | _ => none }
def SectionCarriesWrongFalsely : Prop := sectionCarriesRow.holds Tryz.pinned (OpenSpec.ofChange sectionCarriesWrong)

/-- 'shardqueuelaw18.SendFull': WHATEVER THE INPUT: true; the input reads as it did. -/
def sendFullSpec : ChangeSpec := { name := "sendFull", fn := fun _ => fun
  | [d1, d2, d3] => { results := [.lit (.bool true)], args := [d1, d2, d3] }
  | _ => none }
def sendFullRow : OpenClaim := { program := "ytjkgjdgmghnknaagreat", sum := "a3b6e0f3daa83328c556359e4d680f673e63d6faee29af140ac82fe8823671c0", func := "shardqueue/shardqueuelaw18.SendFull", spec := "sendFull", inPlace := ["sync/atomic.StoreInt64", "sync/atomic.CompareAndSwapInt64", "sync/atomic.LoadInt64", "slices.overlaps[shardqueue/api.Span]"], unfollowed := true, recurses := true, apart := false }
def SendFullSaid : Prop := sendFullRow.holds Tryz.pinned (OpenSpec.ofChange sendFullSpec)

/-- ITS FALSE NEIGHBOUR: 'it returns false'. Refute it at one input. -/
def sendFullWrong : ChangeSpec := { name := "sendFull", fn := fun _ => fun
  | [d1, d2, d3] => { results := [.lit (.bool false)], args := [d1, d2, d3] }
  | _ => none }
def SendFullWrongFalsely : Prop := sendFullRow.holds Tryz.pinned (OpenSpec.ofChange sendFullWrong)

/-- 'shardqueuelaw18.SendEnds': WHATEVER THE INPUT: true; the input reads as it did. -/
def sendEndsSpec : ChangeSpec := { name := "sendEnds", fn := fun _ => fun
  | [d1, d2] => { results := [.lit (.bool true)], args := [d1, d2] }
  | _ => none }
def sendEndsRow : OpenClaim := { program := "ytjkgjdgmghnknaagreat", sum := "a3b6e0f3daa83328c556359e4d680f673e63d6faee29af140ac82fe8823671c0", func := "shardqueue/shardqueuelaw18.SendEnds", spec := "sendEnds", inPlace := ["sync/atomic.StoreInt64", "sync/atomic.CompareAndSwapInt64", "sync/atomic.LoadInt64", "slices.overlaps[shardqueue/api.Span]"], unfollowed := true, recurses := true, apart := false }
def SendEndsSaid : Prop := sendEndsRow.holds Tryz.pinned (OpenSpec.ofChange sendEndsSpec)

/-- ITS FALSE NEIGHBOUR: 'it returns false'. Refute it at one input. -/
def sendEndsWrong : ChangeSpec := { name := "sendEnds", fn := fun _ => fun
  | [d1, d2] => { results := [.lit (.bool false)], args := [d1, d2] }
  | _ => none }
def SendEndsWrongFalsely : Prop := sendEndsRow.holds Tryz.pinned (OpenSpec.ofChange sendEndsWrong)

/-- 'shardqueuelaw18.SendPlaces': WHATEVER THE INPUT: true; the input reads as it did. -/
def sendPlacesSpec : ChangeSpec := { name := "sendPlaces", fn := fun _ => fun
  | [d1, d2, d3] => { results := [.lit (.bool true)], args := [d1, d2, d3] }
  | _ => none }
def sendPlacesRow : OpenClaim := { program := "ytjkgjdgmghnknaagreat", sum := "a3b6e0f3daa83328c556359e4d680f673e63d6faee29af140ac82fe8823671c0", func := "shardqueue/shardqueuelaw18.SendPlaces", spec := "sendPlaces", inPlace := ["sync/atomic.StoreInt64", "sync/atomic.CompareAndSwapInt64", "sync/atomic.LoadInt64", "slices.overlaps[shardqueue/api.Span]"], unfollowed := true, recurses := true, apart := false }
def SendPlacesSaid : Prop := sendPlacesRow.holds Tryz.pinned (OpenSpec.ofChange sendPlacesSpec)

/-- ITS FALSE NEIGHBOUR: 'it returns false'. Refute it at one input. -/
def sendPlacesWrong : ChangeSpec := { name := "sendPlaces", fn := fun _ => fun
  | [d1, d2, d3] => { results := [.lit (.bool false)], args := [d1, d2, d3] }
  | _ => none }
def SendPlacesWrongFalsely : Prop := sendPlacesRow.holds Tryz.pinned (OpenSpec.ofChange sendPlacesWrong)

/-- 'shardqueuelaw18.SendBatch': WHATEVER THE INPUT: true; the input reads as it did. -/
def sendBatchSpec : ChangeSpec := { name := "sendBatch", fn := fun _ => fun
  | [d] => { results := [.lit (.bool true)], args := [d] }
  | _ => none }
def sendBatchRow : OpenClaim := { program := "ytjkgjdgmghnknaagreat", sum := "a3b6e0f3daa83328c556359e4d680f673e63d6faee29af140ac82fe8823671c0", func := "shardqueue/shardqueuelaw18.SendBatch", spec := "sendBatch", inPlace := ["sync/atomic.StoreInt64", "sync/atomic.CompareAndSwapInt64", "sync/atomic.LoadInt64", "slices.overlaps[shardqueue/api.Span]"], unfollowed := true, recurses := true, apart := false }
def SendBatchSaid : Prop := sendBatchRow.holds Tryz.pinned (OpenSpec.ofChange sendBatchSpec)

/-- ITS FALSE NEIGHBOUR: 'it returns false'. Refute it at one input. -/
def sendBatchWrong : ChangeSpec := { name := "sendBatch", fn := fun _ => fun
  | [d] => { results := [.lit (.bool false)], args := [d] }
  | _ => none }
def SendBatchWrongFalsely : Prop := sendBatchRow.holds Tryz.pinned (OpenSpec.ofChange sendBatchWrong)

/-- 'shardqueuelaw19.ReceiveOrder': WHATEVER THE INPUT: true; the input reads as it did. -/
def receiveOrderSpec : ChangeSpec := { name := "receiveOrder", fn := fun _ => fun
  | [d1, d2] => { results := [.lit (.bool true)], args := [d1, d2] }
  | _ => none }
def receiveOrderRow : OpenClaim := { program := "ytjkgjdgmghnknaagreat", sum := "a3b6e0f3daa83328c556359e4d680f673e63d6faee29af140ac82fe8823671c0", func := "shardqueue/shardqueuelaw19.ReceiveOrder", spec := "receiveOrder", inPlace := ["slices.overlaps[shardqueue/api.Span]", "slices.overlaps[shardqueue/api.Lease]"], unfollowed := true, recurses := true, apart := false }
def ReceiveOrderSaid : Prop := receiveOrderRow.holds Tryz.pinned (OpenSpec.ofChange receiveOrderSpec)

/-- ITS FALSE NEIGHBOUR: 'it returns false'. Refute it at one input. -/
def receiveOrderWrong : ChangeSpec := { name := "receiveOrder", fn := fun _ => fun
  | [d1, d2] => { results := [.lit (.bool false)], args := [d1, d2] }
  | _ => none }
def ReceiveOrderWrongFalsely : Prop := receiveOrderRow.holds Tryz.pinned (OpenSpec.ofChange receiveOrderWrong)

/-- 'shardqueuelaw19.ReceiveAll': WHATEVER THE INPUT: true; the input reads as it did. -/
def receiveAllSpec : ChangeSpec := { name := "receiveAll", fn := fun _ => fun
  | [d1, d2, d3, d4] => { results := [.lit (.bool true)], args := [d1, d2, d3, d4] }
  | _ => none }
def receiveAllRow : OpenClaim := { program := "ytjkgjdgmghnknaagreat", sum := "a3b6e0f3daa83328c556359e4d680f673e63d6faee29af140ac82fe8823671c0", func := "shardqueue/shardqueuelaw19.ReceiveAll", spec := "receiveAll", inPlace := ["slices.overlaps[shardqueue/api.Span]", "slices.overlaps[shardqueue/api.Lease]"], unfollowed := true, recurses := true, apart := false }
def ReceiveAllSaid : Prop := receiveAllRow.holds Tryz.pinned (OpenSpec.ofChange receiveAllSpec)

/-- ITS FALSE NEIGHBOUR: 'it returns false'. Refute it at one input. -/
def receiveAllWrong : ChangeSpec := { name := "receiveAll", fn := fun _ => fun
  | [d1, d2, d3, d4] => { results := [.lit (.bool false)], args := [d1, d2, d3, d4] }
  | _ => none }
def ReceiveAllWrongFalsely : Prop := receiveAllRow.holds Tryz.pinned (OpenSpec.ofChange receiveAllWrong)

/-- 'shardqueuelaw19.ReceiveEnds': WHATEVER THE INPUT: true; the input reads as it did. -/
def receiveEndsSpec : ChangeSpec := { name := "receiveEnds", fn := fun _ => fun
  | [d1, d2] => { results := [.lit (.bool true)], args := [d1, d2] }
  | _ => none }
def receiveEndsRow : OpenClaim := { program := "ytjkgjdgmghnknaagreat", sum := "a3b6e0f3daa83328c556359e4d680f673e63d6faee29af140ac82fe8823671c0", func := "shardqueue/shardqueuelaw19.ReceiveEnds", spec := "receiveEnds", inPlace := ["slices.overlaps[shardqueue/api.Span]", "slices.overlaps[shardqueue/api.Lease]"], unfollowed := true, recurses := true, apart := false }
def ReceiveEndsSaid : Prop := receiveEndsRow.holds Tryz.pinned (OpenSpec.ofChange receiveEndsSpec)

/-- ITS FALSE NEIGHBOUR: 'it returns false'. Refute it at one input. -/
def receiveEndsWrong : ChangeSpec := { name := "receiveEnds", fn := fun _ => fun
  | [d1, d2] => { results := [.lit (.bool false)], args := [d1, d2] }
  | _ => none }
def ReceiveEndsWrongFalsely : Prop := receiveEndsRow.holds Tryz.pinned (OpenSpec.ofChange receiveEndsWrong)

/-- 'shardqueuelaw19.ReceiveLapses': WHATEVER THE INPUT: true; the input reads as it did. -/
def receiveLapsesSpec : ChangeSpec := { name := "receiveLapses", fn := fun _ => fun
  | [d1, d2, d3] => { results := [.lit (.bool true)], args := [d1, d2, d3] }
  | _ => none }
def receiveLapsesRow : OpenClaim := { program := "ytjkgjdgmghnknaagreat", sum := "a3b6e0f3daa83328c556359e4d680f673e63d6faee29af140ac82fe8823671c0", func := "shardqueue/shardqueuelaw19.ReceiveLapses", spec := "receiveLapses", inPlace := ["slices.overlaps[shardqueue/api.Span]", "slices.overlaps[shardqueue/api.Lease]"], unfollowed := true, recurses := true, apart := false }
def ReceiveLapsesSaid : Prop := receiveLapsesRow.holds Tryz.pinned (OpenSpec.ofChange receiveLapsesSpec)

/-- ITS FALSE NEIGHBOUR: 'it returns false'. Refute it at one input. -/
def receiveLapsesWrong : ChangeSpec := { name := "receiveLapses", fn := fun _ => fun
  | [d1, d2, d3] => { results := [.lit (.bool false)], args := [d1, d2, d3] }
  | _ => none }
def ReceiveLapsesWrongFalsely : Prop := receiveLapsesRow.holds Tryz.pinned (OpenSpec.ofChange receiveLapsesWrong)

/-- 'shardqueuelaw20.SettleLimit': WHATEVER THE INPUT: true; the input reads as it did. -/
def settleLimitSpec : ChangeSpec := { name := "settleLimit", fn := fun _ => fun
  | [d] => { results := [.lit (.bool true)], args := [d] }
  | _ => none }
def settleLimitRow : OpenClaim := { program := "ytjkgjdgmghnknaagreat", sum := "a3b6e0f3daa83328c556359e4d680f673e63d6faee29af140ac82fe8823671c0", func := "shardqueue/shardqueuelaw20.SettleLimit", spec := "settleLimit", inPlace := ["slices.overlaps[shardqueue/api.Span]"], unfollowed := true, recurses := true, apart := false }
def SettleLimitSaid : Prop := settleLimitRow.holds Tryz.pinned (OpenSpec.ofChange settleLimitSpec)

/-- ITS FALSE NEIGHBOUR: 'it returns false'. Refute it at one input. -/
def settleLimitWrong : ChangeSpec := { name := "settleLimit", fn := fun _ => fun
  | [d] => { results := [.lit (.bool false)], args := [d] }
  | _ => none }
def SettleLimitWrongFalsely : Prop := settleLimitRow.holds Tryz.pinned (OpenSpec.ofChange settleLimitWrong)

/-- 'shardqueuelaw20.SettleOnce': WHATEVER THE INPUT: true; the input reads as it did. -/
def settleOnceSpec : ChangeSpec := { name := "settleOnce", fn := fun _ => fun
  | [d1, d2] => { results := [.lit (.bool true)], args := [d1, d2] }
  | _ => none }
def settleOnceRow : OpenClaim := { program := "ytjkgjdgmghnknaagreat", sum := "a3b6e0f3daa83328c556359e4d680f673e63d6faee29af140ac82fe8823671c0", func := "shardqueue/shardqueuelaw20.SettleOnce", spec := "settleOnce", inPlace := ["slices.overlaps[shardqueue/api.Span]"], unfollowed := true, recurses := true, apart := false }
def SettleOnceSaid : Prop := settleOnceRow.holds Tryz.pinned (OpenSpec.ofChange settleOnceSpec)

/-- ITS FALSE NEIGHBOUR: 'it returns false'. Refute it at one input. -/
def settleOnceWrong : ChangeSpec := { name := "settleOnce", fn := fun _ => fun
  | [d1, d2] => { results := [.lit (.bool false)], args := [d1, d2] }
  | _ => none }
def SettleOnceWrongFalsely : Prop := settleOnceRow.holds Tryz.pinned (OpenSpec.ofChange settleOnceWrong)

/-- 'shardqueuelaw20.SettleBatch': WHATEVER THE INPUT: true; the input reads as it did. -/
def settleBatchSpec : ChangeSpec := { name := "settleBatch", fn := fun _ => fun
  | [d1, d2] => { results := [.lit (.bool true)], args := [d1, d2] }
  | _ => none }
def settleBatchRow : OpenClaim := { program := "ytjkgjdgmghnknaagreat", sum := "a3b6e0f3daa83328c556359e4d680f673e63d6faee29af140ac82fe8823671c0", func := "shardqueue/shardqueuelaw20.SettleBatch", spec := "settleBatch", inPlace := ["slices.overlaps[shardqueue/api.Span]"], unfollowed := true, recurses := true, apart := false }
def SettleBatchSaid : Prop := settleBatchRow.holds Tryz.pinned (OpenSpec.ofChange settleBatchSpec)

/-- ITS FALSE NEIGHBOUR: 'it returns false'. Refute it at one input. -/
def settleBatchWrong : ChangeSpec := { name := "settleBatch", fn := fun _ => fun
  | [d1, d2] => { results := [.lit (.bool false)], args := [d1, d2] }
  | _ => none }
def SettleBatchWrongFalsely : Prop := settleBatchRow.holds Tryz.pinned (OpenSpec.ofChange settleBatchWrong)

/- THE SECOND FORM. 'bulk': how many values and letters a reading holds, each counted each time it is reached (what is shared counts as often as it is met; a slice's spare places count too). A statement '..UptoSaid' is the law's where the arguments, and the package variables that the reading takes, are together of bulk at most 1048576: NARROWER than '..Said'. Prove '..Said' where nothing that the law and all that it calls make is longer than what came in: it says more and counts as full. Else prove '..UptoSaid'. A law counts once. -/
mutual
def uptoBulk {H : Type} : DataW H → Nat
  | .lit (.string bytes) => bytes.length + 1
  | .lit _ => 1
  | .nil => 1
  | .ptr d => uptoBulk d + 1
  | .slice elems spare => uptoBulkAll elems + uptoBulkAll spare + 1
  | .agg parts => uptoBulkAll parts + 1
  | .iface _ d => uptoBulk d + 1
  | .map entries => uptoBulkEntries entries + 1
  | .held _ => 1
def uptoBulkAll {H : Type} : List (DataW H) → Nat
  | [] => 0
  | d :: r => uptoBulk d + uptoBulkAll r
def uptoBulkEntries {H : Type} : List (Lit × DataW H) → Nat
  | [] => 0
  | x :: r => uptoBulkEntry x + uptoBulkEntries r
def uptoBulkEntry {H : Type} : Lit × DataW H → Nat
  | (.string bytes, d) => bytes.length + uptoBulk d + 1
  | (_, d) => uptoBulk d + 1
 end
def uptoSmall : (H : Type) → List (DataW H) → Bool := fun _ ds => decide (uptoBulkAll ds ≤ 1048576)
def OpenSpec.upto (s : _root_.Go.ChangeSpec) : _root_.Go.OpenSpec := { _root_.Go.OpenSpec.ofChange s with cond := some uptoSmall }

/-- 'shardqueuelaw15.SectionCarries', WHERE WHAT IT READS IS OF BULK AT MOST 1048576: true; the input reads as it did. -/
def sectionCarriesUptoRow : OpenClaim := { program := "ytjkgjdgmghnknaagreat", sum := "a3b6e0f3daa83328c556359e4d680f673e63d6faee29af140ac82fe8823671c0", func := "shardqueue/shardqueuelaw15.SectionCarries", spec := "sectionCarries", inPlace := ["slices.overlaps[shardqueue/api.Span]"], unfollowed := true, recurses := true, apart := false, narrowed := true }
def SectionCarriesUptoSaid : Prop := sectionCarriesUptoRow.holds Tryz.pinned (OpenSpec.upto sectionCarriesSpec)

/-- 'shardqueuelaw18.SendFull', WHERE WHAT IT READS IS OF BULK AT MOST 1048576: true; the input reads as it did. -/
def sendFullUptoRow : OpenClaim := { program := "ytjkgjdgmghnknaagreat", sum := "a3b6e0f3daa83328c556359e4d680f673e63d6faee29af140ac82fe8823671c0", func := "shardqueue/shardqueuelaw18.SendFull", spec := "sendFull", inPlace := ["sync/atomic.StoreInt64", "sync/atomic.CompareAndSwapInt64", "sync/atomic.LoadInt64", "slices.overlaps[shardqueue/api.Span]"], unfollowed := true, recurses := true, apart := false, narrowed := true }
def SendFullUptoSaid : Prop := sendFullUptoRow.holds Tryz.pinned (OpenSpec.upto sendFullSpec)

/-- 'shardqueuelaw18.SendEnds', WHERE WHAT IT READS IS OF BULK AT MOST 1048576: true; the input reads as it did. -/
def sendEndsUptoRow : OpenClaim := { program := "ytjkgjdgmghnknaagreat", sum := "a3b6e0f3daa83328c556359e4d680f673e63d6faee29af140ac82fe8823671c0", func := "shardqueue/shardqueuelaw18.SendEnds", spec := "sendEnds", inPlace := ["sync/atomic.StoreInt64", "sync/atomic.CompareAndSwapInt64", "sync/atomic.LoadInt64", "slices.overlaps[shardqueue/api.Span]"], unfollowed := true, recurses := true, apart := false, narrowed := true }
def SendEndsUptoSaid : Prop := sendEndsUptoRow.holds Tryz.pinned (OpenSpec.upto sendEndsSpec)

/-- 'shardqueuelaw18.SendPlaces', WHERE WHAT IT READS IS OF BULK AT MOST 1048576: true; the input reads as it did. -/
def sendPlacesUptoRow : OpenClaim := { program := "ytjkgjdgmghnknaagreat", sum := "a3b6e0f3daa83328c556359e4d680f673e63d6faee29af140ac82fe8823671c0", func := "shardqueue/shardqueuelaw18.SendPlaces", spec := "sendPlaces", inPlace := ["sync/atomic.StoreInt64", "sync/atomic.CompareAndSwapInt64", "sync/atomic.LoadInt64", "slices.overlaps[shardqueue/api.Span]"], unfollowed := true, recurses := true, apart := false, narrowed := true }
def SendPlacesUptoSaid : Prop := sendPlacesUptoRow.holds Tryz.pinned (OpenSpec.upto sendPlacesSpec)

/-- 'shardqueuelaw18.SendBatch', WHERE WHAT IT READS IS OF BULK AT MOST 1048576: true; the input reads as it did. -/
def sendBatchUptoRow : OpenClaim := { program := "ytjkgjdgmghnknaagreat", sum := "a3b6e0f3daa83328c556359e4d680f673e63d6faee29af140ac82fe8823671c0", func := "shardqueue/shardqueuelaw18.SendBatch", spec := "sendBatch", inPlace := ["sync/atomic.StoreInt64", "sync/atomic.CompareAndSwapInt64", "sync/atomic.LoadInt64", "slices.overlaps[shardqueue/api.Span]"], unfollowed := true, recurses := true, apart := false, narrowed := true }
def SendBatchUptoSaid : Prop := sendBatchUptoRow.holds Tryz.pinned (OpenSpec.upto sendBatchSpec)

/-- 'shardqueuelaw19.ReceiveOrder', WHERE WHAT IT READS IS OF BULK AT MOST 1048576: true; the input reads as it did. -/
def receiveOrderUptoRow : OpenClaim := { program := "ytjkgjdgmghnknaagreat", sum := "a3b6e0f3daa83328c556359e4d680f673e63d6faee29af140ac82fe8823671c0", func := "shardqueue/shardqueuelaw19.ReceiveOrder", spec := "receiveOrder", inPlace := ["slices.overlaps[shardqueue/api.Span]", "slices.overlaps[shardqueue/api.Lease]"], unfollowed := true, recurses := true, apart := false, narrowed := true }
def ReceiveOrderUptoSaid : Prop := receiveOrderUptoRow.holds Tryz.pinned (OpenSpec.upto receiveOrderSpec)

/-- 'shardqueuelaw19.ReceiveAll', WHERE WHAT IT READS IS OF BULK AT MOST 1048576: true; the input reads as it did. -/
def receiveAllUptoRow : OpenClaim := { program := "ytjkgjdgmghnknaagreat", sum := "a3b6e0f3daa83328c556359e4d680f673e63d6faee29af140ac82fe8823671c0", func := "shardqueue/shardqueuelaw19.ReceiveAll", spec := "receiveAll", inPlace := ["slices.overlaps[shardqueue/api.Span]", "slices.overlaps[shardqueue/api.Lease]"], unfollowed := true, recurses := true, apart := false, narrowed := true }
def ReceiveAllUptoSaid : Prop := receiveAllUptoRow.holds Tryz.pinned (OpenSpec.upto receiveAllSpec)

/-- 'shardqueuelaw19.ReceiveEnds', WHERE WHAT IT READS IS OF BULK AT MOST 1048576: true; the input reads as it did. -/
def receiveEndsUptoRow : OpenClaim := { program := "ytjkgjdgmghnknaagreat", sum := "a3b6e0f3daa83328c556359e4d680f673e63d6faee29af140ac82fe8823671c0", func := "shardqueue/shardqueuelaw19.ReceiveEnds", spec := "receiveEnds", inPlace := ["slices.overlaps[shardqueue/api.Span]", "slices.overlaps[shardqueue/api.Lease]"], unfollowed := true, recurses := true, apart := false, narrowed := true }
def ReceiveEndsUptoSaid : Prop := receiveEndsUptoRow.holds Tryz.pinned (OpenSpec.upto receiveEndsSpec)

/-- 'shardqueuelaw19.ReceiveLapses', WHERE WHAT IT READS IS OF BULK AT MOST 1048576: true; the input reads as it did. -/
def receiveLapsesUptoRow : OpenClaim := { program := "ytjkgjdgmghnknaagreat", sum := "a3b6e0f3daa83328c556359e4d680f673e63d6faee29af140ac82fe8823671c0", func := "shardqueue/shardqueuelaw19.ReceiveLapses", spec := "receiveLapses", inPlace := ["slices.overlaps[shardqueue/api.Span]", "slices.overlaps[shardqueue/api.Lease]"], unfollowed := true, recurses := true, apart := false, narrowed := true }
def ReceiveLapsesUptoSaid : Prop := receiveLapsesUptoRow.holds Tryz.pinned (OpenSpec.upto receiveLapsesSpec)

/-- 'shardqueuelaw20.SettleLimit', WHERE WHAT IT READS IS OF BULK AT MOST 1048576: true; the input reads as it did. -/
def settleLimitUptoRow : OpenClaim := { program := "ytjkgjdgmghnknaagreat", sum := "a3b6e0f3daa83328c556359e4d680f673e63d6faee29af140ac82fe8823671c0", func := "shardqueue/shardqueuelaw20.SettleLimit", spec := "settleLimit", inPlace := ["slices.overlaps[shardqueue/api.Span]"], unfollowed := true, recurses := true, apart := false, narrowed := true }
def SettleLimitUptoSaid : Prop := settleLimitUptoRow.holds Tryz.pinned (OpenSpec.upto settleLimitSpec)

/-- 'shardqueuelaw20.SettleOnce', WHERE WHAT IT READS IS OF BULK AT MOST 1048576: true; the input reads as it did. -/
def settleOnceUptoRow : OpenClaim := { program := "ytjkgjdgmghnknaagreat", sum := "a3b6e0f3daa83328c556359e4d680f673e63d6faee29af140ac82fe8823671c0", func := "shardqueue/shardqueuelaw20.SettleOnce", spec := "settleOnce", inPlace := ["slices.overlaps[shardqueue/api.Span]"], unfollowed := true, recurses := true, apart := false, narrowed := true }
def SettleOnceUptoSaid : Prop := settleOnceUptoRow.holds Tryz.pinned (OpenSpec.upto settleOnceSpec)

/-- 'shardqueuelaw20.SettleBatch', WHERE WHAT IT READS IS OF BULK AT MOST 1048576: true; the input reads as it did. -/
def settleBatchUptoRow : OpenClaim := { program := "ytjkgjdgmghnknaagreat", sum := "a3b6e0f3daa83328c556359e4d680f673e63d6faee29af140ac82fe8823671c0", func := "shardqueue/shardqueuelaw20.SettleBatch", spec := "settleBatch", inPlace := ["slices.overlaps[shardqueue/api.Span]"], unfollowed := true, recurses := true, apart := false, narrowed := true }
def SettleBatchUptoSaid : Prop := settleBatchUptoRow.holds Tryz.pinned (OpenSpec.upto settleBatchSpec)

end Rows
end Go.Proofs.YtjkgjdgmghnknaaGreat
