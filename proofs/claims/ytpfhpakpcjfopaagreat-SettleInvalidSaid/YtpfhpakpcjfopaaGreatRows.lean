/-
  No cell of these rows narrows 'for every input' (looked for: loops, veiled, ifaces, maps, wideKeys, modest, calm, conditions, laid).
  DERIVED. THE GIVEN ROWS OF THIS SEAT. 2 by the template 'for every input the law returns true; each argument reads behind the call as it read before'; 0 by the template 'total and deterministic' (their statements: YtpfhpakpcjfopaaGreatTotals.lean).
  GIVEN WITH THE SEED: the statements are not yours to turn. If you find one false, say at which input.
  Laid BY PROGRAM, IN A SANDBOX (cutbox-rows.mjs): the forced cells as the released guide's own fill.sh prints them over the translation 1cb0ef8fa9517cae… (all of the seat's roots in one cut). By AI agents, Wed Nov 11 2026. No macro, syntax, notation, axiom, sorry.
-/
import Derived.Test.YtpfhpakpcjfopaaGreatChecked
import GoSem.Claim
import GoSem.ClaimJoined
import GoSem.ClaimMapViews
import Derived.JoinedTies
import Derived.KernelRfl
namespace Go.Proofs.YtpfhpakpcjfopaaGreat
/- THE CELL 'sum', in the pinned program and in every row, IS THE sha256 OF THE DUMP (.gsa) THAT YtpfhpakpcjfopaaGreatProg.lean LOADS. Nothing in Lean hashes anything: it is a label: what it is worth is what the hold of that sum in a sandbox is worth. -/
noncomputable def Tryz.pinned : Pinned := { name := "ytpfhpakpcjfopaagreat", sum := "1cb0ef8fa9517cae6c57cbd35fa64d5ee83a9f9953394f73d984fc4ca1e1d7b3", checked := Tryz.checked }
namespace Rows
def none {H : Type} : Left H := { results := [], args := [] }

/-- 'shardqueuelaw20.SettleHints': WHATEVER THE INPUT: true; the input reads as it did. -/
def settleHintsSpec : ChangeSpec := { name := "settleHints", fn := fun _ => fun
  | [d] => { results := [.lit (.bool true)], args := [d] }
  | _ => none }
def settleHintsRow : OpenClaim := { program := "ytpfhpakpcjfopaagreat", sum := "1cb0ef8fa9517cae6c57cbd35fa64d5ee83a9f9953394f73d984fc4ca1e1d7b3", func := "shardqueue/shardqueuelaw20.SettleHints", spec := "settleHints", inPlace := ["slices.overlaps[shardqueue/api.Span]"], unfollowed := true, recurses := true, apart := false }
def SettleHintsSaid : Prop := settleHintsRow.holds Tryz.pinned (OpenSpec.ofChange settleHintsSpec)

/-- ITS FALSE NEIGHBOUR: 'it returns false'. Refute it at one input. -/
def settleHintsWrong : ChangeSpec := { name := "settleHints", fn := fun _ => fun
  | [d] => { results := [.lit (.bool false)], args := [d] }
  | _ => none }
def SettleHintsWrongFalsely : Prop := settleHintsRow.holds Tryz.pinned (OpenSpec.ofChange settleHintsWrong)

/-- 'shardqueuelaw20.SettleInvalid': WHATEVER THE INPUT: true; the input reads as it did. -/
def settleInvalidSpec : ChangeSpec := { name := "settleInvalid", fn := fun _ => fun
  | [d1, d2] => { results := [.lit (.bool true)], args := [d1, d2] }
  | _ => none }
def settleInvalidRow : OpenClaim := { program := "ytpfhpakpcjfopaagreat", sum := "1cb0ef8fa9517cae6c57cbd35fa64d5ee83a9f9953394f73d984fc4ca1e1d7b3", func := "shardqueue/shardqueuelaw20.SettleInvalid", spec := "settleInvalid", inPlace := ["slices.overlaps[shardqueue/api.Span]"], unfollowed := true, recurses := true, apart := false }
def SettleInvalidSaid : Prop := settleInvalidRow.holds Tryz.pinned (OpenSpec.ofChange settleInvalidSpec)

/-- ITS FALSE NEIGHBOUR: 'it returns false'. Refute it at one input. -/
def settleInvalidWrong : ChangeSpec := { name := "settleInvalid", fn := fun _ => fun
  | [d1, d2] => { results := [.lit (.bool false)], args := [d1, d2] }
  | _ => none }
def SettleInvalidWrongFalsely : Prop := settleInvalidRow.holds Tryz.pinned (OpenSpec.ofChange settleInvalidWrong)

/- THE SECOND FORM. 'bulk': how many values and letters a reading holds, each counted each time it is reached (what is shared counts as often as it is met; a slice's spare places count too). A statement '..UptoSaid' is the law's where the arguments, and the package variables that the reading takes, are together of bulk at most 1048576: NARROWER than '..Said'. Prove '..Said' where nothing that the law and all that it calls make is longer than what came in: it says more and counts as full. Else prove '..UptoSaid'. A law counts once. -/
mutual
def uptoBulk {H : Type} : DataW H → Nat
  | .lit (.string bytes) => bytes.length + 1
  | .lit _ => 1
  | .nil => 1
  | .ptr d => uptoBulk d + 1
  | .slice elems spare => uptoBulkAll elems + uptoBulkAll spare + 1
  | .agg parts => uptoBulkAll parts + 1
  | .iface _ d => uptoBulk d + 1
  | .map entries => uptoBulkEntries entries + 1
  | .held _ => 1
def uptoBulkAll {H : Type} : List (DataW H) → Nat
  | [] => 0
  | d :: r => uptoBulk d + uptoBulkAll r
def uptoBulkEntries {H : Type} : List (Lit × DataW H) → Nat
  | [] => 0
  | x :: r => uptoBulkEntry x + uptoBulkEntries r
def uptoBulkEntry {H : Type} : Lit × DataW H → Nat
  | (.string bytes, d) => bytes.length + uptoBulk d + 1
  | (_, d) => uptoBulk d + 1
 end
def uptoSmall : (H : Type) → List (DataW H) → Bool := fun _ ds => decide (uptoBulkAll ds ≤ 1048576)
def OpenSpec.upto (s : _root_.Go.ChangeSpec) : _root_.Go.OpenSpec := { _root_.Go.OpenSpec.ofChange s with cond := some uptoSmall }

/-- 'shardqueuelaw20.SettleHints', WHERE WHAT IT READS IS OF BULK AT MOST 1048576: true; the input reads as it did. -/
def settleHintsUptoRow : OpenClaim := { program := "ytpfhpakpcjfopaagreat", sum := "1cb0ef8fa9517cae6c57cbd35fa64d5ee83a9f9953394f73d984fc4ca1e1d7b3", func := "shardqueue/shardqueuelaw20.SettleHints", spec := "settleHints", inPlace := ["slices.overlaps[shardqueue/api.Span]"], unfollowed := true, recurses := true, apart := false, narrowed := true }
def SettleHintsUptoSaid : Prop := settleHintsUptoRow.holds Tryz.pinned (OpenSpec.upto settleHintsSpec)

/-- 'shardqueuelaw20.SettleInvalid', WHERE WHAT IT READS IS OF BULK AT MOST 1048576: true; the input reads as it did. -/
def settleInvalidUptoRow : OpenClaim := { program := "ytpfhpakpcjfopaagreat", sum := "1cb0ef8fa9517cae6c57cbd35fa64d5ee83a9f9953394f73d984fc4ca1e1d7b3", func := "shardqueue/shardqueuelaw20.SettleInvalid", spec := "settleInvalid", inPlace := ["slices.overlaps[shardqueue/api.Span]"], unfollowed := true, recurses := true, apart := false, narrowed := true }
def SettleInvalidUptoSaid : Prop := settleInvalidUptoRow.holds Tryz.pinned (OpenSpec.upto settleInvalidSpec)

end Rows
end Go.Proofs.YtpfhpakpcjfopaaGreat
