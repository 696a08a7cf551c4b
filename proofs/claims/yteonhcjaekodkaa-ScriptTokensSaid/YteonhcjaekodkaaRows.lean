/-
  No cell of these rows narrows 'for every input' (looked for: loops, veiled, ifaces, maps, wideKeys, modest, calm, conditions, laid).
  DERIVED. THE GIVEN ROWS OF THIS SEAT. 12 by the template 'for every input the law returns true; each argument reads behind the call as it read before'; 0 by the template 'total and deterministic' (their statements: YteonhcjaekodkaaTotals.lean).
  GIVEN WITH THE SEED: the statements are not yours to turn. If you find one false, say at which input.
  Laid BY PROGRAM, IN A SANDBOX (cutbox-rows.mjs): the forced cells as the released guide's own fill.sh prints them over the translation 922b2b60f5ac9297… (all of the seat's roots in one cut). By AI agents, Wed Nov 11 2026. No macro, syntax, notation, axiom, sorry.
-/
import Derived.Test.YteonhcjaekodkaaChecked
import GoSem.Claim
import GoSem.ClaimJoined
import GoSem.ClaimMapViews
import Derived.JoinedTies
import Derived.KernelRfl
namespace Go.Proofs.Yteonhcjaekodkaa
/- THE CELL 'sum', in the pinned program and in every row, IS THE sha256 OF THE DUMP (.gsa) THAT YteonhcjaekodkaaProg.lean LOADS. Nothing in Lean hashes anything: it is a label: what it is worth is what the hold of that sum in a sandbox is worth. -/
noncomputable def Try.pinned : Pinned := { name := "yteonhcjaekodkaa", sum := "922b2b60f5ac92976cf02a4d5f7776232f38c9d6457804e7fd6a673afb133a5a", checked := Try.checked }
namespace Rows
def none {H : Type} : Left H := { results := [], args := [] }

/-- 'shardqueuelaw34.ScriptDecodes': WHATEVER THE INPUT: true; the input reads as it did. -/
def scriptDecodesSpec : ChangeSpec := { name := "scriptDecodes", fn := fun _ => fun
  | [d] => { results := [.lit (.bool true)], args := [d] }
  | _ => none }
def scriptDecodesRow : OpenClaim := { program := "yteonhcjaekodkaa", sum := "922b2b60f5ac92976cf02a4d5f7776232f38c9d6457804e7fd6a673afb133a5a", func := "shardqueue/shardqueuelaw34.ScriptDecodes", spec := "scriptDecodes", unfollowed := true, recurses := true, apart := false }
def ScriptDecodesSaid : Prop := scriptDecodesRow.holds Try.pinned (OpenSpec.ofChange scriptDecodesSpec)

/-- ITS FALSE NEIGHBOUR: 'it returns false'. Refute it at one input. -/
def scriptDecodesWrong : ChangeSpec := { name := "scriptDecodes", fn := fun _ => fun
  | [d] => { results := [.lit (.bool false)], args := [d] }
  | _ => none }
def ScriptDecodesWrongFalsely : Prop := scriptDecodesRow.holds Try.pinned (OpenSpec.ofChange scriptDecodesWrong)

/-- 'shardqueuelaw04.RingRemoves': WHATEVER THE INPUT: true; the input reads as it did. -/
def ringRemovesSpec : ChangeSpec := { name := "ringRemoves", fn := fun _ => fun
  | [d] => { results := [.lit (.bool true)], args := [d] }
  | _ => none }
def ringRemovesRow : OpenClaim := { program := "yteonhcjaekodkaa", sum := "922b2b60f5ac92976cf02a4d5f7776232f38c9d6457804e7fd6a673afb133a5a", func := "shardqueue/shardqueuelaw04.RingRemoves", spec := "ringRemoves", unfollowed := true, recurses := true, apart := false }
def RingRemovesSaid : Prop := ringRemovesRow.holds Try.pinned (OpenSpec.ofChange ringRemovesSpec)

/-- ITS FALSE NEIGHBOUR: 'it returns false'. Refute it at one input. -/
def ringRemovesWrong : ChangeSpec := { name := "ringRemoves", fn := fun _ => fun
  | [d] => { results := [.lit (.bool false)], args := [d] }
  | _ => none }
def RingRemovesWrongFalsely : Prop := ringRemovesRow.holds Try.pinned (OpenSpec.ofChange ringRemovesWrong)

/-- 'shardqueuelaw08.DeadOrder': WHATEVER THE INPUT: true; the input reads as it did. -/
def deadOrderSpec : ChangeSpec := { name := "deadOrder", fn := fun _ => fun
  | [d] => { results := [.lit (.bool true)], args := [d] }
  | _ => none }
def deadOrderRow : OpenClaim := { program := "yteonhcjaekodkaa", sum := "922b2b60f5ac92976cf02a4d5f7776232f38c9d6457804e7fd6a673afb133a5a", func := "shardqueue/shardqueuelaw08.DeadOrder", spec := "deadOrder", apart := false }
def DeadOrderSaid : Prop := deadOrderRow.holds Try.pinned (OpenSpec.ofChange deadOrderSpec)

/-- ITS FALSE NEIGHBOUR: 'it returns false'. Refute it at one input. -/
def deadOrderWrong : ChangeSpec := { name := "deadOrder", fn := fun _ => fun
  | [d] => { results := [.lit (.bool false)], args := [d] }
  | _ => none }
def DeadOrderWrongFalsely : Prop := deadOrderRow.holds Try.pinned (OpenSpec.ofChange deadOrderWrong)

/-- 'shardqueuelaw04.RingScript': WHATEVER THE INPUT: true; the input reads as it did. -/
def ringScriptSpec : ChangeSpec := { name := "ringScript", fn := fun _ => fun
  | [d] => { results := [.lit (.bool true)], args := [d] }
  | _ => none }
def ringScriptRow : OpenClaim := { program := "yteonhcjaekodkaa", sum := "922b2b60f5ac92976cf02a4d5f7776232f38c9d6457804e7fd6a673afb133a5a", func := "shardqueue/shardqueuelaw04.RingScript", spec := "ringScript", unfollowed := true, recurses := true, apart := false }
def RingScriptSaid : Prop := ringScriptRow.holds Try.pinned (OpenSpec.ofChange ringScriptSpec)

/-- ITS FALSE NEIGHBOUR: 'it returns false'. Refute it at one input. -/
def ringScriptWrong : ChangeSpec := { name := "ringScript", fn := fun _ => fun
  | [d] => { results := [.lit (.bool false)], args := [d] }
  | _ => none }
def RingScriptWrongFalsely : Prop := ringScriptRow.holds Try.pinned (OpenSpec.ofChange ringScriptWrong)

/-- 'shardqueuelaw08.DeadCleans': WHATEVER THE INPUT: true; the input reads as it did. -/
def deadCleansSpec : ChangeSpec := { name := "deadCleans", fn := fun _ => fun
  | [d1, d2] => { results := [.lit (.bool true)], args := [d1, d2] }
  | _ => none }
def deadCleansRow : OpenClaim := { program := "yteonhcjaekodkaa", sum := "922b2b60f5ac92976cf02a4d5f7776232f38c9d6457804e7fd6a673afb133a5a", func := "shardqueue/shardqueuelaw08.DeadCleans", spec := "deadCleans", unfollowed := true, recurses := true, apart := false }
def DeadCleansSaid : Prop := deadCleansRow.holds Try.pinned (OpenSpec.ofChange deadCleansSpec)

/-- ITS FALSE NEIGHBOUR: 'it returns false'. Refute it at one input. -/
def deadCleansWrong : ChangeSpec := { name := "deadCleans", fn := fun _ => fun
  | [d1, d2] => { results := [.lit (.bool false)], args := [d1, d2] }
  | _ => none }
def DeadCleansWrongFalsely : Prop := deadCleansRow.holds Try.pinned (OpenSpec.ofChange deadCleansWrong)

/-- 'shardqueuelaw04.RingHalves': WHATEVER THE INPUT: true; the input reads as it did. -/
def ringHalvesSpec : ChangeSpec := { name := "ringHalves", fn := fun _ => fun
  | [d] => { results := [.lit (.bool true)], args := [d] }
  | _ => none }
def ringHalvesRow : OpenClaim := { program := "yteonhcjaekodkaa", sum := "922b2b60f5ac92976cf02a4d5f7776232f38c9d6457804e7fd6a673afb133a5a", func := "shardqueue/shardqueuelaw04.RingHalves", spec := "ringHalves", unfollowed := true, recurses := true, apart := false }
def RingHalvesSaid : Prop := ringHalvesRow.holds Try.pinned (OpenSpec.ofChange ringHalvesSpec)

/-- ITS FALSE NEIGHBOUR: 'it returns false'. Refute it at one input. -/
def ringHalvesWrong : ChangeSpec := { name := "ringHalves", fn := fun _ => fun
  | [d] => { results := [.lit (.bool false)], args := [d] }
  | _ => none }
def RingHalvesWrongFalsely : Prop := ringHalvesRow.holds Try.pinned (OpenSpec.ofChange ringHalvesWrong)

/-- 'shardqueuelaw08.DeadRaw': WHATEVER THE INPUT: true; the input reads as it did. -/
def deadRawSpec : ChangeSpec := { name := "deadRaw", fn := fun _ => fun
  | [d1, d2, d3, d4] => { results := [.lit (.bool true)], args := [d1, d2, d3, d4] }
  | _ => none }
def deadRawRow : OpenClaim := { program := "yteonhcjaekodkaa", sum := "922b2b60f5ac92976cf02a4d5f7776232f38c9d6457804e7fd6a673afb133a5a", func := "shardqueue/shardqueuelaw08.DeadRaw", spec := "deadRaw", unfollowed := true, recurses := true, apart := false }
def DeadRawSaid : Prop := deadRawRow.holds Try.pinned (OpenSpec.ofChange deadRawSpec)

/-- ITS FALSE NEIGHBOUR: 'it returns false'. Refute it at one input. -/
def deadRawWrong : ChangeSpec := { name := "deadRaw", fn := fun _ => fun
  | [d1, d2, d3, d4] => { results := [.lit (.bool false)], args := [d1, d2, d3, d4] }
  | _ => none }
def DeadRawWrongFalsely : Prop := deadRawRow.holds Try.pinned (OpenSpec.ofChange deadRawWrong)

/-- 'shardqueuelaw08.DeadBuilt': WHATEVER THE INPUT: true; the input reads as it did. -/
def deadBuiltSpec : ChangeSpec := { name := "deadBuilt", fn := fun _ => fun
  | [d] => { results := [.lit (.bool true)], args := [d] }
  | _ => none }
def deadBuiltRow : OpenClaim := { program := "yteonhcjaekodkaa", sum := "922b2b60f5ac92976cf02a4d5f7776232f38c9d6457804e7fd6a673afb133a5a", func := "shardqueue/shardqueuelaw08.DeadBuilt", spec := "deadBuilt", unfollowed := true, recurses := true, apart := false }
def DeadBuiltSaid : Prop := deadBuiltRow.holds Try.pinned (OpenSpec.ofChange deadBuiltSpec)

/-- ITS FALSE NEIGHBOUR: 'it returns false'. Refute it at one input. -/
def deadBuiltWrong : ChangeSpec := { name := "deadBuilt", fn := fun _ => fun
  | [d] => { results := [.lit (.bool false)], args := [d] }
  | _ => none }
def DeadBuiltWrongFalsely : Prop := deadBuiltRow.holds Try.pinned (OpenSpec.ofChange deadBuiltWrong)

/-- 'shardqueuelaw04.RingRaw': WHATEVER THE INPUT: true; the input reads as it did. -/
def ringRawSpec : ChangeSpec := { name := "ringRaw", fn := fun _ => fun
  | [d1, d2, d3, d4, d5, d6] => { results := [.lit (.bool true)], args := [d1, d2, d3, d4, d5, d6] }
  | _ => none }
def ringRawRow : OpenClaim := { program := "yteonhcjaekodkaa", sum := "922b2b60f5ac92976cf02a4d5f7776232f38c9d6457804e7fd6a673afb133a5a", func := "shardqueue/shardqueuelaw04.RingRaw", spec := "ringRaw", unfollowed := true, recurses := true, apart := false }
def RingRawSaid : Prop := ringRawRow.holds Try.pinned (OpenSpec.ofChange ringRawSpec)

/-- ITS FALSE NEIGHBOUR: 'it returns false'. Refute it at one input. -/
def ringRawWrong : ChangeSpec := { name := "ringRaw", fn := fun _ => fun
  | [d1, d2, d3, d4, d5, d6] => { results := [.lit (.bool false)], args := [d1, d2, d3, d4, d5, d6] }
  | _ => none }
def RingRawWrongFalsely : Prop := ringRawRow.holds Try.pinned (OpenSpec.ofChange ringRawWrong)

/-- 'shardqueuelaw04.RingBuilt': WHATEVER THE INPUT: true; the input reads as it did. -/
def ringBuiltSpec : ChangeSpec := { name := "ringBuilt", fn := fun _ => fun
  | [d] => { results := [.lit (.bool true)], args := [d] }
  | _ => none }
def ringBuiltRow : OpenClaim := { program := "yteonhcjaekodkaa", sum := "922b2b60f5ac92976cf02a4d5f7776232f38c9d6457804e7fd6a673afb133a5a", func := "shardqueue/shardqueuelaw04.RingBuilt", spec := "ringBuilt", unfollowed := true, recurses := true, apart := false }
def RingBuiltSaid : Prop := ringBuiltRow.holds Try.pinned (OpenSpec.ofChange ringBuiltSpec)

/-- ITS FALSE NEIGHBOUR: 'it returns false'. Refute it at one input. -/
def ringBuiltWrong : ChangeSpec := { name := "ringBuilt", fn := fun _ => fun
  | [d] => { results := [.lit (.bool false)], args := [d] }
  | _ => none }
def RingBuiltWrongFalsely : Prop := ringBuiltRow.holds Try.pinned (OpenSpec.ofChange ringBuiltWrong)

/-- 'shardqueuelaw34.ScriptTokens': WHATEVER THE INPUT: true; the input reads as it did. -/
def scriptTokensSpec : ChangeSpec := { name := "scriptTokens", fn := fun _ => fun
  | [d1, d2, d3] => { results := [.lit (.bool true)], args := [d1, d2, d3] }
  | _ => none }
def scriptTokensRow : OpenClaim := { program := "yteonhcjaekodkaa", sum := "922b2b60f5ac92976cf02a4d5f7776232f38c9d6457804e7fd6a673afb133a5a", func := "shardqueue/shardqueuelaw34.ScriptTokens", spec := "scriptTokens", unfollowed := true, recurses := true, apart := false }
def ScriptTokensSaid : Prop := scriptTokensRow.holds Try.pinned (OpenSpec.ofChange scriptTokensSpec)

/-- ITS FALSE NEIGHBOUR: 'it returns false'. Refute it at one input. -/
def scriptTokensWrong : ChangeSpec := { name := "scriptTokens", fn := fun _ => fun
  | [d1, d2, d3] => { results := [.lit (.bool false)], args := [d1, d2, d3] }
  | _ => none }
def ScriptTokensWrongFalsely : Prop := scriptTokensRow.holds Try.pinned (OpenSpec.ofChange scriptTokensWrong)

/-- 'shardqueuelaw34.ScriptForges': WHATEVER THE INPUT: true; the input reads as it did. -/
def scriptForgesSpec : ChangeSpec := { name := "scriptForges", fn := fun _ => fun
  | [d] => { results := [.lit (.bool true)], args := [d] }
  | _ => none }
def scriptForgesRow : OpenClaim := { program := "yteonhcjaekodkaa", sum := "922b2b60f5ac92976cf02a4d5f7776232f38c9d6457804e7fd6a673afb133a5a", func := "shardqueue/shardqueuelaw34.ScriptForges", spec := "scriptForges", unfollowed := true, recurses := true, apart := false }
def ScriptForgesSaid : Prop := scriptForgesRow.holds Try.pinned (OpenSpec.ofChange scriptForgesSpec)

/-- ITS FALSE NEIGHBOUR: 'it returns false'. Refute it at one input. -/
def scriptForgesWrong : ChangeSpec := { name := "scriptForges", fn := fun _ => fun
  | [d] => { results := [.lit (.bool false)], args := [d] }
  | _ => none }
def ScriptForgesWrongFalsely : Prop := scriptForgesRow.holds Try.pinned (OpenSpec.ofChange scriptForgesWrong)

/- THE SECOND FORM. 'bulk': how many values and letters a reading holds, each counted each time it is reached (what is shared counts as often as it is met; a slice's spare places count too). A statement '..UptoSaid' is the law's where the arguments, and the package variables that the reading takes, are together of bulk at most 1048576: NARROWER than '..Said'. Prove '..Said' where nothing that the law and all that it calls make is longer than what came in: it says more and counts as full. Else prove '..UptoSaid'. A law counts once. -/
mutual
def uptoBulk {H : Type} : DataW H → Nat
  | .lit (.string bytes) => bytes.length + 1
  | .lit _ => 1
  | .nil => 1
  | .ptr d => uptoBulk d + 1
  | .slice elems spare => uptoBulkAll elems + uptoBulkAll spare + 1
  | .agg parts => uptoBulkAll parts + 1
  | .iface _ d => uptoBulk d + 1
  | .map entries => uptoBulkEntries entries + 1
  | .held _ => 1
def uptoBulkAll {H : Type} : List (DataW H) → Nat
  | [] => 0
  | d :: r => uptoBulk d + uptoBulkAll r
def uptoBulkEntries {H : Type} : List (Lit × DataW H) → Nat
  | [] => 0
  | x :: r => uptoBulkEntry x + uptoBulkEntries r
def uptoBulkEntry {H : Type} : Lit × DataW H → Nat
  | (.string bytes, d) => bytes.length + uptoBulk d + 1
  | (_, d) => uptoBulk d + 1
 end
def uptoSmall : (H : Type) → List (DataW H) → Bool := fun _ ds => decide (uptoBulkAll ds ≤ 1048576)
def OpenSpec.upto (s : _root_.Go.ChangeSpec) : _root_.Go.OpenSpec := { _root_.Go.OpenSpec.ofChange s with cond := some uptoSmall }

/-- 'shardqueuelaw34.ScriptDecodes', WHERE WHAT IT READS IS OF BULK AT MOST 1048576: true; the input reads as it did. -/
def scriptDecodesUptoRow : OpenClaim := { program := "yteonhcjaekodkaa", sum := "922b2b60f5ac92976cf02a4d5f7776232f38c9d6457804e7fd6a673afb133a5a", func := "shardqueue/shardqueuelaw34.ScriptDecodes", spec := "scriptDecodes", unfollowed := true, recurses := true, apart := false, narrowed := true }
def ScriptDecodesUptoSaid : Prop := scriptDecodesUptoRow.holds Try.pinned (OpenSpec.upto scriptDecodesSpec)

/-- 'shardqueuelaw04.RingRemoves', WHERE WHAT IT READS IS OF BULK AT MOST 1048576: true; the input reads as it did. -/
def ringRemovesUptoRow : OpenClaim := { program := "yteonhcjaekodkaa", sum := "922b2b60f5ac92976cf02a4d5f7776232f38c9d6457804e7fd6a673afb133a5a", func := "shardqueue/shardqueuelaw04.RingRemoves", spec := "ringRemoves", unfollowed := true, recurses := true, apart := false, narrowed := true }
def RingRemovesUptoSaid : Prop := ringRemovesUptoRow.holds Try.pinned (OpenSpec.upto ringRemovesSpec)

/-- 'shardqueuelaw08.DeadOrder', WHERE WHAT IT READS IS OF BULK AT MOST 1048576: true; the input reads as it did. -/
def deadOrderUptoRow : OpenClaim := { program := "yteonhcjaekodkaa", sum := "922b2b60f5ac92976cf02a4d5f7776232f38c9d6457804e7fd6a673afb133a5a", func := "shardqueue/shardqueuelaw08.DeadOrder", spec := "deadOrder", apart := false, narrowed := true }
def DeadOrderUptoSaid : Prop := deadOrderUptoRow.holds Try.pinned (OpenSpec.upto deadOrderSpec)

/-- 'shardqueuelaw04.RingScript', WHERE WHAT IT READS IS OF BULK AT MOST 1048576: true; the input reads as it did. -/
def ringScriptUptoRow : OpenClaim := { program := "yteonhcjaekodkaa", sum := "922b2b60f5ac92976cf02a4d5f7776232f38c9d6457804e7fd6a673afb133a5a", func := "shardqueue/shardqueuelaw04.RingScript", spec := "ringScript", unfollowed := true, recurses := true, apart := false, narrowed := true }
def RingScriptUptoSaid : Prop := ringScriptUptoRow.holds Try.pinned (OpenSpec.upto ringScriptSpec)

/-- 'shardqueuelaw08.DeadCleans', WHERE WHAT IT READS IS OF BULK AT MOST 1048576: true; the input reads as it did. -/
def deadCleansUptoRow : OpenClaim := { program := "yteonhcjaekodkaa", sum := "922b2b60f5ac92976cf02a4d5f7776232f38c9d6457804e7fd6a673afb133a5a", func := "shardqueue/shardqueuelaw08.DeadCleans", spec := "deadCleans", unfollowed := true, recurses := true, apart := false, narrowed := true }
def DeadCleansUptoSaid : Prop := deadCleansUptoRow.holds Try.pinned (OpenSpec.upto deadCleansSpec)

/-- 'shardqueuelaw04.RingHalves', WHERE WHAT IT READS IS OF BULK AT MOST 1048576: true; the input reads as it did. -/
def ringHalvesUptoRow : OpenClaim := { program := "yteonhcjaekodkaa", sum := "922b2b60f5ac92976cf02a4d5f7776232f38c9d6457804e7fd6a673afb133a5a", func := "shardqueue/shardqueuelaw04.RingHalves", spec := "ringHalves", unfollowed := true, recurses := true, apart := false, narrowed := true }
def RingHalvesUptoSaid : Prop := ringHalvesUptoRow.holds Try.pinned (OpenSpec.upto ringHalvesSpec)

/-- 'shardqueuelaw08.DeadRaw', WHERE WHAT IT READS IS OF BULK AT MOST 1048576: true; the input reads as it did. -/
def deadRawUptoRow : OpenClaim := { program := "yteonhcjaekodkaa", sum := "922b2b60f5ac92976cf02a4d5f7776232f38c9d6457804e7fd6a673afb133a5a", func := "shardqueue/shardqueuelaw08.DeadRaw", spec := "deadRaw", unfollowed := true, recurses := true, apart := false, narrowed := true }
def DeadRawUptoSaid : Prop := deadRawUptoRow.holds Try.pinned (OpenSpec.upto deadRawSpec)

/-- 'shardqueuelaw08.DeadBuilt', WHERE WHAT IT READS IS OF BULK AT MOST 1048576: true; the input reads as it did. -/
def deadBuiltUptoRow : OpenClaim := { program := "yteonhcjaekodkaa", sum := "922b2b60f5ac92976cf02a4d5f7776232f38c9d6457804e7fd6a673afb133a5a", func := "shardqueue/shardqueuelaw08.DeadBuilt", spec := "deadBuilt", unfollowed := true, recurses := true, apart := false, narrowed := true }
def DeadBuiltUptoSaid : Prop := deadBuiltUptoRow.holds Try.pinned (OpenSpec.upto deadBuiltSpec)

/-- 'shardqueuelaw04.RingRaw', WHERE WHAT IT READS IS OF BULK AT MOST 1048576: true; the input reads as it did. -/
def ringRawUptoRow : OpenClaim := { program := "yteonhcjaekodkaa", sum := "922b2b60f5ac92976cf02a4d5f7776232f38c9d6457804e7fd6a673afb133a5a", func := "shardqueue/shardqueuelaw04.RingRaw", spec := "ringRaw", unfollowed := true, recurses := true, apart := false, narrowed := true }
def RingRawUptoSaid : Prop := ringRawUptoRow.holds Try.pinned (OpenSpec.upto ringRawSpec)

/-- 'shardqueuelaw04.RingBuilt', WHERE WHAT IT READS IS OF BULK AT MOST 1048576: true; the input reads as it did. -/
def ringBuiltUptoRow : OpenClaim := { program := "yteonhcjaekodkaa", sum := "922b2b60f5ac92976cf02a4d5f7776232f38c9d6457804e7fd6a673afb133a5a", func := "shardqueue/shardqueuelaw04.RingBuilt", spec := "ringBuilt", unfollowed := true, recurses := true, apart := false, narrowed := true }
def RingBuiltUptoSaid : Prop := ringBuiltUptoRow.holds Try.pinned (OpenSpec.upto ringBuiltSpec)

/-- 'shardqueuelaw34.ScriptTokens', WHERE WHAT IT READS IS OF BULK AT MOST 1048576: true; the input reads as it did. -/
def scriptTokensUptoRow : OpenClaim := { program := "yteonhcjaekodkaa", sum := "922b2b60f5ac92976cf02a4d5f7776232f38c9d6457804e7fd6a673afb133a5a", func := "shardqueue/shardqueuelaw34.ScriptTokens", spec := "scriptTokens", unfollowed := true, recurses := true, apart := false, narrowed := true }
def ScriptTokensUptoSaid : Prop := scriptTokensUptoRow.holds Try.pinned (OpenSpec.upto scriptTokensSpec)

/-- 'shardqueuelaw34.ScriptForges', WHERE WHAT IT READS IS OF BULK AT MOST 1048576: true; the input reads as it did. -/
def scriptForgesUptoRow : OpenClaim := { program := "yteonhcjaekodkaa", sum := "922b2b60f5ac92976cf02a4d5f7776232f38c9d6457804e7fd6a673afb133a5a", func := "shardqueue/shardqueuelaw34.ScriptForges", spec := "scriptForges", unfollowed := true, recurses := true, apart := false, narrowed := true }
def ScriptForgesUptoSaid : Prop := scriptForgesUptoRow.holds Try.pinned (OpenSpec.upto scriptForgesSpec)

end Rows
end Go.Proofs.Yteonhcjaekodkaa
