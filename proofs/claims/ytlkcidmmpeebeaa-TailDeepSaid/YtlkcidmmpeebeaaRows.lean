/-
  No cell of these rows narrows 'for every input' (looked for: loops, veiled, ifaces, maps, wideKeys, modest, calm, conditions, laid).
  DERIVED. THE GIVEN ROWS OF THIS SEAT. 10 by the template 'for every input the law returns true; each argument reads behind the call as it read before'; 0 by the template 'total and deterministic' (their statements: YtlkcidmmpeebeaaTotals.lean).
  GIVEN WITH THE SEED: the statements are not yours to turn. If you find one false, say at which input.
  Laid BY PROGRAM, IN A SANDBOX (cutbox-rows.mjs): the forced cells as the released guide's own fill.sh prints them over the translation e3d50c518f0b7140… (all of the seat's roots in one cut). By AI agents, Wed Nov 11 2026. No macro, syntax, notation, axiom, sorry.
-/
import Derived.Test.YtlkcidmmpeebeaaChecked
import GoSem.Claim
import GoSem.ClaimJoined
import GoSem.ClaimMapViews
import Derived.JoinedTies
import Derived.KernelRfl
namespace Go.Proofs.Ytlkcidmmpeebeaa
/- THE CELL 'sum', in the pinned program and in every row, IS THE sha256 OF THE DUMP (.gsa) THAT YtlkcidmmpeebeaaProg.lean LOADS. Nothing in Lean hashes anything: it is a label: what it is worth is what the hold of that sum in a sandbox is worth. -/
noncomputable def Try.pinned : Pinned := { name := "ytlkcidmmpeebeaa", sum := "e3d50c518f0b7140842a483e4e4e986d51048acb2c0699d05df3c2e994083e55", checked := Try.checked }
namespace Rows
def none {H : Type} : Left H := { results := [], args := [] }

/-- 'debuggerlaw14.TailRaw': WHATEVER THE INPUT: true; the input reads as it did. -/
def tailRawSpec : ChangeSpec := { name := "tailRaw", fn := fun _ => fun
  | [d] => { results := [.lit (.bool true)], args := [d] }
  | _ => none }
def tailRawRow : OpenClaim := { program := "ytlkcidmmpeebeaa", sum := "e3d50c518f0b7140842a483e4e4e986d51048acb2c0699d05df3c2e994083e55", func := "debugger/debuggerlaw14.TailRaw", spec := "tailRaw", unfollowed := true, recurses := true, plainKeys := false, apart := false }
def TailRawSaid : Prop := tailRawRow.holds Try.pinned (OpenSpec.ofChange tailRawSpec)

/-- ITS FALSE NEIGHBOUR: 'it returns false'. Refute it at one input. -/
def tailRawWrong : ChangeSpec := { name := "tailRaw", fn := fun _ => fun
  | [d] => { results := [.lit (.bool false)], args := [d] }
  | _ => none }
def TailRawWrongFalsely : Prop := tailRawRow.holds Try.pinned (OpenSpec.ofChange tailRawWrong)

/-- 'debuggerlaw14.TailDeep': WHATEVER THE INPUT: true; the input reads as it did. -/
def tailDeepSpec : ChangeSpec := { name := "tailDeep", fn := fun _ => fun
  | [d] => { results := [.lit (.bool true)], args := [d] }
  | _ => none }
def tailDeepRow : OpenClaim := { program := "ytlkcidmmpeebeaa", sum := "e3d50c518f0b7140842a483e4e4e986d51048acb2c0699d05df3c2e994083e55", func := "debugger/debuggerlaw14.TailDeep", spec := "tailDeep", unfollowed := true, recurses := true, plainKeys := false, apart := false }
def TailDeepSaid : Prop := tailDeepRow.holds Try.pinned (OpenSpec.ofChange tailDeepSpec)

/-- ITS FALSE NEIGHBOUR: 'it returns false'. Refute it at one input. -/
def tailDeepWrong : ChangeSpec := { name := "tailDeep", fn := fun _ => fun
  | [d] => { results := [.lit (.bool false)], args := [d] }
  | _ => none }
def TailDeepWrongFalsely : Prop := tailDeepRow.holds Try.pinned (OpenSpec.ofChange tailDeepWrong)

/-- 'debuggerlaw12.UnrollRaw': WHATEVER THE INPUT: true; the input reads as it did. -/
def unrollRawSpec : ChangeSpec := { name := "unrollRaw", fn := fun _ => fun
  | [d] => { results := [.lit (.bool true)], args := [d] }
  | _ => none }
def unrollRawRow : OpenClaim := { program := "ytlkcidmmpeebeaa", sum := "e3d50c518f0b7140842a483e4e4e986d51048acb2c0699d05df3c2e994083e55", func := "debugger/debuggerlaw12.UnrollRaw", spec := "unrollRaw", unfollowed := true, recurses := true, plainKeys := false, apart := false }
def UnrollRawSaid : Prop := unrollRawRow.holds Try.pinned (OpenSpec.ofChange unrollRawSpec)

/-- ITS FALSE NEIGHBOUR: 'it returns false'. Refute it at one input. -/
def unrollRawWrong : ChangeSpec := { name := "unrollRaw", fn := fun _ => fun
  | [d] => { results := [.lit (.bool false)], args := [d] }
  | _ => none }
def UnrollRawWrongFalsely : Prop := unrollRawRow.holds Try.pinned (OpenSpec.ofChange unrollRawWrong)

/-- 'debuggerlaw12.UnrollCounts': WHATEVER THE INPUT: true; the input reads as it did. -/
def unrollCountsSpec : ChangeSpec := { name := "unrollCounts", fn := fun _ => fun
  | [d] => { results := [.lit (.bool true)], args := [d] }
  | _ => none }
def unrollCountsRow : OpenClaim := { program := "ytlkcidmmpeebeaa", sum := "e3d50c518f0b7140842a483e4e4e986d51048acb2c0699d05df3c2e994083e55", func := "debugger/debuggerlaw12.UnrollCounts", spec := "unrollCounts", unfollowed := true, recurses := true, plainKeys := false, apart := false }
def UnrollCountsSaid : Prop := unrollCountsRow.holds Try.pinned (OpenSpec.ofChange unrollCountsSpec)

/-- ITS FALSE NEIGHBOUR: 'it returns false'. Refute it at one input. -/
def unrollCountsWrong : ChangeSpec := { name := "unrollCounts", fn := fun _ => fun
  | [d] => { results := [.lit (.bool false)], args := [d] }
  | _ => none }
def UnrollCountsWrongFalsely : Prop := unrollCountsRow.holds Try.pinned (OpenSpec.ofChange unrollCountsWrong)

/-- 'debuggerlaw15.AllocRaw': WHATEVER THE INPUT: true; the input reads as it did. -/
def allocRawSpec : ChangeSpec := { name := "allocRaw", fn := fun _ => fun
  | [d1, d2] => { results := [.lit (.bool true)], args := [d1, d2] }
  | _ => none }
def allocRawRow : OpenClaim := { program := "ytlkcidmmpeebeaa", sum := "e3d50c518f0b7140842a483e4e4e986d51048acb2c0699d05df3c2e994083e55", func := "debugger/debuggerlaw15.AllocRaw", spec := "allocRaw", unfollowed := true, recurses := true, plainKeys := false, apart := false }
def AllocRawSaid : Prop := allocRawRow.holds Try.pinned (OpenSpec.ofChange allocRawSpec)

/-- ITS FALSE NEIGHBOUR: 'it returns false'. Refute it at one input. -/
def allocRawWrong : ChangeSpec := { name := "allocRaw", fn := fun _ => fun
  | [d1, d2] => { results := [.lit (.bool false)], args := [d1, d2] }
  | _ => none }
def AllocRawWrongFalsely : Prop := allocRawRow.holds Try.pinned (OpenSpec.ofChange allocRawWrong)

/-- 'debuggerlaw15.AllocMany': WHATEVER THE INPUT: true; the input reads as it did. -/
def allocManySpec : ChangeSpec := { name := "allocMany", fn := fun _ => fun
  | [d1, d2] => { results := [.lit (.bool true)], args := [d1, d2] }
  | _ => none }
def allocManyRow : OpenClaim := { program := "ytlkcidmmpeebeaa", sum := "e3d50c518f0b7140842a483e4e4e986d51048acb2c0699d05df3c2e994083e55", func := "debugger/debuggerlaw15.AllocMany", spec := "allocMany", unfollowed := true, recurses := true, plainKeys := false, apart := false }
def AllocManySaid : Prop := allocManyRow.holds Try.pinned (OpenSpec.ofChange allocManySpec)

/-- ITS FALSE NEIGHBOUR: 'it returns false'. Refute it at one input. -/
def allocManyWrong : ChangeSpec := { name := "allocMany", fn := fun _ => fun
  | [d1, d2] => { results := [.lit (.bool false)], args := [d1, d2] }
  | _ => none }
def AllocManyWrongFalsely : Prop := allocManyRow.holds Try.pinned (OpenSpec.ofChange allocManyWrong)

/-- 'debuggerlaw09.MergeRaw': WHATEVER THE INPUT: true; the input reads as it did. -/
def mergeRawSpec : ChangeSpec := { name := "mergeRaw", fn := fun _ => fun
  | [d] => { results := [.lit (.bool true)], args := [d] }
  | _ => none }
def mergeRawRow : OpenClaim := { program := "ytlkcidmmpeebeaa", sum := "e3d50c518f0b7140842a483e4e4e986d51048acb2c0699d05df3c2e994083e55", func := "debugger/debuggerlaw09.MergeRaw", spec := "mergeRaw", unfollowed := true, recurses := true, plainKeys := false, apart := false }
def MergeRawSaid : Prop := mergeRawRow.holds Try.pinned (OpenSpec.ofChange mergeRawSpec)

/-- ITS FALSE NEIGHBOUR: 'it returns false'. Refute it at one input. -/
def mergeRawWrong : ChangeSpec := { name := "mergeRaw", fn := fun _ => fun
  | [d] => { results := [.lit (.bool false)], args := [d] }
  | _ => none }
def MergeRawWrongFalsely : Prop := mergeRawRow.holds Try.pinned (OpenSpec.ofChange mergeRawWrong)

/-- 'debuggerlaw09.MergeChain': WHATEVER THE INPUT: true; the input reads as it did. -/
def mergeChainSpec : ChangeSpec := { name := "mergeChain", fn := fun _ => fun
  | [d1, d2] => { results := [.lit (.bool true)], args := [d1, d2] }
  | _ => none }
def mergeChainRow : OpenClaim := { program := "ytlkcidmmpeebeaa", sum := "e3d50c518f0b7140842a483e4e4e986d51048acb2c0699d05df3c2e994083e55", func := "debugger/debuggerlaw09.MergeChain", spec := "mergeChain", unfollowed := true, recurses := true, plainKeys := false, apart := false }
def MergeChainSaid : Prop := mergeChainRow.holds Try.pinned (OpenSpec.ofChange mergeChainSpec)

/-- ITS FALSE NEIGHBOUR: 'it returns false'. Refute it at one input. -/
def mergeChainWrong : ChangeSpec := { name := "mergeChain", fn := fun _ => fun
  | [d1, d2] => { results := [.lit (.bool false)], args := [d1, d2] }
  | _ => none }
def MergeChainWrongFalsely : Prop := mergeChainRow.holds Try.pinned (OpenSpec.ofChange mergeChainWrong)

/-- 'debuggerlaw13.SinkRaw': WHATEVER THE INPUT: true; the input reads as it did. -/
def sinkRawSpec : ChangeSpec := { name := "sinkRaw", fn := fun _ => fun
  | [d] => { results := [.lit (.bool true)], args := [d] }
  | _ => none }
def sinkRawRow : OpenClaim := { program := "ytlkcidmmpeebeaa", sum := "e3d50c518f0b7140842a483e4e4e986d51048acb2c0699d05df3c2e994083e55", func := "debugger/debuggerlaw13.SinkRaw", spec := "sinkRaw", inPlace := ["slices.overlaps[debugger/api.Op]"], unfollowed := true, recurses := true, plainKeys := false, apart := false }
def SinkRawSaid : Prop := sinkRawRow.holds Try.pinned (OpenSpec.ofChange sinkRawSpec)

/-- ITS FALSE NEIGHBOUR: 'it returns false'. Refute it at one input. -/
def sinkRawWrong : ChangeSpec := { name := "sinkRaw", fn := fun _ => fun
  | [d] => { results := [.lit (.bool false)], args := [d] }
  | _ => none }
def SinkRawWrongFalsely : Prop := sinkRawRow.holds Try.pinned (OpenSpec.ofChange sinkRawWrong)

/-- 'debuggerlaw13.SinkShows': WHATEVER THE INPUT: true; the input reads as it did. -/
def sinkShowsSpec : ChangeSpec := { name := "sinkShows", fn := fun _ => fun
  | [d1, d2] => { results := [.lit (.bool true)], args := [d1, d2] }
  | _ => none }
def sinkShowsRow : OpenClaim := { program := "ytlkcidmmpeebeaa", sum := "e3d50c518f0b7140842a483e4e4e986d51048acb2c0699d05df3c2e994083e55", func := "debugger/debuggerlaw13.SinkShows", spec := "sinkShows", inPlace := ["slices.overlaps[debugger/api.Op]"], unfollowed := true, recurses := true, plainKeys := false, apart := false }
def SinkShowsSaid : Prop := sinkShowsRow.holds Try.pinned (OpenSpec.ofChange sinkShowsSpec)

/-- ITS FALSE NEIGHBOUR: 'it returns false'. Refute it at one input. -/
def sinkShowsWrong : ChangeSpec := { name := "sinkShows", fn := fun _ => fun
  | [d1, d2] => { results := [.lit (.bool false)], args := [d1, d2] }
  | _ => none }
def SinkShowsWrongFalsely : Prop := sinkShowsRow.holds Try.pinned (OpenSpec.ofChange sinkShowsWrong)

/- THE SECOND FORM. 'bulk': how many values and letters a reading holds, each counted each time it is reached (what is shared counts as often as it is met; a slice's spare places count too). A statement '..UptoSaid' is the law's where the arguments, and the package variables that the reading takes, are together of bulk at most 1048576: NARROWER than '..Said'. Prove '..Said' where nothing that the law and all that it calls make is longer than what came in: it says more and counts as full. Else prove '..UptoSaid'. A law counts once. -/
mutual
def uptoBulk {H : Type} : DataW H → Nat
  | .lit (.string bytes) => bytes.length + 1
  | .lit _ => 1
  | .nil => 1
  | .ptr d => uptoBulk d + 1
  | .slice elems spare => uptoBulkAll elems + uptoBulkAll spare + 1
  | .agg parts => uptoBulkAll parts + 1
  | .iface _ d => uptoBulk d + 1
  | .map entries => uptoBulkEntries entries + 1
  | .held _ => 1
def uptoBulkAll {H : Type} : List (DataW H) → Nat
  | [] => 0
  | d :: r => uptoBulk d + uptoBulkAll r
def uptoBulkEntries {H : Type} : List (Lit × DataW H) → Nat
  | [] => 0
  | x :: r => uptoBulkEntry x + uptoBulkEntries r
def uptoBulkEntry {H : Type} : Lit × DataW H → Nat
  | (.string bytes, d) => bytes.length + uptoBulk d + 1
  | (_, d) => uptoBulk d + 1
 end
def uptoSmall : (H : Type) → List (DataW H) → Bool := fun _ ds => decide (uptoBulkAll ds ≤ 1048576)
def OpenSpec.upto (s : _root_.Go.ChangeSpec) : _root_.Go.OpenSpec := { _root_.Go.OpenSpec.ofChange s with cond := some uptoSmall }

/-- 'debuggerlaw14.TailRaw', WHERE WHAT IT READS IS OF BULK AT MOST 1048576: true; the input reads as it did. -/
def tailRawUptoRow : OpenClaim := { program := "ytlkcidmmpeebeaa", sum := "e3d50c518f0b7140842a483e4e4e986d51048acb2c0699d05df3c2e994083e55", func := "debugger/debuggerlaw14.TailRaw", spec := "tailRaw", unfollowed := true, recurses := true, plainKeys := false, apart := false, narrowed := true }
def TailRawUptoSaid : Prop := tailRawUptoRow.holds Try.pinned (OpenSpec.upto tailRawSpec)

/-- 'debuggerlaw14.TailDeep', WHERE WHAT IT READS IS OF BULK AT MOST 1048576: true; the input reads as it did. -/
def tailDeepUptoRow : OpenClaim := { program := "ytlkcidmmpeebeaa", sum := "e3d50c518f0b7140842a483e4e4e986d51048acb2c0699d05df3c2e994083e55", func := "debugger/debuggerlaw14.TailDeep", spec := "tailDeep", unfollowed := true, recurses := true, plainKeys := false, apart := false, narrowed := true }
def TailDeepUptoSaid : Prop := tailDeepUptoRow.holds Try.pinned (OpenSpec.upto tailDeepSpec)

/-- 'debuggerlaw12.UnrollRaw', WHERE WHAT IT READS IS OF BULK AT MOST 1048576: true; the input reads as it did. -/
def unrollRawUptoRow : OpenClaim := { program := "ytlkcidmmpeebeaa", sum := "e3d50c518f0b7140842a483e4e4e986d51048acb2c0699d05df3c2e994083e55", func := "debugger/debuggerlaw12.UnrollRaw", spec := "unrollRaw", unfollowed := true, recurses := true, plainKeys := false, apart := false, narrowed := true }
def UnrollRawUptoSaid : Prop := unrollRawUptoRow.holds Try.pinned (OpenSpec.upto unrollRawSpec)

/-- 'debuggerlaw12.UnrollCounts', WHERE WHAT IT READS IS OF BULK AT MOST 1048576: true; the input reads as it did. -/
def unrollCountsUptoRow : OpenClaim := { program := "ytlkcidmmpeebeaa", sum := "e3d50c518f0b7140842a483e4e4e986d51048acb2c0699d05df3c2e994083e55", func := "debugger/debuggerlaw12.UnrollCounts", spec := "unrollCounts", unfollowed := true, recurses := true, plainKeys := false, apart := false, narrowed := true }
def UnrollCountsUptoSaid : Prop := unrollCountsUptoRow.holds Try.pinned (OpenSpec.upto unrollCountsSpec)

/-- 'debuggerlaw15.AllocRaw', WHERE WHAT IT READS IS OF BULK AT MOST 1048576: true; the input reads as it did. -/
def allocRawUptoRow : OpenClaim := { program := "ytlkcidmmpeebeaa", sum := "e3d50c518f0b7140842a483e4e4e986d51048acb2c0699d05df3c2e994083e55", func := "debugger/debuggerlaw15.AllocRaw", spec := "allocRaw", unfollowed := true, recurses := true, plainKeys := false, apart := false, narrowed := true }
def AllocRawUptoSaid : Prop := allocRawUptoRow.holds Try.pinned (OpenSpec.upto allocRawSpec)

/-- 'debuggerlaw15.AllocMany', WHERE WHAT IT READS IS OF BULK AT MOST 1048576: true; the input reads as it did. -/
def allocManyUptoRow : OpenClaim := { program := "ytlkcidmmpeebeaa", sum := "e3d50c518f0b7140842a483e4e4e986d51048acb2c0699d05df3c2e994083e55", func := "debugger/debuggerlaw15.AllocMany", spec := "allocMany", unfollowed := true, recurses := true, plainKeys := false, apart := false, narrowed := true }
def AllocManyUptoSaid : Prop := allocManyUptoRow.holds Try.pinned (OpenSpec.upto allocManySpec)

/-- 'debuggerlaw09.MergeRaw', WHERE WHAT IT READS IS OF BULK AT MOST 1048576: true; the input reads as it did. -/
def mergeRawUptoRow : OpenClaim := { program := "ytlkcidmmpeebeaa", sum := "e3d50c518f0b7140842a483e4e4e986d51048acb2c0699d05df3c2e994083e55", func := "debugger/debuggerlaw09.MergeRaw", spec := "mergeRaw", unfollowed := true, recurses := true, plainKeys := false, apart := false, narrowed := true }
def MergeRawUptoSaid : Prop := mergeRawUptoRow.holds Try.pinned (OpenSpec.upto mergeRawSpec)

/-- 'debuggerlaw09.MergeChain', WHERE WHAT IT READS IS OF BULK AT MOST 1048576: true; the input reads as it did. -/
def mergeChainUptoRow : OpenClaim := { program := "ytlkcidmmpeebeaa", sum := "e3d50c518f0b7140842a483e4e4e986d51048acb2c0699d05df3c2e994083e55", func := "debugger/debuggerlaw09.MergeChain", spec := "mergeChain", unfollowed := true, recurses := true, plainKeys := false, apart := false, narrowed := true }
def MergeChainUptoSaid : Prop := mergeChainUptoRow.holds Try.pinned (OpenSpec.upto mergeChainSpec)

/-- 'debuggerlaw13.SinkRaw', WHERE WHAT IT READS IS OF BULK AT MOST 1048576: true; the input reads as it did. -/
def sinkRawUptoRow : OpenClaim := { program := "ytlkcidmmpeebeaa", sum := "e3d50c518f0b7140842a483e4e4e986d51048acb2c0699d05df3c2e994083e55", func := "debugger/debuggerlaw13.SinkRaw", spec := "sinkRaw", inPlace := ["slices.overlaps[debugger/api.Op]"], unfollowed := true, recurses := true, plainKeys := false, apart := false, narrowed := true }
def SinkRawUptoSaid : Prop := sinkRawUptoRow.holds Try.pinned (OpenSpec.upto sinkRawSpec)

/-- 'debuggerlaw13.SinkShows', WHERE WHAT IT READS IS OF BULK AT MOST 1048576: true; the input reads as it did. -/
def sinkShowsUptoRow : OpenClaim := { program := "ytlkcidmmpeebeaa", sum := "e3d50c518f0b7140842a483e4e4e986d51048acb2c0699d05df3c2e994083e55", func := "debugger/debuggerlaw13.SinkShows", spec := "sinkShows", inPlace := ["slices.overlaps[debugger/api.Op]"], unfollowed := true, recurses := true, plainKeys := false, apart := false, narrowed := true }
def SinkShowsUptoSaid : Prop := sinkShowsUptoRow.holds Try.pinned (OpenSpec.upto sinkShowsSpec)

end Rows
end Go.Proofs.Ytlkcidmmpeebeaa
