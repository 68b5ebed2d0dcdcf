/-
  NARROWER THAN 'FOR EVERY INPUT', by the rows' own cells (each row's printed sentence says how): BreakpointMoves: laid · BreakpointKeeps: laid · BreakpointShifts: laid · BreakpointHits: laid · BreakpointCounts: laid.
  DERIVED. THE GIVEN ROWS OF THIS SEAT. 5 by the template 'for every input the law returns true; each argument reads behind the call as it read before'; 0 by the template 'total and deterministic' (their statements: YtlaiafalilcgjaaGreatDoorTotals.lean).
  GIVEN WITH THE SEED: the statements are not yours to turn. If you find one false, say at which input.
  Laid BY PROGRAM, IN A SANDBOX (cutbox-rows.mjs): the forced cells as the released guide's own fill.sh prints them over the translation 1987181e6d005c37… (all of the seat's roots in one cut). By AI agents, Wed Nov 11 2026. No macro, syntax, notation, axiom, sorry.
-/
import Derived.Test.YtlaiafalilcgjaaGreatDoorChecked
import GoSem.PinnedTables
import GoSem.Claim
import GoSem.ClaimJoined
import GoSem.ClaimMapViews
import Derived.JoinedTies
import Derived.KernelRfl
namespace Go.Proofs.YtlaiafalilcgjaaGreatDoor
/- THE CELL 'sum', in the pinned program and in every row, IS THE sha256 OF THE DUMP (.gsa) THAT YtlaiafalilcgjaaGreatDoorProg.lean LOADS. Nothing in Lean hashes anything: it is a label: what it is worth is what the hold of that sum in a sandbox is worth. -/
noncomputable def Tryz.pinned : Pinned := { name := "ytlaiafalilcgjaagreatdoor", sum := "1987181e6d005c3743c2fbb07353ab292ff54313d2d9cd2a5971bb4c55ff7886", checked := Tryz.checked }
namespace Rows
def none {H : Type} : Left H := { results := [], args := [] }

/- WHAT THE LISTED PACKAGE-LEVEL VARIABLES READ AS WHEN THE CALL BEGINS. Each datum BY PROGRAM (the guide's laid-datum.mjs) off the statement by which the dump's own 'gosem.cut.vars' lays the variable. In a bare row this is a premise. The card (YtlaiafalilcgjaaGreatDoorCards.lean) ties it to the program's text. -/
def laid_unicode_utf8_acceptRanges {H : Type} : DataW H := .agg [.agg [.lit (.int .u8 128), .lit (.int .u8 191)], .agg [.lit (.int .u8 160), .lit (.int .u8 191)], .agg [.lit (.int .u8 128), .lit (.int .u8 159)], .agg [.lit (.int .u8 144), .lit (.int .u8 191)], .agg [.lit (.int .u8 128), .lit (.int .u8 143)], .agg [.lit (.int .u8 0), .lit (.int .u8 0)], .agg [.lit (.int .u8 0), .lit (.int .u8 0)], .agg [.lit (.int .u8 0), .lit (.int .u8 0)], .agg [.lit (.int .u8 0), .lit (.int .u8 0)], .agg [.lit (.int .u8 0), .lit (.int .u8 0)], .agg [.lit (.int .u8 0), .lit (.int .u8 0)], .agg [.lit (.int .u8 0), .lit (.int .u8 0)], .agg [.lit (.int .u8 0), .lit (.int .u8 0)], .agg [.lit (.int .u8 0), .lit (.int .u8 0)], .agg [.lit (.int .u8 0), .lit (.int .u8 0)], .agg [.lit (.int .u8 0), .lit (.int .u8 0)]]
/-- One of Go's own tables, pinned by name: the form's constant. -/
def laid_unicode_utf8_first : DataW Unit := Go.Pinned.utf8First

/-- 'debuggerlaw40.BreakpointMoves': WHATEVER THE INPUT: true; the input reads as it did. -/
def breakpointMovesSpec : ChangeSpec := { name := "breakpointMoves", fn := fun _ => fun
  | [d1, d2, d3, d4, d5] => { results := [.lit (.bool true)], args := [d1, d2, d3, d4, d5] }
  | _ => none }
def breakpointMovesRow : OpenClaim := { program := "ytlaiafalilcgjaagreatdoor", sum := "1987181e6d005c3743c2fbb07353ab292ff54313d2d9cd2a5971bb4c55ff7886", func := "debugger/debuggerlaw40.BreakpointMoves", spec := "breakpointMoves", inPlace := ["internal/bytealg.CountString", "internal/bytealg.IndexByteString", "internal/bytealg.IndexString"], unfollowed := true, recurses := true, named := ["internal/bytealg.MaxLen", "unicode/utf8.first", "unicode/utf8.acceptRanges"], apart := false, laid := [("unicode/utf8.acceptRanges", laid_unicode_utf8_acceptRanges), ("unicode/utf8.first", laid_unicode_utf8_first)] }
def BreakpointMovesSaid : Prop := breakpointMovesRow.holds Tryz.pinned (OpenSpec.ofChange breakpointMovesSpec)

/-- ITS FALSE NEIGHBOUR: 'it returns false'. Refute it at one input. -/
def breakpointMovesWrong : ChangeSpec := { name := "breakpointMoves", fn := fun _ => fun
  | [d1, d2, d3, d4, d5] => { results := [.lit (.bool false)], args := [d1, d2, d3, d4, d5] }
  | _ => none }
def BreakpointMovesWrongFalsely : Prop := breakpointMovesRow.holds Tryz.pinned (OpenSpec.ofChange breakpointMovesWrong)

/-- 'debuggerlaw40.BreakpointKeeps': WHATEVER THE INPUT: true; the input reads as it did. -/
def breakpointKeepsSpec : ChangeSpec := { name := "breakpointKeeps", fn := fun _ => fun
  | [d1, d2] => { results := [.lit (.bool true)], args := [d1, d2] }
  | _ => none }
def breakpointKeepsRow : OpenClaim := { program := "ytlaiafalilcgjaagreatdoor", sum := "1987181e6d005c3743c2fbb07353ab292ff54313d2d9cd2a5971bb4c55ff7886", func := "debugger/debuggerlaw40.BreakpointKeeps", spec := "breakpointKeeps", inPlace := ["internal/bytealg.CountString", "internal/bytealg.IndexByteString", "internal/bytealg.IndexString"], unfollowed := true, recurses := true, named := ["internal/bytealg.MaxLen", "unicode/utf8.first", "unicode/utf8.acceptRanges"], apart := false, laid := [("unicode/utf8.acceptRanges", laid_unicode_utf8_acceptRanges), ("unicode/utf8.first", laid_unicode_utf8_first)] }
def BreakpointKeepsSaid : Prop := breakpointKeepsRow.holds Tryz.pinned (OpenSpec.ofChange breakpointKeepsSpec)

/-- ITS FALSE NEIGHBOUR: 'it returns false'. Refute it at one input. -/
def breakpointKeepsWrong : ChangeSpec := { name := "breakpointKeeps", fn := fun _ => fun
  | [d1, d2] => { results := [.lit (.bool false)], args := [d1, d2] }
  | _ => none }
def BreakpointKeepsWrongFalsely : Prop := breakpointKeepsRow.holds Tryz.pinned (OpenSpec.ofChange breakpointKeepsWrong)

/-- 'debuggerlaw40.BreakpointShifts': WHATEVER THE INPUT: true; the input reads as it did. -/
def breakpointShiftsSpec : ChangeSpec := { name := "breakpointShifts", fn := fun _ => fun
  | [d1, d2, d3, d4] => { results := [.lit (.bool true)], args := [d1, d2, d3, d4] }
  | _ => none }
def breakpointShiftsRow : OpenClaim := { program := "ytlaiafalilcgjaagreatdoor", sum := "1987181e6d005c3743c2fbb07353ab292ff54313d2d9cd2a5971bb4c55ff7886", func := "debugger/debuggerlaw40.BreakpointShifts", spec := "breakpointShifts", inPlace := ["internal/bytealg.CountString", "internal/bytealg.IndexByteString", "internal/bytealg.IndexString"], unfollowed := true, recurses := true, named := ["internal/bytealg.MaxLen", "unicode/utf8.first", "unicode/utf8.acceptRanges"], apart := false, laid := [("unicode/utf8.acceptRanges", laid_unicode_utf8_acceptRanges), ("unicode/utf8.first", laid_unicode_utf8_first)] }
def BreakpointShiftsSaid : Prop := breakpointShiftsRow.holds Tryz.pinned (OpenSpec.ofChange breakpointShiftsSpec)

/-- ITS FALSE NEIGHBOUR: 'it returns false'. Refute it at one input. -/
def breakpointShiftsWrong : ChangeSpec := { name := "breakpointShifts", fn := fun _ => fun
  | [d1, d2, d3, d4] => { results := [.lit (.bool false)], args := [d1, d2, d3, d4] }
  | _ => none }
def BreakpointShiftsWrongFalsely : Prop := breakpointShiftsRow.holds Tryz.pinned (OpenSpec.ofChange breakpointShiftsWrong)

/-- 'debuggerlaw40.BreakpointHits': WHATEVER THE INPUT: true; the input reads as it did. -/
def breakpointHitsSpec : ChangeSpec := { name := "breakpointHits", fn := fun _ => fun
  | [d1, d2, d3, d4, d5, d6, d7] => { results := [.lit (.bool true)], args := [d1, d2, d3, d4, d5, d6, d7] }
  | _ => none }
def breakpointHitsRow : OpenClaim := { program := "ytlaiafalilcgjaagreatdoor", sum := "1987181e6d005c3743c2fbb07353ab292ff54313d2d9cd2a5971bb4c55ff7886", func := "debugger/debuggerlaw40.BreakpointHits", spec := "breakpointHits", inPlace := ["internal/bytealg.CountString", "internal/bytealg.IndexByteString", "internal/bytealg.IndexString"], unfollowed := true, recurses := true, named := ["internal/bytealg.MaxLen", "unicode/utf8.first", "unicode/utf8.acceptRanges"], apart := false, laid := [("unicode/utf8.acceptRanges", laid_unicode_utf8_acceptRanges), ("unicode/utf8.first", laid_unicode_utf8_first)] }
def BreakpointHitsSaid : Prop := breakpointHitsRow.holds Tryz.pinned (OpenSpec.ofChange breakpointHitsSpec)

/-- ITS FALSE NEIGHBOUR: 'it returns false'. Refute it at one input. -/
def breakpointHitsWrong : ChangeSpec := { name := "breakpointHits", fn := fun _ => fun
  | [d1, d2, d3, d4, d5, d6, d7] => { results := [.lit (.bool false)], args := [d1, d2, d3, d4, d5, d6, d7] }
  | _ => none }
def BreakpointHitsWrongFalsely : Prop := breakpointHitsRow.holds Tryz.pinned (OpenSpec.ofChange breakpointHitsWrong)

/-- 'debuggerlaw40.BreakpointCounts': WHATEVER THE INPUT: true; the input reads as it did. -/
def breakpointCountsSpec : ChangeSpec := { name := "breakpointCounts", fn := fun _ => fun
  | [d1, d2] => { results := [.lit (.bool true)], args := [d1, d2] }
  | _ => none }
def breakpointCountsRow : OpenClaim := { program := "ytlaiafalilcgjaagreatdoor", sum := "1987181e6d005c3743c2fbb07353ab292ff54313d2d9cd2a5971bb4c55ff7886", func := "debugger/debuggerlaw40.BreakpointCounts", spec := "breakpointCounts", inPlace := ["internal/bytealg.CountString", "internal/bytealg.IndexByteString", "internal/bytealg.IndexString"], unfollowed := true, recurses := true, named := ["internal/bytealg.MaxLen", "unicode/utf8.first", "unicode/utf8.acceptRanges"], apart := false, laid := [("unicode/utf8.acceptRanges", laid_unicode_utf8_acceptRanges), ("unicode/utf8.first", laid_unicode_utf8_first)] }
def BreakpointCountsSaid : Prop := breakpointCountsRow.holds Tryz.pinned (OpenSpec.ofChange breakpointCountsSpec)

/-- ITS FALSE NEIGHBOUR: 'it returns false'. Refute it at one input. -/
def breakpointCountsWrong : ChangeSpec := { name := "breakpointCounts", fn := fun _ => fun
  | [d1, d2] => { results := [.lit (.bool false)], args := [d1, d2] }
  | _ => none }
def BreakpointCountsWrongFalsely : Prop := breakpointCountsRow.holds Tryz.pinned (OpenSpec.ofChange breakpointCountsWrong)

/- THE SECOND FORM. 'bulk': how many values and letters a reading holds, each counted each time it is reached (what is shared counts as often as it is met; a slice's spare places count too). A statement '..UptoSaid' is the law's where the arguments, and the package variables that the reading takes, are together of bulk at most 1048576: NARROWER than '..Said'. Prove '..Said' where nothing that the law and all that it calls make is longer than what came in: it says more and counts as full. Else prove '..UptoSaid'. A law counts once. -/
mutual
def uptoBulk {H : Type} : DataW H → Nat
  | .lit (.string bytes) => bytes.length + 1
  | .lit _ => 1
  | .nil => 1
  | .ptr d => uptoBulk d + 1
  | .slice elems spare => uptoBulkAll elems + uptoBulkAll spare + 1
  | .agg parts => uptoBulkAll parts + 1
  | .iface _ d => uptoBulk d + 1
  | .map entries => uptoBulkEntries entries + 1
  | .held _ => 1
def uptoBulkAll {H : Type} : List (DataW H) → Nat
  | [] => 0
  | d :: r => uptoBulk d + uptoBulkAll r
def uptoBulkEntries {H : Type} : List (Lit × DataW H) → Nat
  | [] => 0
  | x :: r => uptoBulkEntry x + uptoBulkEntries r
def uptoBulkEntry {H : Type} : Lit × DataW H → Nat
  | (.string bytes, d) => bytes.length + uptoBulk d + 1
  | (_, d) => uptoBulk d + 1
 end
def uptoSmall : (H : Type) → List (DataW H) → Bool := fun _ ds => decide (uptoBulkAll ds ≤ 1048576)
def OpenSpec.upto (s : _root_.Go.ChangeSpec) : _root_.Go.OpenSpec := { _root_.Go.OpenSpec.ofChange s with cond := some uptoSmall }

/-- 'debuggerlaw40.BreakpointMoves', WHERE WHAT IT READS IS OF BULK AT MOST 1048576: true; the input reads as it did. -/
def breakpointMovesUptoRow : OpenClaim := { program := "ytlaiafalilcgjaagreatdoor", sum := "1987181e6d005c3743c2fbb07353ab292ff54313d2d9cd2a5971bb4c55ff7886", func := "debugger/debuggerlaw40.BreakpointMoves", spec := "breakpointMoves", inPlace := ["internal/bytealg.CountString", "internal/bytealg.IndexByteString", "internal/bytealg.IndexString"], unfollowed := true, recurses := true, named := ["internal/bytealg.MaxLen", "unicode/utf8.first", "unicode/utf8.acceptRanges"], apart := false, laid := [("unicode/utf8.acceptRanges", laid_unicode_utf8_acceptRanges), ("unicode/utf8.first", laid_unicode_utf8_first)], narrowed := true }
def BreakpointMovesUptoSaid : Prop := breakpointMovesUptoRow.holds Tryz.pinned (OpenSpec.upto breakpointMovesSpec)

/-- 'debuggerlaw40.BreakpointKeeps', WHERE WHAT IT READS IS OF BULK AT MOST 1048576: true; the input reads as it did. -/
def breakpointKeepsUptoRow : OpenClaim := { program := "ytlaiafalilcgjaagreatdoor", sum := "1987181e6d005c3743c2fbb07353ab292ff54313d2d9cd2a5971bb4c55ff7886", func := "debugger/debuggerlaw40.BreakpointKeeps", spec := "breakpointKeeps", inPlace := ["internal/bytealg.CountString", "internal/bytealg.IndexByteString", "internal/bytealg.IndexString"], unfollowed := true, recurses := true, named := ["internal/bytealg.MaxLen", "unicode/utf8.first", "unicode/utf8.acceptRanges"], apart := false, laid := [("unicode/utf8.acceptRanges", laid_unicode_utf8_acceptRanges), ("unicode/utf8.first", laid_unicode_utf8_first)], narrowed := true }
def BreakpointKeepsUptoSaid : Prop := breakpointKeepsUptoRow.holds Tryz.pinned (OpenSpec.upto breakpointKeepsSpec)

/-- 'debuggerlaw40.BreakpointShifts', WHERE WHAT IT READS IS OF BULK AT MOST 1048576: true; the input reads as it did. -/
def breakpointShiftsUptoRow : OpenClaim := { program := "ytlaiafalilcgjaagreatdoor", sum := "1987181e6d005c3743c2fbb07353ab292ff54313d2d9cd2a5971bb4c55ff7886", func := "debugger/debuggerlaw40.BreakpointShifts", spec := "breakpointShifts", inPlace := ["internal/bytealg.CountString", "internal/bytealg.IndexByteString", "internal/bytealg.IndexString"], unfollowed := true, recurses := true, named := ["internal/bytealg.MaxLen", "unicode/utf8.first", "unicode/utf8.acceptRanges"], apart := false, laid := [("unicode/utf8.acceptRanges", laid_unicode_utf8_acceptRanges), ("unicode/utf8.first", laid_unicode_utf8_first)], narrowed := true }
def BreakpointShiftsUptoSaid : Prop := breakpointShiftsUptoRow.holds Tryz.pinned (OpenSpec.upto breakpointShiftsSpec)

/-- 'debuggerlaw40.BreakpointHits', WHERE WHAT IT READS IS OF BULK AT MOST 1048576: true; the input reads as it did. -/
def breakpointHitsUptoRow : OpenClaim := { program := "ytlaiafalilcgjaagreatdoor", sum := "1987181e6d005c3743c2fbb07353ab292ff54313d2d9cd2a5971bb4c55ff7886", func := "debugger/debuggerlaw40.BreakpointHits", spec := "breakpointHits", inPlace := ["internal/bytealg.CountString", "internal/bytealg.IndexByteString", "internal/bytealg.IndexString"], unfollowed := true, recurses := true, named := ["internal/bytealg.MaxLen", "unicode/utf8.first", "unicode/utf8.acceptRanges"], apart := false, laid := [("unicode/utf8.acceptRanges", laid_unicode_utf8_acceptRanges), ("unicode/utf8.first", laid_unicode_utf8_first)], narrowed := true }
def BreakpointHitsUptoSaid : Prop := breakpointHitsUptoRow.holds Tryz.pinned (OpenSpec.upto breakpointHitsSpec)

/-- 'debuggerlaw40.BreakpointCounts', WHERE WHAT IT READS IS OF BULK AT MOST 1048576: true; the input reads as it did. -/
def breakpointCountsUptoRow : OpenClaim := { program := "ytlaiafalilcgjaagreatdoor", sum := "1987181e6d005c3743c2fbb07353ab292ff54313d2d9cd2a5971bb4c55ff7886", func := "debugger/debuggerlaw40.BreakpointCounts", spec := "breakpointCounts", inPlace := ["internal/bytealg.CountString", "internal/bytealg.IndexByteString", "internal/bytealg.IndexString"], unfollowed := true, recurses := true, named := ["internal/bytealg.MaxLen", "unicode/utf8.first", "unicode/utf8.acceptRanges"], apart := false, laid := [("unicode/utf8.acceptRanges", laid_unicode_utf8_acceptRanges), ("unicode/utf8.first", laid_unicode_utf8_first)], narrowed := true }
def BreakpointCountsUptoSaid : Prop := breakpointCountsUptoRow.holds Tryz.pinned (OpenSpec.upto breakpointCountsSpec)

end Rows
end Go.Proofs.YtlaiafalilcgjaaGreatDoor
