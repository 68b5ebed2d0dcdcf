/- Proved: what was there before stays,in a world that has grown. Program-independent. -/
import Derived.Test.YtlkcidmmpeebeaaDk
set_option linter.unusedVariables false
set_option linter.unusedSimpArgs false
namespace Go.Proofs.Ytlkcidmmpeebeaa
open Go.RowKit
theorem cell_below {w w':World} (hb:Below w.heap.size w w') {a:Addr} {v:Value} (h:w.cell? a=some v):w'.cell? a=some v :=
  (hb.cell (World.block_lt_of_cell? w a h)).trans h
end Go.Proofs.Ytlkcidmmpeebeaa
