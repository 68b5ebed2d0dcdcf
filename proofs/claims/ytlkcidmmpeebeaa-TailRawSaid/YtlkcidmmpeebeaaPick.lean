/- Proved: where the block lies that a tail call leads to. -/
import Derived.Test.YtlkcidmmpeebeaaTl
set_option linter.unusedVariables false
set_option linter.unusedSimpArgs false
namespace Go.Proofs.Ytlkcidmmpeebeaa
open Go.RowKit
set_option maxRecDepth 100000
theorem ix_at {b off size j len:Nat} {i:Int} (e:(j:Int)=i) (h:j<len):0≤i∧i<(len:Int)∧(⟨b,off,none⟩:Addr).add (i.toNat*size)=⟨b,off+j*size,none⟩:=by
 subst e; exact SX.ix_ok h
theorem pick_blk {c:CodeD} {t:Int} (h:R.check c t=0) {y:BlockD} {k:Nat} (hy:c.blocks[k]?=some y):∃ (x:BlockD) (j:Nat),c.blocks[j]?=some x∧(y.term.kind=3→(j:Int)=y.term.b0):=by
 by_cases h3:y.term.kind=3
 ·have:=check_in h hy h3
  obtain ⟨x,hx⟩:=get_of_lt (l:=c.blocks) (k:=y.term.b0.toNat) (by omega)
  exact ⟨x,_,hx,fun _=>by omega⟩
 ·exact ⟨y,k,hy,fun q=>absurd q h3⟩
theorem tail_step {c:CodeD} {k j:Nat} {y o x:BlockD} {q:Bool} (hy:c.blocks[k]?=some y) (hx:c.blocks[j]?=some x) (hj:y.term.kind=3→(j:Int)=y.term.b0) (h:((((y.term.kind==3)&&decide (y.term.b1<0))&&((y.term.args0.length:Int)==0))&&retB x)=q) (e:(if q=true then tailY y else y)=o):(c.blocks.take (k+1)).map (tailB c)=(c.blocks.take k).map (tailB c)++[o]:=by
 have h1:isTailD c y.term=q:=by
  rw [← h]
  exact (isTail_ref (fun h3=>by have:=hj h3; omega) (fun h3=>by rw [← hj h3,Int.toNat_natCast]; exact hx)).symm
 rw [List.take_add_one,hy,List.map_append]
 simp only [Option.toList_some,List.map_cons,List.map_nil,tailB,h1,e]
end Go.Proofs.Ytlkcidmmpeebeaa
