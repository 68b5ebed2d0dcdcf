/- Proved: the code with blocks joined,as debuggerref09 joins them,on plain data. No program in sight. -/
import Derived.Test.YtlkcidmmpeebeaaPUnC
set_option linter.unusedVariables false
set_option linter.unusedSimpArgs false
namespace Go.Proofs.Ytlkcidmmpeebeaa
open Go.RowKit Go.PX

/-! a block removed -/
def decE (t x:Int):Int:=if decide (t<x)=true then IntKind.i64.wrap (x-1) else x
def decB (t:Int) (b:BlockD):BlockD:={ b with term:={ b.term with b0:=decE t b.term.b0,b1:=decE t b.term.b1 } }
def remK (c:CodeD) (t:Int) (k:Nat):List BlockD:=((c.blocks.take k).eraseIdx t.toNat).map (decB t)
def remD (c:CodeD) (t:Int):CodeD:={ c with blocks:=remK c t c.blocks.length }
theorem remD_len {c:CodeD} {t:Int} (h0:0≤t) (h:t<(c.blocks.length:Int)):(remD c t).blocks.length+1=c.blocks.length:=by
  show (remK c t c.blocks.length).length+1=_
  unfold remK
  rw [List.length_map,List.take_of_length_le (Nat.le_refl _),List.length_eraseIdx_of_lt (by omega)]; omega

/-! one pair joined -/
def stayT (c:CodeD) (k:Nat) (y:BlockD):Bool:=((y.term.kind != 1)||(y.term.b0==((k:Nat):Int)))||(edgesK c y.term.b0 c.blocks.length != 1)
def stayD (c:CodeD) (k:Nat) (y:BlockD):Bool:=stayT c k y||!(match c.blocks[y.term.b0.toNat]? with | some x=>joinOk y x | none=>false)
def oneK (c:CodeD) (k:Nat) (y x:BlockD):CodeD:=remD { c with blocks:=c.blocks.set k (joinD y x) } y.term.b0
def oneD (c:CodeD):Option CodeD :=
  match (List.range c.blocks.length).find? (fun k=>match c.blocks[k]? with | some y=>!stayD c k y | none=>false) with
  | none=>none
  | some k=>match c.blocks[k]? with
    | none=>none
    | some y=>match c.blocks[y.term.b0.toNat]? with
      | none=>none
      | some x=>some (oneK c k y x)
def mergeN:Nat→CodeD→CodeD
  | 0,c=>c
  | n+1,c=>match oneD c with | none=>c | some d=>mergeN n d
/-- what the walk needs of the code at each round -/
structure JOk (c:CodeD):Prop where
  len:c.blocks.length≤400
  blk:∀ (k:Nat) (y:BlockD),c.blocks[k]?=some y→(0≤y.params∧y.params≤999)∧y.ops.length≤6000∧(y.term.args.length≤4∧y.term.args0.length≤999∧y.term.args1.length≤999)∧-1≤topD y∧topD y≤9999
  jump:∀ (k:Nat) (y:BlockD),c.blocks[k]?=some y→∃ (x:BlockD) (j:Nat),c.blocks[j]?=some x∧(y.term.kind=1→(j:Int)=y.term.b0)
theorem one_len {c d:CodeD} (hj:JOk c) (h:oneD c=some d):d.blocks.length+1=c.blocks.length:=by
  unfold oneD at h
  split at h
  · cases h
  split at h
  · cases h
  rename_i _ k hk _ y hy
  split at h
  · cases h
  rename_i _ x hx
  injection h with h; subst h
  have q:=List.find?_some hk
  simp only [hy,Bool.not_eq_true',stayD,Bool.or_eq_false_iff] at q
  have k1:y.term.kind=1:=by
    have:=q.1
    simp only [stayT,Bool.or_eq_false_iff,bne_eq_false_iff_eq] at this
    exact this.1.1
  obtain ⟨x',j,hx',hj'⟩:=hj.jump k y hy
  have:=hj' k1
  have hl:=(List.getElem?_eq_some_iff.1 hx').1
  unfold oneK
  rw [remD_len (by omega) (by simp only [List.length_set]; omega)]
  simp
end Go.Proofs.Ytlkcidmmpeebeaa
