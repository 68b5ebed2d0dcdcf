/- Proved: what the program's map of definitions says is what the plain check says. -/
import Derived.Test.YtlkcidmmpeebeaaRTerm
set_option linter.unusedVariables false
set_option linter.unusedSimpArgs false
namespace Go.Proofs.Ytlkcidmmpeebeaa
open Go.RowKit
/-- what the map has behind the first k operations -/
def dk (ops:List OpD) (k:Nat):List (Int × Int):=(List.range k).filterMap (fun i=>match ops[i]? with | some o=>if P.fDst o.kind=true then some (o.dst,(i:Int)) else none | none=>none)
theorem dk_zero (ops:List OpD):dk ops 0=[]:=rfl
theorem dk_yes {ops:List OpD} {k:Nat} {o:OpD} (hx:ops[k]?=some o) (hd:P.fDst o.kind=true):dk ops (k+1)=dk ops k++[(o.dst,(k:Int))]:=by
  unfold dk; rw [List.range_succ,List.filterMap_append]; simp [hx,hd]
theorem dk_no {ops:List OpD} {k:Nat} {o:OpD} (hx:ops[k]?=some o) (hd:P.fDst o.kind=false):dk ops (k+1)=dk ops k:=by
  unfold dk; rw [List.range_succ,List.filterMap_append]; simp [hx,hd]
theorem findD_append (D:List (Int × Int)) (p:Int × Int) (v:Int):findD (D++[p]) v=(match findD D v with | some x=>some x | none=>if (v==p.1)=true then some p.2 else none):=by
  unfold findD
  rw [List.find?_append]
  cases h:D.find? (fun q=>v==q.1) with
  | some x=>simp
  | none=>cases h':(v==p.1) <;> simp [List.find?_cons,h']
/-- the first k operations' answer -/
def fi (ops:List OpD) (k:Nat) (v:Int):Option Int:=((List.range k).find? (fun i=>match ops[i]? with | some o=>P.fDst o.kind&&o.dst==v | none=>false)).map (fun i:Nat=>(i:Int))
theorem findD_dk (ops:List OpD) (v:Int):∀ k,findD (dk ops k) v=fi ops k v
  | 0=>rfl
  | k+1=>by
    have ih:=findD_dk ops v k
    unfold fi
    rw [List.range_succ,List.find?_append]
    have ih':findD (dk ops k) v=((List.range k).find? (fun i=>match ops[i]? with | some o=>P.fDst o.kind&&o.dst==v | none=>false)).map (fun i:Nat=>(i:Int)):=ih
    cases hx:ops[k]? with
    | none =>
      have e:dk ops (k+1)=dk ops k:=by unfold dk; rw [List.range_succ,List.filterMap_append]; simp [hx]
      rw [e,ih']; simp [hx]
    | some o =>
      cases hd:P.fDst o.kind with
      | false=>rw [dk_no hx hd,ih']; simp [hx,hd]
      | true =>
        rw [dk_yes hx hd,findD_append,ih']
        cases hf:(List.range k).find? (fun i=>match ops[i]? with | some o=>P.fDst o.kind&&o.dst==v | none=>false) with
        | some j=>simp
        | none =>
          have e:(v==o.dst)=(o.dst==v):=by rw [Bool.eq_iff_iff,beq_iff_eq,beq_iff_eq]; exact ⟨Eq.symm,Eq.symm⟩
          simp only [Option.map_none,Option.none_or,hx,hd,Bool.true_and,List.find?_cons,List.find?_nil,e]
          cases (o.dst==v) <;> simp
theorem fi_defined (ops:List OpD) (v:Int):fi ops ops.length v=(P.definedAt ops v).map (fun i:Nat=>(i:Int)):=by
  unfold fi
  congr 1
  cases h:P.definedAt ops v with
  | none =>
    unfold P.definedAt at h
    rw [List.findIdx?_eq_none_iff] at h
    rw [List.find?_eq_none]
    intro i hi
    cases hx:ops[i]? with
    | none=>simp
    | some o =>
      have:=h o (List.mem_of_getElem? hx)
      simp only [this,Bool.false_eq_true,not_false_eq_true]
  | some j =>
    unfold P.definedAt at h
    rw [List.findIdx?_eq_some_iff_getElem] at h
    obtain ⟨hj,hp,hmin⟩:=h
    rw [List.find?_range_eq_some]
    refine ⟨by rw [List.getElem?_eq_getElem hj]; exact hp,by simpa using hj,fun i hi=>?_⟩
    rw [List.getElem?_eq_getElem (by omega)]
    have:=hmin i hi
    simp only [Bool.not_eq_true] at this ⊢
    simp only [this,Bool.not_false]
theorem hasD_eq (ps:Int) (ops:List OpD) (v:Int) (n:Nat):hasD ps (dk ops ops.length) v (n:Int)=P.has ps ops v n:=by
  unfold hasD P.has
  rw [findD_dk,fi_defined]
  congr 1
  cases P.definedAt ops v with
  | none=>simp
  | some i=>simp
theorem rightOpD_eq (c:CodeD) (b:BlockD) (o:OpD) (i:Nat):rightOpD c b.params (dk b.ops b.ops.length) o (i:Int)=P.rightOp c b o i:=by
  unfold rightOpD P.rightOp
  rw [hasD_eq,hasD_eq,bne_of (f_a o.kind),bne_of (f_b o.kind),bne_of (f_ctx o.kind)]
  simp only [Bool.or_assoc]
  split
  · rfl
  · cases h15:(o.kind==15) <;> cases h16:(o.kind==16) <;> cases h17:(o.kind==17) <;> cases h19:(o.kind==19) <;> cases h20:(o.kind==20) <;> simp
theorem rightBindD_eq (c:CodeD) (b:BlockD) (o:OpD) (n:Nat):rightBindD c b.params (dk b.ops b.ops.length) o (n:Int)=P.rightBind c b o n:=by
  unfold rightBindD P.rightBind; rw [hasD_eq]
theorem rightTermH_eq (c:CodeD) (b:BlockD) (n:Nat):rightTermH c (fun x=>hasD b.params (dk b.ops b.ops.length) x (n:Int)) b.term=P.rightTerm c b n:=by
  have:(fun x=>hasD b.params (dk b.ops b.ops.length) x (n:Int))=(fun v=>P.has b.params b.ops v n):=funext fun v=>hasD_eq _ _ _ _
  rw [this]; rfl
/-- one definition -/
def okDef (params:Int) (ops:List OpD) (i:Nat) (o:OpD):Bool:=!P.fDst o.kind||!(((findD (dk ops i) o.dst).isSome||decide (o.dst<params))||decide (9999<o.dst))
theorem find_dsts (ops:List OpD) (v:Int):∀ k,k≤ops.length→(findD (dk ops k) v).isSome=(dsts (ops.take k)).contains v
  | 0,_=>by simp [dk_zero,findD,dsts]
  | k+1,hk=>by
    have ih:=find_dsts ops v k (by omega)
    have hx:ops[k]?=some ops[k]:=List.getElem?_eq_getElem (by omega)
    rw [List.take_succ_eq_append_getElem (by omega),dsts_snoc]
    cases hd:P.fDst ops[k].kind with
    | false =>
      have hd':R.defines ops[k].kind=false:=hd
      rw [dk_no hx hd,ih,hd']; simp
    | true =>
      have hd':R.defines ops[k].kind=true:=hd
      rw [dk_yes hx hd,findD_append,hd']
      simp only [if_true]
      have hc:(dsts (ops.take k)++[ops[k].dst]).contains v=((dsts (ops.take k)).contains v||v==ops[k].dst):=by
        rw [Bool.eq_iff_iff]; simp
      rw [hc,← ih]
      cases hf:findD (dk ops k) v with
      | some x=>simp
      | none=>cases hv:(v==ops[k].dst) <;> simp
theorem defs_from (params:Int):∀ (os pre:List OpD),P.defs params (dsts pre).reverse os=R.allAt os (fun i o=>!P.fDst o.kind||!(((dsts (pre++os.take i)).contains o.dst||decide (o.dst<params))||decide (9999<o.dst)))
  | [],pre=>rfl
  | o::os,pre=>by
    have ih:=defs_from params os (pre++[o])
    unfold R.allAt at ih ⊢
    rw [List.length_cons,range_succ_all]
    simp only [List.getElem?_cons_zero,List.getElem?_cons_succ,List.take_succ_cons,List.take_zero,List.append_nil]
    simp only [List.append_assoc,List.singleton_append] at ih
    rw [P.defs,← ih,dsts_snoc]
    have hr:(dsts pre).reverse.contains o.dst=(dsts pre).contains o.dst:=by rw [Bool.eq_iff_iff]; simp
    cases hd:P.fDst o.kind with
    | false =>
      have hd':R.defines o.kind=false:=hd
      simp [hd']
    | true =>
      have hd':R.defines o.kind=true:=hd
      rw [hr]
      simp [hd',List.reverse_append]
theorem defs_eq (params:Int) (ops:List OpD):P.defs params [] ops=R.allAt ops (okDef params ops):=by
  have h:=defs_from params ops []
  have e:(dsts ([]:List OpD)).reverse=[]:=rfl
  rw [e] at h
  rw [h,Bool.eq_iff_iff,allAt_iff,allAt_iff]
  unfold okDef
  constructor
  · intro h i o hx
    have:=h i o hx
    rw [find_dsts ops o.dst i (by have:=(List.getElem?_eq_some_iff.1 hx).1; omega)]
    simpa using this
  · intro h i o hx
    have:=h i o hx
    rw [find_dsts ops o.dst i (by have:=(List.getElem?_eq_some_iff.1 hx).1; omega)] at this
    simpa using this
def opAt (c:CodeD) (b:BlockD) (i:Nat) (o:OpD):Bool:=P.clean o&&P.rightOp c b o i&&(o.kind != 21||P.rightBind c b o b.ops.length)
theorem rightBlock_eq (c:CodeD) (b:BlockD):P.rightBlock c b=(R.allAt b.ops (okDef b.params b.ops)&&R.allAt b.ops (opAt c b)&&P.rightTerm c b b.ops.length):=by
  unfold P.rightBlock; rw [defs_eq]
  congr 1
  congr 1
  unfold R.allAt
  congr 1
  funext i
  cases b.ops[i]? <;> rfl
end Go.Proofs.Ytlkcidmmpeebeaa
