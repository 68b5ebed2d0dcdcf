/- Proved: what a reading of an argument says,opened at its cells,with the bound of the form's own reach. -/
import Derived.Deep.Slices
import Derived.Deep.Fields
import Derived.ChangeSame
import Derived.OpenShut
import Derived.SizedLaws
set_option linter.unusedVariables false
set_option linter.unusedSimpArgs false
namespace Go.Arg
open Go.ChangeShapes Go.WideShapes Go.Deep

section
variable {H:Type} (enc:TypeId × Value→H) (P:Program) (w:World)
/-- the cells read as a value of the type,and every slice under them is within the reach -/
def Op (n:Nat) (t:TypeId) (cs:List Value):Prop :=
  ∃ y,DataW.trod enc P w 0 (fun _=>true) true n t cs=some y∧∀ k∈y.1.weights P t,k≤140737488351232
end
section
variable {H:Type} {enc:TypeId × Value→H} {P:Program} {w:World}
theorem mem_all {e:TypeId}:∀ {l:List (DataW H)} {d:DataW H},d∈l→∀ n∈d.weights P e,n∈DataW.weightsAll P e l
  | d'::r,d,hd,n,hn=>by
    simp only [DataW.weightsAll,List.mem_append]
    rcases List.mem_cons.1 hd with rfl | h
    · exact Or.inl hn
    · exact Or.inr (mem_all h n hn)
theorem Op.int {n:Nat} {t:TypeId} {k:IntKind} {cs:List Value} (ht:P.underlying t=some (.int k)) (h:Op enc P w n t cs):∃ x,cs=[.int k x]∧(Lit.int k x).wf=true:=by
  obtain ⟨y,h,_⟩:=h
  obtain ⟨x,h1,_,h2⟩:=DataW.trod_int ht h
  exact ⟨x,h1,h2⟩
theorem Op.fld {n:Nat} {t:TypeId} {fs:Array Field} {cs:List Value} (ht:P.underlying t=some (.struct fs)) (h:Op enc P w n t cs) :
    cs.length=P.cellsOf t∧∃ m,∀ (i:Nat) (f:Field),fs[i]?=some f→Op enc P w m f.type ((cs.drop f.offset).take (P.cellsOf f.type)):=by
  obtain ⟨y,h,hw⟩:=h
  obtain ⟨xs,m,_,rfl,hl,hx,hf⟩:=DataW.trod_struct ht h
  refine ⟨hl,m,fun i f hi=>?_⟩
  have h1:=hf i f hi
  have hlt:i<fs.size:=(Array.getElem?_eq_some_iff.1 hi).1
  have hg:xs[i]?=some (xs[i]'(by omega)):=List.getElem?_eq_getElem (by omega)
  refine ⟨_,h1.trans hg,fun k hk=>hw k ?_⟩
  simp only [DataW.weights,ht]
  exact DataW.weights_mem_each (j:=i) (t:=f.type) (d:=(xs[i]'(by omega)).1) (by simp [hi]) (by simp [hg]) k hk
theorem Op.elt {n c:Nat} {t e:TypeId} {cs:List Value} (ht:P.underlying t=some (.array c e)) (h:Op enc P w n t cs) :
    cs.length=P.cellsOf t∧∃ m,∀ i,i<c→Op enc P w m e ((cs.drop (i*P.cellsOf e)).take (P.cellsOf e)):=by
  obtain ⟨y,h,hw⟩:=h
  obtain ⟨xs,m,_,rfl,hl,hx,hf⟩:=DataW.trod_array ht h
  refine ⟨hl,m,fun i hi=>?_⟩
  have hg:xs[i]?=some (xs[i]'(by omega)):=List.getElem?_eq_getElem (by omega)
  refine ⟨_,(hf i hi).trans hg,fun k hk=>hw k ?_⟩
  simp only [DataW.weights,ht]
  exact mem_all (List.mem_map.2 ⟨_,List.getElem_mem (by omega),rfl⟩) k hk
theorem Op.sl {n:Nat} {t e:TypeId} {cs:List Value} (ht:P.underlying t=some (.slice e)) (h:Op enc P w n t cs) :
    cs=[.slice none 0 0]∨∃ (a:Addr) (len cap m:Nat),cs=[.slice (some a) len cap]∧len≤cap∧cap≤maxLen∧len*P.bytesOf e≤140737488351232 ∧
      ∀ i,i<len→∃ cs',w.cells? 0 (a.add (i*P.cellsOf e)) (P.cellsOf e)=some cs'∧Op enc P w m e cs':=by
  obtain ⟨y,h,hw⟩:=h
  rcases open_slice ht h with ⟨h0,_⟩ | ⟨a,len,cap,m,n,D,Pl,hcs,_,hl,hm,hmm,rfl,hi⟩
  · exact .inl h0
  · have hmc:m=cap:=by rw [hmm]; rfl
    simp only [DataW.weights,ht] at hw
    refine .inr ⟨a,len,cap,n,hcs,hl,hm,?_,fun i him=>?_⟩
    · have:=hw _ (List.mem_cons_self ..)
      simp only [List.length_map,List.length_range] at this
      exact Nat.le_trans (Nat.mul_le_mul_right _ (Nat.le_add_right _ _)) this
    · obtain ⟨cs',h1,h2⟩:=hi i (by omega)
      refine ⟨cs',h1,_,h2,fun k hk=>hw k (List.mem_cons_of_mem _ (List.mem_append_left _ ?_))⟩
      exact mem_all (List.mem_map.2 ⟨i,List.mem_range.2 him,rfl⟩) k hk

/-- the type of a cell of a value of structs and arrays -/
def leaf (P:Program):Nat→TypeId→Nat→Option TypeId
  | 0,_,_=>none
  | k+1,t,i=>match P.underlying t with
    | some (.int _)=>if i=0 then some t else none
    | some (.slice _)=>if i=0 then some t else none
    | some (.struct fs)=>fs.toList.findSome? fun f=>if f.offset≤i∧i<f.offset+P.cellsOf f.type then leaf P k f.type (i-f.offset) else none
    | some (.array n e)=>if i / P.cellsOf e<n then leaf P k e (i % P.cellsOf e) else none
    | _=>none
theorem get_part {cs:List Value} {o s i:Nat} {v:Value} (h:((cs.drop o).take s)[i]?=some v):cs[o+i]?=some v:=by
  rw [List.getElem?_take] at h
  split at h
  · rwa [List.getElem?_drop] at h
  · cases h
theorem Op.leaf:∀ (k:Nat) {n:Nat} {t u:TypeId} {i:Nat} {cs:List Value},Arg.leaf P k t i=some u→Op enc P w n t cs→∃ m v,cs[i]?=some v∧Op enc P w m u [v]
  | k+1,n,t,u,i,cs,hl,h=>by
    unfold Arg.leaf at hl
    split at hl
    · rename_i kd ht
      by_cases h0:i=0
      · rw [if_pos h0] at hl
        injection hl with hl
        subst h0 hl
        obtain ⟨x,rfl,_⟩:=h.int ht
        exact ⟨n,_,rfl,h⟩
      · rw [if_neg h0] at hl; cases hl
    · rename_i e ht
      by_cases h0:i=0
      · rw [if_pos h0] at hl
        injection hl with hl
        subst h0 hl
        rcases h.sl ht with rfl | ⟨_,_,_,_,rfl,_⟩
        · exact ⟨n,_,rfl,h⟩
        · exact ⟨n,_,rfl,h⟩
      · rw [if_neg h0] at hl; cases hl
    · rename_i fs ht
      obtain ⟨f,hf,h1⟩:=List.exists_of_findSome?_eq_some hl
      split at h1
      · rename_i hb
        obtain ⟨j,hj⟩:=List.getElem?_of_mem hf
        obtain ⟨_,m,hm⟩:=h.fld ht
        obtain ⟨m',v,hv,ho⟩:=Op.leaf k h1 (hm j f (by simpa using hj))
        refine ⟨m',v,?_,ho⟩
        have:=get_part hv
        rwa [show f.offset+(i-f.offset)=i by omega] at this
      · cases h1
    · rename_i c e ht
      split at hl
      · rename_i hb
        obtain ⟨_,m,hm⟩:=h.elt ht
        obtain ⟨m',v,hv,ho⟩:=Op.leaf k hl (hm _ hb)
        refine ⟨m',v,?_,ho⟩
        have:=get_part hv
        rwa [Nat.div_add_mod'] at this
      · cases hl
    · cases hl
end
end Go.Arg
