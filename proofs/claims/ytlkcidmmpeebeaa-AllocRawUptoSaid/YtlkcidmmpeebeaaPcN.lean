/- Proved: what a reading of an argument says,opened at its cells,with a bound M on every slice's bytes. -/
import Derived.Deep.Slices
import Derived.Deep.Fields
import Derived.ChangeSame
import Derived.OpenShut
import Derived.SizedLaws
import Derived.Test.YtlkcidmmpeebeaaRows
import Derived.Test.YtlkcidmmpeebeaaPt
set_option linter.unusedVariables false
set_option linter.unusedSimpArgs false
namespace Go.ArgM
open Go.ChangeShapes Go.WideShapes Go.Deep

section
variable {H:Type} (enc:TypeId × Value→H) (P:Program) (w:World)
/-- the cells read as a value of the type,and every slice under them is within the reach -/
def Op (M n:Nat) (t:TypeId) (cs:List Value):Prop :=
  ∃ y,DataW.trod enc P w 0 (fun _=>true) true n t cs=some y∧∀ k∈y.1.weights P t,k≤M
end
section
variable {H:Type} {enc:TypeId × Value→H} {P:Program} {w:World} {M:Nat}
theorem mem_all {e:TypeId}:∀ {l:List (DataW H)} {d:DataW H},d∈l→∀ n∈d.weights P e,n∈DataW.weightsAll P e l
  | d'::r,d,hd,n,hn=>by
    simp only [DataW.weightsAll,List.mem_append]
    rcases List.mem_cons.1 hd with rfl | h
    · exact Or.inl hn
    · exact Or.inr (mem_all h n hn)
theorem Op.int {n:Nat} {t:TypeId} {k:IntKind} {cs:List Value} (ht:P.underlying t=some (.int k)) (h:Op enc P w M n t cs):∃ x,cs=[.int k x]∧(Lit.int k x).wf=true:=by
  obtain ⟨y,h,_⟩:=h
  obtain ⟨x,h1,_,h2⟩:=DataW.trod_int ht h
  exact ⟨x,h1,h2⟩
theorem Op.fld {n:Nat} {t:TypeId} {fs:Array Field} {cs:List Value} (ht:P.underlying t=some (.struct fs)) (h:Op enc P w M n t cs) :
    cs.length=P.cellsOf t∧∃ m,∀ (i:Nat) (f:Field),fs[i]?=some f→Op enc P w M m f.type ((cs.drop f.offset).take (P.cellsOf f.type)):=by
  obtain ⟨y,h,hw⟩:=h
  obtain ⟨xs,m,_,rfl,hl,hx,hf⟩:=DataW.trod_struct ht h
  refine ⟨hl,m,fun i f hi=>?_⟩
  have h1:=hf i f hi
  have hlt:i<fs.size:=(Array.getElem?_eq_some_iff.1 hi).1
  have hg:xs[i]?=some (xs[i]'(by omega)):=List.getElem?_eq_getElem (by omega)
  refine ⟨_,h1.trans hg,fun k hk=>hw k ?_⟩
  simp only [DataW.weights,ht]
  exact DataW.weights_mem_each (j:=i) (t:=f.type) (d:=(xs[i]'(by omega)).1) (by simp [hi]) (by simp [hg]) k hk
theorem Op.elt {n c:Nat} {t e:TypeId} {cs:List Value} (ht:P.underlying t=some (.array c e)) (h:Op enc P w M n t cs) :
    cs.length=P.cellsOf t∧∃ m,∀ i,i<c→Op enc P w M m e ((cs.drop (i*P.cellsOf e)).take (P.cellsOf e)):=by
  obtain ⟨y,h,hw⟩:=h
  obtain ⟨xs,m,_,rfl,hl,hx,hf⟩:=DataW.trod_array ht h
  refine ⟨hl,m,fun i hi=>?_⟩
  have hg:xs[i]?=some (xs[i]'(by omega)):=List.getElem?_eq_getElem (by omega)
  refine ⟨_,(hf i hi).trans hg,fun k hk=>hw k ?_⟩
  simp only [DataW.weights,ht]
  exact mem_all (List.mem_map.2 ⟨_,List.getElem_mem (by omega),rfl⟩) k hk
theorem Op.sl {n:Nat} {t e:TypeId} {cs:List Value} (ht:P.underlying t=some (.slice e)) (h:Op enc P w M n t cs) :
    cs=[.slice none 0 0]∨∃ (a:Addr) (len cap m:Nat),cs=[.slice (some a) len cap]∧len≤cap∧cap≤maxLen∧len*P.bytesOf e≤M ∧
      ∀ i,i<len→∃ cs',w.cells? 0 (a.add (i*P.cellsOf e)) (P.cellsOf e)=some cs'∧Op enc P w M m e cs':=by
  obtain ⟨y,h,hw⟩:=h
  rcases open_slice ht h with ⟨h0,_⟩ | ⟨a,len,cap,m,n,D,Pl,hcs,_,hl,hm,hmm,rfl,hi⟩
  · exact .inl h0
  · have hmc:m=cap:=by rw [hmm]; rfl
    simp only [DataW.weights,ht] at hw
    refine .inr ⟨a,len,cap,n,hcs,hl,hm,?_,fun i him=>?_⟩
    · have:=hw _ (List.mem_cons_self ..)
      simp only [List.length_map,List.length_range] at this
      exact Nat.le_trans (Nat.mul_le_mul_right _ (Nat.le_add_right _ _)) this
    · obtain ⟨cs',h1,h2⟩:=hi i (by omega)
      refine ⟨cs',h1,_,h2,fun k hk=>hw k (List.mem_cons_of_mem _ (List.mem_append_left _ ?_))⟩
      exact mem_all (List.mem_map.2 ⟨i,List.mem_range.2 him,rfl⟩) k hk

/-- the type of a cell of a value of structs and arrays -/
def leaf (P:Program):Nat→TypeId→Nat→Option TypeId
  | 0,_,_=>none
  | k+1,t,i=>match P.underlying t with
    | some (.int _)=>if i=0 then some t else none
    | some (.slice _)=>if i=0 then some t else none
    | some (.struct fs)=>fs.toList.findSome? fun f=>if f.offset≤i∧i<f.offset+P.cellsOf f.type then leaf P k f.type (i-f.offset) else none
    | some (.array n e)=>if i / P.cellsOf e<n then leaf P k e (i % P.cellsOf e) else none
    | _=>none
theorem get_part {cs:List Value} {o s i:Nat} {v:Value} (h:((cs.drop o).take s)[i]?=some v):cs[o+i]?=some v:=by
  rw [List.getElem?_take] at h
  split at h
  · rwa [List.getElem?_drop] at h
  · cases h
theorem Op.leaf:∀ (k:Nat) {n:Nat} {t u:TypeId} {i:Nat} {cs:List Value},ArgM.leaf P k t i=some u→Op enc P w M n t cs→∃ m v,cs[i]?=some v∧Op enc P w M m u [v]
  | k+1,n,t,u,i,cs,hl,h=>by
    unfold ArgM.leaf at hl
    split at hl
    · rename_i kd ht
      by_cases h0:i=0
      · rw [if_pos h0] at hl
        injection hl with hl
        subst h0 hl
        obtain ⟨x,rfl,_⟩:=h.int ht
        exact ⟨n,_,rfl,h⟩
      · rw [if_neg h0] at hl; cases hl
    · rename_i e ht
      by_cases h0:i=0
      · rw [if_pos h0] at hl
        injection hl with hl
        subst h0 hl
        rcases h.sl ht with rfl | ⟨_,_,_,_,rfl,_⟩
        · exact ⟨n,_,rfl,h⟩
        · exact ⟨n,_,rfl,h⟩
      · rw [if_neg h0] at hl; cases hl
    · rename_i fs ht
      obtain ⟨f,hf,h1⟩:=List.exists_of_findSome?_eq_some hl
      split at h1
      · rename_i hb
        obtain ⟨j,hj⟩:=List.getElem?_of_mem hf
        obtain ⟨_,m,hm⟩:=h.fld ht
        obtain ⟨m',v,hv,ho⟩:=Op.leaf k h1 (hm j f (by simpa using hj))
        refine ⟨m',v,?_,ho⟩
        have:=get_part hv
        rwa [show f.offset+(i-f.offset)=i by omega] at this
      · cases h1
    · rename_i c e ht
      split at hl
      · rename_i hb
        obtain ⟨_,m,hm⟩:=h.elt ht
        obtain ⟨m',v,hv,ho⟩:=Op.leaf k hl (hm _ hb)
        refine ⟨m',v,?_,ho⟩
        have:=get_part hv
        rwa [Nat.div_add_mod'] at this
      · cases hl
    · cases hl
end
end Go.ArgM

/- Proved: a slice that came in as an argument reads as plain rows; the code that came in reads as plain data. -/
namespace Go.Proofs.Ytlkcidmmpeebeaa
open Go.ChangeShapes Go.WideShapes Go.Deep Go.RowKit Go.PX Go.SX
theorem spot_none {w:World} {a:Addr} {v:Value} (h:w.cell? (a.add 0)=some v):∃ b off,a=⟨b,off,none⟩:=by
  obtain ⟨b,off,spot⟩:=a
  cases spot with
  | none=>exact ⟨b,off,rfl⟩
  | some s=>simp [Addr.add,World.cell?] at h; split at h <;> simp_all
theorem add_none (b off k:Nat):(⟨b,off,none⟩:Addr).add k=⟨b,off+k,none⟩:=by unfold Addr.add; split <;> simp_all
theorem list_of {α:Type} {R:Nat→α→Prop}:∀ n:Nat,(∀ i,i<n→∃ p,R i p)→∃ l:List α,l.length=n∧∀ i p,l[i]?=some p→R i p
  | 0,_=>⟨[],rfl,by simp⟩
  | n+1,h=>by
    obtain ⟨l,hl,hr⟩:=list_of n (fun i hi=>h i (by omega))
    obtain ⟨p,hp⟩:=h n (by omega)
    refine ⟨l++[p],by simp [hl],fun i q hq=>?_⟩
    rcases Nat.lt_or_ge i l.length with hi | hi
    · rw [List.getElem?_append_left hi] at hq; exact hr i q hq
    · rw [List.getElem?_append_right hi] at hq
      have e0:i-l.length=0:=by have:=(List.getElem?_eq_some_iff.1 hq).1; simp at this; omega
      rw [e0] at hq
      obtain rfl:p=q:=by simpa using hq
      obtain rfl:i=n:=by omega
      exact hp
section
variable {H:Type} {enc:TypeId × Value→H} {w:World} {M:Nat}
abbrev Zw (w:World):Nat→Prop:=(·<w.heap.size)
theorem lt_of_cell {b off:Nat} {v:Value} (h:w.cell? ⟨b,off,none⟩=some v):b<w.heap.size:=by
  unfold World.cell? at h
  cases hb:w.heap[b]? with
  | none=>simp [hb] at h
  | some o=>exact (Array.getElem?_eq_some_iff.1 hb).1

theorem open_imm {P:Program} {α:Type} {sz n:Nat} {t e:TypeId} {v:Value} (f:α→List PV) (Q:α→Prop) (ht:P.underlying t=some (.slice e)) (hC:P.cellsOf e=sz) (hB:1≤P.bytesOf e) (hs:1≤sz)
    (hf:∀ x,(f x).length=sz∧ones (f x)=true)
    (he:∀ (n:Nat) (cs:List Value),ArgM.Op enc P w M n e cs→cs.length=sz→∃ x:α,Q x∧∀ (i:Nat) (u:Value) (y:PV),cs[i]?=some u→(f x)[i]?=some y→IR (Zw w) w u y)
    (hM:M≤140737488351232) (h:ArgM.Op enc P w M n t [v]):∃ xs:List α,(∀ x∈xs,Q x)∧xs.length*P.bytesOf e≤M∧xs.length≤140737488351232∧IR (Zw w) w v (.imm sz (xs.map f)):=by
  rcases h.sl ht with hcs | ⟨a,len,cap,m,hcs,hl,hm,hb,hi⟩
  · obtain rfl:v=.slice none 0 0:=by simpa using hcs
    exact ⟨[],by simp,by simp,by simp,imm_to (A:=none) (cap:=0) f [] (by simp) (by simp) (by simp)⟩
  · obtain rfl:v=.slice (some a) len cap:=by simpa using hcs
    have hlen:len≤140737488351232:=Nat.le_trans (Nat.le_trans (Nat.le_mul_of_pos_right _ hB) hb) hM
    obtain ⟨xs,hx,hr⟩:=list_of (R:=fun i (x:α)=>Q x∧∃ (b off:Nat) (l:List Value),a=⟨b,off,none⟩∧b<w.heap.size∧l.length=sz∧(∀ (j:Nat) (u:Value),l[j]?=some u→w.cell? ⟨b,off+i*sz+j,none⟩=some u)∧∀ (j:Nat) (u:Value) (y:PV),l[j]?=some u→(f x)[j]?=some y→IR (Zw w) w u y) len (fun i him=>by
      obtain ⟨cs,hc,ho⟩:=hi i him
      rw [hC] at hc
      obtain ⟨_,hcl,hat⟩:=World.cells?_some hc
      obtain ⟨x,hq,hy⟩:=he m cs ho hcl
      obtain ⟨b,off,rfl⟩:∃ b off,a=⟨b,off,none⟩:=by
        obtain ⟨cs0,hc0,_⟩:=hi 0 (by omega)
        rw [hC] at hc0
        obtain ⟨_,hcl0,hat0⟩:=World.cells?_some hc0
        have:=hat0 0 (by omega)
        rw [List.getElem?_eq_getElem (by omega),Go.Deep.add_add] at this
        exact spot_none (by simpa using this)
      have hcell:∀ (j:Nat) (u:Value),cs[j]?=some u→w.cell? ⟨b,off+i*sz+j,none⟩=some u:=fun j u hu=>by
        have hj:j<cs.length:=(List.getElem?_eq_some_iff.1 hu).1
        have:=hat j (by omega)
        rw [hu,add_none,add_none] at this
        exact this
      exact ⟨x,hq,b,off,cs,rfl,lt_of_cell (hcell 0 _ (List.getElem?_eq_getElem (by omega))),hcl,hcell,hy⟩)
    subst hx
    refine ⟨xs,fun x hx=>?_,hb,hlen,imm_to f xs ⟨hl,hlen⟩ ⟨by simpa [maxLen] using hm,by simp⟩ fun k x hk=>?_⟩
    · obtain ⟨k,hk⟩:=List.getElem?_of_mem hx
      exact (hr k x hk).1
    · obtain ⟨_,b,off,l,rfl,q⟩:=hr k x hk
      exact ⟨(hf x).1,(hf x).2,b,off,l,rfl,q⟩

/-- a cell that holds an int -/
theorem leaf_int {cs:List Value} {n:Nat} {t:TypeId} (k i:Nat) (hl:ArgM.leaf Try.prog k t i=some 3) (h:ArgM.Op enc Try.prog w M n t cs):∃ x,I64 x∧cs[i]?=some (.int .i64 x):=by
  obtain ⟨m,v,hv,ho⟩:=ArgM.Op.leaf k hl h
  obtain ⟨x,hx,hw⟩:=ho.int Try.underlying3
  obtain rfl:v=.int .i64 x:=by simpa using hx
  exact ⟨x,Go.bounds_i64 hw,hv⟩
theorem irs_nil {cs:List Value} {k:Nat} {w:World}:∀ (i:Nat) (u:Value) (y:PV),cs[k+i]?=some u→([]:List PV)[i]?=some y→IR (Zw w) w u y:=fun i u y _ h=>by simp at h
theorem irs_cons {cs:List Value} {k:Nat} {w:World} {u:Value} {y:PV} {l:List PV} (hu:cs[k]?=some u) (h:IR (Zw w) w u y) (hr:∀ (i:Nat) (u:Value) (y:PV),cs[k+1+i]?=some u→l[i]?=some y→IR (Zw w) w u y) :
    ∀ (i:Nat) (u:Value) (y':PV),cs[k+i]?=some u→(y::l)[i]?=some y'→IR (Zw w) w u y'
  | 0,u',y',h1,h2=>by
    simp only [Nat.add_zero,hu,Option.some.injEq] at h1
    simp only [List.getElem?_cons_zero,Option.some.injEq] at h2
    subst h1 h2; exact h
  | i+1,u',y',h1,h2=>hr i u' y' (by rw [← h1]; congr 1; omega) (by simpa using h2)
theorem irs_int {cs:List Value} {k:Nat} {w:World} {x:Int} {l:List PV} (hu:cs[k]?=some (.int .i64 x)) (hr:∀ (i:Nat) (u:Value) (y:PV),cs[k+1+i]?=some u→l[i]?=some y→IR (Zw w) w u y) :
    ∀ (i:Nat) (u:Value) (y':PV),cs[k+i]?=some u→(PV.sc (.int .i64 x)::l)[i]?=some y'→IR (Zw w) w u y':=irs_cons hu (.sc _ rfl) hr
theorem irs_fin {cs:List Value} {w:World} {l:List PV} (h:∀ (i:Nat) (u:Value) (y:PV),cs[0+i]?=some u→l[i]?=some y→IR (Zw w) w u y):∀ (i:Nat) (u:Value) (y:PV),cs[i]?=some u→l[i]?=some y→IR (Zw w) w u y:=fun i u y h1 h2=>h i u y (by rwa [Nat.zero_add]) h2

theorem open_ints {n:Nat} {v:Value} (hM:M≤140737488351232) (h:ArgM.Op enc Try.prog w M n 35 [v]):∃ xs:List Int,(∀ x∈xs,I64 x)∧xs.length*Try.prog.bytesOf 3≤M∧xs.length≤140737488351232∧IR (Zw w) w v (.imm 1 (xs.map encI)) :=
  open_imm encI I64 Try.underlying35 (by kernel_rfl) (of_decide_eq_true (by kernel_rfl)) (by decide) (fun x=>⟨rfl,rfl⟩) (fun n cs ho hc=>by
    obtain ⟨x,i,hx⟩:=leaf_int 1 0 (by kernel_rfl) ho
    exact ⟨x,i,irs_fin (irs_int hx irs_nil)⟩) hM h
theorem open_recs {n:Nat} {t e:TypeId} {v:Value} (ht:Try.prog.underlying t=some (.slice e)) (hC:Try.prog.cellsOf e=3) (hB:1≤Try.prog.bytesOf e) (l0:ArgM.leaf Try.prog 4 e 0=some 3) (l1:ArgM.leaf Try.prog 4 e 1=some 3) (l2:ArgM.leaf Try.prog 4 e 2=some 3)
    (hM:M≤140737488351232) (h:ArgM.Op enc Try.prog w M n t [v]):∃ xs:List (Int × Int × Int),(∀ x∈xs,RecI x)∧xs.length*Try.prog.bytesOf e≤M∧xs.length≤140737488351232∧IR (Zw w) w v (.imm 3 (xs.map encR)) :=
  open_imm encR RecI ht hC hB (by decide) (fun x=>⟨rfl,rfl⟩) (fun n cs ho hc=>by
    obtain ⟨x0,i0,h0⟩:=leaf_int 4 0 l0 ho
    obtain ⟨x1,i1,h1⟩:=leaf_int 4 1 l1 ho
    obtain ⟨x2,i2,h2⟩:=leaf_int 4 2 l2 ho
    exact ⟨(x0,x1,x2),⟨i0,i1,i2⟩,irs_fin (irs_int h0 (irs_int h1 (irs_int h2 irs_nil)))⟩) hM h
theorem open_ops {n:Nat} {v:Value} (hM:M≤140737488351232) (h:ArgM.Op enc Try.prog w M n 55 [v]):∃ xs:List OpD,(∀ x∈xs,OpI x)∧xs.length*Try.prog.bytesOf 74≤M∧xs.length≤140737488351232∧IR (Zw w) w v (.imm 11 (xs.map encO)) :=
  open_imm encO OpI Try.underlying55 (by kernel_rfl) (of_decide_eq_true (by kernel_rfl)) (by decide) (fun x=>⟨rfl,rfl⟩) (fun n cs ho hc=>by
    obtain ⟨x0,i0,h0⟩:=leaf_int 4 0 (by kernel_rfl) ho
    obtain ⟨x1,i1,h1⟩:=leaf_int 4 1 (by kernel_rfl) ho
    obtain ⟨x2,i2,h2⟩:=leaf_int 4 2 (by kernel_rfl) ho
    obtain ⟨x3,i3,h3⟩:=leaf_int 4 3 (by kernel_rfl) ho
    obtain ⟨x4,i4,h4⟩:=leaf_int 4 4 (by kernel_rfl) ho
    obtain ⟨x5,i5,h5⟩:=leaf_int 4 5 (by kernel_rfl) ho
    obtain ⟨x6,i6,h6⟩:=leaf_int 4 6 (by kernel_rfl) ho
    obtain ⟨x7,i7,h7⟩:=leaf_int 4 7 (by kernel_rfl) ho
    obtain ⟨x8,i8,h8⟩:=leaf_int 4 8 (by kernel_rfl) ho
    obtain ⟨x9,i9,h9⟩:=leaf_int 4 9 (by kernel_rfl) ho
    obtain ⟨x10,i10,h10⟩:=leaf_int 4 10 (by kernel_rfl) ho
    exact ⟨⟨x0,x1,x2,x3,x4,x5,x6,x7,x8,x9,x10⟩,⟨i0,i1,i2,i3,i4,i5,i6,i7,i8,i9,i10⟩,
      irs_fin (irs_int h0 (irs_int h1 (irs_int h2 (irs_int h3 (irs_int h4 (irs_int h5 (irs_int h6 (irs_int h7 (irs_int h8 (irs_int h9 (irs_int h10 irs_nil)))))))))))⟩) hM h
/-- a block's arguments are no longer than the bound lets them be -/
def BlkM (M:Nat) (b:BlockD):Prop:=BlkI b∧b.term.args0.length*8≤M∧b.term.args1.length*8≤M
theorem open_blocks {n:Nat} {v:Value} (hM:M≤140737488351232) (h:ArgM.Op enc Try.prog w M n 22 [v]):∃ xs:List BlockD,(∀ x∈xs,BlkM M x)∧xs.length*Try.prog.bytesOf 62≤M∧xs.length≤140737488351232∧IR (Zw w) w v (.imm 10 (xs.map encB)) :=
  open_imm encB (BlkM M) Try.underlying22 (by kernel_rfl) (of_decide_eq_true (by kernel_rfl)) (by decide) (fun x=>⟨rfl,rfl⟩) (fun n cs ho hc=>by
    obtain ⟨x0,i0,h0⟩:=leaf_int 4 0 (by kernel_rfl) ho
    obtain ⟨m1,v1,h1,o1⟩:=ArgM.Op.leaf (u:=55) (i:=1) 4 (by kernel_rfl) ho
    obtain ⟨x2,i2,h2⟩:=leaf_int 4 2 (by kernel_rfl) ho
    obtain ⟨x3,i3,h3⟩:=leaf_int 4 3 (by kernel_rfl) ho
    obtain ⟨x4,i4,h4⟩:=leaf_int 4 4 (by kernel_rfl) ho
    obtain ⟨m5,v5,h5,o5⟩:=ArgM.Op.leaf (u:=35) (i:=5) 4 (by kernel_rfl) ho
    obtain ⟨x6,i6,h6⟩:=leaf_int 5 6 (by kernel_rfl) ho
    obtain ⟨m7,v7,h7,o7⟩:=ArgM.Op.leaf (u:=35) (i:=7) 5 (by kernel_rfl) ho
    obtain ⟨x8,i8,h8⟩:=leaf_int 5 8 (by kernel_rfl) ho
    obtain ⟨m9,v9,h9,o9⟩:=ArgM.Op.leaf (u:=35) (i:=9) 5 (by kernel_rfl) ho
    obtain ⟨l1,a1,_,b1,r1⟩:=open_ops hM o1
    obtain ⟨l5,a5,e5,b5,r5⟩:=open_ints hM o5
    obtain ⟨l7,a7,e7,b7,r7⟩:=open_ints hM o7
    obtain ⟨l9,a9,e9,b9,r9⟩:=open_ints hM o9
    exact ⟨⟨x0,l1,⟨x2,x3,x4,l5,x6,l7,x8,l9⟩⟩,⟨⟨⟨i0,i2,i3,i4,i6,i8⟩,a1,a5,a7,a9,b1⟩,by rw [show Try.prog.bytesOf 3=8 from by kernel_rfl] at e7; exact e7,by rw [show Try.prog.bytesOf 3=8 from by kernel_rfl] at e9; exact e9⟩,
      irs_fin (irs_int h0 (irs_cons h1 r1 (irs_int h2 (irs_int h3 (irs_int h4 (irs_cons h5 r5 (irs_int h6 (irs_cons h7 r7 (irs_int h8 (irs_cons h9 r9 irs_nil))))))))))⟩) hM h
theorem open_code {n:Nat} {cs:List Value} (hM:M≤140737488351232) (h:ArgM.Op enc Try.prog w M n 26 cs) (hc:cs.length=4) :
    ∃ c:CodeD,CodeI c∧c.blocks.length≤140737488351232∧(∀ b∈c.blocks,b.term.args0.length*8≤M∧b.term.args1.length*8≤M)∧∀ (σ:Nm),VR σ (Zw w) w (.agg cs.toArray) (codeP c):=by
  obtain ⟨x0,i0,h0⟩:=leaf_int 4 0 (by kernel_rfl) h
  obtain ⟨m1,v1,h1,o1⟩:=ArgM.Op.leaf (u:=22) (i:=1) 4 (by kernel_rfl) h
  obtain ⟨m2,v2,h2,o2⟩:=ArgM.Op.leaf (u:=23) (i:=2) 4 (by kernel_rfl) h
  obtain ⟨m3,v3,h3,o3⟩:=ArgM.Op.leaf (u:=24) (i:=3) 4 (by kernel_rfl) h
  obtain ⟨l1,a1,_,b1,r1⟩:=open_blocks hM o1
  obtain ⟨l2,a2,_,b2,r2⟩:=open_recs Try.underlying23 (by kernel_rfl) (of_decide_eq_true (by kernel_rfl)) (by kernel_rfl) (by kernel_rfl) (by kernel_rfl) hM o2
  obtain ⟨l3,a3,_,b3,r3⟩:=open_recs Try.underlying24 (by kernel_rfl) (of_decide_eq_true (by kernel_rfl)) (by kernel_rfl) (by kernel_rfl) (by kernel_rfl) hM o3
  match cs,hc with
  | [u0,u1,u2,u3],_ =>
    simp at h0 h1 h2 h3
    subst h0 h1 h2 h3
    refine ⟨⟨x0,l1,l2,l3⟩,⟨i0,fun b hb=>(a1 b hb).1,a2,a3⟩,b1,fun b hb=>(a1 b hb).2,fun σ=>.agg [_,_,_,_] _ rfl rfl fun i u y hu hy=>?_⟩
    match i,hu,hy with
    | 0,hu,hy=>simp at hu hy; subst hu hy; exact .sc _ rfl
    | 1,hu,hy=>simp at hu hy; subst hu hy; exact .imm _ _ _ r1
    | 2,hu,hy=>simp at hu hy; subst hu hy; exact .imm _ _ _ r2
    | 3,hu,hy=>simp at hu hy; subst hu hy; exact .imm _ _ _ r3
end
end Go.Proofs.Ytlkcidmmpeebeaa

/- Proved: what is read within a bulk has no slice of many bytes. -/
namespace Go.Proofs.Ytlkcidmmpeebeaa
open Go.ChangeShapes Go.WideShapes
set_option maxRecDepth 100000
/-- types that lead to none but these,through slices,structs and arrays,with small elements -/
def closedB (P:Program) (S:List TypeId):Bool:=S.all fun t=>match P.underlying t with
  | some (.slice e)=>S.contains e&&Nat.ble (P.bytesOf e) 400
  | some (.struct fs)=>fs.toList.all fun f=>S.contains f.type
  | some (.array _ e)=>S.contains e
  | some (.pointer _)=>false
  | some (.map _ _)=>false
  | _=>true
section
variable {H:Type} {P:Program} {S:List TypeId}
theorem len_bulk:∀ l:List (DataW H),l.length≤Rows.uptoBulkAll l
  | []=>by simp
  | d::l=>by
    have h1:=len_bulk l
    have h2:1≤Rows.uptoBulk d:=by
      cases d with
      | lit v=>cases v <;> simp [Rows.uptoBulk]
      | _=>simp [Rows.uptoBulk]
    simp only [Rows.uptoBulkAll,List.length_cons]; omega
mutual
theorem w_bulk (hS:closedB P S=true):∀ (d:DataW H) (t:TypeId),t∈S→∀ k∈d.weights P t,k≤Rows.uptoBulk d*400
  | .lit (.string bytes),t,_,k,hk=>by simp only [DataW.weights,List.mem_singleton] at hk; subst hk; simp only [Rows.uptoBulk]; omega
  | .lit (.int _ _),t,_,k,hk=>by simp [DataW.weights] at hk
  | .lit (.bool _),t,_,k,hk=>by simp [DataW.weights] at hk
  | .lit (.float _ _),t,_,k,hk=>by simp [DataW.weights] at hk
  | .lit .nil,t,_,k,hk=>by simp [DataW.weights] at hk
  | .nil,t,_,k,hk=>by simp [DataW.weights] at hk
  | .ptr d,t,ht,k,hk=>by
    have hc:=List.all_eq_true.1 hS t ht
    simp only [DataW.weights] at hk
    split at hk
    · rename_i e he; rw [he] at hc; cases hc
    · cases hk
  | .slice elems spare,t,ht,k,hk=>by
    have hc:=List.all_eq_true.1 hS t ht
    simp only [DataW.weights] at hk
    split at hk
    · rename_i e he
      rw [he] at hc
      simp only [Bool.and_eq_true,List.contains_iff_mem] at hc
      have hb:=Nat.le_of_ble_eq_true hc.2
      have l1:=len_bulk elems
      have l2:=len_bulk spare
      simp only [Rows.uptoBulk]
      rcases List.mem_cons.1 hk with rfl | hk
      · have:(elems.length+spare.length)*P.bytesOf e≤(elems.length+spare.length)*400:=Nat.mul_le_mul_left _ hb
        omega
      · rcases List.mem_append.1 hk with hk | hk
        · have:=wAll_bulk hS elems e hc.1 k hk; omega
        · have:=wAll_bulk hS spare e hc.1 k hk; omega
    · cases hk
  | .agg parts,t,ht,k,hk=>by
    have hc:=List.all_eq_true.1 hS t ht
    simp only [DataW.weights] at hk
    simp only [Rows.uptoBulk]
    split at hk
    · rename_i fs he
      rw [he] at hc
      have:=wEach_bulk hS parts _ (fun u hu=>by
        obtain ⟨f,hf,rfl⟩:=List.mem_map.1 hu
        have:=List.all_eq_true.1 hc f hf
        simpa [List.contains_iff_mem] using this) k hk
      omega
    · rename_i e he
      rw [he] at hc
      have:=wAll_bulk hS parts e (by simpa [List.contains_iff_mem] using hc) k hk; omega
    · cases hk
  | .iface _ _,t,_,k,hk=>by simp [DataW.weights] at hk
  | .map entries,t,ht,k,hk=>by
    have hc:=List.all_eq_true.1 hS t ht
    simp only [DataW.weights] at hk
    split at hk
    · rename_i k1 e he; rw [he] at hc; cases hc
    · cases hk
  | .held _,t,_,k,hk=>by simp [DataW.weights] at hk
theorem wAll_bulk (hS:closedB P S=true):∀ (l:List (DataW H)) (e:TypeId),e∈S→∀ k∈DataW.weightsAll P e l,k≤Rows.uptoBulkAll l*400
  | [],e,_,k,hk=>by simp [DataW.weightsAll] at hk
  | d::l,e,he,k,hk=>by
    simp only [DataW.weightsAll] at hk
    simp only [Rows.uptoBulkAll]
    rcases List.mem_append.1 hk with hk | hk
    · have:=w_bulk hS d e he k hk; omega
    · have:=wAll_bulk hS l e he k hk; omega
theorem wEach_bulk (hS:closedB P S=true):∀ (l:List (DataW H)) (ts:List TypeId),(∀ t∈ts,t∈S)→∀ k∈DataW.weightsEach P ts l,k≤Rows.uptoBulkAll l*400
  | [],ts,_,k,hk=>by cases ts <;> simp [DataW.weightsEach] at hk
  | d::l,[],_,k,hk=>by simp [DataW.weightsEach] at hk
  | d::l,t::ts,ht,k,hk=>by
    simp only [DataW.weightsEach] at hk
    simp only [Rows.uptoBulkAll]
    rcases List.mem_append.1 hk with hk | hk
    · have:=w_bulk hS d t (ht t (by simp)) k hk; omega
    · have:=wEach_bulk hS l ts (fun u hu=>ht u (by simp [hu])) k hk; omega
end
end
theorem closed_code:closedB Try.prog [26,22,23,24,62,55,74,60,58,57,35,3,99,102,72]=true:=by kernel_rfl
end Go.Proofs.Ytlkcidmmpeebeaa
