/- Proved: rows of operations,of records and of blocks of the call's own; slices copied by slices.Clone read as what they were copied from. -/
import Derived.Test.YtlkcidmmpeebeaaOwn
set_option linter.unusedVariables false
set_option linter.unusedSimpArgs false
namespace Go.Proofs.Ytlkcidmmpeebeaa
open Go.RowKit

theorem flat_len {α β:Type} {f:α→List β} {s:Nat} (hs:∀ x,(f x).length=s):∀ xs:List α,(xs.flatMap f).length=xs.length*s
  | []=>by simp
  | x::xs=>by rw [List.flatMap_cons,List.length_append,hs,flat_len hs xs,List.length_cons,Nat.add_mul]; omega
theorem flat_get {α β:Type} {f:α→List β} {s:Nat} (hs:∀ x,(f x).length=s):∀ (xs:List α) (k i:Nat) (x:α),xs[k]?=some x→i<s→(xs.flatMap f)[k*s+i]?=(f x)[i]?
  | [],k,i,x,h,_=>by simp at h
  | y::xs,0,i,x,h,hi=>by
    simp only [List.getElem?_cons_zero,Option.some.injEq] at h; subst h
    rw [List.flatMap_cons,Nat.zero_mul,Nat.zero_add,List.getElem?_append_left (by rw [hs]; exact hi)]
  | y::xs,k+1,i,x,h,hi=>by
    rw [List.flatMap_cons,List.getElem?_append_right (by rw [hs,Nat.add_mul]; omega),hs,show (k+1)*s+i-s=k*s+i by rw [Nat.add_mul]; omega]
    exact flat_get hs xs k i x (by simpa using h) hi
theorem flat_inv {α β:Type} {f:α→List β} {s:Nat} (hs:∀ x,(f x).length=s) (h0:0<s) {xs:List α} {j:Nat} {u:β} (h:(xs.flatMap f)[j]?=some u):∃ k i x,j=k*s+i∧i<s∧xs[k]?=some x∧(f x)[i]?=some u:=by
  have hj:=(List.getElem?_eq_some_iff.1 h).1
  rw [flat_len hs] at hj
  have hk:j / s<xs.length:=(Nat.div_lt_iff_lt_mul h0).2 hj
  have e:j=j / s*s+j % s:=by rw [Nat.mul_comm]; exact (Nat.div_add_mod j s).symm
  have hm:=Nat.mod_lt j h0
  refine ⟨j / s,j % s,xs[j / s],e,hm,List.getElem?_eq_getElem hk,?_⟩
  rw [← flat_get hs xs (j / s) (j % s) _ (List.getElem?_eq_getElem hk) hm,← e]; exact h

def opC (o:OpD):List Value:=[.int .i64 o.kind,.int .i64 o.dst,.int .i64 o.a,.int .i64 o.b,.int .i64 o.n,.int .i64 o.ctx,.int .i64 o.var,.int .i64 o.piece,.int .i64 o.sk,.int .i64 o.sv,.int .i64 o.sa]
def recC (o:Int × Int × Int):List Value:=[.int .i64 o.1,.int .i64 o.2.1,.int .i64 o.2.2]
theorem opC_len (o:OpD):(opC o).length=11:=rfl
theorem recC_len (o:Int × Int × Int):(recC o).length=3:=rfl
/-- the cells of a slice of records,as one list -/
structure CellsAt (w:World) (size:Nat) (v:Value) (n:Nat) (cs:List Value):Prop where
  get:∀ a m c,v=.slice (some a) m c→∀ j u,cs[j]?=some u→w.cell? (a.add j)=some u
  len:cs.length=n*size
theorem add_at {b off j:Nat}:(⟨b,off,none⟩:Addr).add j=⟨b,off+j,none⟩:=by unfold Addr.add; split <;> simp_all
theorem IntsAt.cells {w:World} {v:Value} {xs:List Int} (h:IntsAt w v xs):CellsAt w 1 v xs.length (xs.map (Value.int .i64)):=by
  obtain ⟨A,cap,rfl,h1,h2,h3⟩:=h
  refine ⟨fun a m c hv j u hu=>?_,by simp⟩
  rw [List.getElem?_map] at hu
  obtain ⟨x,hx,rfl⟩:=Option.map_eq_some_iff.1 hu
  obtain ⟨b,off,rfl,_,hc⟩:=h3 j x hx
  injection hv with hv; injection hv with hv; subst hv
  rw [add_at]; exact hc
theorem OpsAt.cells {w:World} {v:Value} {xs:List OpD} (h:OpsAt w v xs):CellsAt w 11 v xs.length (xs.flatMap opC):=by
  obtain ⟨A,cap,rfl,h1,h2,h3⟩:=h
  refine ⟨fun a m c hv j u hu=>?_,flat_len opC_len xs⟩
  obtain ⟨k,i,x,rfl,hi,hx,hu⟩:=flat_inv opC_len (by decide) hu
  obtain ⟨b,off,rfl,_,c0,c1,c2,c3,c4,c5,c6,c7,c8,c9,c10⟩:=h3 k x hx
  injection hv with hv; injection hv with hv; subst hv
  rw [add_at,← Nat.add_assoc]
  match i,hi,hu with
  | 0,_,hu=>simp [opC] at hu; subst hu; simpa using c0
  | 1,_,hu=>simp [opC] at hu; subst hu; exact c1
  | 2,_,hu=>simp [opC] at hu; subst hu; exact c2
  | 3,_,hu=>simp [opC] at hu; subst hu; exact c3
  | 4,_,hu=>simp [opC] at hu; subst hu; exact c4
  | 5,_,hu=>simp [opC] at hu; subst hu; exact c5
  | 6,_,hu=>simp [opC] at hu; subst hu; exact c6
  | 7,_,hu=>simp [opC] at hu; subst hu; exact c7
  | 8,_,hu=>simp [opC] at hu; subst hu; exact c8
  | 9,_,hu=>simp [opC] at hu; subst hu; exact c9
  | 10,_,hu=>simp [opC] at hu; subst hu; exact c10
theorem RecsAt.cells {w:World} {v:Value} {xs:List (Int × Int × Int)} (h:RecsAt w v xs):CellsAt w 3 v xs.length (xs.flatMap recC):=by
  obtain ⟨A,cap,rfl,h1,h2,h3⟩:=h
  refine ⟨fun a m c hv j u hu=>?_,flat_len recC_len xs⟩
  obtain ⟨k,i,x,rfl,hi,hx,hu⟩:=flat_inv recC_len (by decide) hu
  obtain ⟨b,off,rfl,_,c0,c1,c2⟩:=h3 k x hx
  injection hv with hv; injection hv with hv; subst hv
  rw [add_at,← Nat.add_assoc]
  match i,hi,hu with
  | 0,_,hu=>simp [recC] at hu; subst hu; simpa using c0
  | 1,_,hu=>simp [recC] at hu; subst hu; exact c1
  | 2,_,hu=>simp [recC] at hu; subst hu; exact c2
theorem Row.shape {w:World} {B:Nat} {e:TypeId} {size:Nat} {v:Value} {n:Nat} {xs:List Value} (h:Row w B e size v n xs):(v=.slice none 0 0∧n=0)∨∃ g cap,v=.slice (some ⟨g,0,none⟩) n cap∧n≤cap∧cap≤9223372036854775807∧∀ j,j<n*size→w.cell? ⟨g,j,none⟩=xs[j]?:=by
  rcases h.own.2 with h0 | ⟨g,cap,cur,rfl,hb,hg,hn,hc,hs,ht⟩
  · exact .inl h0
  · exact .inr ⟨g,cap,rfl,hn,by simpa [maxLen] using hc,fun j hj=>World.ownsRow.cellAt h.own j hj⟩
theorem Row.ops {w:World} {B:Nat} {e:TypeId} {v:Value} {xs:List OpD} (h:Row w B e 11 v xs.length (xs.flatMap opC)) (hi:∀ x∈xs,OpI x) (hl:xs.length≤140737488351232):OpsAt w v xs:=by
  rcases h.shape with ⟨rfl,h0⟩ | ⟨g,cap,rfl,hn,hc,hat⟩
  · refine ⟨none,0,by rw [h0],⟨by omega,by omega⟩,⟨by omega,fun _=>rfl⟩,fun k x hx=>?_⟩
    have:=(List.getElem?_eq_some_iff.1 hx).1
    omega
  · refine ⟨some ⟨g,0,none⟩,cap,rfl,⟨hn,hl⟩,⟨hc,by simp⟩,fun k x hx=>⟨g,0,rfl,hi x (List.mem_of_getElem? hx),?_⟩⟩
    have hk:=(List.getElem?_eq_some_iff.1 hx).1
    have key:∀ i,i<11→w.cell? ⟨g,0+k*11+i,none⟩=(opC x)[i]?:=fun i hi=>by
      rw [Nat.zero_add,hat _ (by omega),flat_get opC_len xs k i x hx hi]
    exact ⟨key 0 (by omega),key 1 (by omega),key 2 (by omega),key 3 (by omega),key 4 (by omega),key 5 (by omega),key 6 (by omega),key 7 (by omega),key 8 (by omega),key 9 (by omega),key 10 (by omega)⟩
theorem OpsAt.I {w:World} {v:Value} {xs:List OpD} (h:OpsAt w v xs):∀ x∈xs,OpI x:=fun x hx=>by
  obtain ⟨k,hk⟩:=List.mem_iff_getElem?.1 hx
  obtain ⟨A,cap,_,_,_,h⟩:=h
  obtain ⟨_,_,_,hi,_⟩:=h k x hk; exact hi
theorem RecsAt.I {w:World} {v:Value} {xs:List (Int × Int × Int)} (h:RecsAt w v xs):∀ x∈xs,I64 x.1∧I64 x.2.1∧I64 x.2.2:=fun x hx=>by
  obtain ⟨k,hk⟩:=List.mem_iff_getElem?.1 hx
  obtain ⟨A,cap,_,_,_,h⟩:=h
  obtain ⟨_,_,_,hi,_⟩:=h k x hk; exact hi
theorem IntsAt.I {w:World} {v:Value} {xs:List Int} (h:IntsAt w v xs):∀ x∈xs,I64 x:=fun x hx=>by
  obtain ⟨k,hk⟩:=List.mem_iff_getElem?.1 hx
  obtain ⟨A,cap,_,_,_,h⟩:=h
  obtain ⟨_,_,_,hi,_⟩:=h k x hk; exact hi
end Go.Proofs.Ytlkcidmmpeebeaa
