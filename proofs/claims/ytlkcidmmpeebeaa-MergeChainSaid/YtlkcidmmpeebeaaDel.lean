/- Proved: slices.Delete of one block out of a row of blocks,cell by cell. -/
import Derived.Test.YtlkcidmmpeebeaaPcF
set_option linter.unusedVariables false
set_option linter.unusedSimpArgs false
namespace Go.Proofs.Ytlkcidmmpeebeaa
open Go.RowKit

def zBlkD:Value:=.agg #[.int .i64 0,.slice none 0 0,.int .i64 0,.int .i64 0,.int .i64 0,.slice none 0 0,.int .i64 0,.slice none 0 0,.int .i64 0,.slice none 0 0]
theorem blkDI:(Try.prog.info? 62).map (fun i=>(i.zero,i.size))=some (some zBlkD,10):=by kernel_rfl
theorem blkD_info:∃ i:TypeInfo,Try.prog.info? 62=some i∧i.zero=some zBlkD∧i.size=10:=by
  have:=blkDI
  cases h:Try.prog.info? 62 with
  | none=>rw [h] at this; cases this
  | some i =>
    rw [h] at this
    simp only [Option.map_some,Option.some.injEq,Prod.mk.injEq] at this
    exact ⟨i,rfl,this.1,this.2⟩

theorem run_delB (w:World) (ty:TypeId) (g i k c c2:Nat) (ad:Addr) (cur cs:List Value) (hg:w.heap[g]?=some (.cells cur.toArray 62 (0,0))) (hn:cs.length=k*10)
    (hsrc:∀ j v,cs[j]?=some v→w.cell? (ad.add j)=some v) (hfit:i*10+cs.length≤cur.length) (h1:∀ v∈cs,v.oneCell'=true) (hc:i+k≤c) :
    ∃ w',(Builtin.append_ #[22,22] ty #[.slice (some ⟨g,0,none⟩) i c,.slice (some ad) k c2]).run Try.prog w=.ok (.slice (some ⟨g,0,none⟩) (i+k) c) w'∧w'.heap[g]?=some (.cells (cur.take (i*10)++cs++cur.drop (i*10+cs.length)).toArray 62 (0,0))∧w.grownBy w' (some g):=by
  have hl:=run_loadCells_list (P:=Try.prog) w ad cs hsrc
  have hst:=run_storeCells_at Try.prog g (i*10) 62 cs 0 cur.toArray w hg (by simpa using hfit) h1
  obtain ⟨i0,hi0,hz0,hz1⟩:=blkD_info
  refine ⟨w.setRow g (cur.take (i*10)++cs++cur.drop (i*10+cs.length)).toArray,?_,setRow_heap w g _ _ 62 _ hg,⟨rfl,rfl,rfl,by simp [World.setRow],fun j hj hne=>?_⟩⟩
  · simp only [Nat.add_zero] at hst
    simp [Builtin.append_,run_underlying Try.underlying22,Builtin.lenOf,Builtin.firstCells,sizeOf,typeInfo,hi0,hz1,← hn,hl,hc,addr_add,hst]
  · simp only [World.setRow,Array.getElem?_modify]
    rw [if_neg (fun e=>hne (by rw [e]))]
theorem run_clrB (w:World) (ty:TypeId) (g off c:Nat) (cur:List Value) (hg:w.heap[g]?=some (.cells cur.toArray 62 (0,0))) (hfit:off+10≤cur.length) :
    ∃ w',(Builtin.clear_ #[22] ty #[.slice (some ⟨g,off,none⟩) 1 c]).run Try.prog w=.ok (.tuple #[]) w'∧w'.heap[g]?=some (.cells (cur.take off++zBlkD.cells.toList++cur.drop (off+10)).toArray 62 (0,0))∧w.grownBy w' (some g):=by
  have hst:=run_storeCells_at Try.prog g off 62 zBlkD.cells.toList 0 cur.toArray w hg (by simpa [zBlkD,Value.cells] using hfit) (by intro v hv; simp [zBlkD,Value.cells] at hv; rcases hv with rfl | rfl | rfl | rfl | rfl | rfl | rfl | rfl <;> rfl)
  obtain ⟨i0,hi0,hz0,hz1⟩:=blkD_info
  have hz:(zeroValue 62).run Try.prog w=.ok zBlkD w:=by simp [zeroValue,typeInfo,hi0,hz0]
  have hzc:Builtin.zeroCells zBlkD.cells 1=zBlkD.cells:=by kernel_rfl
  refine ⟨w.setRow g (cur.take off++zBlkD.cells.toList++cur.drop (off+10)).toArray,?_,setRow_heap w g _ _ 62 _ hg,⟨rfl,rfl,rfl,by simp [World.setRow],fun j hj hne=>?_⟩⟩
  · simp only [Nat.add_zero] at hst
    simp [Builtin.clear_,run_underlying Try.underlying22,hz,hzc,hst]
    rfl
  · simp only [World.setRow,Array.getElem?_modify]
    rw [if_neg (fun e=>hne (by rw [e]))]

theorem wpList_appB (w:World) {ops:Array Oper} {rest:List Oper} {o:Oper} {a:Act} {Q:Exit→Act→World→Prop} (hgd:o.guard=none) (d s:Operand)
    (ho:o.op=.call { callee:=.builtin .append,args:=#[d,s],argTypes:=#[22,22] }) (x y:Value) (hd:a.eval d=x) (hs:a.eval s=y) (v:Value) (w':World) (hr:(Builtin.append_ #[22,22] o.type #[x,y]).run Try.prog w=.ok v w')
    (h:wpList Try.prog ops Q rest (a.put o.dst v) w'):wpList Try.prog ops Q (o::rest) a w:=by
  refine wpList_plain hgd fun K hK=>?_
  unfold Oper.wp execOp
  simp only [ho,resolve,invoke,builtin,Sem.run_bind,Sem.run_pure,Result.andThen_ok,List.map_toArray,List.map_cons,List.map_nil,hs,hd,hr]
  exact hK _ _ h
/-- what slices.Delete leaves -/
def DelPost (C:List Value) (n i c g:Nat) (w:World) (e:Ending) (w':World):Prop :=
  ∃ C',e=.returned (.slice (some ⟨g,0,none⟩) (n-1) c)∧w'.heap[g]?=some (.cells (C':List Value).toArray 62 (0,0))∧C'.length=c*10∧C'.take ((n-1)*10)=C.take (i*10)++(C.take (n*10)).drop ((i+1)*10)∧w.grownBy w' (some g)
theorem del_row {C Z:List Value} {n i c:Nat} (hC:C.length=c*10) (hi:i<n) (hn:n≤c) (hz:Z.length=10) {C1:List Value} (h1:C1=C.take (i*10)++(C.take (n*10)).drop ((i+1)*10)++C.drop (i*10+((C.take (n*10)).drop ((i+1)*10)).length)) :
    C1.length=c*10∧(C1.take ((n-1)*10)++Z++C1.drop ((n-1)*10+10)).length=c*10∧(C1.take ((n-1)*10)++Z++C1.drop ((n-1)*10+10)).take ((n-1)*10)=C.take (i*10)++(C.take (n*10)).drop ((i+1)*10):=by
  have l1:(C.take (i*10)).length=i*10:=by rw [List.length_take]; omega
  have l2:((C.take (n*10)).drop ((i+1)*10)).length=(n-1-i)*10:=by rw [List.length_drop,List.length_take]; omega
  have l3:(C.drop (i*10+((C.take (n*10)).drop ((i+1)*10)).length)).length=(c-(n-1))*10:=by rw [List.length_drop,hC,l2]; omega
  have e1:C1.length=c*10:=by rw [h1,List.length_append,List.length_append,l3,l1,l2]; omega
  have t1:C1.take ((n-1)*10)=C.take (i*10)++(C.take (n*10)).drop ((i+1)*10):=by
    rw [h1,List.take_append_of_le_length (by rw [List.length_append,l1,l2]; omega),List.take_of_length_le (by rw [List.length_append,l1,l2]; omega)]
  have l4:(C1.take ((n-1)*10)).length=(n-1)*10:=by rw [List.length_take]; omega
  refine ⟨e1,by rw [List.length_append,List.length_append,l4,hz,List.length_drop,e1]; omega,?_⟩
  rw [List.append_assoc,List.take_append_of_le_length (by omega),List.take_of_length_le (by omega),t1]

set_option maxRecDepth 100000 in
set_option maxHeartbeats 2000000 in
theorem del_any (g n i j c:Nat) (hij:j=i+1) (C:List Value) (w:World) (hg:w.heap[g]?=some (.cells C.toArray 62 (0,0))) (hC:C.length=c*10) (hnc:n≤c) (hcm:c≤maxLen) (hl:n≤100000) (hi0:1≤i) (hil:i<n) (h1C:∀ v∈C.take (n*10),v.oneCell'=true) :
    Calls Try.prog 118 #[.slice (some ⟨g,0,none⟩) n c,.int .i64 i,.int .i64 j] w (DelPost C n i c g w):=by
  have H1C:=Lib.hid h1C; have HC:=Lib.hid hC; have HG:=Lib.hid hg
  have hgl:g<w.heap.size:=(Array.getElem?_eq_some_iff.1 hg).1
  have HSRC:=Lib.hid (fun (j:Nat) (v:Value) (hj:C[j]?=some v)=>(show w.cell? ⟨g,j,none⟩=some v by rw [cell_of_row w g j C.toArray 62 (0,0) hg]; simpa using hj))
  obtain ⟨u0,hu0⟩:∃ u0,C[0]?=some u0:=⟨C[0]'(by omega),List.getElem?_eq_getElem _⟩
  have p1:=HSRC.out 0 u0 hu0
  have HU0:=Lib.hid hu0
  clear hg h1C hu0 hC
  have ha0:(0:Int)≤(i:Int):=Int.natCast_nonneg _
  have ha1:(i:Int)≤(j:Int):=by omega
  have ha2:(j:Int)≤(n:Int):=by omega
  have ha3:(n:Int)≤(c:Int):=by omega
  have ha4:(i:Int)≤(c:Int):=by omega
  have ha5:(0:Int)≤(j:Int):=by omega
  have t1:((i:Int)==(j:Int))=false:=by simp; omega
  have t2:(i==j)=false:=by simp; omega
  have t3:¬ ((i:Int)=(j:Int)):=by omega
  have t4:i≤j:=by omega
  have t5:j≤n:=by omega
  have t6:i≤c:=by omega
  have HIJ:=Lib.hid hij
  clear hij
  go_enter Try.func118,Try.ntmps118
  go_wp2_with fail
  obtain ⟨S,eS⟩:∃ S:World→Prop,S=fun w'=>w'.cell? ⟨g,0,none⟩=some (u0):=⟨_,rfl⟩
  have mkS:∀ w':World,w'.cell? ⟨g,0,none⟩=some (u0)→S w':=fun w' g0=>by rw [eS]; exact g0
  have sS:=mkS _ p1
  have ne_:Nonempty (Lex.HW S):=⟨⟨_,sS⟩⟩
  have exS:∀ w':World,S w'→w'.cell? ⟨g,0,none⟩=some (u0):=fun w' h=>by rw [eS] at h; exact h
  have q0_:∀ p:Lex.HW S,p.w.cell? ⟨g,0,none⟩=some (u0):=fun p=>(exS _ p.ok)
  clear eS exS
  have MKS:=Lib.hid mkS; clear mkS sS
  refine Lex.wp_region_lex S 8 [([0,1,2,3,4,5],some 6),([7],none)] (by kernel_rfl) (by kernel_rfl) (fun _ _ d _ _ h=>by cases d <;> exact h) (MKS.out _ p1) ?_
  refine Lex.lexW_some (os:=?_) (o:=?_) (by simp only [List.filterMap_cons,List.filterMap_nil,List.getElem?_toArray,List.getElem?_cons_zero,List.getElem?_cons_succ]; rfl) (by simp only [List.getElem?_toArray,List.getElem?_cons_zero,List.getElem?_cons_succ]; rfl) ?_
  repeat (first | go_big_quiet_step (fail) | quiet_step (fail))
  refine wpQuiet_nil ?_
  intro K hK
  have HK:=Lib.hid hK; clear hK
  have hcl:=HC.out
  have hij:=HIJ.out
  obtain ⟨m,hm⟩:∃ m,m+1=n:=⟨n-1,by omega⟩
  obtain ⟨ad,hAd,hads⟩:∃ ad:Addr,(if c=j then some (⟨g,0,none⟩:Addr) else some ⟨g,j*10,none⟩)=some ad∧∀ k v,((C.take (n*10)).drop (j*10))[k]?=some v→w.drew.cell? (ad.add k)=some v:=by
    by_cases hcj:c=j
    · refine ⟨⟨g,0,none⟩,by rw [if_pos hcj],fun k v hk=>?_⟩
      rw [List.drop_eq_nil_of_le (by rw [List.length_take]; omega)] at hk; simp at hk
    · refine ⟨⟨g,j*10,none⟩,by rw [if_neg hcj],fun k v hk=>?_⟩
      rw [List.getElem?_drop,List.getElem?_take] at hk
      split at hk
      · rw [addr_add]; exact HSRC.out _ v hk
      · cases hk
  rw [hAd]
  have hcs:((C.take (n*10)).drop (j*10)).length=(n-j)*10:=by rw [List.length_drop,List.length_take]; omega
  obtain ⟨w3,hr3,h3,gr3⟩:=run_delB w.drew 22 g i (n-j) c (c-j) ad C ((C.take (n*10)).drop (j*10)) HG.out hcs hads (by rw [hcs]; omega) (fun v hv=>H1C.out v (List.mem_of_mem_drop hv)) (by omega)
  have hin:i+(n-j)=m:=by omega
  rw [hin] at hr3
  refine wpList_appB w.drew rfl (.tmp 22) (.tmp 25) rfl _ _ rfl rfl _ _ hr3 ?_
  obtain ⟨C1,hC1⟩:∃ C1,C1=C.take (i*10)++(C.take (n*10)).drop (j*10)++C.drop (i*10+((C.take (n*10)).drop (j*10)).length):=⟨_,rfl⟩
  rw [← hC1] at h3
  have hC1':C1=C.take (i*10)++(C.take (n*10)).drop ((i+1)*10)++C.drop (i*10+((C.take (n*10)).drop ((i+1)*10)).length):=by rw [hC1,hij]
  have hz10:zBlkD.cells.toList.length=10:=rfl
  obtain ⟨r1,r2,r3⟩:=del_row hcl hil hnc hz10 hC1'
  have hgw3:w.grownBy w3 (some g):=⟨gr3.os,gr3.tape,gr3.output,gr3.size,gr3.block⟩
  have q3:w3.cell? ⟨g,0,none⟩=some u0:=by
    rw [cell_of_row w3 g 0 C1.toArray 62 (0,0) h3]
    have:C1[0]?=some u0:=by
      rw [hC1,List.append_assoc,List.getElem?_append_left (by rw [List.length_take]; omega),List.getElem?_take,if_pos (by omega)]
      exact HU0.out
    simpa using this
  have h3f:w3.heap[g]?=some (.cells C1.toArray 62 (0,0)):=h3
  have H3:=Lib.hid h3f; have R1:=Lib.hid r1; have R2:=Lib.hid r2; have R3:=Lib.hid r3; have HGW3:=Lib.hid hgw3
  have HM:=Lib.hid hm
  have hm0:(0:Int)≤(m:Int):=Int.natCast_nonneg _
  have hm1:(m:Int)≤(n:Int):=by omega
  have hm2:m≤n:=by omega
  have hm3:¬ c=m:=by omega
  have hm4:(n:Int)≤(c:Int):=ha3
  clear h3 h3f r1 r2 r3 hgw3 gr3 hr3 hC1 hC1' hcs hAd hads hin hcl hij hm
  refine HK.out _ _ (fun _=>MKS.out _ q3) ?_
  clear HK K
  refine Lex.lexW_none (os:=?_) (by simp only [List.filterMap_cons,List.filterMap_nil,List.getElem?_toArray,List.getElem?_cons_zero,List.getElem?_cons_succ]; rfl) ?_
  repeat (first | go_big_quiet_step (fail) | quiet_step (fail))
  refine wpQuiet_nil (Lex.lexW_nil ?_)
  have hgc:w3.cell? ⟨g,0,none⟩=some u0:=q3
  go_wp2_with (at_builtin; refine stop_ ?_)
  refine Lib.hid ?_
  have em:n-1=m:=by have:=HM.out; omega
  have hnm:n-m=1:=by have:=HM.out; omega
  rw [hnm]
  obtain ⟨w4,hr4,g4,gr4⟩:=run_clrB w3 0 g (m*10) (c-m) C1 H3.out (by have:=R1.out; have:=HM.out; omega)
  rw [hr4]
  have r2:=R2.out
  have r3:=R3.out
  rw [em] at r2 r3
  have HDONE:Hid (DelPost C n i c g w (.returned (.slice (some ⟨g,0,none⟩) m c)) w4):=Lib.hid ⟨_,by rw [em],g4,r2,by rw [em]; exact r3,grown_trans HGW3.out gr4⟩
  clear hr4 g4 gr4 r2 r3 em hnm
  go_wp2_with fail
  go_ret
  exact HDONE.out
end Go.Proofs.Ytlkcidmmpeebeaa
