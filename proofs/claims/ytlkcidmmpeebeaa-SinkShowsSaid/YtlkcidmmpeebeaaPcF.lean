/- Proved: what the built-ins of slices.Insert do to a row of operations,cell by cell: append of zero operations where there is no room,copy of operations. -/
import Derived.Test.YtlkcidmmpeebeaaScA
import Derived.Test.YtlkcidmmpeebeaaScB
import Derived.OwnWalk
import Derived.Lib.AppendZerosOnto
import Derived.Lib.Overlaps
import Derived.Laws.CopyRow
import Derived.Maps.AppendAt
import Derived.Test.YtlkcidmmpeebeaaPcD
import Derived.Test.YtlkcidmmpeebeaaPt
set_option linter.unusedVariables false
set_option linter.unusedSimpArgs false
namespace Go.Proofs.Ytlkcidmmpeebeaa
open Go.RowKit

def zOp:Value:=.agg #[.int .i64 0,.int .i64 0,.int .i64 0,.int .i64 0,.int .i64 0,.int .i64 0,.int .i64 0,.int .i64 0,.int .i64 0,.int .i64 0,.int .i64 0]
theorem opI:(Try.prog.info? 74).map (fun i=>(i.zero,i.size,i.bytes))=some (some zOp,11,88):=by kernel_rfl
theorem addr_add (b off j:Nat):(⟨b,off,none⟩:Addr).add j=⟨b,off+j,none⟩:=by unfold Addr.add; split <;> simp_all
theorem run_copyO (w:World) (ty:TypeId) (N o dLen dCap:Nat) (ad:Addr) (sLen sCap:Nat) (cur cs:List Value) (hg:w.heap[N]?=some (.cells cur.toArray 74 (0,0))) (hn:cs.length=Nat.min sLen dLen*11)
    (hsrc:∀ j v,cs[j]?=some v→w.cell? (ad.add j)=some v) (hfit:o+cs.length≤cur.length) (h1:∀ v∈cs,v.oneCell'=true) :
    ∃ w',(Builtin.copy_ #[55,55] ty #[.slice (some ⟨N,o,none⟩) dLen dCap,.slice (some ad) sLen sCap]).run Try.prog w=.ok (goInt (Nat.min sLen dLen)) w'∧w'.heap[N]?=some (.cells (cur.take o++cs++cur.drop (o+cs.length)).toArray 74 (0,0))∧w.grownBy w' (some N):=by
  have hl:=run_loadCells_list (P:=Try.prog) w ad cs hsrc
  have hst:=run_storeCells_at Try.prog N o 74 cs 0 cur.toArray w hg (by simpa using hfit) h1
  obtain ⟨i0,hi0,hz0,hz1,hz2⟩:=info_parts opI
  refine ⟨w.setRow N (cur.take o++cs++cur.drop (o+cs.length)).toArray,?_,setRow_heap w N _ _ 74 _ hg,⟨rfl,rfl,rfl,by simp [World.setRow],fun i hi hne=>?_⟩⟩
  · simp [Builtin.copy_,run_underlying Try.underlying55,Builtin.lenOf,Builtin.firstCells,sizeOf,typeInfo,hi0,hz1,← hn,hl,hst]
  · simp only [World.setRow,Array.getElem?_modify]
    rw [if_neg (fun e=>hne (by rw [e]))]

theorem wpList_copyO (w:World) {ops:Array Oper} {rest:List Oper} {o:Oper} {a:Act} {Q:Exit→Act→World→Prop} (hgd:o.guard=none) (d s:Operand)
    (ho:o.op=.call { callee:=.builtin .copy,args:=#[d,s],argTypes:=#[55,55] }) (x y:Value) (hd:a.eval d=x) (hs:a.eval s=y) (v:Value) (w':World) (hr:(Builtin.copy_ #[55,55] o.type #[x,y]).run Try.prog w=.ok v w')
    (h:wpList Try.prog ops Q rest (a.put o.dst v) w'):wpList Try.prog ops Q (o::rest) a w:=by
  refine wpList_plain hgd fun K hK=>?_
  unfold Oper.wp execOp
  simp only [ho,resolve,invoke,builtin,Sem.run_bind,Sem.run_pure,Result.andThen_ok,List.map_toArray,List.map_cons,List.map_nil,hs,hd,hr]
  exact hK _ _ h

theorem wpList_zerosO (w:World) {ops:Array Oper} {rest:List Oper} {o:Oper} {a:Act} {Q:Exit→Act→World→Prop} (hgd:o.guard=none) (d s:Operand)
    (ho:o.op=.call { callee:=.builtin .append,args:=#[d,s],argTypes:=#[55,3] }) (x y:Value) (hd:a.eval d=x) (hs:a.eval s=y) (v:Value) (w':World) (hr:(Builtin.append_ #[55,3] o.type #[x,y]).run Try.prog w=.ok v w')
    (h:wpList Try.prog ops Q rest (a.put o.dst v) w'):wpList Try.prog ops Q (o::rest) a w:=by
  refine wpList_plain hgd fun K hK=>?_
  unfold Oper.wp execOp
  simp only [ho,resolve,invoke,builtin,Sem.run_bind,Sem.run_pure,Result.andThen_ok,List.map_toArray,List.map_cons,List.map_nil,hs,hd,hr]
  exact hK _ _ h

theorem run_zerosO (w:World) (ty:TypeId) (ad:Addr) (i cap k:Nat) (olds:List Value) (ho:olds.length=i*11) (hsrc:∀ j v,olds[j]?=some v→w.cell? (ad.add j)=some v) (hk:0<k) (hg:cap<i+k) (hsm:i+k≤1000000) (hcap:cap≤1000000) :
    ∃ c' w' sp,(Builtin.append_ #[55,3] ty #[.slice (some ad) i cap,.int .i64 k]).run Try.prog w=.ok (.slice (some ⟨w.heap.size,0,none⟩) (i+k) c') w'∧w'.heap[w.heap.size]?=some (.cells (olds++sp).toArray 74 (0,0))∧sp.length=(c'-i)*11∧i+k≤c'∧c'≤maxLen∧Below w.heap.size w w':=by
  obtain ⟨i0,hi0,hz0,hz1,hz2⟩:=info_parts opI
  have hl:=run_loadCells_list (P:=Try.prog) w.drew ad olds hsrc
  have hold:(Builtin.firstCells i0.size i (.slice (some ad) i cap)).run Try.prog w.drew=.ok olds.toArray w.drew:=by
    simp only [Builtin.firstCells,hz1,← ho]
    exact hl
  have hr:=Lib.run_append_grow_zeros (P:=Try.prog) w 55 3 ty 74 i0 zOp .i64 .i64 Try.underlying55 Try.underlying3 hi0 hz0 (some ad) i cap olds hold k hk (by rw [hz1]; decide) hg (by omega) (by rw [hz2]; omega) (growslice_fits hg (by rw [hz2]; omega))
  refine ⟨grownCap w (i+k) cap 74,_,(Builtin.zeroCells (Value.cells zOp) k++Builtin.zeroCells (Value.cells zOp) (grownCap w (i+k) cap 74-(i+k))).toList,hr,?_,?_,grownCap_ge _ _ _ _,?_,?_⟩
  · have:=heap_alloc_new w.drew (.cells (olds.toArray++Builtin.zeroCells (Value.cells zOp) k++Builtin.zeroCells (Value.cells zOp) (grownCap w (i+k) cap 74-(i+k))) 74)
    rw [show (w.drew.heap.size)=w.heap.size from rfl] at this
    rw [this]
    refine congrArg (fun x=>some (Obj.cells x 74 (0,0))) ?_
    generalize Builtin.zeroCells (Value.cells zOp) k=A
    generalize Builtin.zeroCells (Value.cells zOp) (grownCap w (i+k) cap 74-(i+k))=B
    apply Array.ext'
    simp
  · have:=grownCap_ge w (i+k) cap 74
    simp [size_zeroCells,Value.cells,zOp]; omega
  · exact grownCap_le_maxLen w (i+k) cap 74 (by simp only [maxLen]; omega)
  · exact ((Below.refl _ _).drew).alloc (Nat.le_refl _) _

theorem app_zerosO (w:World) {ops:Array Oper} {rest:List Oper} {o:Oper} {a:Act} {Q:Exit→Act→World→Prop} (hgd:o.guard=none) (d s:Operand)
    (ho:o.op=.call { callee:=.builtin .append,args:=#[d,s],argTypes:=#[55,3] }) (g i cap k tot:Nat) (htot:i+k=tot) (kz:Int) (hd:a.eval d=.slice (some ⟨g,0,none⟩) i cap) (hs:a.eval s=.int .i64 kz) (hkz:kz=(k:Int))
    (olds:List Value) (hol:olds.length=i*11) (hsrc:∀ j v,olds[j]?=some v→w.cell? ⟨g,j,none⟩=some v) (hk:0<k) (hg:cap<i+k) (hsm:i+k≤1000000) (hcap:cap≤1000000)
    (h:∀ c' w' sp,w'.heap[w.heap.size]?=some (.cells (olds++sp).toArray 74 (0,0))→sp.length=(c'-i)*11→tot≤c'→c'≤maxLen→Below w.heap.size w w'→wpList Try.prog ops Q rest (a.put o.dst (.slice (some ⟨w.heap.size,0,none⟩) tot c')) w'):wpList Try.prog ops Q (o::rest) a w:=by
  subst hkz htot
  obtain ⟨c',w',sp,hr,h1,h2,h3,h4,h5⟩:=run_zerosO w o.type ⟨g,0,none⟩ i cap k olds hol (fun j v hj=>by
    rw [addr_add,Nat.zero_add]; exact hsrc j v hj) hk hg hsm hcap
  exact wpList_zerosO w hgd d s ho _ _ hd hs _ _ hr (h c' w' sp h1 h2 h3 h4 h5)

theorem app_copyO (w:World) {ops:Array Oper} {rest:List Oper} {o:Oper} {a:Act} {Q:Exit→Act→World→Prop} (hgd:o.guard=none) (d s:Operand)
    (ho:o.op=.call { callee:=.builtin .copy,args:=#[d,s],argTypes:=#[55,55] }) (N off dLen dCap g so sLen sCap:Nat) (hd:a.eval d=.slice (some ⟨N,off,none⟩) dLen dCap) (hs:a.eval s=.slice (some ⟨g,so,none⟩) sLen sCap)
    (cur cs:List Value) (hN:w.heap[N]?=some (.cells cur.toArray 74 (0,0))) (hn:cs.length=Nat.min sLen dLen*11) (hsrc:∀ j v,cs[j]?=some v→w.cell? ⟨g,so+j,none⟩=some v) (hfit:off+cs.length≤cur.length) (h1:∀ v∈cs,v.oneCell'=true)
    (h:∀ w',w'.heap[N]?=some (.cells (cur.take off++cs++cur.drop (off+cs.length)).toArray 74 (0,0))→w.grownBy w' (some N)→wpList Try.prog ops Q rest (a.put o.dst (goInt (Nat.min sLen dLen))) w'):wpList Try.prog ops Q (o::rest) a w:=by
  obtain ⟨w',hr,h2,h3⟩:=run_copyO w o.type N off dLen dCap ⟨g,so,none⟩ sLen sCap cur cs hN hn (fun j v hj=>by
    rw [addr_add]; exact hsrc j v hj) hfit h1
  exact wpList_copyO w hgd d s ho _ _ hd hs _ _ hr (h w' h2 h3)
theorem grown_trans {a b c:World} {r:Option Nat} (h:a.grownBy b r) (k:b.grownBy c r):a.grownBy c r :=
  ⟨k.os.trans h.os,k.tape.trans h.tape,k.output.trans h.output,Nat.le_trans h.size k.size,fun i hi hne=>(k.block i (Nat.lt_of_lt_of_le hi h.size) hne).trans (h.block i hi hne)⟩
end Go.Proofs.Ytlkcidmmpeebeaa

/- Proved: slices.Insert of one operation into a row of operations ahead of its end,cell by cell: with room and without. -/
namespace Go.Proofs.Ytlkcidmmpeebeaa
open Go.RowKit

/-- what slices.Insert leaves -/
def InsPost (C us:List Value) (n i g:Nat) (w:World) (e:Ending) (w':World):Prop :=
  ∃ b c' C',e=.returned (.slice (some ⟨b,0,none⟩) (n+1) c')∧w'.heap[b]?=some (.cells (C':List Value).toArray 74 (0,0))∧C'.length=c'*11∧n+1≤c'∧c'≤maxLen ∧
    C'.take ((n+1)*11)=C.take (i*11)++us++(C.take (n*11)).drop (i*11)∧w.grownBy w' (some g)∧(b=g∨w.heap.size≤b)

theorem ins_row {α:Type} {C us sp:List α} {n i c:Nat} (hC:C.length=n*11) (hus:us.length=11) (hi:i<n) (hsp:sp.length=(c-i)*11) (hc:n+1≤c) :
    (C.take (i*11)++us++C.drop (i*11)++(C.take (i*11)++us++sp.drop 11).drop ((i+1)*11+(C.drop (i*11)).length)).length=c*11 ∧
    (C.take (i*11)++us++C.drop (i*11)++(C.take (i*11)++us++sp.drop 11).drop ((i+1)*11+(C.drop (i*11)).length)).take ((n+1)*11)=C.take (i*11)++us++(C.take (n*11)).drop (i*11):=by
  have h1:(C.take (i*11)).length=i*11:=by rw [List.length_take]; omega
  have h2:(C.drop (i*11)).length=(n-i)*11:=by rw [List.length_drop]; omega
  have h3:(C.take (i*11)++us++C.drop (i*11)).length=(n+1)*11:=by rw [List.length_append,List.length_append,h1,h2,hus]; omega
  have h4:((C.take (i*11)++us++sp.drop 11).drop ((i+1)*11+(C.drop (i*11)).length)).length=(c-(n+1))*11:=by
    rw [List.length_drop,List.length_append,List.length_append,h1,h2,hus,List.length_drop,hsp]; omega
  refine ⟨by rw [List.length_append,h3,h4]; omega,?_⟩
  rw [List.take_append_of_le_length (by rw [h3]; exact Nat.le_refl _),List.take_of_length_le (by rw [h3]; exact Nat.le_refl _),List.take_of_length_le (show C.length≤n*11 by rw [hC]; exact Nat.le_refl _)]

set_option maxRecDepth 100000 in
set_option maxHeartbeats 2000000 in
theorem ins_grow (g hh vc n i:Nat) (C us:List Value) (w:World) (hg:w.heap[g]?=some (.cells C.toArray 74 (0,0))) (hC:C.length=n*11) (hl:n≤100000) (hil:i<n)
    (hus:us.length=11) (hu:∀ j v,us[j]?=some v→w.cell? ⟨hh,j,none⟩=some v) (h1:∀ v∈us,v.oneCell'=true) (h1C:∀ v∈C,v.oneCell'=true) :
    Calls Try.prog 125 #[.slice (some ⟨g,0,none⟩) n n,.int .i64 i,.slice (some ⟨hh,0,none⟩) 1 vc] w (InsPost C us n i g w):=by
  have HU:=Lib.hid hu; have H1V:=Lib.hid h1; have H1C:=Lib.hid h1C; have HUS:=Lib.hid hus; have HC:=Lib.hid hC
  have hgl:g<w.heap.size:=(Array.getElem?_eq_some_iff.1 hg).1
  have HSRC:=Lib.hid (fun (j:Nat) (v:Value) (hj:C[j]?=some v)=>(show w.cell? ⟨g,j,none⟩=some v by rw [cell_of_row w g j C.toArray 74 (0,0) hg]; simpa using hj))
  obtain ⟨u0,hu0⟩:∃ u0,us[0]?=some u0:=⟨us[0]'(by omega),List.getElem?_eq_getElem _⟩
  have p1:=hu 0 u0 hu0
  clear hg hu h1 h1C hu0 hus hC
  have hi0:(0:Int)≤(i:Int):=Int.natCast_nonneg _
  have hi1:(i:Int)<(n:Int):=by omega
  have t1:((i:Int)==(n:Int))=false:=by simp; omega
  have t2:(i==n)=false:=by simp; omega
  go_enter Try.func125,Try.ntmps125
  go_wp2_with (at_builtin; refine app_zerosO _ rfl (.tmp 34) (.tmp 39) rfl g i n (n+1-i) (n+1) (by omega) _ rfl rfl (by omega) (C.take (i*11)) (by have:=HC.out; simp; omega) (fun j v hj=>HSRC.out j v (by rw [List.getElem?_take] at hj; split at hj <;> simp_all)) (by omega) (by omega) (by omega) (by omega) ?_; intro c1 w1 sp h1 h2 h3 h4 h5; have H1:=Lib.hid h1; have H2:=Lib.hid h2; have H5:=Lib.hid h5; clear h1 h2 h5)
  have h3c:=h3
  have h4c:=h4
  have hcl:=HC.out
  have husl:=HUS.out
  have hsp:=H2.out
  have htl:(C.take (i*11)).length=i*11:=by simp; omega
  obtain ⟨w2,hr2,g2,gr2⟩:=run_copyO w1 3 w.heap.size (i*11) (n+1-i) (c1-i) ⟨hh,0,none⟩ 1 vc (C.take (i*11)++sp) us H1.out
    (by rw [husl,show Nat.min 1 (n+1-i)=1 from Nat.min_eq_left (by omega)]) (fun j v hj=>by rw [addr_add,Nat.zero_add]; exact cell_below H5.out (HU.out j v hj)) (by rw [List.length_append,htl]; omega) H1V.out
  rw [hr2]
  have hL:(C.take (i*11)++sp).take (i*11)++us++(C.take (i*11)++sp).drop (i*11+us.length)=C.take (i*11)++us++sp.drop 11:=by
    rw [List.take_append_of_le_length (by omega),List.take_of_length_le (by omega),List.drop_append,List.drop_eq_nil_of_le (by omega),htl,husl]
    simp
  rw [hL] at g2
  have hgw:w.grownBy w2 none:=by
    refine ⟨gr2.os.trans H5.out.os,gr2.tape.trans H5.out.tape,gr2.output.trans H5.out.output,Nat.le_trans H5.out.size gr2.size,fun j hj _=>?_⟩
    rw [gr2.block j (by have:=H5.out.size; omega) (by simp; omega)]
    exact H5.out.block j hj
  have q1:w2.cell? ⟨hh,0,none⟩=some u0:=hgw.cell p1 (by simp)
  have G2:=Lib.hid g2; have HGW:=Lib.hid hgw
  clear hr2 g2 gr2 hL hgw H1 H2 H5
  have hw1:IntKind.i64.wrap ((i:Int)+1)=(i:Int)+1:=IntWalk.i64_in _ (by omega)
  have hw2:(0:Int)≤(i:Int)+1:=by omega
  have hw3:((i:Int)+1).toNat=i+1:=by omega
  have hw4:(i:Int)+1≤((n+1:Nat):Int):=by omega
  have hw5:(i:Int)≤(n:Int):=by omega
  have hw6:((n+1:Nat):Int)≤(c1:Int):=by omega
  go_wp2_with fail
  obtain ⟨S,eS⟩:∃ S:World→Prop,S=fun w'=>w'.cell? ⟨hh,0,none⟩=some (u0):=⟨_,rfl⟩
  have mkS:∀ w':World,w'.cell? ⟨hh,0,none⟩=some (u0)→S w':=fun w' g0=>by rw [eS]; exact g0
  have sS:=mkS _ q1
  have ne_:Nonempty (Lex.HW S):=⟨⟨_,sS⟩⟩
  have exS:∀ w':World,S w'→w'.cell? ⟨hh,0,none⟩=some (u0):=fun w' h=>by rw [eS] at h; exact h
  have q0_:∀ p:Lex.HW S,p.w.cell? ⟨hh,0,none⟩=some (u0):=fun p=>(exS _ p.ok)
  clear eS exS
  have MKS:=Lib.hid mkS; clear mkS sS
  refine Lex.wp_region_lex S 9 [([0,1,2,3,4,5,6,7],some 8)] (by kernel_rfl) (by kernel_rfl) (fun _ _ d _ _ h=>by cases d <;> exact h) (MKS.out _ q1) ?_
  refine Lex.lexW_some (os:=?_) (o:=?_) (by simp only [List.filterMap_cons,List.filterMap_nil,List.getElem?_toArray,List.getElem?_cons_zero,List.getElem?_cons_succ]; rfl) (by simp only [List.getElem?_toArray,List.getElem?_cons_zero,List.getElem?_cons_succ]; rfl) ?_
  repeat (first | go_big_quiet_step (fail) | quiet_step (fail))
  refine wpQuiet_nil ?_
  intro K hK
  have HK:=Lib.hid hK; clear hK
  rw [if_neg (show ¬ c1=i+1 by omega),if_neg (show ¬ n=i by omega)]
  have G2':w2.drew.heap[w.heap.size]?=some (.cells (C.take (i*11)++us++sp.drop 11).toArray 74 (0,0)):=G2.out
  refine app_copyO w2.drew rfl (.tmp 50) (.tmp 53) rfl w.heap.size ((i+1)*11) (n-i) (c1-(i+1)) g (i*11) (n-i) (n-i) rfl rfl (C.take (i*11)++us++sp.drop 11) (C.drop (i*11)) G2'
    (by rw [List.length_drop,show Nat.min (n-i) (n-i)=n-i from Nat.min_self _]; omega)
    (fun j v hj=>by rw [List.getElem?_drop] at hj; exact HGW.out.cell (HSRC.out _ v hj) (by simp)) (by simp only [List.length_append,List.length_drop,htl]; omega) (fun v hv=>H1C.out v (List.mem_of_mem_drop hv)) ?_
  clear G2'
  intro w3 h3 gr3
  have hL:(C.take (i*11)++us++sp.drop 11).take ((i+1)*11)=C.take (i*11)++us:=by
    rw [List.take_append_of_le_length (by rw [List.length_append,htl]; omega),List.take_of_length_le (by rw [List.length_append,htl]; omega)]
  rw [hL] at h3
  have hgw:w.grownBy w3 none:=by
    refine ⟨gr3.os.trans HGW.out.os,gr3.tape.trans HGW.out.tape,gr3.output.trans HGW.out.output,Nat.le_trans HGW.out.size gr3.size,fun j hj _=>?_⟩
    rw [gr3.block j (by have:=HGW.out.size; exact Nat.lt_of_lt_of_le hj this) (by simp; omega)]
    exact HGW.out.block j hj (by simp)
  have q3:w3.cell? ⟨hh,0,none⟩=some u0:=hgw.cell p1 (by simp)
  have HDONE:Hid (InsPost C us n i g w (.returned (.slice (some ⟨w.heap.size,0,none⟩) (n+1) c1)) w3):=Lib.hid ⟨_,_,_,rfl,h3,(ins_row hcl husl hil hsp h3c).1,h3c,h4c,(ins_row hcl husl hil hsp h3c).2,⟨hgw.os,hgw.tape,hgw.output,hgw.size,fun j hj _=>hgw.block j hj (by simp)⟩,.inr (Nat.le_refl _)⟩
  clear h3 gr3 hL hgw
  refine HK.out _ _ (fun _=>MKS.out _ q3) ?_
  clear HK K
  refine Lex.lexW_nil ?_
  go_wp2_with fail
  go_ret
  exact HDONE.out

theorem ins_row2 {α:Type} {C us:List α} {n i c:Nat} (hC:C.length=c*11) (hus:us.length=11) (hi:i<n) (hc:n+1≤c) {C1:List α} (h1:C1=C.take ((i+1)*11)++(C.take (n*11)).drop (i*11)++C.drop ((i+1)*11+((C.take (n*11)).drop (i*11)).length)) :
    C1.length=c*11∧(C1.take (i*11)++us++C1.drop (i*11+us.length)).length=c*11∧(C1.take (i*11)++us++C1.drop (i*11+us.length)).take ((n+1)*11)=C.take (i*11)++us++(C.take (n*11)).drop (i*11):=by
  have l1:(C.take ((i+1)*11)).length=(i+1)*11:=by rw [List.length_take]; omega
  have l2:((C.take (n*11)).drop (i*11)).length=(n-i)*11:=by rw [List.length_drop,List.length_take]; omega
  have l3:(C.take (i*11)).length=i*11:=by rw [List.length_take]; omega
  have t1:C1.take (i*11)=C.take (i*11):=by
    rw [h1,List.append_assoc,List.take_append_of_le_length (by omega),List.take_take,Nat.min_eq_left (by omega)]
  have t2:C1.drop (i*11+us.length)=(C.take (n*11)).drop (i*11)++C.drop ((i+1)*11+((C.take (n*11)).drop (i*11)).length):=by
    rw [h1,List.append_assoc,List.drop_append,List.drop_eq_nil_of_le (by omega),show i*11+us.length-(C.take ((i+1)*11)).length=0 by omega]
    simp
  have l4:(C.drop ((i+1)*11+((C.take (n*11)).drop (i*11)).length)).length=(c-(n+1))*11:=by rw [List.length_drop,hC,l2]; omega
  refine ⟨by rw [h1,List.length_append,List.length_append,l4,l1,l2]; omega,?_,?_⟩
  · rw [t1,t2,List.length_append,List.length_append,List.length_append,l4,l3,hus,l2]; omega
  · rw [t1,t2,← List.append_assoc,List.take_append_of_le_length (by rw [List.length_append,List.length_append,l3,hus,l2]; omega),List.take_of_length_le (by rw [List.length_append,List.length_append,l3,hus,l2]; omega)]

set_option maxRecDepth 100000 in
set_option maxHeartbeats 2000000 in
theorem ins_room (g hh vc n i c:Nat) (C V us:List Value) (w:World) (hg:w.heap[g]?=some (.cells C.toArray 74 (0,0))) (hC:C.length=c*11) (hnc:n+1≤c) (hcm:c≤maxLen) (hl:n≤100000) (hil:i<n) (hV:w.heap[hh]?=some (.cells V.toArray 74 (0,0))) (hgh:hh≠g)
    (hus:us.length=11) (hu:∀ j v,us[j]?=some v→w.cell? ⟨hh,j,none⟩=some v) (h1:∀ v∈us,v.oneCell'=true) (h1C:∀ v∈C.take (n*11),v.oneCell'=true) :
    Calls Try.prog 125 #[.slice (some ⟨g,0,none⟩) n c,.int .i64 i,.slice (some ⟨hh,0,none⟩) 1 vc] w (InsPost C us n i g w):=by
  have hov:∀ lb cb,(callFunc 151 #[.slice (some ⟨hh,0,none⟩) 1 vc,.slice (some ⟨g,(i+1)*11,none⟩) lb cb]).run Try.prog w=.ok (.value (.bool false)) w:=fun lb cb=>by
    rw [run_callFunc_extern (f:=151) (fn:=_) rfl (by kernel_rfl) (by kernel_rfl) (by kernel_rfl) (e:=Extern.SlicesOverlaps.overlaps #[55,55] #[4]) (by kernel_rfl),
      Lib.run_overlaps_apart w 55 4 74 Try.underlying55 11 (fun w=>by obtain ⟨i0,hi0,_,hz1,_⟩:=info_parts opI; simp [sizeOf,typeInfo,hi0,hz1]) ⟨hh,0,none⟩ ⟨g,(i+1)*11,none⟩ 1 vc lb cb hgh 74 74 V.length C.length (by simp [World.shape?,hV]) (by simp [World.shape?,hg]) (by omega) (by simp [World.frozen?,hV]) (by simp [World.frozen?,hV])]
    rfl
  have HU:=Lib.hid hu; have H1V:=Lib.hid h1; have H1C:=Lib.hid h1C; have HUS:=Lib.hid hus; have HC:=Lib.hid hC; have HG:=Lib.hid hg
  have hgl:g<w.heap.size:=(Array.getElem?_eq_some_iff.1 hg).1
  have HSRC:=Lib.hid (fun (j:Nat) (v:Value) (hj:C[j]?=some v)=>(show w.cell? ⟨g,j,none⟩=some v by rw [cell_of_row w g j C.toArray 74 (0,0) hg]; simpa using hj))
  obtain ⟨u0,hu0⟩:∃ u0,us[0]?=some u0:=⟨us[0]'(by omega),List.getElem?_eq_getElem _⟩
  have p1:=hu 0 u0 hu0
  clear hg hu h1 h1C hu0 hus hC hV
  have hi0:(0:Int)≤(i:Int):=Int.natCast_nonneg _
  have hi1:(i:Int)<(n:Int):=by omega
  have t1:((i:Int)==(n:Int))=false:=by simp; omega
  have t2:(i==n)=false:=by simp; omega
  have hw1:IntKind.i64.wrap ((i:Int)+1)=(i:Int)+1:=IntWalk.i64_in _ (by omega)
  have hw0:IntKind.i64.wrap ((n:Int)+1)=(n:Int)+1:=IntWalk.i64_in _ (by omega)
  have hw2:(0:Int)≤(i:Int)+1:=by omega
  have hw3:((i:Int)+1).toNat=i+1:=by omega
  have hw3n:((n:Int)+1).toNat=n+1:=by omega
  have hw4:(i:Int)+1≤((n+1:Nat):Int):=by omega
  have hw5:(i:Int)≤(n:Int):=by omega
  have hw6:(n:Int)+1≤(c:Int):=by omega
  have hw7:¬ ((c:Int)<(n:Int)+1):=by omega
  have hb2:¬ (c=i+1):=by omega
  have hb4:¬ (c=i):=by omega
  have hb5:(i:Int)≤(n:Int)+1:=by omega
  have hb6:(i:Int)+1≤(n:Int)+1:=by omega
  have hb7:(i:Int)≤((n+1:Nat):Int):=by omega
  have hb8:i≤n:=by omega
  have hb9:i≤n+1:=by omega
  go_enter Try.func125,Try.ntmps125
  go_wp2_with (simp only [hov])
  have hcl:=HC.out
  have husl:=HUS.out
  obtain ⟨S,eS⟩:∃ S:World→Prop,S=fun w'=>w'.cell? ⟨hh,0,none⟩=some (u0):=⟨_,rfl⟩
  have mkS:∀ w':World,w'.cell? ⟨hh,0,none⟩=some (u0)→S w':=fun w' g0=>by rw [eS]; exact g0
  have sS:=mkS _ p1
  have ne_:Nonempty (Lex.HW S):=⟨⟨_,sS⟩⟩
  have exS:∀ w':World,S w'→w'.cell? ⟨hh,0,none⟩=some (u0):=fun w' h=>by rw [eS] at h; exact h
  have q0_:∀ p:Lex.HW S,p.w.cell? ⟨hh,0,none⟩=some (u0):=fun p=>(exS _ p.ok)
  clear eS exS
  have MKS:=Lib.hid mkS; clear mkS sS
  refine Lex.wp_region_lex S 9 [([0,1,2,3,4,5,6,7],some 8)] (by kernel_rfl) (by kernel_rfl) (fun _ _ d _ _ h=>by cases d <;> exact h) (MKS.out _ p1) ?_
  refine Lex.lexW_some (os:=?_) (o:=?_) (by simp only [List.filterMap_cons,List.filterMap_nil,List.getElem?_toArray,List.getElem?_cons_zero,List.getElem?_cons_succ]; rfl) (by simp only [List.getElem?_toArray,List.getElem?_cons_zero,List.getElem?_cons_succ]; rfl) ?_
  repeat (first | go_big_quiet_step (fail) | quiet_step (fail))
  refine wpQuiet_nil ?_
  intro K hK
  have HK:=Lib.hid hK; clear hK
  have hg':w.drew.heap[g]?=some (.cells C.toArray 74 (0,0)):=HG.out
  have hcs:((C.take (n*11)).drop (i*11)).length=(n-i)*11:=by rw [List.length_drop,List.length_take]; omega
  refine app_copyO w.drew rfl (.tmp 73) (.tmp 76) rfl g ((i+1)*11) (n-i) (c-(i+1)) g (i*11) (n+1-i) (c-i) rfl rfl C ((C.take (n*11)).drop (i*11)) hg'
    (by rw [hcs,show Nat.min (n+1-i) (n-i)=n-i from Nat.min_eq_right (by omega)])
    (fun j v hj=>by rw [List.getElem?_drop,List.getElem?_take] at hj; split at hj <;> simp_all; exact HSRC.out _ v hj) (by rw [hcs]; omega) (fun v hv=>H1C.out v (List.mem_of_mem_drop hv)) ?_
  clear hg'
  intro w3 h3 gr3
  obtain ⟨C1,hC1⟩:∃ C1,C1=C.take ((i+1)*11)++(C.take (n*11)).drop (i*11)++C.drop ((i+1)*11+((C.take (n*11)).drop (i*11)).length):=⟨_,rfl⟩
  rw [← hC1] at h3
  have hrow:=ins_row2 hcl husl hil hnc hC1
  have hgw:w.grownBy w3 (some g):=⟨gr3.os,gr3.tape,gr3.output,gr3.size,gr3.block⟩
  have q3:w3.cell? ⟨hh,0,none⟩=some u0:=hgw.cell p1 (by simpa using hgh)
  have HGW3:=Lib.hid hgw; have H3:=Lib.hid h3; have HROW:=Lib.hid hrow
  clear h3 gr3 hgw hC1 hrow hcs
  refine HK.out _ _ (fun _=>MKS.out _ q3) ?_
  clear HK K
  refine Lex.lexW_nil ?_
  clear hov
  go_wp2_with fail
  obtain ⟨r1,r2,r3⟩:=HROW.out
  obtain ⟨w4,hr4,g4,gr4⟩:=run_copyO w3 3 g (i*11) (n+1-i) (c-i) ⟨hh,0,none⟩ 1 vc C1 us H3.out
    (by rw [husl,show Nat.min 1 (n+1-i)=1 from Nat.min_eq_left (by omega)]) (fun j v hj=>by rw [addr_add,Nat.zero_add]; exact HGW3.out.cell (HU.out j v hj) (by simpa using hgh)) (by omega) H1V.out
  rw [hr4]
  have HDONE:Hid (InsPost C us n i g w (.returned (.slice (some ⟨g,0,none⟩) (n+1) c)) w4):=Lib.hid ⟨_,_,_,rfl,g4,r2,hnc,hcm,r3,grown_trans HGW3.out gr4,.inl rfl⟩
  clear hr4 g4 gr4 r1 r2 r3
  go_wp2_with fail
  go_ret
  exact HDONE.out
end Go.Proofs.Ytlkcidmmpeebeaa

/- Proved: slices.Insert of one operation into a row of operations,at every place. -/
namespace Go.Proofs.Ytlkcidmmpeebeaa
open Go.RowKit

theorem wpList_appO (w:World) {ops:Array Oper} {rest:List Oper} {o:Oper} {a:Act} {Q:Exit→Act→World→Prop} (hgd:o.guard=none) (d s:Operand)
    (ho:o.op=.call { callee:=.builtin .append,args:=#[d,s],argTypes:=#[55,55] }) (x y:Value) (hd:a.eval d=x) (hs:a.eval s=y) (v:Value) (w':World) (hr:(Builtin.append_ #[55,55] o.type #[x,y]).run Try.prog w=.ok v w')
    (h:wpList Try.prog ops Q rest (a.put o.dst v) w'):wpList Try.prog ops Q (o::rest) a w:=by
  refine wpList_plain hgd fun K hK=>?_
  unfold Oper.wp execOp
  simp only [ho,resolve,invoke,builtin,Sem.run_bind,Sem.run_pure,Result.andThen_ok,List.map_toArray,List.map_cons,List.map_nil,hs,hd,hr]
  exact hK _ _ h

def InsOwn (xs us:List Value) (n i:Nat) (v:Value) (w:World) (e:Ending) (w':World):Prop :=
  ∃ v',e=.returned v'∧w'.ownsRow 0 74 11 v' (n+1) (xs.take (i*11)++us++xs.drop (i*11))∧w.grownBy w' v.ownBlock∧(v'.ownBlock=v.ownBlock∨∃ b,v'.ownBlock=some b∧w.heap.size≤b)

theorem run_appO (w:World) (v:Value) (n vc hh:Nat) (xs us:List Value) (hown:w.ownsRow 0 74 11 v n xs) (hl:n≤100000) (hus:us.length=11) (hu:∀ j x,us[j]?=some x→w.cell? ⟨hh,j,none⟩=some x) (h1:∀ x∈us,x.oneCell'=true) (ty:TypeId) :
    ∃ v' w',(Builtin.append_ #[55,55] ty #[v,.slice (some ⟨hh,0,none⟩) 1 vc]).run Try.prog w=.ok v' w'∧InsOwn xs us n n v w (.returned v') w':=by
  obtain ⟨i0,hi0,hz0,hz1,hz2⟩:=info_parts opI
  obtain ⟨v',w',r1,r2,r3,_,r4⟩:=run_append_own_at (P:=Try.prog) w 0 55 ty 74 i0 zOp 11 88 Try.underlying55 hi0 hz0 hz1 hz2 rfl (by decide) v n xs hown ⟨hh,0,none⟩ 1 vc us (by rw [hus]) (fun j x hj=>by rw [addr_add,Nat.zero_add]; exact hu j x hj) h1 (by simp only [maxLen]; omega) (by omega) (Nat.zero_le _)
  refine ⟨v',w',r1,v',rfl,?_,r3,r4.imp (fun q=>q) fun q=>⟨_,q,Nat.le_refl _⟩⟩
  have hxl:=hown.1
  rw [List.take_of_length_le (by omega),List.drop_eq_nil_of_le (by omega),List.append_nil]
  exact r2

set_option maxRecDepth 100000 in
set_option maxHeartbeats 2000000 in
theorem ins_nil (hh vc:Nat) (us:List Value) (w:World) (hus:us.length=11) (hu:∀ j x,us[j]?=some x→w.cell? ⟨hh,j,none⟩=some x) (h1:∀ x∈us,x.oneCell'=true) :
    Calls Try.prog 125 #[.slice none 0 0,.int .i64 ((0:Nat):Int),.slice (some ⟨hh,0,none⟩) 1 vc] w (InsOwn [] us 0 0 (.slice none 0 0) w):=by
  obtain ⟨v',w',hr,hp⟩:=run_appO w (.slice none 0 0) 0 vc hh [] us (World.ownsRow_nil w 0 74 11) (by omega) hus hu h1 55
  have HP:=Lib.hid hp; have HR:=Lib.hid hr
  clear hp hr hu h1 hus
  go_enter Try.func125,Try.ntmps125
  go_wp2_with (at_builtin; refine wpList_appO _ rfl (.tmp 23) (.tmp 24) rfl _ _ rfl rfl v' w' HR.out ?_)
  go_ret
  exact HP.out

set_option maxRecDepth 100000 in
set_option maxHeartbeats 2000000 in
theorem ins_end (g hh vc n c:Nat) (xs us:List Value) (w:World) (hown:w.ownsRow 0 74 11 (.slice (some ⟨g,0,none⟩) n c) n xs) (hl:n≤100000) (hus:us.length=11) (hu:∀ j x,us[j]?=some x→w.cell? ⟨hh,j,none⟩=some x) (h1:∀ x∈us,x.oneCell'=true) :
    Calls Try.prog 125 #[.slice (some ⟨g,0,none⟩) n c,.int .i64 (n:Int),.slice (some ⟨hh,0,none⟩) 1 vc] w (InsOwn xs us n n (.slice (some ⟨g,0,none⟩) n c) w):=by
  obtain ⟨v',w',hr,hp⟩:=run_appO w (.slice (some ⟨g,0,none⟩) n c) n vc hh xs us hown hl hus hu h1 55
  have HP:=Lib.hid hp; have HR:=Lib.hid hr
  clear hp hr hu h1 hus hown
  have hi0:(0:Int)≤(n:Int):=Int.natCast_nonneg _
  go_enter Try.func125,Try.ntmps125
  go_wp2_with (at_builtin; refine wpList_appO _ rfl (.tmp 23) (.tmp 24) rfl _ _ rfl rfl v' w' HR.out ?_)
  all_goals (go_ret; exact HP.out)

theorem ins_own (hh vc n i:Nat) (v:Value) (xs us V:List Value) (w:World) (hown:w.ownsRow 0 74 11 v n xs) (hl:n≤100000) (hi:i≤n) (hV:w.heap[hh]?=some (.cells V.toArray 74 (0,0))) (hgh:v.ownBlock≠some hh)
    (hus:us.length=11) (hu:∀ j x,us[j]?=some x→w.cell? ⟨hh,j,none⟩=some x) (h1:∀ x∈us,x.oneCell'=true) (h1x:∀ x∈xs,x.oneCell'=true) :
    Calls Try.prog 125 #[v,.int .i64 (i:Int),.slice (some ⟨hh,0,none⟩) 1 vc] w (InsOwn xs us n i v w):=by
  rcases hown.2 with ⟨rfl,rfl⟩ | ⟨g,c,cur,rfl,_,hg,hnc,hcm,hcs,htk⟩
  · obtain rfl:i=0:=by omega
    obtain rfl:xs=[]:=List.length_eq_zero_iff.1 (by simpa using hown.1)
    exact ins_nil hh vc us w hus hu h1
  · rcases Nat.lt_or_ge i n with hin | hin
    · have hg':w.heap[g]?=some (.cells cur.toList.toArray 74 (0,0)):=by simpa using hg
      have hC:cur.toList.length=c*11:=by simpa using hcs
      have hgh':hh≠g:=fun e=>hgh (by rw [e]; rfl)
      have post:∀ e w',InsPost cur.toList us n i g w e w'→InsOwn xs us n i (.slice (some ⟨g,0,none⟩) n c) w e w':=fun e w' ⟨b,c',C',p1,p2,p3,p4,p5,p6,p7,p8⟩=>by
        have ht:cur.toList.take (i*11)=xs.take (i*11):=by rw [← htk,List.take_take,Nat.min_eq_left (by omega)]
        have hxl:=hown.1
        refine ⟨_,p1,⟨?_,.inr ⟨b,c',C'.toArray,rfl,Nat.zero_le _,p2,p4,p5,by simpa using p3,?_⟩⟩,p7,p8.imp (fun q=>by subst q; rfl) fun q=>⟨b,rfl,q⟩⟩
        · simp only [List.length_append,List.length_take,List.length_drop,hus,hxl]; omega
        · show C'.take ((n+1)*11)=_
          rw [p6,ht,htk]
      rcases Nat.lt_or_ge n c with hc | hc
      · exact (ins_room g hh vc n i c cur.toList V us w hg' hC hc hcm hl hin hV hgh' hus hu h1 (by rw [htk]; exact h1x)).mono post
      · obtain rfl:c=n:=by omega
        refine (ins_grow g hh vc c i cur.toList us w hg' hC hl hin hus hu h1 ?_).mono post
        have e:cur.toList=xs:=by rw [← htk,List.take_of_length_le (by omega)]
        rw [e]; exact h1x
    · obtain rfl:i=n:=by omega
      exact ins_end g hh vc i c xs us w hown hl hus hu h1
end Go.Proofs.Ytlkcidmmpeebeaa

/- Proved: the contract of slices.Insert of one operation,on plain data. -/
namespace Go.Proofs.Ytlkcidmmpeebeaa
open Go.RowKit Go.PX

theorem flat_cut {α:Type} {sz:Nat}:∀ (rows:List (List α)) (i:Nat),(∀ r∈rows,r.length=sz)→rows.flatten.take (i*sz)=(rows.take i).flatten∧rows.flatten.drop (i*sz)=(rows.drop i).flatten
  | [],i,_=>by simp
  | r::rows,0,_=>by simp
  | r::rows,i+1,h=>by
    have hr:=h r (by simp)
    obtain ⟨h1,h2⟩:=flat_cut rows i fun x hx=>h x (by simp [hx])
    have e:(i+1)*sz=r.length+i*sz:=by rw [hr,Nat.add_mul]; omega
    simp only [List.flatten_cons,List.take_succ_cons,List.drop_succ_cons]
    rw [e,List.take_length_add_append,List.drop_length_add_append,h1,h2]
    exact ⟨rfl,rfl⟩
theorem encO_len (xs:List OpD):∀ r∈xs.map encO,r.length=11:=fun r hr=>by
  obtain ⟨x,_,rfl⟩:=List.mem_map.1 hr; rfl

theorem con_ins (xs:List OpD) (o:OpD) (i:Nat) (hi:i≤xs.length) (hl:xs.length≤100000):PX.Con Try.prog 125 [.own 1 11 xs.length,.sc (.int .i64 (i:Int)),.own 2 11 1] [(1,.row 74 11 true (xs.map encO)),(2,.row 74 11 true [encO o])] 3 4 (.own 3 11 (xs.length+1))
    [(3,some (.row 74 11 true ((xs.take i++[o]++xs.drop i).map encO))),(1,none)]:=by
  intro w σ Z vs hH hv hfr
  obtain ⟨v,vs1,rfl,hv1,hv⟩:=hv.inv
  obtain ⟨vi,vs2,rfl,hvi,hv⟩:=hv.inv
  obtain ⟨vo,vs3,rfl,hvo,hv⟩:=hv.inv
  obtain rfl:vs3=[]:=List.length_eq_zero_iff.1 (by simpa using hv.1)
  cases hvi
  have hx3:σ 3=none:=hfr 3 (Nat.le_refl _) (by omega)
  obtain ⟨b1,b2,l,b3,b4,b5⟩:=base_spec (e:=74) (sz:=11) (q:=(some 1,true,xs.map encO,lenIs xs.length (xs.map encO))) hH hv1 (by kernel_rfl) (by simp [lenIs])
  simp only [List.length_map] at b4
  have ho2:=hH.at_ 2 _ rfl
  have h12:∀ b c c',σ 1=some (b,c)→σ 2=some (b,c')→False:=fun b c c' q q'=>absurd (hH.inj 1 2 _ _ b c c' rfl rfl q q') (by decide)
  cases hvo with
  | own _ _ _ hh vc hs2 =>
    obtain ⟨C,q1,q2,q3,q4,q5⟩:=ho2.2.2 hh vc hs2
    have hus:(C.take 11).length=11:=by
      rw [List.length_take]; simp only [List.length_cons,List.length_nil] at q3; omega
    have q5:CRs true σ Z w (C.take 11) ([encO o]:List (List PV)).flatten:=q5
    have hu:∀ j x,(C.take 11)[j]?=some x→w.cell? ⟨hh,j,none⟩=some x:=fun j x hj=>by
      rw [cell_of_row w hh j C.toArray 74 (0,0) q1]
      rw [List.getElem?_take] at hj
      split at hj
      · simpa using hj
      · cases hj
    have hM:∀ b,Z b→¬ (v.ownBlock=some b):=fun b hz h=>by
      obtain ⟨id,c,h1,h2⟩:=b5 b h
      obtain ⟨po,h3⟩:=b2 id h1
      exact hH.off _ _ _ _ h3 h2 hz
    have hones:∀ ys:List OpD,ones (ys.map encO).flatten=true:=fun ys=>ones_flatten (sz:=11) (rows:=ys.map encO) fun r hr=>by
      obtain ⟨x,_,rfl⟩:=List.mem_map.1 hr; exact ⟨rfl,rfl⟩
    refine (ins_own hh vc xs.length i v l (C.take 11) C w b4 hl hi q1 (fun e=>?_) hus hu (q5.1.oneCell (hones [o])) (b3.1.oneCell (hones xs))).mono fun e w' ⟨v',p1,p2,p3,p4⟩=>?_
    · obtain ⟨id,c,h1,h2⟩:=b5 hh e
      injection h1 with h1
      subst h1
      exact h12 hh c vc h2 hs2
    · have hw:=chg_grown p3
      rcases p2.2 with ⟨_,h0⟩ | ⟨g,cap,cur,rfl,_,hg,hle,hc,hcs,htk⟩
      · omega
      · refine ⟨_,upd σ 3 g cap,Z,p1,.own 3 _ _ g cap (upd_self _ _ _ _),eff_app (q:=some 1) (v:=v) hH rfl hx3 b2 b5 (upd_ext hx3) (fun id hne=>by unfold upd; rw [if_neg hne]) hw ⟨fun r hr=>?_,⟨by simp; omega,fun _=>by rw [upd_self]; simp⟩,fun b c hb=>?_⟩ (fun b c hb=>?_)⟩
        · obtain ⟨x,_,rfl⟩:=List.mem_map.1 hr; exact ⟨rfl,rfl⟩
        · rw [upd_self] at hb; simp only [Option.some.injEq,Prod.mk.injEq] at hb; obtain ⟨rfl,rfl⟩:=hb
          have hlen:((xs.take i++[o]++xs.drop i).map encO).length=xs.length+1:=by simp; omega
          refine ⟨cur.toList,by simpa using hg,by simpa using hcs,by rw [hlen]; exact hle,by simpa [maxLen] using hc,?_⟩
          rw [hlen,htk]
          obtain ⟨f1,f2⟩:=flat_cut (xs.map encO) i (encO_len xs)
          have e:((xs.take i++[o]++xs.drop i).map encO).flatten=(xs.map encO).flatten.take (i*11)++([encO o]:List (List PV)).flatten++(xs.map encO).flatten.drop (i*11):=by
            rw [f1,f2,List.map_append,List.map_append,List.flatten_append,List.flatten_append,List.map_take,List.map_drop]; rfl
          rw [e]
          exact (((b3.take (i*11)).append q5).append (b3.drop (i*11))).mono (upd_ext hx3) (fun _ h=>h) hw hM
        · rw [upd_self] at hb; simp only [Option.some.injEq,Prod.mk.injEq] at hb; obtain ⟨rfl,rfl⟩:=hb
          rcases p4 with p4 | ⟨b',p4,p5⟩
          · exact .inl (p4.symm.trans rfl)
          · right; simp only [Value.ownBlock,Option.some.injEq] at p4; omega
end Go.Proofs.Ytlkcidmmpeebeaa
