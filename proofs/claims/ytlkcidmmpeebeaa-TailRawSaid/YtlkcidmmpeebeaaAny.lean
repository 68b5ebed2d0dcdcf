/- Proved: a region that draws its order,walked by tables: what only reads is taken as soon as it can be,and of the others each that may come next. Program-independent. -/
import Derived.Test.YtlkcidmmpeebeaaLex
import Derived.Test.YtlkcidmmpeebeaaSx
set_option linter.unusedVariables false
set_option linter.unusedSimpArgs false
namespace Go.SX
open Go.RowKit Go.Lex

def CutQ (Post:Act→World→Prop):Exit→Act→World→Prop:=fun e a' w'=>e=.normal∧Post a' w'

/-- a region,cut off from what follows it -/
theorem region_cut {P:Program} {c:Code} {Q:Exit→Act→World→Prop} {a:Act} {w:World} (Post:Act→World→Prop) (h:c.wp P (CutQ Post) a w) (k:∀ a' w',Post a' w'→Q .normal a' w'):c.wp P Q a w :=
  wp_mono h fun e a' w' ⟨he,hp⟩=>by subst he; exact k a' w' hp

/-- whatever comes next -/
def Any (P:Program) (ops:Array Oper) (Post:Act→World→Prop) (M:Mem) (n fuel:Nat) (listed:Array Bool) (a:Act) (w:World):Prop :=
  HeadInv .any ops n listed→wpAnyT P .any ops (CutQ Post) (fun w'=>Cells w' M) n fuel listed a w

theorem any_start {P:Program} {id:Nat} {l:List Oper} {a:Act} {w:World} {M:Mem} {Post:Act→World→Prop} (n N0:Nat) (hN:l.length=N0) (hm:P.follows .mixedOrders=true)
    (hB:(waitsB .any l.toArray n&&Region.noSelect l.toArray)=true) (h:∀ w',Below w.heap.size w w'→w'.heap.size=w.heap.size→Any P l.toArray Post M n N0 (Array.replicate N0 false) a w'):(Code.region id l.toArray true).wp P (CutQ Post) a w:=by
  subst hN
  simp only [Bool.and_eq_true] at hB
  refine wp_region_any hm ?_
  have inv0:HeadInv .any l.toArray n (Array.replicate l.toArray.size false) :=
    ⟨by simp,fun j oj _ hl=>(by rw [getD_replicate_false] at hl; cases hl),fun t _ ht=>getD_in (by simpa using ht) (getD_replicate_false _ _)⟩
  have:=h w.drew ⟨rfl,rfl,rfl,Nat.le_refl _,fun _ _=>rfl⟩ rfl (by simpa using inv0)
  exact wpAny_of_T (n:=n) (S:=fun w'=>Cells w' M) _ _ _ _ (by simpa using this)

theorem any_quiet {P:Program} {ops:Array Oper} {Post:Act→World→Prop} {M:Mem} {n N:Nat} (fuel:Nat) {listed:Array Bool} {a:Act} {w:World} {κ:List (Nat × Bool)} {R:List Ent} (qs:List Nat) (ds:List Dir) (R':List Ent) (ixs:IxL) (hs:HsL) (es:EsL) (F:Nat) (hF:qs.length+fuel=F)
    (hR:RSt N κ R a) (hM:Cells w M) (hW:waitsB .any ops n=true) (hsel:Region.noSelect ops=true) (hq:quietsB .any ops n qs listed=true)
    (h:(grp P ops κ M N (qs.filterMap (ops[·]?)) ds R).map (fun x=>(x.R,x.ixs,x.hs,x.cs,x.es))=some (R',ixs,hs,[],es))
    (he:grpA P ops κ M N (qs.filterMap (ops[·]?)) ds R=grpB P ops κ M N (qs.filterMap (ops[·]?)) ds R) (hi:IxOk κ ixs) (hes:EsOk κ es) (hh:∀ w',Cells w' M→HsOk P κ w' hs)
    (k:∀ a',RSt N κ R' a'→Any P ops Post M n fuel (setAll qs listed) a' w):Any P ops Post M n F listed a w:=by
  subst hF
  intro inv
  refine lex_quiets (waits_of hW) hsel (fun c a d v w hc=>absurd hc.1 (by simp)) qs fuel listed a w inv hq hM ?_
  cases hg:grp P ops κ M N (qs.filterMap (ops[·]?)) ds R with
  | none=>rw [hg] at h; simp at h
  | some acc =>
    unfold grpA grpB at he
    rw [hg] at h he
    simp only [Option.map_some,Option.some.injEq,Prod.mk.injEq] at h he
    obtain ⟨rfl,rfl,rfl,h4,rfl⟩:=h
    refine grp_sound (C:=Cl (fun w'=>Cells w' M)) (fun w' hw'=>by obtain ⟨p,rfl⟩:=hw'; exact p.ok) _ ds R acc a hg hR
      ⟨allEq_of_map he.1,allEq_of_map he.2,hi.mem,fun w' hw'=>by obtain ⟨p,rfl⟩:=hw'; exact (hh p.w p.ok).mem,fun w' hw' y hy=>(by rw [h4] at hy; cases hy),hes.mem⟩ (fun a' ha'=>?_)
    exact k a' ha' (inv_setAll qs listed inv hq)

theorem inv_next {ops:Array Oper} {n i:Nat} {listed:Array Bool} {rs:List Nat} (inv:HeadInv .any ops n listed) (hr:Region.ready .any ops listed=rs) (hi:i∈rs) (hn:i<n):HeadInv .any ops n (listed.setIfInBounds i true):=inv.set (by rw [hr]; exact hi) hn

/-- what is owed for one operation that comes next -/
def Next1 (P:Program) (ops:Array Oper) (Post:Act→World→Prop) (M:Mem) (n fuel:Nat) (listed:Array Bool) (a:Act) (w:World) (i:Nat):Prop :=
  ∀ K:Act→World→Prop,(∀ a' w',(i<n→Cells w' M)→Any P ops Post M n fuel (listed.setIfInBounds i true) a' w'→K a' w')→wpList P ops (Exit.then K (CutQ Post)) ((ops[i]?).toList.drop 0) a w

theorem any_loud {P:Program} {ops:Array Oper} {Post:Act→World→Prop} {M:Mem} {n:Nat} (fuel:Nat) {listed:Array Bool} {a:Act} {w:World} (rs:List Nat) (F:Nat) (hF:fuel+1=F) (hr:Region.ready .any ops listed=rs) (hne:rs.isEmpty=false) (hn:rs.all (fun i=>Nat.blt i n)=true)
    (h:∀ i∈rs,Next1 P ops Post M n fuel listed a w i):Any P ops Post M n F listed a w:=by
  subst hF
  intro inv
  refine ⟨fun h0=>?_,fun i hi=>?_⟩
  · rw [hr] at h0; rw [h0] at hne; simp at hne
  · rw [hr] at hi
    obtain ⟨_,o,ho,_⟩:=mem_ready.1 (by rw [hr]; exact hi)
    have hin:i<n:=by
      have:=List.all_eq_true.1 hn i hi
      simpa using this
    have:=h i hi (fun a' w'=>(i<n→Cells w' M)∧wpAnyT P .any ops (CutQ Post) (fun w'=>Cells w' M) n fuel (listed.setIfInBounds i true) a' w') (fun a' w' h1 h2=>⟨h1,h2 (inv_next inv hr hi hin)⟩)
    rw [ho] at this
    exact wpOp_of_list ho this

/-- the last operation,which waits for all the others -/
theorem any_last {P:Program} {ops:Array Oper} {Post:Act→World→Prop} {M:Mem} {n:Nat} {listed:Array Bool} {a:Act} {w:World} (i:Nat) (hr:Region.ready .any ops listed=[i]) (hr':Region.ready .any ops (listed.setIfInBounds i true)=[])
    (hin:Nat.ble n i=true) (h:wpList P ops (Exit.then Post (CutQ Post)) ((ops[i]?).toList.drop 0) a w):Any P ops Post M n 1 listed a w:=by
  intro inv
  refine ⟨fun h0=>?_,fun j hj=>?_⟩
  · rw [hr] at h0; simp at h0
  · rw [hr] at hj
    obtain rfl:j=i:=by simpa using hj
    obtain ⟨_,o,ho,_⟩:=mem_ready.1 (show j∈Region.ready .any ops listed by rw [hr]; simp)
    rw [ho] at h
    refine wpOp_mono (fun a' w' (hp:Post a' w')=>⟨fun hlt=>absurd hlt (by have:=Nat.le_of_ble_eq_true hin; omega),hr',rfl,hp⟩) (wpOp_of_list (K:=Post) ho h)

theorem any_end {P:Program} {ops:Array Oper} {Post:Act→World→Prop} {M:Mem} {n:Nat} {listed:Array Bool} {a:Act} {w:World} (hr:Region.ready .any ops listed=[]) (h:Post a w):Any P ops Post M n 0 listed a w:=fun _=>⟨hr,rfl,h⟩
theorem next1_nil {P:Program} {ops:Array Oper} {Post:Act→World→Prop} {M:Mem} {n fuel:Nat} {listed:Array Bool} {a:Act} {w:World}:∀ i∈([]:List Nat),Next1 P ops Post M n fuel listed a w i:=fun i hi=>by cases hi
theorem next1_cons {P:Program} {ops:Array Oper} {Post:Act→World→Prop} {M:Mem} {n fuel:Nat} {listed:Array Bool} {a:Act} {w:World} {j:Nat} {rs:List Nat} (h:Next1 P ops Post M n fuel listed a w j) (h':∀ i∈rs,Next1 P ops Post M n fuel listed a w i):∀ i∈j::rs,Next1 P ops Post M n fuel listed a w i:=fun i hi=>by
  rcases List.mem_cons.1 hi with rfl | hi
  · exact h
  · exact h' i hi

/-- a contract: it returns,has only added memory,and of the answer this is known -/
def Ret (Φ:Value→World→Prop) (w:World):Ending→World→Prop:=fun e w'=>∃ v,e=.returned v∧Below w.heap.size w w'∧Φ v w'

theorem list_callR {P:Program} {N:Nat} {κ:List (Nat × Bool)} {R:List Ent} {Q:Exit→Act→World→Prop} {ops:Array Oper} {l:List Oper} {a:Act} {w:World} {Φ:Value→World→Prop} (k:Nat) (d:Nat) (f:FuncId) (args:Array Value) (hR:RSt N κ R a) (h:callOp P R (l.drop k)=some (some d,f,args)) (hd:Nat.blt d N=true)
    (hc:Calls P f args w (Ret Φ w))
    (kk:∀ v a' w',RSt N κ (⟨d,[],v⟩::R) a'→Below w.heap.size w w'→Φ v w'→wpList P ops Q (l.drop (k+1)) a' w'):wpList P ops Q (l.drop k) a w :=
  list_call k (some d) f args hR h hd hc (fun e w' ⟨v,he,_⟩=>⟨v,he⟩) fun v w' ⟨u,he,hb,hp⟩ a' ha'=>by
    injection he with he; subst he; exact kk v a' w' ha' hb hp
/-- the next m operations only read or call; the whole table is kept -/
theorem list_g {P:Program} {N:Nat} {Q:Exit→Act→World→Prop} {ops:Array Oper} {l:List Oper} {a:Act} {w:World} {R:List Ent} {M:Mem} {κ:List (Nat × Bool)} (k m:Nat) (ds:List Dir) (R':List Ent) (ixs:IxL) (hs:HsL) (cs:CsL) (es:EsL)
    (hR:RSt N κ R a) (hM:Cells w M)
    (h:(grp P ops κ M N ((l.drop k).take m) ds R).map (fun x=>(x.R,x.ixs,x.hs,x.cs,x.es))=some (R',ixs,hs,cs,es)) (he:grpA P ops κ M N ((l.drop k).take m) ds R=grpB P ops κ M N ((l.drop k).take m) ds R) (hi:IxOk κ ixs) (hes:EsOk κ es)
    (hh:∀ w',Below w.heap.size w w'→Cells w' M→HsOk P κ w' hs) (hc:∀ w',Below w.heap.size w w'→Cells w' M→CsOk P κ w' cs)
    (kk:∀ a' w',RSt N κ R' a'→Below w.heap.size w w'→Cells w' M→wpList P ops Q (l.drop (k+m)) a' w'):wpList P ops Q (l.drop k) a w:=by
  cases hg:grp P ops κ M N ((l.drop k).take m) ds R with
  | none=>rw [hg] at h; simp at h
  | some acc =>
    unfold grpA grpB at he
    rw [hg] at h he
    simp only [Option.map_some,Option.some.injEq,Prod.mk.injEq] at h he
    obtain ⟨rfl,rfl,rfl,rfl,rfl⟩:=h
    have:=wpList_of_quiet (P:=P) (ops:=ops) (C:=fun w'=>Below w.heap.size w w') (Q:=Q) (rest:=l.drop (k+m)) ((l.drop k).take m) a w (Below.refl _ _)
      (grp_sound (fun w' hw'=>hM.below hw') _ ds R acc a hg hR ⟨allEq_of_map he.1,allEq_of_map he.2,hi.mem,fun w' hw'=>(hh w' hw' (hM.below hw')).mem,fun w' hw' y hy hp=>((hc w' hw' (hM.below hw')).mem y hy hp).mono fun e w'' ⟨h1,h2⟩=>⟨h1,hw'.trans (h2.mono hw'.size)⟩,hes.mem⟩
        (fun a' ha'=>fun w' hw'=>kk a' w' ha' hw' (hM.below hw')))
    rw [← List.drop_drop,List.take_append_drop] at this
    exact this
/-- a result that lies in memory -/
def cellS (ty:TypeId) (p:Value):Sem Value:=do loadVar ty (← asAddr p)
theorem hits_self {w:World}:∀ (l:Mem),Cells w l→Hits w (l.map (·.1)) (l.map (·.2))
  | [],_=>trivial
  | x::l,h=>⟨h x List.mem_cons_self,hits_self l fun y hy=>h y (List.mem_cons_of_mem _ hy)⟩
theorem ret_cell {P:Program} {N:Nat} {κ:List (Nat × Bool)} {R:List Ent} {M:Mem} {fn:Func} {Rp:Ending→World→Prop} {a:Act} {w:World} (t:Nat) (ty:TypeId) (p v:Value) (is:List Nat) (l:Mem) (hr:fn.results=#[.cell t ty]) (hR:RSt N κ R a) (hM:Cells w M) (hv:valOf R (.tmp t)=some p) (hl:mgets M is=some l) (ht:tr P (cellS ty p) (l.map (·.2))=some (l.map (·.1),v)) (h:Rp (.returned v) w):bodyPost P fn Rp .ret a w:=by
  have h1:=hR.val hv
  simp only [Act.eval] at h1
  have h2:=tr_sound (w:=w) _ _ _ _ ht (hits_self l fun x hx=>hM x (mgets_mem hl x hx))
  refine bodyPost_ret (v:=v) ?_ hR.defers h
  unfold cellS at h2
  simp only [Sem.run_bind] at h2
  simp only [results,hr]
  simp only [List.mapM_toArray,List.mapM_cons,List.mapM_nil,map_eq_pure_bind,bind_assoc,pure_bind,Sem.run_bind,Sem.run_pure,h1]
  revert h2
  cases hA:(asAddr p).run P w with
  | ok x w1 =>
    simp only [Result.andThen_ok]
    intro h2
    rw [h2]
    simp
  | halt x w1=>intro h2; simp at h2
end Go.SX
