/- Proved: regions on plain data in the round of a range over a function,and beside deferred calls. Program-independent. -/
import Derived.Test.YtlkcidmmpeebeaaPcD
import Derived.RangeFuncNested
import Derived.RangeFuncBound
import Derived.RangeFuncCalls
import Derived.RangeFuncLeaves
import Derived.OwnWalkIn
import Derived.OrdersIn
import Derived.Sort.LoopGhostIn
import Derived.LoopNIn
set_option linter.unusedVariables false
set_option linter.unusedSimpArgs false
namespace Go.PX
open Go.RowKit Go.SX

abbrev FW (ro:Option Nat):Fence:={ Fence.wide with round:=ro }
def noDefer:Op→Bool
  | .defer _=>false
  | _=>true
theorem noDefer_ne {o:Op} (h:noDefer o=true):∀ c,o≠.defer c:=fun c e=>by subst e; cases h
def Act.with_ (a:Act) (ds:List Deferred):Act:={ a with defers:=ds }
theorem with_put {a:Act} {ds:List Deferred} {d:Option Tmp} {v:Value}:(Act.with_ a ds).put d v=Act.with_ (a.put d v) ds:=by cases d <;> rfl
theorem with_eval {a:Act} {ds:List Deferred}:(Act.with_ a ds).eval=a.eval:=by funext x; cases x <;> rfl

section
variable {P:Program} {ro:Option Nat} {n:Nat} {ds:List Deferred}
theorem callsIn_fw {f:FuncId} {args:Array Value} {w:World} {R:Ending→World→Prop} (h:Calls P f args w R):CallsIn (FW ro) n P f args w R:=by
  have h1:CallsIn Fence.wide n P f args w R:=callsIn_wide.2 h
  exact h1
theorem rowsIn_fw {row:String} {args:Array Value} {w:World} {R:Value→World→Prop} (h:Rows P row args w R):RowsIn (FW ro) n P row args w R:=by
  have h1:RowsIn Fence.wide n P row args w R:=fun c cs _=>let ⟨v,w',r,s⟩:=h c cs; ⟨v,w',r,stepsIn_wide.2 s⟩
  exact h1
theorem oper_fw {o:Oper} {a:Act} {w:World} {K:Act→World→Prop} {Q:Exit→Act→World→Prop} (hd:noDefer o.op=true) (ha:a.defers=[]) (h:o.wp P a w (fun a' w'=>a'.defers=[]∧K (Act.with_ a' ds) w') (fun _ _ _=>False)):o.wpIn (FW ro) n P (Act.with_ a ds) w K Q:=by
  refine ⟨fun _ _=>trivial,?_⟩
  rw [Oper.semAt_plain (FW ro) _ o (noDefer_ne hd),with_eval]
  unfold Oper.wp at h
  have hdep:(FW ro).depth.isSome=true→1≤n:=fun q=>by cases q
  cases hr:(execOp a.eval o).run P w with
  | halt e w' =>
    rw [hr] at h
    cases e <;> simp only [Oper.upon] at h
  | ok x w' =>
    rw [hr] at h
    cases x with
    | value v=>simp only [Oper.upon] at h; simp only [Oper.uponIn]; rw [with_put]; exact h.2
    | skip=>simp only [Oper.upon] at h; simp only [Oper.uponIn]; rw [with_put]; exact h.2
    | defer d =>
      simp only [Oper.upon] at h
      exfalso
      have:=h.1
      revert this
      cases o.dst <;> simp [Act.put]
    | enter f args =>
      simp only [Oper.upon] at h
      refine ⟨hdep,callsIn_fw (h.mono ?_)⟩
      intro e w'' q
      cases e with
      | returned v=>show K _ _; rw [with_put]; exact q.2
      | panicked c=>exact q.elim
      | outgrown=>obtain ⟨_,_,q⟩:=q; exact q.elim
    | row r args =>
      simp only [Oper.upon] at h
      exact ⟨hdep,rowsIn_fw (h.mono fun v w'' q=>by rw [with_put]; exact q.2)⟩
    | _=>simp only [Oper.upon] at h

theorem seq_fw {ops:Array Oper} {E:Env} {N:Nat} {κ:List (Nat × Bool)} {Q:Exit→Act→World→Prop} {rest:List Oper}:∀ (l:List Oper) (dr:List Dir) {R:List Ent} {H:Heap} {nx:Nat} {acc:Acc} {σ:Nm} {Z:Nat→Prop} {a:Act} {w:World},l.all (fun o=>noDefer o.op)=true→seqRun P ops κ N l dr R H nx=some acc→acc.nx≤E.top→AllOb acc.obs→AllEq acc.eqs→Rel E N κ R H nx σ Z a w →
    (∀ a' w' σ' Z',Rel E N κ acc.R acc.H acc.nx σ' Z' a' w'→wpListIn (FW ro) n P ops Q rest (Act.with_ a' ds) w')→wpListIn (FW ro) n P ops Q (l++rest) (Act.with_ a ds) w
  | [],[],R,H,nx,acc,σ,Z,a,w,_,h,_,_,_,hrel,k=>by
    simp only [seqRun,Option.some.injEq] at h; subst h
    exact k a w σ Z hrel
  | [],d::dr,R,H,nx,acc,σ,Z,a,w,_,h,_,_,_,_,_=>by simp [seqRun] at h
  | o::l,[],R,H,nx,acc,σ,Z,a,w,_,h,_,_,_,_,_=>by simp [seqRun] at h
  | o::l,d::dr,R,H,nx,acc,σ,Z,a,w,hnd,h,htop,hob,heq,hrel,k=>by
    simp only [List.all_cons,Bool.and_eq_true] at hnd
    simp only [seqRun] at h
    split at h
    · cases h
    · rename_i p bs hp
      split at h
      · cases h
      · rename_i out hs
        cases hb:(dstOk N o&&(p.isEmpty||out.U.isEmpty)&&Nat.ble nx out.nx) with
        | false=>rw [hb] at h; cases h
        | true =>
          rw [hb] at h
          simp only [cond_true] at h
          simp only [Bool.and_eq_true,Bool.or_eq_true] at hb
          split at h
          · cases h
          · rename_i R' hR'
            split at h
            · cases h
            · rename_i acc' hacc
              simp only [Option.some.injEq] at h; subst h
              obtain ⟨ob1,ob2⟩:=allOb_append hob
              obtain ⟨e1,e2⟩:=allEq_append heq
              obtain ⟨e2,e3⟩:=allEq_append e2
              have hw:=path_spec hrel.rs hp e1
              simp only [List.cons_append,wpListIn]
              rw [show Region.wanted o (yielded ops (Act.with_ a ds).tmps)=Region.wanted o (yielded ops a.tmps) from rfl,hw]
              cases hpv:pv κ p with
              | true =>
                simp only [if_true]
                exact oper_fw hnd.1 hrel.rs.defers (hrel.exec hs (Nat.le_trans (seq_nle hacc) htop) hb.1.1 hR' hpv (obsIf_spec ob1 hpv) e2 fun a' w' σ' Z' hr=>⟨hr.rs.defers,seq_fw l dr hnd.2 hacc htop ob2 e3 hr k⟩)
              | false =>
                simp only [Bool.false_eq_true,if_false]
                have hU:out.U=[]:=by
                  rcases hb.1.2 with q | q
                  · have:p=[]:=by cases p <;> simp at q ⊢
                    subst this; cases hpv
                  · cases hq:out.U <;> rw [hq] at q <;> simp at q ⊢
                rw [hU] at hacc
                refine ⟨fun _ _=>trivial,?_⟩
                rw [with_put]
                exact seq_fw l dr hnd.2 hacc htop ob2 e3 ((hrel.skip hb.1.1 hR' hpv).nx_mono (Nat.le_of_ble_eq_true hb.2)) k

variable {E:Env} {N:Nat} {R T:List Ent} {H:Heap} {nx:Nat} {a:Act} {w:World}
theorem region_w {id:Nat} {Q:Exit→Act→World→Prop} {l:List Oper} {H':Heap} {nx':Nat} {obs:List Ob} (κ:List (Nat × Bool)) (dr:List Dir) (ts hs:List Nat) (hS:Sat E N R H nx a w) (h0:R.all (fun e=>e.p.isEmpty)=true) (h:regRun P l κ N dr ts hs R H nx=some (T,H',nx',obs)) (he:regA P l κ N dr R H nx=regB P l κ N dr R H nx) (hnd:l.all (fun o=>noDefer o.op)=true) (htop:nx'≤E.top) (hob:AllOb obs)
    (k:∀ a' w',Sat E N T H' nx' a' w'→Q .normal (Act.with_ a' ds) w'):(Code.region id l.toArray false).wpIn (FW ro) n P Q (Act.with_ a ds) w:=by
  obtain ⟨σ,Z,hr⟩:=hS
  unfold regRun at h
  unfold regA regB at he
  cases hs':seqRun P l.toArray κ N l dr R H nx with
  | none=>rw [hs'] at h; cases h
  | some acc =>
    rw [hs'] at h he
    simp only at h he
    cases hk:keepR acc.R ts with
    | none=>rw [hk] at h; cases h
    | some T' =>
      rw [hk] at h
      simp only [Option.some.injEq,Prod.mk.injEq] at h
      obtain ⟨rfl,rfl,rfl,rfl⟩:=h
      have:=seq_fw (ro:=ro) (n:=n) (ds:=ds) (Q:=Q) (rest:=[]) l dr hnd hs' htop hob (allEq_of_map he) (hr.rs' (hr.rs.kap h0)) (fun a' w' σ' Z' hr'=>k a' w' ⟨σ',Z',(hr'.rs' (hr'.rs.keep hk)).restr hs⟩)
      rw [List.append_nil] at this
      exact wpIn_region_lit this
theorem cond_w {Q:Exit→Act→World→Prop} {c:Operand} {x y:Code} (b:Bool) (hS:Sat E N R H nx a w) (hb:opd R [] c=some (.sc (.bool b))) (ht:b=true→x.wpIn (FW ro) n P Q (Act.with_ a ds) w) (hf:b=false→y.wpIn (FW ro) n P Q (Act.with_ a ds) w):(Code.cond c x y).wpIn (FW ro) n P Q (Act.with_ a ds) w:=by
  obtain ⟨σ,Z,hr⟩:=hS
  have hv:=hr.rs.opd (p:=[]) rfl hb
  generalize hav:a.eval c=vc at hv
  cases hv
  exact wpIn_cond_split (by rw [with_eval]; exact hav) ht hf
end
end Go.PX

/- Proved: a state nested in a state; a range over a function whose rounds are walked on plain data. Program-independent. -/
namespace Go.PX
open Go.RowKit Go.SX

theorem IR.cells {Z Z':Nat→Prop} {w w':World} (hz:∀ b,Z b→Z' b) (hw:∀ p v,w.cell? p=some v→w'.cell? p=some v) {v:Value} {x:PV} (h:IR Z w v x):IR Z' w' v x:=by
  induction h with
  | sc v h=>exact .sc v h
  | imm A cap sz rows U h1 h2 h3 h4 ih =>
    refine .imm A cap sz rows U h1 h2 (fun k row hr=>?_) ih
    obtain ⟨q1,q2,b,off,q3,q4,q5⟩:=h3 k row hr
    exact ⟨q1,q2,b,off,q3,hz b q4,fun i hi=>hw _ _ (q5 i hi)⟩
theorem VR.cells {σ:Nm} {Z:Nat→Prop} {w w':World} (hw:∀ p v,w.cell? p=some v→w'.cell? p=some v) {v:Value} {x:PV} (h:VR σ Z w v x):VR σ Z w' v x:=by
  induction h with
  | sc v h=>exact .sc v h
  | ptr id off b c h=>exact .ptr id off b c h
  | rptr id sz k i b c h=>exact .rptr id sz k i b c h
  | own id sz len b c h=>exact .own id sz len b c h
  | own0 id sz=>exact .own0 id sz
  | imm v sz rows h=>exact .imm v sz rows (h.cells (fun _ q=>q) hw)
  | iptr b off i row U ho hzb hc h=>exact .iptr b off i row U ho hzb (fun j hj=>hw _ _ (hc j hj)) fun j x hx=>(h j x hx).cells (fun _ q=>q) hw
  | agg l xs hl ho h ih=>exact .agg l xs hl ho ih
  | tup l xs hl h ih=>exact .tup l xs hl ih
  | map id b c h=>exact .map id b c h
  | any v h=>exact .any v h
  | fn f l1 l2 x1 x2 hl1 hl2 h1 h2 ih1 ih2=>exact .fn f l1 l2 x1 x2 hl1 hl2 ih1 ih2

theorem turn_heap {W W':World} {row:Option Nat} (hg:W.grownBy W' row) (hr:∀ r,row=some r→∃ o:Obj,W.heap[r]?=some o∧o.isCells=false) {b:Nat} {C:Array Value} {e:TypeId} {s:Nat × Nat} (h:W.heap[b]?=some (.cells C e s)):W'.heap[b]?=some (.cells C e s):=by
  refine (hg.block b (Array.getElem?_eq_some_iff.1 h).1 fun e'=>?_).trans h
  obtain ⟨o,h1,h2⟩:=hr b e'.symm
  rw [h] at h1; injection h1 with h1; subst h1; cases h2
theorem cell_heap {W:World} {p:Addr} {v:Value} (h:W.cell? p=some v):∃ C e s,W.heap[p.block]?=some (.cells C e s):=by
  unfold World.cell? at h
  cases ho:W.heap[p.block]? with
  | none=>rw [ho] at h; cases h
  | some o=>rw [ho] at h; cases o <;> first | exact ⟨_,_,_,rfl⟩ | cases h
theorem turn_cell {W W':World} {row:Option Nat} (hg:W.grownBy W' row) (hr:∀ r,row=some r→∃ o:Obj,W.heap[r]?=some o∧o.isCells=false) (p:Addr) (v:Value) (h:W.cell? p=some v):W'.cell? p=some v:=by
  obtain ⟨C,e,s,hc⟩:=cell_heap h
  rw [World.cell?_of_block ((turn_heap hg hr hc).trans hc.symm)]; exact h

def allU (H:Heap):Upd:=H.map fun x=>(x.1,none)
theorem ulook_allU:∀ {H:Heap} {id:Nat} {o:PO},hlook H id=some o→ulook (allU H) id≠none
  | [],id,o,h=>by cases h
  | x::H,id,o,h=>by
    simp only [hlook] at h
    simp only [allU,List.map_cons,ulook]
    cases hb:Nat.beq x.1 id with
    | true=>simp
    | false=>rw [hb] at h; exact ulook_allU (H:=H) h
/-- the state as it stands,as the beginning of a walk -/
def Env.nest (E:Env) (H:Heap) (nx:Nat) (σ:Nm) (Z:Nat→Prop) (w:World):Env:={ w0:=w,Wr:=WrOf σ H (allU H),Z0:=Z,σ0:=σ,lo:=nx,top:=E.top }

section
variable {P:Program} {E:Env} {N:Nat} {κ κ':List (Nat × Bool)} {R R':List Ent} {H H':Heap} {nx nx':Nat} {σ σ':Nm} {Z Z':Nat→Prop} {a a':Act} {w w':World}
theorem nest_wr {b:Nat}:(E.nest H nx σ Z w).Wr b→∃ id o c,hlook H id=some o∧σ id=some (b,c):=fun ⟨id,o,c,_,h1,h2⟩=>⟨id,o,c,h1,h2⟩
theorem Rel.nest (h:Rel E N κ R H nx σ Z a w):Rel (E.nest H nx σ Z w) N κ R H nx σ Z a w :=
  ⟨h.rs,h.hr,h.fr,Nat.le_refl _,Ext.refl _,fun _ q _=>q,fun id o _ c h1 h2=>.inr ⟨id,o,c,ulook_allU h1,h1,h2⟩,Chg.refl _ _,fun _ q=>.inl q,fun _ q=>q⟩
theorem Rel.nestOk (h:Rel E N κ R H nx σ Z a w) (ht:E.top=100000):EnvOk (E.nest H nx σ Z w) H (allU H) nx 100000 :=
  ⟨rfl,ht,rfl,fun id h1 h2=>(h.fr id h1 (by rw [ht]; exact h2)).2,fun id h1 h2=>(h.fr id h1 (by rw [ht]; exact h2)).1⟩
theorem Rel.unnest (h:Rel E N κ R H nx σ Z a w) {N':Nat} (k:Rel (E.nest H nx σ Z w) N' κ' R' H' nx' σ' Z' a' w'):Rel E N' κ' R' H' nx' σ' Z' a' w':=by
  have hs:=h.chg.size
  refine ⟨k.rs,k.hr,k.fr,Nat.le_trans h.lo k.lo,h.ext.trans k.ext,fun id h0 hn=>?_,fun id o b c h1 h2=>?_,?_,fun b hb=>?_,fun b hb=>k.z0 b (h.z0 b hb)⟩
  · exact k.dom id (h.dom id h0 hn) fun ⟨q1,q2⟩=>hn ⟨Nat.le_trans h.lo q1,q2⟩
  · rcases k.own id o b c h1 h2 with q | q
    · exact .inl (Nat.le_trans hs q)
    · obtain ⟨i,o',c',q1,q2⟩:=nest_wr q
      exact h.own i o' b c' q1 q2
  · refine (h.chg.trans k.chg).mono fun b hb q=>?_
    rcases q with q | q
    · exact q
    · obtain ⟨i,o',c',q1,q2⟩:=nest_wr q
      rcases h.own i o' b c' q1 q2 with q | q
      · omega
      · exact q
  · rcases k.zold b hb with q | q | q
    · exact h.zold b q
    · exact .inr (.inl (Nat.le_trans hs q))
    · obtain ⟨i,o',c',q1,q2⟩:=nest_wr q
      exact .inr (h.own i o' b c' q1 q2)
/-- what the slots held still holds -/
theorem Rel.back (h:Rel E N [] R H nx σ Z a w) {N':Nat} (k:Rel (E.nest H nx σ Z w) N' κ' R' H' nx' σ' Z' a' w'):Rel (E.nest H nx σ Z w) N [] R H' nx' σ' Z' a w' :=
  ⟨⟨h.rs.defers,h.rs.size,fun t e he=>⟨fun hp=>by
    obtain ⟨v,h1,h2⟩:=(h.rs.at_ t e he).1 hp
    exact ⟨v,h1,h2.mono k.ext k.z0 k.chg fun b hz q=>by obtain ⟨i,o',c',q1,q2⟩:=nest_wr q; exact h.hr.off i o' b c' q1 q2 hz⟩,(h.rs.at_ t e he).2⟩⟩,k.hr,k.fr,k.lo,k.ext,k.dom,k.own,k.chg,k.zold,k.z0⟩

def isMp:PO→Bool
  | .mp _ | .rmap _ _ | .rit _ _ _ _=>true
  | _=>false
theorem isMp_blk {id:Nat} {o:PO} (h:OR σ Z w id o) (hm:isMp o=true):∃ b c,σ id=some (b,c)∧∃ x:Obj,w.heap[b]?=some x∧x.isCells=false:=by
  cases o with
  | box _ _=>cases hm
  | row _ _ _ _=>cases hm
  | ty _ _=>cases hm
  | mp D=>obtain ⟨_,b,c,es,cl,h1,h2,_⟩:=h; exact ⟨b,c,h1,_,h2,rfl⟩
  | rmap es cl=>obtain ⟨b,c,h1,h2⟩:=h; exact ⟨b,c,h1,_,h2,rfl⟩
  | rit m s x c0=>obtain ⟨b,c,bm,cm,h1,_,h2⟩:=h; exact ⟨b,c,h1,_,h2,rfl⟩
def mapsOld (E:Env) (H:Heap):Prop:=∀ id o,hlook H id=some o→isMp o=true→∃ b c,E.σ0 id=some (b,c)∧b<E.w0.heap.size
theorem RS.cells (h:RS σ Z w N κ R a) (hw:∀ p v,w.cell? p=some v→w'.cell? p=some v):RS σ Z w' N κ R a :=
  ⟨h.defers,h.size,fun t e he=>⟨fun hp=>by obtain ⟨v,h1,h2⟩:=(h.at_ t e he).1 hp; exact ⟨v,h1,h2.cells hw⟩,(h.at_ t e he).2⟩⟩
theorem Rel.turn (h:Rel E N κ R H nx σ Z a w) {row:Option Nat} (hg:w.grownBy w' row) (hr:∀ r,row=some r→E.w0.heap.size≤r∧∃ o:Obj,w.heap[r]?=some o∧o.isCells=false) (hm:mapsOld E H):Rel E N κ R H nx σ Z a w':=by
  have hr':=fun r e=>(hr r e).2
  have hc:=turn_cell hg hr'
  refine ⟨h.rs.cells hc,⟨fun id o ho=>?_,h.hr.inj,h.hr.off,fun b q=>Nat.lt_of_lt_of_le (h.hr.zlt b q) hg.size⟩,h.fr,h.lo,h.ext,h.dom,h.own,⟨hg.os.trans h.chg.os,hg.tape.trans h.chg.tape,hg.output.trans h.chg.output,Nat.le_trans h.chg.size hg.size,fun b hb hn=>?_⟩,h.zold,h.z0⟩
  · have q:=h.hr.at_ id o ho
    cases o with
    | box e xs =>
      obtain ⟨b,c,C,h1,h2,h3,h4⟩:=q
      exact ⟨b,c,C,h1,turn_heap hg hr' h2,h3,h4.1,fun i u x hu hx=>(h4.2 i u x hu hx).cells hc⟩
    | row e sz pu rows =>
      obtain ⟨h1,h2,h3⟩:=q
      refine ⟨h1,h2,fun b c hb=>?_⟩
      obtain ⟨C,q1,q2,q3,q4,q5⟩:=h3 b c hb
      exact ⟨C,turn_heap hg hr' q1,q2,q3,q4,⟨q5.1.1,fun i u x hu hx=>(q5.1.2 i u x hu hx).cells hc⟩,fun hp=>⟨(q5.2 hp).1,fun i u x hu hx=>((q5.2 hp).2 i u x hu hx).cells (fun _ q=>q) hc⟩⟩
    | mp D =>
      obtain ⟨h0,b,c,es,cl,h1,h2,h3⟩:=q
      refine ⟨h0,b,c,es,cl,h1,?_,h3⟩
      refine (hg.block b (Array.getElem?_eq_some_iff.1 h2).1 fun e=>?_).trans h2
      obtain ⟨b',c',e1,e2⟩:=hm id _ ho rfl
      have:=h.ext id _ e1
      rw [h1] at this; injection this with this; injection this with t1 t2; subst t1
      have:=(hr b e.symm).1; omega
    | rmap es cl =>
      obtain ⟨b,c,h1,h2⟩:=q
      refine ⟨b,c,h1,(hg.block b (Array.getElem?_eq_some_iff.1 h2).1 fun e=>?_).trans h2⟩
      obtain ⟨b',c',e1,e2⟩:=hm id _ ho rfl
      have:=h.ext id _ e1
      rw [h1] at this; injection this with this; injection this with t1 t2; subst t1
      have:=(hr b e.symm).1; omega
    | rit m s x c0 =>
      obtain ⟨b,c,bm,cm,h1,h3,h2⟩:=q
      refine ⟨b,c,bm,cm,h1,h3,(hg.block b (Array.getElem?_eq_some_iff.1 h2).1 fun e=>?_).trans h2⟩
      obtain ⟨b',c',e1,e2⟩:=hm id _ ho rfl
      have:=h.ext id _ e1
      rw [h1] at this; injection this with this; injection this with t1 t2; subst t1
      have:=(hr b e.symm).1; omega
    | ty v x=>exact ⟨q.1,q.2.1,q.2.2.cells hc⟩
  · rw [hg.block b (Nat.lt_of_lt_of_le hb h.chg.size) fun e=>?_]
    · exact h.chg.block b hb hn
    · have:=(hr b e.symm).1; omega
theorem Sat.turn (h:Sat E N R H nx a w) {row:Option Nat} (hg:w.grownBy w' row) (hr:∀ r,row=some r→E.w0.heap.size≤r∧∃ o:Obj,w.heap[r]?=some o∧o.isCells=false) (hm:mapsOld E H):Sat E N R H nx a w':=by
  obtain ⟨σ,Z,q⟩:=h
  exact ⟨σ,Z,q.turn hg hr hm⟩
theorem nest_keeps {B:Nat} (h:Rel E N κ R H nx σ Z a w) {N':Nat} (k:Rel (E.nest H nx σ Z w) N' κ' R' H' nx' σ' Z' a' w') (hm:mapsOld E H) (hB:E.w0.heap.size≤B):KeepsFrom B w w' :=
  ⟨k.chg.size,fun j o hj hk ho=>(k.chg.block j (Array.getElem?_eq_some_iff.1 hk).1 fun q=>by
    obtain ⟨i,o',c',q1,q2⟩:=nest_wr q
    have q3:=h.hr.at_ i o' q1
    cases o' with
    | box e xs =>
      obtain ⟨b,c,C,h1,h2,_⟩:=q3
      rw [q2] at h1; injection h1 with h1; injection h1 with t1 t2; subst t1
      rw [hk] at h2; injection h2 with h2; subst h2; cases ho
    | row e sz pu rows =>
      obtain ⟨C,h2,_⟩:=q3.2.2 j c' q2
      rw [hk] at h2; injection h2 with h2; subst h2; cases ho
    | mp D =>
      obtain ⟨b',c'',e1,e2⟩:=hm i _ q1 rfl
      have:=h.ext i _ e1
      rw [q2] at this; injection this with this; injection this with t1 t2; subst t1
      omega
    | rmap es cl =>
      obtain ⟨b',c'',e1,e2⟩:=hm i _ q1 rfl
      have:=h.ext i _ e1
      rw [q2] at this; injection this with this; injection this with t1 t2; subst t1
      omega
    | rit m s x c0 =>
      obtain ⟨b',c'',e1,e2⟩:=hm i _ q1 rfl
      have:=h.ext i _ e1
      rw [q2] at this; injection this with this; injection this with t1 t2; subst t1
      omega
    | ty v x=>have:=q3.1; rw [q2] at this; cases this).trans hk⟩

/-- objects that aren't of the table stay -/
theorem nest_def (h:Rel E N κ R H nx σ Z a w) {N':Nat} (k:Rel (E.nest H nx σ Z w) N' κ' R' H' nx' σ' Z' a' w') {D:Nat} {x:Option (List Deferred)} (hD:w.heap[D]?=some (.deferred x)):w'.heap[D]?=some (.deferred x) :=
  (k.chg.block D (Array.getElem?_eq_some_iff.1 hD).1 fun q=>by
    obtain ⟨i,o',c',q1,q2⟩:=nest_wr q
    have q3:=h.hr.at_ i o' q1
    cases o' with
    | box e xs =>
      obtain ⟨b,c,C,h1,h2,_⟩:=q3
      rw [q2] at h1; injection h1 with h1; injection h1 with t1 t2; subst t1
      rw [hD] at h2; cases h2
    | row e sz pu rows =>
      obtain ⟨C,h2,_⟩:=q3.2.2 D c' q2
      rw [hD] at h2; cases h2
    | mp M =>
      obtain ⟨_,b,c,es,cl,h1,h2,_⟩:=q3
      rw [q2] at h1; injection h1 with h1; injection h1 with t1 t2; subst t1
      rw [hD] at h2; cases h2
    | rmap es cl =>
      obtain ⟨b,c,h1,h2⟩:=q3
      rw [q2] at h1; injection h1 with h1; injection h1 with t1 t2; subst t1
      rw [hD] at h2; cases h2
    | rit m s x c0 =>
      obtain ⟨b,c,bm,cm,h1,_,h2⟩:=q3
      rw [q2] at h1; injection h1 with h1; injection h1 with t1 t2; subst t1
      rw [hD] at h2; cases h2
    | ty v x=>have:=q3.1; rw [q2] at this; cases this).trans hD
/-- a state,and what it leads to: E3 begins here -/
def Nested (E E3:Env) (w:World):Prop:=E3.w0=w∧E3.top=E.top∧∀ N' R' H' nx' a' w',Sat E3 N' R' H' nx' a' w'→Sat E N' R' H' nx' a' w'∧∀ (D:Nat) (x:Option (List Deferred)),w.heap[D]?=some (Obj.deferred x)→w'.heap[D]?=some (Obj.deferred x)
theorem Sat.nest (h:Sat E N R H nx a w) (ht:E.top=100000):∃ E3,Nested E E3 w∧EnvOk E3 H (allU H) nx 100000∧Sat E3 N R H nx a w:=by
  obtain ⟨σ,Z,hr⟩:=h
  refine ⟨E.nest H nx σ Z w,⟨rfl,rfl,fun N' R' H' nx' a' w' ⟨σ',Z',k⟩=>⟨⟨σ',Z',hr.unnest k⟩,fun D x hD=>nest_def hr k hD⟩⟩,hr.nestOk ht,⟨σ,Z,hr.nest⟩⟩

/-! a range over a function -/
/-- how a round may be left -/
def rngPost (E:Env) (N nx:Nat) (Hn Hx:Heap) (pn p:Prop):Exit→Act→World→Prop
  | .normal,a,w=>pn∧Sat E N [] Hn nx a w
  | .ret,a,w=>p∧Sat E N [] Hx nx a w
  | _,_,_=>False
theorem range_px {α:Type} {n:Nat} {ds:List Deferred} (hr:Rel E N [] R H nx σ Z a w) {g:Operand} {ps:Array Tmp} {assign body:Code} {Q:Exit→Act→World→Prop} (h1:1≤n)
    {gf:Nat} {lb:Array Value} (hg:a.eval g=.func (.func gf) #[] lb) (eg:∀ args w,(callFunc gf args).run P w=.ok (.enter gf args) w)
    {encs:α→Array Value} (hps:∀ x,(encs x).size=ps.size) {S Sp:List α→Prop} {M:Nat}
    (hseq:SeqStopsK (FW none) (n-1) P gf lb encs (fun A B=>Chg (E.nest H nx σ Z w).Wr w A→Chg (E.nest H nx σ Z w).Wr w B) S Sp M w)
    (Pn Px:List α→Prop) (hp0:Pn []) (Hh Hx:List α→Heap) (h00:Hh []=H) (hmh:∀ pre,mapsOld (E.nest H nx σ Z w) (Hh pre)) (hmx:∀ pre,mapsOld (E.nest H nx σ Z w) (Hx pre))
    (asg:α→Act) (hasg:∀ (l:Nat) (x:α) (W:World) (K:Act→World→Prop),K (asg x) W→assign.wpIn (FW (some l)) (n-1-1) P (Exit.then K (fun _ _ _=>False)) { tmps:=(ps.zip (encs x)).foldl (fun t (p,v)=>t.setIfInBounds p v) a.tmps,defers:=[] } W)
    (R1:α→List Ent) (hR1:∀ x σ' Z' W,RS σ' Z' W N [] R a→RS σ' Z' W N [] (R1 x) (asg x))
    (hbody:∀ (l:Nat) (pre:List α) (x:α) (E3:Env) (W:World),pre.length<M→Pn pre→E3.w0=W→E3.top=E.top→EnvOk E3 (Hh pre) (allU (Hh pre)) nx E.top→Sat E3 N (R1 x) (Hh pre) nx (asg x) W→body.wpIn (FW (some l)) (n-1-1) P (rngPost E3 N nx (Hh (pre++[x])) (Hx (pre++[x])) (Pn (pre++[x])) (Px (pre++[x]))) (asg x) W)
    (hdone:∀ (D:Nat) (xs:List α) (W:World),w.heap.size≤D→S xs→Pn xs→Sat (E.nest H nx σ Z w) N R (Hh xs) nx a W→W.heap[D]?=some (.deferred (some []))→Q .normal (Act.with_ a ({ target:=.collected D,args:=#[] }::ds)) W)
    (hstop:∀ (D:Nat) (pre:List α) (W:World),w.heap.size≤D→Sp pre→Px pre→Sat (E.nest H nx σ Z w) N R (Hx pre) nx a W→W.heap[D]?=some (.deferred (some []))→Code.ret.wpIn (FW none) n P Q (Act.with_ a ({ target:=.collected D,args:=#[] }::ds)) W) :
    (Code.rangeFunc g ps assign body).wpIn (FW none) n P Q (Act.with_ a ds) w:=by
  have hn:=hr.nest
  refine wpIn_rangeFunc_ownH (F:=FW none) rfl h1 (gf:=gf) (lb:=lb) (by rw [with_eval]; exact hg) trivial eg hseq (fun h k q=>k (h q))
    (fun W l o o' hl ho hc _ q=>⟨q.os,q.tape,q.output,by simpa using q.size,fun b hb hnb=>by rw [World.putObj_heap_other (by omega)]; exact q.block b hb hnb⟩) (Below.refl _ _) hps
    (fun pre W=>Pn pre∧Sat (E.nest H nx σ Z w) N R (Hh pre) nx a W) (fun c pre W=>c=.ret∧Px pre∧Sat (E.nest H nx σ Z w) N R (Hx pre) nx a W)
    (fun s W W' row hs hg' hr'=>⟨hs.1,hs.2.turn hg' hr' (hmh s)⟩) (fun c s W W' row hs hg' hr'=>⟨hs.1,hs.2.1,hs.2.2.turn hg' hr' (hmx s)⟩)
    (by rw [h00]; exact ⟨hp0,σ,Z,hn⟩) (fun x a' _=>a'=asg x) (fun x a' _ W W' row h _ _=>h)
    (fun l pre x W K hI hK=>hasg l x W K (hK _ _ (KeepsFrom.refl _ _) (fun q=>q) hI rfl)) ?_ (fun D xs W hD hs hI hd=>hdone D xs W hD hs hI.1 hI.2 hd) (fun D c pre W hD hs hI hd=>by obtain ⟨rfl,hp,hI⟩:=hI; exact hstop D pre W hD hs hp hI hd)
  rintro l pre x a' W hl _ ⟨hpn,σ1,Z1,hr1⟩ rfl hlen
  have hr2:Rel (E.nest H nx σ Z w) N [] (R1 x) (Hh pre) nx σ1 Z1 (asg x) W:=⟨hR1 x _ _ _ hr1.rs,hr1.hr,hr1.fr,hr1.lo,hr1.ext,hr1.dom,hr1.own,hr1.chg,hr1.zold,hr1.z0⟩
  refine wpIn_mono (hbody l pre x ((E.nest H nx σ Z w).nest (Hh pre) nx σ1 Z1 W) W hlen hpn rfl rfl ⟨rfl,rfl,rfl,fun id q1 q2=>(hr1.fr id q1 q2).2,fun id q1 q2=>(hr1.fr id q1 q2).1⟩ ⟨σ1,Z1,hr2.nest⟩) ?_
  intro e a'' W' hq
  cases e with
  | normal =>
    obtain ⟨hp,σ3,Z3,h3⟩:=hq
    have h4:=hr2.unnest h3
    exact ⟨nest_keeps hr2 h3 (hmh pre) (Nat.le_refl _),fun _=>h4.chg,hp,σ3,Z3,hr.back h4⟩
  | ret =>
    obtain ⟨hp,σ3,Z3,h3⟩:=hq
    have h4:=hr2.unnest h3
    exact ⟨nest_keeps hr2 h3 (hmh pre) (Nat.le_refl _),rfl,hp,σ3,Z3,hr.back h4⟩
  | exit _=>exact hq.elim
  | goto _=>exact hq.elim
  | panic _=>exact hq.elim
  | outgrown=>exact hq.elim

/-! a function whose body holds such a range -/
theorem con_intro_w {n:Nat} {f:FuncId} {fn:Func} {c:Code} {H:Heap} {lo top:Nat} {r:PV} {U:Upd} (args:List PV) (N:Nat) (hf:P.funcs[f]?=some fn) (hb:fn.body=some c) (hN:fn.ntmps=N) (hle:Nat.ble args.length N=true) (hH:H=[])
    (h:∀ (E:Env) (a:Act),EnvOk E H U lo top→Sat E N (initT 0 args) H lo a E.w0→c.wpIn (FW none) n P (bodyPostM (FW none) n P fn (ConPost E H r U)) (Act.with_ a []) E.w0):Con P f args H lo top r U:=by
  subst hH
  intro w σ Z vs hh hv hfr
  let E:Env:={ w0:=w,Wr:=WrOf σ [] U,Z0:=Z,σ0:=σ,lo,top }
  have:=h E { tmps:=vs.toArray++Array.replicate (fn.ntmps-vs.toArray.size) undef,defers:=[] } ⟨rfl,rfl,rfl,fun _ _ _=>rfl,hfr⟩
    ⟨σ,Z,⟨rfl,?_,fun t e he=>?_⟩,hh,fun id h1 h2=>⟨hfr id h1 h2,rfl⟩,Nat.le_refl _,Ext.refl σ,fun id h0 _=>h0,fun id o b c h1 h2=>(by cases h1),Chg.refl _ _,fun b hb=>.inl hb,fun b hb=>hb⟩
  · exact (callsIn_wide (n:=n)).1 (callsIn_of_wp_marks (F:=FW none) hf hb trivial this)
  · have:=Nat.le_of_ble_eq_true hle
    have hl:=hv.1
    simp [hN]; omega
  · obtain ⟨h1,_,h3⟩:=look_initT args 0 t e he
    simp only [Nat.sub_zero] at h3
    obtain ⟨u,hu,hvu⟩:=hv.get h3
    have hl:=(List.getElem?_eq_some_iff.1 hu).1
    refine ⟨fun _=>⟨u,?_,hvu⟩,fun q=>by rw [h1] at q; cases q⟩
    rw [Array.getElem?_append_left (by simpa using hl)]
    simpa using hu
def noMp (H:Heap):Bool:=H.all fun x=>!isMp x.2
theorem noMp_old {H:Heap} (h:noMp H=true):mapsOld E H:=fun id o hl ho=>by
  obtain ⟨_,x,hx,e⟩:=key_of_look hl
  have:=List.all_eq_true.1 h x hx
  rw [e,ho] at this; cases this
def colls (Ds:List Nat):List Deferred:=Ds.map fun D=>{ target:=.collected D,args:=#[] }
theorem ret_w {fn:Func} {n:Nat} {lo top:Nat} {H0:Heap} {r:PV} {U:Upd}:∀ (Ds:List Nat) {w:World},Sat E N R H nx a w→EnvOk E H0 U lo top→Ds.Nodup→(∀ D∈Ds,E.w0.heap.size≤D∧w.heap[D]?=some (.deferred (some [])))→noMp H=true →
    retP P R H fn.results.toList=some r→(okU H U).map (·.1)=(okU H U).map (·.2)→(idsIn (keysH H0++keysU U) r&&idsU (keysH H0++keysU U) U)=true→LeavesInM (FW none) n P fn a.tmps (ConPost E H0 r U) (colls Ds) .returning w
  | [],w,hS,hE,_,_,_,hr,hU,hi=>by
    obtain ⟨_,v,h1,h2⟩:=ret_s (e:=.ret) hS hE hr hU hi (.inl rfl)
    exact ⟨v,h1,h2⟩
  | D::Ds,w,hS,hE,hn,hD,hm,hr,hU,hi=>by
    obtain ⟨d1,d2⟩:=hD D List.mem_cons_self
    obtain ⟨n1,n2⟩:=List.nodup_cons.1 hn
    refine ⟨by simp,.inl ⟨D,_,rfl,run_takeDeferred d2,ret_w Ds (hS.turn (grownBy_putObj' w D (.deferred none)) (fun r e=>by cases e; exact ⟨d1,_,d2,rfl⟩) (noMp_old hm)) hE n2 (fun D' h'=>?_) hm hr hU hi⟩⟩
    obtain ⟨q1,q2⟩:=hD D' (List.mem_cons_of_mem _ h')
    exact ⟨q1,by rw [World.putObj_heap_other (by rintro rfl; exact n1 h')]; exact q2⟩
end
end Go.PX

/- Proved: a cut in a walk on plain data: ways that meet go on as one. Program-independent. -/
namespace Go.PX
open Go.RowKit Go.SX
theorem seq_cut {P:Program} {Q:Exit→Act→World→Prop} {x y:Code} {a:Act} {w:World} {E:Env} {N nx:Nat} {T:List Ent} {H:Heap} (hx:x.wp P (Exit.then (fun a w=>Sat E N T H nx a w) Q) a w) (hy:∀ a w,Sat E N T H nx a w→y.wp P Q a w):(Code.seq x y).wp P Q a w :=
  wp_seq (wp_mono hx fun e a w q=>by cases e <;> first | exact hy a w q | exact q)
end Go.PX

/- Proved: regions that draw their order,and loops,on plain data,beside deferred calls. Program-independent. -/
namespace Go.PX
open Go.RowKit Go.SX
section
variable {P:Program} {E:Env} {l:List Oper} {κ:List (Nat × Bool)} {N:Nat} {is:List Info} {bef:List (List Nat)} {R:List Ent} {h:Nat→Option PO} {nx nx':Nat} {Q:Exit→Act→World→Prop}

theorem any_sound_w {ro:Option Nat} {n:Nat} {ds:List Deferred} (hnd:l.all (fun o=>noDefer o.op)=true) (c:Chk l.toArray l is bef) (ha:∀ (j:Nat) (i:Info),is[j]?=some i→At P l.toArray κ N is R h nx j i) (hnx:∀ (j:Nat) (i:Info),is[j]?=some i→i.out.nx≤nx') (hlo:E.lo≤nx) (htop:nx'≤E.top)
    (hob:∀ (k:Nat) (i:Info),is[k]?=some i→pv κ i.p=true→AllOb i.out.obs) (heq:∀ (k:Nat) (i:Info),is[k]?=some i→AllEq i.bs∧AllEq i.out.eqs)
    (hQ:∀ L a w σ Z,(∀ k,k<l.length→L k=true)→PRel E N κ is R h nx' L σ Z a w→Q .normal (Act.with_ a ds) w) :
    ∀ (fuel:Nat) (listed:Array Bool) (a:Act) (w:World) (σ:Nm) (Z:Nat→Prop),listed.size=l.length→listed.toList.count false=fuel→(∀ k o,l[k]?=some o→Lof listed k=true→∀ j∈preds o,Lof listed j=true)→PRel E N κ is R h nx' (Lof listed) σ Z a w →
      wpAnyIn (FW ro) n P .any l.toArray Q fuel listed (Act.with_ a ds) w:=by
  have hall:∀ listed:Array Bool,listed.size=l.length→Region.ready .any l.toArray listed=[]→∀ k,k<l.length→Lof listed k=true:=fun listed hsz hre k=>by
    induction k using Nat.strongRecOn with
    | ind k ih =>
      intro hk
      obtain ⟨o,ho⟩:∃ o,l[k]?=some o:=⟨l[k],List.getElem?_eq_getElem hk⟩
      cases hL:Lof listed k with
      | true=>rfl
      | false =>
        have:k∈Region.ready .any l.toArray listed:=(ready_iff hsz).2 ⟨o,ho,hL,fun j hj=>by
          have:=preds_lt c ho j hj
          exact ih j this (by omega)⟩
        rw [hre] at this; cases this
  intro fuel
  induction fuel with
  | zero =>
    intro listed a w σ Z hsz hcnt hcl hr
    have hre:Region.ready .any l.toArray listed=[]:=by
      cases hq:Region.ready .any l.toArray listed with
      | nil=>rfl
      | cons k ks =>
        obtain ⟨o,ho,hL,_⟩:=(ready_iff hsz).1 (show k∈Region.ready .any l.toArray listed by rw [hq]; exact List.mem_cons_self)
        have hk:=(List.getElem?_eq_some_iff.1 ho).1
        have:false∈listed.toList:=by
          rw [List.mem_iff_getElem?]
          refine ⟨k,?_⟩
          have hlt:k<listed.size:=by omega
          unfold Lof at hL
          simp [hlt] at hL ⊢; exact hL
        exact absurd hcnt (by rw [List.count_eq_zero]; exact fun q=>q this)
    exact ⟨hre,hQ _ a w σ Z (hall listed hsz hre) hr⟩
  | succ fuel ih =>
    intro listed a w σ Z hsz hcnt hcl hr
    refine ⟨fun hre=>hQ _ a w σ Z (hall listed hsz hre) hr,fun k hk=>?_⟩
    obtain ⟨o,ho,hL,hp⟩:=(ready_iff hsz).1 hk
    have hkl:=(List.getElem?_eq_some_iff.1 ho).1
    have hks:k<listed.size:=by omega
    obtain ⟨i,hi,rfl⟩:∃ i,is[k]?=some i∧i.o=o:=by
      rw [← c.len] at ho
      rw [List.getElem?_map] at ho
      obtain ⟨i,hi,e⟩:=Option.map_eq_some_iff.1 ho
      exact ⟨i,hi,e⟩
    unfold wpOpIn
    have hop:l.toArray[k]?=some i.o:=by simpa using ho
    rw [hop]
    simp only
    obtain ⟨e1,e2⟩:=heq k i hi
    have hno:noDefer i.o.op=true:=List.all_eq_true.1 hnd _ (List.mem_of_getElem? ho)
    have hst:=prel_step (K:=fun a' w'=>a'.defers=[]∧wpAnyIn (FW ro) n P .any l.toArray Q fuel (listed.setIfInBounds k true) (Act.with_ a' ds) w') (Q:=fun _ _ _=>False) c ha hnx hlo htop hcl hr hi hL hp (hob k i hi) e1 e2 fun a' w' σ' Z' hr'=>?_
    · rw [show Region.wanted i.o (yielded l.toArray (Act.with_ a ds).tmps)=Region.wanted i.o (yielded l.toArray a.tmps) from rfl]
      cases hw:Region.wanted i.o (yielded l.toArray a.tmps) with
      | true =>
        rw [hw,if_pos rfl] at hst
        rw [if_pos rfl]
        rcases hst with hst | ⟨_,_,_,q⟩
        · exact oper_fw hno hr.defers hst
        · exact q.elim
      | false =>
        rw [hw,if_neg (by simp)] at hst
        rw [if_neg (by simp)]
        refine ⟨fun _ _=>trivial,?_⟩
        rw [with_put]; exact hst.2
    refine ⟨hr'.defers,?_⟩
    refine ih (listed.setIfInBounds k true) a' w' σ' Z' (by simpa using hsz) ?_ ?_ (by rw [Lof_set hks]; exact hr')
    · have hg:listed.toList[k]?=some false:=by
        unfold Lof at hL
        simp [hks] at hL ⊢; exact hL
      have:(listed.toList.set k true).count false+1=listed.toList.count false:=by
        have hlt:k<listed.toList.length:=by simpa using hks
        have hv:listed.toList[k]=false:=by
          have:=List.getElem?_eq_some_iff.1 hg
          exact this.2
        rw [List.count_set hlt,hv]
        have hpos:0<listed.toList.count false:=List.count_pos_iff.2 (by rw [List.mem_iff_getElem?]; exact ⟨k,hg⟩)
        rw [show (false==false)=true from rfl,show (true==false)=false from rfl]
        simp only [if_true,Bool.false_eq_true,if_false]
        omega
      rw [Array.toList_setIfInBounds]; omega
    · intro m om hom hLm j hj
      rw [Lof_set hks] at hLm ⊢
      by_cases hmk:m=k
      · subst hmk
        rw [ho] at hom; injection hom with hom; subst hom
        have:=hp j hj
        unfold setL; rw [this]; simp
      · rw [setL_ne hmk] at hLm
        have:=hcl m om hom hLm j hj
        unfold setL; rw [this]; simp

theorem any_w {ro:Option Nat} {n:Nat} {dfs:List Deferred} {id:Nat} {H H':Heap} {T:List Ent} {a:Act} {w:World} {obs:List Ob} (κ:List (Nat × Bool)) (ds:List Dir) (ts hs:List Nat) (hS:Sat E N R H nx a w) (h0:R.all (fun e=>e.p.isEmpty)=true) (hm:P.follows .mixedOrders=true) (h:anyFin P l κ N ds ts hs R H nx=some (T,H',nx',obs)) (he:anyA P l κ N ds R H nx=anyB P l κ N ds R H nx) (htop:nx'≤E.top) (hob:AllOb obs)
    (hnd:l.all (fun o=>noDefer o.op)=true) (k:∀ a' w',Sat E N T H' nx' a' w'→Q .normal (Act.with_ a' dfs) w'):(Code.region id l.toArray true).wpIn (FW ro) n P Q (Act.with_ a dfs) w:=by
  obtain ⟨σ,Z,hr⟩:=hS
  unfold anyFin at h
  unfold anyA anyB at he
  cases hrun:anyRun P l.toArray κ N l ds R H nx with
  | none=>rw [hrun] at h; cases h
  | some x =>
    obtain ⟨is,R',H1,nx1⟩:=x
    rw [hrun] at h he
    simp only at h he
    cases hb:(befOk l (befAcc l [])&&confOk is (befAcc l [])&&slotOk l.toArray is (befAcc l [])) with
    | false=>rw [hb] at h; cases h
    | true =>
      rw [hb] at h
      simp only [cond_true] at h
      simp only [Bool.and_eq_true] at hb
      cases hk:keepR R' ts with
      | none=>rw [hk] at h; cases h
      | some T' =>
        rw [hk] at h
        simp only [Option.some.injEq,Prod.mk.injEq] at h
        obtain ⟨rfl,rfl,rfl,rfl⟩:=h
        obtain ⟨a1,a2,a3,a4,a5⟩:=anyRun_at hrun
        have c:Chk l.toArray l is (befAcc l []):=⟨anyRun_len hrun,hb.1.1,hb.1.2,hb.2⟩
        have hch:Chg (fun _=>False) w { w with drawn:=w.drawn+1 }:=⟨rfl,rfl,rfl,Nat.le_refl _,fun _ _ _=>rfl⟩
        have hR0:=(hr.rs.kap (κ':=κ) h0).mono (Ext.refl σ) (fun _ q=>q) hch (fun _ _ q=>q)
        refine wpIn_region_any hm ?_
        have hLof:Lof (Array.replicate l.toArray.size false)=fun _=>false:=by
          funext k; unfold Lof; exact getD_replicate_false _ _
        have heff:Eff σ Z w [] [] σ Z { w with drawn:=w.drawn+1 }:=⟨Ext.refl σ,fun _ q _=>q,fun _ q=>q,fun _ q=>.inl q,hch.mono fun _ _ q=>q.elim,fun id o q=>by simp [ulook] at q,fun id o b c q=>by simp [ulook] at q,fun id id' o o' b c c' q=>by simp [ulook] at q⟩
        have m0:MF E (hlook H) (fun id=>nx≤id∧id<E.top) σ Z w:=⟨hr.hr.at_,hr.hr.inj,hr.hr.off,hr.hr.zlt,fun id q=>hr.fr id q.1 q.2,hr.ext,hr.dom,hr.own,hr.chg,hr.zold,hr.z0⟩
        have m1:MF E (hOf is (fun _=>false) (hlook H)) (Fr is (fun _=>false) nx1 E.top) σ Z { w with drawn:=w.drawn+1 }:=by
          have:=m0.step (F':=Fr is (fun _=>false) nx1 E.top) (fun id o q=>by simp [hlook] at q) heff (fun id q=>absurd rfl q) (fun id q=>⟨?_,rfl⟩)
          · have e:happF [] (hlook H)=hOf is (fun _=>false) (hlook H):=by
              funext id; rw [hOf_none (fun _ _ _ _=>rfl)]; rfl
            rw [← e]; exact this
          · rcases q with ⟨q1,q2⟩ | ⟨j,i,q1,_,q3,q4⟩
            · exact ⟨Nat.le_trans a3 q1,q2⟩
            · have:=(a1 j i q1).nx0; have:=a4 j i q1; exact ⟨by omega,by omega⟩
        refine any_sound_w (ds:=dfs) hnd (nx':=nx1) c a1 a4 hr.lo htop (flat_ob hob) (flat_eq (allEq_of_map he)) (fun L a' w' σ' Z' hall hp=>?_) l.toArray.size _ a _ σ Z (by simp) (by simp [List.count_replicate]) (fun k o _ q=>by rw [hLof] at q; cases q) ⟨hR0.defers,hR0.size,(fun j i _ q=>by rw [hLof] at q; cases q),fun t e q _=>hR0.at_ t e q,by rw [hLof]; exact m1⟩
        refine k a' w' ⟨σ',Z',?_⟩
        have hisl:∀ j i,is[j]?=some i→L j=true:=fun j i hj=>hall j (by have:=(List.getElem?_eq_some_iff.1 (c.at_ hj)).1; exact this)
        have hfin:hOf is L (hlook H)=hlook H1:=by
          rw [a2]; funext id
          exact hOf_congr (fun j i hj _=>hisl j i hj) rfl
        have m:=hp.mem
        rw [hfin] at m
        have hRf:RS σ' Z' w' N κ R' a':=⟨hp.defers,hp.size,fun t e q=>by
          rcases a5 t e q with ⟨j,i,x,q1,q2,q3,rfl⟩ | ⟨q1,q2⟩
          · exact hp.done j i q1 (hisl j i q1) t x q2 q3
          · exact hp.base t e q1 fun j i hj _=>q2 j i hj⟩
        have hrel:Rel E N κ R' H1 nx1 σ' Z' a' w':=⟨hRf,⟨m.at_,m.inj,m.off,m.zlt⟩,fun id q1 q2=>m.fr id (.inl ⟨q1,q2⟩),Nat.le_trans hr.lo a3,m.ext,m.dom,m.own,m.chg,m.zold,m.z0⟩
        exact (hrel.rs' (hRf.keep hk)).restr hs
end
theorem loop_w {P:Program} {ro:Option Nat} {n:Nat} {ds:List Deferred} {Q:Exit→Act→World→Prop} {a:Act} {w:World} {c:Code} (I:Nat→Act→World→Prop) (n₀:Nat) (h₀:I n₀ a w)
    (round:∀ m a w,I m a w→c.wpIn (FW ro) n P (Exit.then (fun a' w'=>∃ n',n'<m∧∃ a0,a'=Act.with_ a0 ds∧I n' a0 w') Q) (Act.with_ a ds) w):(Code.loop c).wpIn (FW ro) n P Q (Act.with_ a ds) w :=
  wpIn_loop_ghost (fun m a w=>∃ a0,a=Act.with_ a0 ds∧I m a0 w) n₀ ⟨a,rfl,h₀⟩ fun m a w ⟨a0,e,h⟩=>e ▸ round m a0 w h

theorem asg_region {P:Program} {ro:Option Nat} {n id s d ty:Nat} {pos:String} {tm:Array Value} {v:Value} (ht:tm[s]?=some v) {W:World} {K:Act→World→Prop} (hK:K ⟨tm.setIfInBounds d v,[]⟩ W) :
    (Code.region id #[{ dst:=some d,op:=.assign (.tmp s),type:=ty,pos:=pos,after:=#[],guard:=none }] false).wpIn (FW ro) n P (Exit.then K (fun _ _ _=>False)) ⟨tm,[]⟩ W:=by
  refine wpIn_region_lit (l:=[_]) ?_
  simp only [wpListIn]
  rw [show (⟨tm,[]⟩:Act)=Act.with_ ⟨tm,[]⟩ [] from rfl]
  refine oper_fw rfl rfl ?_
  unfold Oper.wp
  have e:Act.eval ⟨tm,[]⟩ (.tmp s)=v:=by simp [Act.eval,ht]
  simp only [execOp,e]
  exact ⟨rfl,hK⟩
theorem rs_asg {σ:Nm} {Z:Nat→Prop} {w:World} {N:Nat} {R:List Ent} {a:Act} {p d:Nat} {v:Value} {x:PV} (h:RS σ Z w N [] R a) (hd:d<N) (hn:R.all (fun e=>!Nat.beq e.t p&&!Nat.beq e.t d)=true) (hv:VR σ Z w v x) :
    RS σ Z w N [] (⟨d,[],x⟩::R) ⟨(a.tmps.setIfInBounds p v).setIfInBounds d v,[]⟩:=by
  have hs:=h.size
  refine ⟨rfl,by simpa using hs,fun t e he=>?_⟩
  simp only [look] at he
  cases hb:Nat.beq d t with
  | true =>
    rw [hb] at he; simp only [cond_true,Option.some.injEq] at he; subst he
    obtain rfl:=Nat.eq_of_beq_eq_true hb
    exact ⟨fun _=>⟨v,by simp [hs,hd],hv⟩,fun q=>by cases q⟩
  | false =>
    rw [hb] at he; simp only [cond_false] at he
    have hm:∀ (R:List Ent),R.all (fun e=>!Nat.beq e.t p&&!Nat.beq e.t d)=true→look R t=some e→Nat.beq t p=false∧Nat.beq t d=false:=fun R=>by
      induction R with
      | nil=>intro _ q; cases q
      | cons y R ih =>
        intro q1 q2
        simp only [List.all_cons,Bool.and_eq_true,Bool.not_eq_true'] at q1
        simp only [look] at q2
        cases hy:Nat.beq y.t t with
        | true=>rw [← Nat.eq_of_beq_eq_true hy]; exact q1.1
        | false=>rw [hy] at q2; exact ih q1.2 q2
    obtain ⟨n1,n2⟩:=hm R hn he
    have n1:p≠t:=by rintro rfl; simp at n1
    have n2:d≠t:=by rintro rfl; simp at n2
    have e1:((a.tmps.setIfInBounds p v).setIfInBounds d v)[t]?=a.tmps[t]?:=by rw [Array.getElem?_setIfInBounds_ne n2,Array.getElem?_setIfInBounds_ne n1]
    obtain ⟨q1,q2⟩:=h.at_ t e he
    refine ⟨fun q=>?_,fun q=>?_⟩
    · obtain ⟨u,hu,hv'⟩:=q1 q; exact ⟨u,e1.trans hu,hv'⟩
    · have:=q2 q; simp only [e1]; exact this
theorem Sat.with0 {E:Env} {N:Nat} {R:List Ent} {H:Heap} {nx:Nat} {a:Act} {w:World} (h:Sat E N R H nx a w):Sat E N R H nx (Act.with_ a []) w:=by
  obtain ⟨σ,Z,q⟩:=h
  exact ⟨σ,Z,⟨⟨rfl,q.rs.size,q.rs.at_⟩,q.hr,q.fr,q.lo,q.ext,q.dom,q.own,q.chg,q.zold,q.z0⟩⟩
def shape (H:Heap):List (Nat × Bool):=H.map fun x=>(x.1,isMp x.2)
theorem shape_mp:∀ {H H':Heap},shape H=shape H'→∀ {id:Nat} {o:PO},hlook H id=some o→isMp o=true→∃ o0,hlook H' id=some o0∧isMp o0=true
  | [],_,_,id,o,h,_=>by cases h
  | x::H,[],e,id,o,h,_=>by cases e
  | x::H,y::H',e,id,o,h,ho=>by
    simp only [shape,List.map_cons,List.cons.injEq,Prod.mk.injEq] at e
    obtain ⟨⟨e1,e2⟩,e3⟩:=e
    simp only [hlook] at h ⊢
    rw [← e1]
    cases hb:Nat.beq x.1 id with
    | true =>
      rw [hb] at h; simp only [cond_true,Option.some.injEq] at h ⊢
      subst h
      exact ⟨_,rfl,e2 ▸ ho⟩
    | false=>rw [hb] at h; exact shape_mp (H:=H) e3 h ho
section
variable {P:Program} {E:Env} {N:Nat} {R T:List Ent} {H H0 H':Heap} {U:Upd} {lo top nx:Nat} {a:Act} {w:World} {Q:Exit→Act→World→Prop} {l:List Oper} {id:Nat} {rest:Code} {ro:Option Nat} {n:Nat} {dfs:List Deferred}
theorem Gw (nw:List Ent) (nh:Heap) (nx':Nat) (obs:List Ob) (κ:List (Nat × Bool)) (dr:List Dir) (ts hs:List Nat) (hS:Sat E N R H nx a w) (hE:EnvOk E H0 U lo top) (hob:AllOb obs) (k:∀ a w,Sat E N T H' nx' a w→rest.wpIn (FW ro) n P Q (Act.with_ a dfs) w)
    (hT:tabD R nw ts=T:=by (simp only [Go.PX.tabD,Go.PX.lookV,Nat.reduceEqDiff,↓reduceIte]; rfl)) (hH:heapD H nh hs=H':=by (simp only [Go.PX.heapD,Go.PX.lookO,Nat.reduceEqDiff,↓reduceIte]; rfl))
    (h0:R.all (fun e=>e.p.isEmpty)=true:=by kernel_rfl) (h:regRun P l κ N dr ts hs R H nx=some (T,H',nx',obs):=by kernel_rfl) (he:regA P l κ N dr R H nx=regB P l κ N dr R H nx:=by kernel_rfl) (ht:Nat.ble nx' top=true:=by kernel_rfl) (hnd:l.all (fun o=>noDefer o.op)=true:=by kernel_rfl):(Code.seq (Code.region id l.toArray false) rest).wpIn (FW ro) n P Q (Act.with_ a dfs) w :=
  wpIn_seq_k fun _ hK=>region_w κ dr ts hs hS h0 h he hnd (hE.le (Nat.le_of_ble_eq_true ht)) hob fun a w q=>hK _ w (k a w q)
theorem G0w (nw:List Ent) (nh:Heap) (nx':Nat) (obs:List Ob) (κ:List (Nat × Bool)) (dr:List Dir) (ts hs:List Nat) (hS:Sat E N R H nx a w) (hE:EnvOk E H0 U lo top) (hob:AllOb obs) (k:∀ a w,Sat E N T H' nx' a w→Q .normal (Act.with_ a dfs) w)
    (hT:tabD R nw ts=T:=by (simp only [Go.PX.tabD,Go.PX.lookV,Nat.reduceEqDiff,↓reduceIte]; rfl)) (hH:heapD H nh hs=H':=by (simp only [Go.PX.heapD,Go.PX.lookO,Nat.reduceEqDiff,↓reduceIte]; rfl))
    (h0:R.all (fun e=>e.p.isEmpty)=true:=by kernel_rfl) (h:regRun P l κ N dr ts hs R H nx=some (T,H',nx',obs):=by kernel_rfl) (he:regA P l κ N dr R H nx=regB P l κ N dr R H nx:=by kernel_rfl) (ht:Nat.ble nx' top=true:=by kernel_rfl) (hnd:l.all (fun o=>noDefer o.op)=true:=by kernel_rfl):(Code.region id l.toArray false).wpIn (FW ro) n P Q (Act.with_ a dfs) w :=
  region_w κ dr ts hs hS h0 h he hnd (hE.le (Nat.le_of_ble_eq_true ht)) hob k
theorem Dw (nw:List Ent) (nh:Heap) (nx':Nat) (obs:List Ob) (κ:List (Nat × Bool)) (dr:List Dir) (ts hs:List Nat) (hS:Sat E N R H nx a w) (hm:P.follows .mixedOrders=true) (hE:EnvOk E H0 U lo top) (hob:AllOb obs) (k:∀ a w,Sat E N T H' nx' a w→rest.wpIn (FW ro) n P Q (Act.with_ a dfs) w)
    (hT:tabD R nw ts=T:=by (simp only [Go.PX.tabD,Go.PX.lookV,Nat.reduceEqDiff,↓reduceIte]; rfl)) (hH:heapD H nh hs=H':=by (simp only [Go.PX.heapD,Go.PX.lookO,Nat.reduceEqDiff,↓reduceIte]; rfl))
    (h0:R.all (fun e=>e.p.isEmpty)=true:=by kernel_rfl) (h:anyFin P l κ N dr ts hs R H nx=some (T,H',nx',obs):=by kernel_rfl) (he:anyA P l κ N dr R H nx=anyB P l κ N dr R H nx:=by kernel_rfl) (ht:Nat.ble nx' top=true:=by kernel_rfl) (hnd:l.all (fun o=>noDefer o.op)=true:=by kernel_rfl):(Code.seq (Code.region id l.toArray true) rest).wpIn (FW ro) n P Q (Act.with_ a dfs) w :=
  wpIn_seq_k fun _ hK=>any_w κ dr ts hs hS h0 hm h he (hE.le (Nat.le_of_ble_eq_true ht)) hob hnd fun a w q=>hK _ w (k a w q)
theorem D0w (nw:List Ent) (nh:Heap) (nx':Nat) (obs:List Ob) (κ:List (Nat × Bool)) (dr:List Dir) (ts hs:List Nat) (hS:Sat E N R H nx a w) (hm:P.follows .mixedOrders=true) (hE:EnvOk E H0 U lo top) (hob:AllOb obs) (k:∀ a w,Sat E N T H' nx' a w→Q .normal (Act.with_ a dfs) w)
    (hT:tabD R nw ts=T:=by (simp only [Go.PX.tabD,Go.PX.lookV,Nat.reduceEqDiff,↓reduceIte]; rfl)) (hH:heapD H nh hs=H':=by (simp only [Go.PX.heapD,Go.PX.lookO,Nat.reduceEqDiff,↓reduceIte]; rfl))
    (h0:R.all (fun e=>e.p.isEmpty)=true:=by kernel_rfl) (h:anyFin P l κ N dr ts hs R H nx=some (T,H',nx',obs):=by kernel_rfl) (he:anyA P l κ N dr R H nx=anyB P l κ N dr R H nx:=by kernel_rfl) (ht:Nat.ble nx' top=true:=by kernel_rfl) (hnd:l.all (fun o=>noDefer o.op)=true:=by kernel_rfl):(Code.region id l.toArray true).wpIn (FW ro) n P Q (Act.with_ a dfs) w :=
  any_w κ dr ts hs hS h0 hm h he (hE.le (Nat.le_of_ble_eq_true ht)) hob hnd k
end
end Go.PX

/- Proved: objects of the table told otherwise; a name in a row written as a raw value with a ghost beside it; a range over a function with a further fact that its rounds keep. Program-independent. -/
namespace Go.PX
open Go.RowKit Go.SX
section
variable {P:Program} {E:Env} {N:Nat} {κ:List (Nat × Bool)} {R:List Ent} {H H':Heap} {nx nx':Nat} {σ:Nm} {Z:Nat→Prop} {a:Act} {w:World}
/-- the table told otherwise -/
theorem Rel.reH (hr:Rel E N κ R H nx σ Z a w) (hle:nx≤nx') (htop:nx'≤E.top) (h:∀ i o,hlook H' i=some o→OR σ Z w i o) (hk:∀ i o,hlook H' i=some o→(∃ o',hlook H i=some o')∨(nx≤i∧i<nx')):Rel E N κ R H' nx' σ Z a w:=by
  have hn:∀ {i b c},nx≤i→i<nx'→σ i=some (b,c)→False:=fun {i b c} h1 h2 q=>by
    have:=(hr.fr i h1 (Nat.lt_of_lt_of_le h2 htop)).1
    rw [q] at this; cases this
  refine ⟨hr.rs,⟨h,fun i i' o o' b c c' q1 q2 q3 q4=>?_,fun i o b c q1 q2=>?_,hr.hr.zlt⟩,fun i q1 q2=>⟨(hr.fr i (Nat.le_trans hle q1) q2).1,?_⟩,Nat.le_trans hr.lo hle,hr.ext,hr.dom,fun i o b c q1 q2=>?_,hr.chg,hr.zold,hr.z0⟩
  · rcases hk i o q1 with ⟨_,r1⟩ | ⟨r1,r2⟩
    · rcases hk i' o' q2 with ⟨_,r3⟩ | ⟨r3,r4⟩
      · exact hr.hr.inj i i' _ _ b c c' r1 r3 q3 q4
      · exact (hn r3 r4 q4).elim
    · exact (hn r1 r2 q3).elim
  · rcases hk i o q1 with ⟨_,r1⟩ | ⟨r1,r2⟩
    · exact hr.hr.off i _ b c r1 q2
    · exact (hn r1 r2 q2).elim
  · cases q:hlook H' i with
    | none=>rfl
    | some o =>
      rcases hk i o q with ⟨_,r1⟩ | ⟨r1,r2⟩
      · rw [(hr.fr i (Nat.le_trans hle q1) q2).2] at r1; cases r1
      · omega
  · rcases hk i o q1 with ⟨_,r1⟩ | ⟨r1,r2⟩
    · exact hr.own i _ b c r1 q2
    · exact (hn r1 r2 q2).elim

theorem flat_set {α:Type} {sz:Nat}:∀ (rows:List (List α)) (k i:Nat) (r:List α) (x:α),(∀ r∈rows,r.length=sz)→rows[k]?=some r→i<sz→(rows.set k (r.set i x)).flatten=rows.flatten.set (k*sz+i) x
  | [],k,i,r,x,_,h,_=>by simp at h
  | y::rows,0,i,r,x,hr,h,hi=>by
    simp only [List.getElem?_cons_zero,Option.some.injEq] at h; subst h
    rw [List.set_cons_zero,List.flatten_cons,List.flatten_cons,Nat.zero_mul,Nat.zero_add,List.set_append_left _ _ (by rw [hr y (by simp)]; exact hi)]
  | y::rows,k+1,i,r,x,hr,h,hi=>by
    have hy:=hr y (by simp)
    rw [List.set_cons_succ,List.flatten_cons,List.flatten_cons,List.set_append_right _ _ (by rw [hy,Nat.add_mul]; omega),hy,show (k+1)*sz+i-sz=k*sz+i by rw [Nat.add_mul]; omega,
      flat_set rows k i r x (fun r hr'=>hr r (by simp [hr'])) (by simpa using h) hi]
theorem set_same {l:List Value} {j:Nat} {u:Value} (h:l[j]?=some u):l.set j u=l:=by
  obtain ⟨hlt,rfl⟩:=List.getElem?_eq_some_iff.1 h
  exact List.set_getElem_self hlt
/-- the value behind a name of a row -/
def OwnIs (n:Nat) (v:Value):Prop:=(v=.slice none 0 0∧n=0)∨∃ b c,v=.slice (some ⟨b,0,none⟩) n c
/-- a name in a row is written as the value that it stands for; a ghost tells how it reads -/
theorem Sat.rawN {B k i O m n e sz:Nat} {rows:List (List PV)} {row:List PV} (hS:Sat E N R H nx a w) (htop:nx+1≤E.top) (hB:hlook H B=some (.row e sz false rows)) (hk:rows[k]?=some row) (hi:row[i]?=some (.own O m n)) (hp:∀ v,pures (rows.set k (row.set i (.sc v))).flatten=true) :
    ∃ v,OwnIs n v∧Sat E N R ((B,.row e sz true (rows.set k (row.set i (.sc v))))::(nx,.ty v (.own O m n))::H) (nx+1) a w:=by
  obtain ⟨σ,Z,hr⟩:=hS
  obtain ⟨h1,h2,h3⟩:=hr.hr.at_ _ _ hB
  have hrow:=h1 row (List.mem_of_getElem? hk)
  have hil:i<sz:=by rw [← hrow.1]; exact (List.getElem?_eq_some_iff.1 hi).1
  have hlen:∀ r∈rows,r.length=sz:=fun r hr=>(h1 r hr).1
  have hfl:rows.flatten[k*sz+i]?=some (.own O m n):=by rw [flat_row rows k i row hlen hk hil]; exact hi
  obtain ⟨⟨b,c⟩,hs⟩:∃ x,σ B=some x:=by
    cases h:σ B with
    | none=>exact absurd h (h2.2 (by rintro rfl; simp at hk))
    | some x=>exact ⟨x,rfl⟩
  obtain ⟨C,q1,q2,q3,q4,q5⟩:=h3 b c hs
  obtain ⟨u,hu,huv⟩:=q5.1.get hfl
  have ho:scOk u=true:=by cases huv <;> rfl
  have hv:OwnIs n u:=by
    cases huv with
    | own _ _ _ b' c' _=>exact .inr ⟨b',c',rfl⟩
    | own0=>exact .inl ⟨rfl,rfl⟩
  have hgn:=hr.fr nx (Nat.le_refl _) htop
  have hBn:B≠nx:=by rintro rfl; rw [hgn.2] at hB; cases hB
  have hlk:∀ {j:Nat} {o:PO},hlook ((B,PO.row e sz true (rows.set k (row.set i (.sc u))))::(nx,.ty u (.own O m n))::H) j=some o→(j=B∧o=.row e sz true (rows.set k (row.set i (.sc u))))∨(j=nx∧o=.ty u (.own O m n))∨hlook H j=some o:=fun {j o} q=>by
    simp only [hlook] at q
    cases hb:Nat.beq B j with
    | true=>rw [hb] at q; simp only [cond_true,Option.some.injEq] at q; exact .inl ⟨(Nat.eq_of_beq_eq_true hb).symm,q.symm⟩
    | false =>
      rw [hb] at q
      simp only [cond_false] at q
      cases hb2:Nat.beq nx j with
      | true=>rw [hb2] at q; simp only [cond_true,Option.some.injEq] at q; exact .inr (.inl ⟨(Nat.eq_of_beq_eq_true hb2).symm,q.symm⟩)
      | false=>rw [hb2] at q; exact .inr (.inr q)
  refine ⟨u,hv,σ,Z,hr.reH (Nat.le_succ _) htop (fun j o q=>?_) (fun j o q=>?_)⟩
  · rcases hlk q with ⟨rfl,rfl⟩ | ⟨rfl,rfl⟩ | q
    · have hro:rowsOk sz (rows.set k (row.set i (.sc u))):=fun r hr'=>by
        rcases List.mem_or_eq_of_mem_set hr' with hr' | rfl
        · exact h1 r hr'
        · exact ⟨by rw [List.length_set]; exact hrow.1,ones_set1 hrow.2 rfl⟩
      refine ⟨hro,⟨by rw [List.length_set]; exact h2.1,fun _=>by rw [hs]; simp⟩,fun b' c' hb=>?_⟩
      rw [hs] at hb; simp only [Option.some.injEq,Prod.mk.injEq] at hb; obtain ⟨rfl,rfl⟩:=hb
      refine ⟨C,q1,q2,by rw [List.length_set]; exact q3,q4,?_⟩
      rw [List.length_set]
      have hset:=VRs.set q5.1 (i:=k*sz+i) (VR.sc (σ:=σ) (Z:=Z) (w:=w) u ho)
      rw [set_same hu,← flat_set rows k i row (.sc u) hlen hk hil] at hset
      have:=hset.crs
      rw [hp u] at this
      exact this
    · exact ⟨hgn.1,rfl,huv⟩
    · exact hr.hr.at_ j o q
  · rcases hlk q with ⟨rfl,rfl⟩ | ⟨rfl,rfl⟩ | q
    · exact .inl ⟨_,hB⟩
    · exact .inr ⟨Nat.le_refl _,Nat.lt_succ_self _⟩
    · exact .inl ⟨_,q⟩

/-- a loop whose rounds leave deferred calls behind -/
theorem loop_wd {ro:Option Nat} {n:Nat} {Q:Exit→Act→World→Prop} {c:Code} {Ds:List Nat} (I:Nat→List Nat→Act→World→Prop) (n₀:Nat) (h₀:I n₀ Ds a w)
    (round:∀ m Ds a w,I m Ds a w→c.wpIn (FW ro) n P (Exit.then (fun a' w'=>∃ n',n'<m∧∃ Ds' a0,a'=Act.with_ a0 (colls Ds')∧I n' Ds' a0 w') Q) (Act.with_ a (colls Ds)) w):(Code.loop c).wpIn (FW ro) n P Q (Act.with_ a (colls Ds)) w :=
  wpIn_loop_ghost (fun m a w=>∃ Ds a0,a=Act.with_ a0 (colls Ds)∧I m Ds a0 w) n₀ ⟨Ds,a,rfl,h₀⟩ fun m a w ⟨Ds,a0,e,h⟩=>e ▸ round m Ds a0 w h

/-- what the rounds of a range keep: a fact X beside what isn't named,and the rows that are new since the range began -/
def KpX (Wr:Nat→Prop) (X:World→Prop) (w:World) (A B:World):Prop:=((Chg Wr w A∧X A)→(Chg Wr w B∧X B))∧(A.heap.size≤B.heap.size∧∀ b C e s,w.heap.size≤b→A.heap[b]?=some (.cells C e s)→B.heap[b]?=some (.cells C e s))
theorem KpX.refl {Wr:Nat→Prop} {X:World→Prop} {w A:World}:KpX Wr X w A A:=⟨fun q=>q,Nat.le_refl _,fun _ _ _ _ _ q=>q⟩
/-- range_pxr,where the rounds keep a further fact X of the memory -/
theorem range_pxq {α:Type} {n:Nat} {ds:List Deferred} (hr:Rel E N [] R H nx σ Z a w) {g:Operand} {ps:Array Tmp} {assign body:Code} {Q:Exit→Act→World→Prop} (h1:1≤n)
    {gf:Nat} {lb:Array Value} (hg:a.eval g=.func (.func gf) #[] lb) (eg:∀ args w,(callFunc gf args).run P w=.ok (.enter gf args) w)
    {encs:α→Array Value} (hps:∀ x,(encs x).size=ps.size) {S Sp:List α→Prop} {M:Nat} (X:World→Prop) (hXp:∀ (W:World) (l:Nat) (o o':Obj),w.heap.size≤l→W.heap[l]?=some o→o.isCells=false→X W→X (W.putObj l o'))
    (hseq:SeqStopsK (FW none) (n-1) P gf lb encs (KpX (E.nest H nx σ Z w).Wr X w) S Sp M w)
    (Pn:List α→Prop) (hp0:Pn []) (Hh:List α→Heap) (h00:Hh []=H) (hmh:∀ pre,mapsOld (E.nest H nx σ Z w) (Hh pre)) (hkey:∀ pre id o,hlook (Hh pre) id=some o→∃ o0,hlook H id=some o0)
    (hXs:∀ pre W σ' Z',Pn pre→Rel (E.nest H nx σ Z w) N [] R (Hh pre) nx σ' Z' a W→X W)
    (asg:α→Act) (hasg:∀ (l:Nat) (x:α) (W:World) (K:Act→World→Prop),K (asg x) W→assign.wpIn (FW (some l)) (n-1-1) P (Exit.then K (fun _ _ _=>False)) { tmps:=(ps.zip (encs x)).foldl (fun t (p,v)=>t.setIfInBounds p v) a.tmps,defers:=[] } W)
    (R1:α→List Ent) (hR1:∀ pre x σ' Z' W,Rel (E.nest H nx σ Z w) N [] R (Hh pre) nx σ' Z' a W→RS σ' Z' W N [] (R1 x) (asg x))
    (hbody:∀ (l:Nat) (pre:List α) (x:α) (E3:Env) (W:World),pre.length<M→Pn pre→E3.w0=W→E3.top=E.top→EnvOk E3 (Hh pre) (allU (Hh pre)) nx E.top→Sat E3 N (R1 x) (Hh pre) nx (asg x) W→body.wpIn (FW (some l)) (n-1-1) P (rngPost E3 N nx (Hh (pre++[x])) (Hh (pre++[x])) (Pn (pre++[x])) False) (asg x) W)
    (hdone:∀ (D:Nat) (xs:List α) (W:World),w.heap.size≤D→S xs→Pn xs→Sat (E.nest H nx σ Z w) N R (Hh xs) nx a W→W.heap[D]?=some (.deferred (some []))→Q .normal (Act.with_ a ({ target:=.collected D,args:=#[] }::ds)) W) :
    (Code.rangeFunc g ps assign body).wpIn (FW none) n P Q (Act.with_ a ds) w:=by
  have hn:=hr.nest
  refine wpIn_rangeFunc_ownH (F:=FW none) rfl h1 (gf:=gf) (lb:=lb) (by rw [with_eval]; exact hg) trivial eg hseq (fun h k=>⟨fun q=>k.1 (h.1 q),Nat.le_trans h.2.1 k.2.1,fun b C e s hb q=>k.2.2 b C e s hb (h.2.2 b C e s hb q)⟩)
    (fun W l o o' hl ho hc _=>⟨fun ⟨q,qx⟩=>⟨⟨q.os,q.tape,q.output,by simpa using q.size,fun b hb hnb=>by rw [World.putObj_heap_other (by omega)]; exact q.block b hb hnb⟩,hXp W l o o' hl ho hc qx⟩,by simp,fun b C e s _ q=>by
      rw [World.putObj_heap_other (fun e'=>by subst e'; rw [ho] at q; injection q with q; subst q; cases hc)]; exact q⟩) (Below.refl _ _) hps
    (fun pre W=>Pn pre∧Sat (E.nest H nx σ Z w) N R (Hh pre) nx a W) (fun c pre W=>c=.ret∧False∧Sat (E.nest H nx σ Z w) N R (Hh pre) nx a W)
    (fun s W W' row hs hg' hr'=>⟨hs.1,hs.2.turn hg' hr' (hmh s)⟩) (fun c s W W' row hs hg' hr'=>⟨hs.1,hs.2.1,hs.2.2.turn hg' hr' (hmh s)⟩)
    (by rw [h00]; exact ⟨hp0,σ,Z,hn⟩) (fun x a' _=>a'=asg x) (fun x a' _ W W' row h _ _=>h)
    (fun l pre x W K hI hK=>hasg l x W K (hK _ _ (KeepsFrom.refl _ _) KpX.refl hI rfl)) ?_ (fun D xs W hD hs hI hd=>hdone D xs W hD hs hI.1 hI.2 hd) (fun D c pre W hD hs hI hd=>hI.2.1.elim)
  rintro l pre x a' W hl _ ⟨hpn,σ1,Z1,hr1⟩ rfl hlen
  have hr2:Rel (E.nest H nx σ Z w) N [] (R1 x) (Hh pre) nx σ1 Z1 (asg x) W:=⟨hR1 pre x _ _ _ hr1,hr1.hr,hr1.fr,hr1.lo,hr1.ext,hr1.dom,hr1.own,hr1.chg,hr1.zold,hr1.z0⟩
  refine wpIn_mono (hbody l pre x ((E.nest H nx σ Z w).nest (Hh pre) nx σ1 Z1 W) W hlen hpn rfl rfl ⟨rfl,rfl,rfl,fun id q1 q2=>(hr1.fr id q1 q2).2,fun id q1 q2=>(hr1.fr id q1 q2).1⟩ ⟨σ1,Z1,hr2.nest⟩) ?_
  intro e a'' W' hq
  cases e with
  | normal =>
    obtain ⟨hp,σ3,Z3,h3⟩:=hq
    have h4:=hr2.unnest h3
    have h5:=hr.back h4
    refine ⟨nest_keeps hr2 h3 (hmh pre) (Nat.le_refl _),⟨fun _=>⟨h4.chg,hXs _ _ _ _ hp h5⟩,h3.chg.size,fun b C e s hb q=>?_⟩,hp,σ3,Z3,h5⟩
    rw [h3.chg.block b (Array.getElem?_eq_some_iff.1 q).1 fun q2=>?_]
    · exact q
    · obtain ⟨i,o',c',r1,r2⟩:=nest_wr q2
      obtain ⟨o0,r3⟩:=hkey pre i o' r1
      cases hs:σ i with
      | none =>
        have:σ1 i=none:=hr1.dom i hs fun ⟨k1,k2⟩=>by rw [(hr.fr i k1 k2).2] at r3; cases r3
        rw [r2] at this; cases this
      | some y =>
        have:=hr1.ext i y hs
        rw [r2] at this; injection this with this; subst this
        have:=(hr.hr.at_ i o0 r3).lt hs
        omega
  | ret=>exact hq.1.elim
  | exit _=>exact hq.elim
  | goto _=>exact hq.elim
  | panic _=>exact hq.elim
  | outgrown=>exact hq.elim
end
end Go.PX

/- Proved: contracts whose answer holds something that is only known to exist. Program-independent. -/
namespace Go.PX
open Go.RowKit Go.SX
section
variable {P:Program} {E:Env} {N:Nat} {R:List Ent} {H:Heap} {nx:Nat} {a:Act} {w:World}
/-- a contract: some u that is good tells what the call changes -/
def ConX {α:Type} (P:Program) (f:FuncId) (args:List PV) (H:Heap) (nx nx':Nat) (r:PV) (UU:α→Upd) (good:α→Prop):Prop :=
  ∀ (w:World) (σ:Nm) (Z:Nat→Prop) (vs:List Value),HR σ Z w H→VRs σ Z w vs args→(∀ id,nx≤id→id<nx'→σ id=none) →
    Calls P f vs.toArray w (fun e w'=>∃ u,good u∧∃ v σ' Z',e=.returned v∧VR σ' Z' w' v r∧Eff σ Z w H (UU u) σ' Z' w')
def ConPostX {α:Type} (E:Env) (H:Heap) (r:PV) (UU:α→Upd) (good:α→Prop):Ending→World→Prop:=fun e w'=>∃ u,good u∧ConPost E H r (UU u) e w'
theorem ulook_keys:∀ {U U':Upd},U.map (·.1)=U'.map (·.1)→∀ id,ulook U id≠none→ulook U' id≠none
  | [],[],_,id,h=>h
  | [],y::U',e,id,h=>by cases e
  | x::U,[],e,id,h=>by cases e
  | x::U,y::U',e,id,h=>by
    simp only [List.map_cons,List.cons.injEq] at e
    obtain ⟨x1,x2⟩:=x
    obtain ⟨y1,y2⟩:=y
    obtain ⟨e1,e2⟩:=e
    simp only at e1; subst e1
    simp only [ulook] at h ⊢
    cases hb:Nat.beq x1 id with
    | true=>simp
    | false=>rw [hb] at h; exact ulook_keys e2 id h
theorem EnvOk.keys {U U':Upd} {lo top:Nat} (h:EnvOk E H U lo top) (e:U.map (·.1)=U'.map (·.1)):EnvOk E H U' lo top :=
  ⟨h.elo,h.etop,by
    rw [h.wr]; funext b
    refine propext ⟨fun ⟨id,o,c,q1,q2,q3⟩=>⟨id,o,c,ulook_keys e id q1,q2,q3⟩,fun ⟨id,o,c,q1,q2,q3⟩=>⟨id,o,c,ulook_keys e.symm id q1,q2,q3⟩⟩,h.hfr,h.es0⟩
theorem con_intro_wX {α:Type} {n:Nat} {f:FuncId} {fn:Func} {c:Code} {lo top:Nat} {r:PV} {UU:α→Upd} {good:α→Prop} (U:Upd) (args:List PV) (N:Nat) (hf:P.funcs[f]?=some fn) (hb:fn.body=some c) (hN:fn.ntmps=N) (hle:Nat.ble args.length N=true)
    (hH:(keysH H).all (fun id=>(Nat.blt id lo||Nat.ble top id)&&(ulook U id).isSome)=true)
    (h:∀ (E:Env) (a:Act),EnvOk E H U lo top→Sat E N (initT 0 args) H lo a E.w0→c.wpIn (FW none) n P (bodyPostM (FW none) n P fn (ConPostX E H r UU good)) (Act.with_ a []) E.w0):ConX P f args H lo top r UU good:=by
  intro w σ Z vs hh hv hfr
  have hkey:∀ id o,hlook H id=some o→(id<lo∨top≤id)∧ulook U id≠none:=fun id o ho=>by
    have h1:=List.all_eq_true.1 hH id (hlook_key ho)
    simp only [Bool.and_eq_true,Bool.or_eq_true,Nat.blt_eq] at h1
    refine ⟨?_,fun e=>by rw [e] at h1; simp at h1⟩
    rcases h1.1 with q | q
    · exact .inl q
    · exact .inr (Nat.le_of_ble_eq_true q)
  have hnone:∀ id,lo≤id→id<top→hlook H id=none:=fun id h1 h2=>by
    cases ho:hlook H id with
    | none=>rfl
    | some o=>rcases (hkey id o ho).1 with q | q <;> omega
  let E:Env:={ w0:=w,Wr:=WrOf σ H U,Z0:=Z,σ0:=σ,lo,top }
  have:=h E { tmps:=vs.toArray++Array.replicate (fn.ntmps-vs.toArray.size) undef,defers:=[] } ⟨rfl,rfl,rfl,hnone,hfr⟩
    ⟨σ,Z,⟨rfl,?_,fun t e he=>?_⟩,hh,fun id h1 h2=>⟨hfr id h1 h2,hnone id h1 h2⟩,Nat.le_refl _,Ext.refl σ,fun id h0 _=>h0,fun id o b c h1 h2=>.inr ⟨id,o,c,(hkey id o h1).2,h1,h2⟩,Chg.refl _ _,fun b hb=>.inl hb,fun b hb=>hb⟩
  · have h2:=(callsIn_wide (n:=n)).1 (callsIn_of_wp_marks (F:=FW none) hf hb trivial this)
    exact h2
  · have:=Nat.le_of_ble_eq_true hle
    have hl:=hv.1
    simp [hN]; omega
  · obtain ⟨h1,_,h3⟩:=look_initT args 0 t e he
    simp only [Nat.sub_zero] at h3
    obtain ⟨u,hu,hvu⟩:=hv.get h3
    have hl:=(List.getElem?_eq_some_iff.1 hu).1
    refine ⟨fun _=>⟨u,?_,hvu⟩,fun q=>by rw [h1] at q; cases q⟩
    rw [Array.getElem?_append_left (by simpa using hl)]
    simpa using hu
theorem ret_wX {α:Type} {fn:Func} {n:Nat} {lo top:Nat} {H0:Heap} {r:PV} {U:Upd} {UU:α→Upd} {good:α→Prop} (u:α) (hg:good u) (hk:U.map (·.1)=(UU u).map (·.1)):∀ (Ds:List Nat) {w:World},Sat E N R H nx a w→EnvOk E H0 U lo top→Ds.Nodup→(∀ D∈Ds,E.w0.heap.size≤D∧w.heap[D]?=some (.deferred (some [])))→noMp H=true →
    retP P R H fn.results.toList=some r→(okU H (UU u)).map (·.1)=(okU H (UU u)).map (·.2)→(idsIn (keysH H0++keysU (UU u)) r&&idsU (keysH H0++keysU (UU u)) (UU u))=true→LeavesInM (FW none) n P fn a.tmps (ConPostX E H0 r UU good) (colls Ds) .returning w
  | [],w,hS,hE,_,_,_,hr,hU,hi=>by
    obtain ⟨_,v,h1,h2⟩:=ret_s (e:=.ret) hS (hE.keys hk) hr hU hi (.inl rfl)
    exact ⟨v,h1,u,hg,h2⟩
  | D::Ds,w,hS,hE,hn,hD,hm,hr,hU,hi=>by
    obtain ⟨d1,d2⟩:=hD D List.mem_cons_self
    obtain ⟨n1,n2⟩:=List.nodup_cons.1 hn
    refine ⟨by simp,.inl ⟨D,_,rfl,run_takeDeferred d2,ret_wX u hg hk Ds (hS.turn (grownBy_putObj' w D (.deferred none)) (fun r e=>by cases e; exact ⟨d1,_,d2,rfl⟩) (noMp_old hm)) hE n2 (fun D' h'=>?_) hm hr hU hi⟩⟩
    obtain ⟨q1,q2⟩:=hD D' (List.mem_cons_of_mem _ h')
    exact ⟨q1,by rw [World.putObj_heap_other (by rintro rfl; exact n1 h')]; exact q2⟩
end
end Go.PX

/- Proved: contracts entered and left with the names at hand; states told over fewer names; a slot read as a ghost tells. Program-independent. -/
namespace Go.PX
open Go.RowKit Go.SX
section
variable {P:Program} {E:Env} {N:Nat} {R:List Ent} {H:Heap} {nx:Nat} {a:Act} {w:World} {σ:Nm} {Z:Nat→Prop}
theorem intro_raw {f:FuncId} {fn:Func} {c:Code} {lo top:Nat} {U:Upd} {vs:List Value} (args:List PV) (N:Nat) (hf:P.funcs[f]?=some fn) (hb:fn.body=some c) (hN:fn.ntmps=N) (hle:Nat.ble args.length N=true)
    (hH:(keysH H).all (fun id=>(Nat.blt id lo||Nat.ble top id)&&(ulook U id).isSome)=true) (hh:HR σ Z w H) (hv:VRs σ Z w vs args) (hfr:∀ id,lo≤id→id<top→σ id=none) (Post:Ending→World→Prop)
    (h:∀ (E:Env) (a:Act),E={ w0:=w,Wr:=WrOf σ H U,Z0:=Z,σ0:=σ,lo,top }→EnvOk E H U lo top→Rel E N [] (initT 0 args) H lo σ Z a w→c.wp P (bodyPost P fn Post) a w):Calls P f vs.toArray w Post:=by
  have hkey:∀ id o,hlook H id=some o→(id<lo∨top≤id)∧ulook U id≠none:=fun id o ho=>by
    have h1:=List.all_eq_true.1 hH id (hlook_key ho)
    simp only [Bool.and_eq_true,Bool.or_eq_true,Nat.blt_eq] at h1
    refine ⟨?_,fun e=>by rw [e] at h1; simp at h1⟩
    rcases h1.1 with q | q
    · exact .inl q
    · exact .inr (Nat.le_of_ble_eq_true q)
  have hnone:∀ id,lo≤id→id<top→hlook H id=none:=fun id h1 h2=>by
    cases ho:hlook H id with
    | none=>rfl
    | some o=>rcases (hkey id o ho).1 with q | q <;> omega
  refine calls_of_wp hf hb ?_
  have:=h { w0:=w,Wr:=WrOf σ H U,Z0:=Z,σ0:=σ,lo,top } { tmps:=vs.toArray++Array.replicate (fn.ntmps-vs.toArray.size) undef,defers:=[] } rfl ⟨rfl,rfl,rfl,hnone,hfr⟩
    ⟨⟨rfl,?_,fun t e he=>?_⟩,hh,fun id h1 h2=>⟨hfr id h1 h2,hnone id h1 h2⟩,Nat.le_refl _,Ext.refl σ,fun id h0 _=>h0,fun id o b c h1 h2=>.inr ⟨id,o,c,(hkey id o h1).2,h1,h2⟩,Chg.refl _ _,fun b hb=>.inl hb,fun b hb=>hb⟩
  · exact this
  · have:=Nat.le_of_ble_eq_true hle
    have hl:=hv.1
    simp [hN]; omega
  · obtain ⟨h1,_,h3⟩:=look_initT args 0 t e he
    simp only [Nat.sub_zero] at h3
    obtain ⟨u,hu,hvu⟩:=hv.get h3
    have hl:=(List.getElem?_eq_some_iff.1 hu).1
    refine ⟨fun _=>⟨u,?_,hvu⟩,fun q=>by rw [h1] at q; cases q⟩
    rw [Array.getElem?_append_left (by simpa using hl)]
    simpa using hu
/-- what a return answers,with the names that it keeps -/
theorem ret_rel {H0:Heap} {lo top:Nat} {fn:Func} {r:PV} {U:Upd} {e:Exit} {Post:Ending→World→Prop} (hrel:Rel E N [] R H nx σ Z a w) (hE:EnvOk E H0 U lo top) (hr:retP P R H fn.results.toList=some r) (hU:(okU H U).map (·.1)=(okU H U).map (·.2)) (hi:(idsIn (keysH H0++keysU U) r&&idsU (keysH H0++keysU U) U)=true) (he:e=.ret∨e=.normal)
    (k:∀ v σ',(∀ id o,ulook U id=some (some o)→σ' id=σ id)→VR σ' Z w v r→Eff E.σ0 E.Z0 E.w0 H0 U σ' Z w→Post (.returned v) w):bodyPost P fn Post e a w:=by
  obtain ⟨v,h1,h2⟩:=ret_run hrel hr
  have key:Post (.returned v) w:=by
    classical
    simp only [Bool.and_eq_true] at hi
    have hat:∀ {id:Nat} {o:PO},ulook U id=some (some o)→hlook H id=some o:=okU_spec (allEq_of_map hU)
    let σ':Nm:=fun id=>if E.σ0 id≠none∨(∃ o,ulook U id=some (some o)) then σ id else none
    have hsome:∀ {id:Nat} {o:PO},ulook U id=some (some o)→σ' id=σ id:=fun {id o} hu=>by
      show (if _ then _ else _)=_
      rw [if_pos (.inr ⟨o,hu⟩)]
    have hout:∀ id o,hlook H0 id=some o→¬ (E.lo≤id∧id<E.top):=fun id o ho q=>by
      rw [hE.elo,hE.etop] at q
      rw [hE.hfr id q.1 q.2] at ho; cases ho
    have hS:∀ id,(keysH H0++keysU U).any (Nat.beq id)=true→∀ x,σ id=some x→σ' id=some x:=fun id hid x hx=>by
      simp only [List.any_eq_true,Nat.beq_eq] at hid
      obtain ⟨i,hi,rfl⟩:=hid
      show (if _ then _ else _)=_
      by_cases h0:E.σ0 id=none
      · rcases List.mem_append.1 hi with hi | hi
        · have hne:=keysH_mem hi
          obtain ⟨o,ho⟩:∃ o,hlook H0 id=some o:=by cases hq:hlook H0 id with
            | none=>exact absurd hq hne
            | some o=>exact ⟨o,rfl⟩
          have:=hrel.dom id h0 (hout id o ho)
          rw [hx] at this; cases this
        · rw [if_pos (.inr (isS_spec (List.mem_filter.1 hi).2))]; exact hx
      · rw [if_pos (.inl h0)]; exact hx
    refine k v σ' (fun id o hu=>hsome hu) (h2.restrict hS hi.1) ⟨fun id x hx=>?_,fun id h0 hc=>?_,hrel.z0,fun b hb=>?_,?_,fun id o hu=>(hrel.hr.at_ id o (hat hu)).restrict hS (hsome hu) (idsU_spec hi.2 hu),fun id o b c hu hs=>?_,fun id id' o o' b c c' hu hu' hs hs'=>?_⟩
    · show (if _ then _ else _)=_
      rw [if_pos (.inl (by rw [hx]; simp))]
      exact hrel.ext id x hx
    · by_cases hu:∃ o,ulook U id=some (some o)
      · obtain ⟨o,hu⟩:=hu
        rcases hc with hc | hc
        · rw [hc] at hu; cases hu
        · rw [hsome hu]
          obtain ⟨o',ho⟩:∃ o,hlook H0 id=some o:=by cases hq:hlook H0 id with
            | none=>exact absurd hq hc
            | some o=>exact ⟨o,rfl⟩
          exact hrel.dom id h0 (hout id o' ho)
      · show (if _ then _ else _)=_
        rw [if_neg (by rintro (q | q); exact q h0; exact hu q)]
    · rcases hrel.zold b hb with q | q | q
      · exact .inl q
      · exact .inr (.inl ⟨q,hrel.hr.zlt b hb⟩)
      · rw [hE.wr] at q; exact .inr (.inr q)
    · have:=hrel.chg
      rw [hE.wr] at this
      exact this
    · rw [hsome hu] at hs
      refine ⟨hrel.hr.off id o b c (hat hu) hs,?_⟩
      rcases hrel.own id o b c (hat hu) hs with q | q
      · exact .inl q
      · rw [hE.wr] at q; exact .inr q
    · rw [hsome hu] at hs
      rw [hsome hu'] at hs'
      exact hrel.hr.inj id id' o o' b c c' (hat hu) (hat hu') hs hs'
  rcases he with rfl | rfl
  · exact ⟨hrel.rs.defers,v,h1,key⟩
  · exact ⟨hrel.rs.defers,v,h1,key⟩
/-- fewer names -/
def cutN (nx top:Nat) (σ:Nm):Nm:=fun id=>if nx≤id∧id<top then none else σ id
theorem cutN_lt {nx top:Nat} {id:Nat} (h:id<nx):cutN nx top σ id=σ id:=by unfold cutN; rw [if_neg (by omega)]
theorem Rel.cut (h:Rel E N [] R H nx σ Z a w) (S:List Nat) (nx':Nat) (H':Heap) (hlo:E.lo≤nx') (hes:∀ id,E.lo≤id→id<E.top→E.σ0 id=none) (hS:S.all (fun i=>Nat.blt i nx')=true) (hR:idsR S R=true) (hH:∀ id o,hlook H' id=some o→hlook H id=some o∧S.any (Nat.beq id)=true∧idsO S o=true):Rel E N [] R H' nx' (cutN nx' E.top σ) Z a w:=by
  have hlt:∀ i,S.any (Nat.beq i)=true→i<nx':=fun i hi=>by
    simp only [List.any_eq_true,Nat.beq_eq] at hi
    obtain ⟨j,hj,rfl⟩:=hi
    have:=List.all_eq_true.1 hS i hj
    simpa using this
  have hsm:∀ i,S.any (Nat.beq i)=true→∀ x,σ i=some x→cutN nx' E.top σ i=some x:=fun i hi x hx=>by rw [cutN_lt (hlt i hi)]; exact hx
  refine ⟨⟨h.rs.defers,h.rs.size,fun t e he=>⟨fun hp=>?_,(h.rs.at_ t e he).2⟩⟩,⟨fun id o ho=>?_,fun id id' o o' b c c' h1 h2 h3 h4=>?_,fun id o b c h1 h2=>?_,h.hr.zlt⟩,fun id h1 h2=>⟨?_,?_⟩,hlo,fun id x hx=>?_,fun id h0 hn=>?_,fun id o b c h1 h2=>?_,h.chg,h.zold,h.z0⟩
  · obtain ⟨u,q1,q2⟩:=(h.rs.at_ t e he).1 hp
    exact ⟨u,q1,q2.restrict hsm (idsR_spec hR he)⟩
  · obtain ⟨q1,q2,q3⟩:=hH id o ho
    exact (h.hr.at_ id o q1).restrict hsm (cutN_lt (hlt id q2)) q3
  · obtain ⟨q1,q2,_⟩:=hH id o h1
    obtain ⟨r1,r2,_⟩:=hH id' o' h2
    rw [cutN_lt (hlt id q2)] at h3
    rw [cutN_lt (hlt id' r2)] at h4
    exact h.hr.inj id id' o o' b c c' q1 r1 h3 h4
  · obtain ⟨q1,q2,_⟩:=hH id o h1
    rw [cutN_lt (hlt id q2)] at h2
    exact h.hr.off id o b c q1 h2
  · unfold cutN; rw [if_pos ⟨h1,h2⟩]
  · cases q:hlook H' id with
    | none=>rfl
    | some o=>have:=hlt id (hH id o q).2.1; omega
  · unfold cutN
    rw [if_neg]
    · exact h.ext id x hx
    · rintro ⟨q1,q2⟩
      have:=hes id (by omega) q2
      rw [hx] at this; cases this
  · unfold cutN
    split
    · rfl
    · exact h.dom id h0 hn
  · obtain ⟨q1,q2,_⟩:=hH id o h1
    rw [cutN_lt (hlt id q2)] at h2
    exact h.own id o b c q1 h2
theorem pures_app:∀ {a b:List PV},pures a=true→pures b=true→pures (a++b)=true
  | [],b,_,h=>h
  | x::a,b,h1,h2=>by
    simp only [pures,Bool.and_eq_true,List.cons_append] at h1 ⊢
    exact ⟨h1.1,pures_app h1.2 h2⟩
theorem pures_flat:∀ {l:List (List PV)},(∀ r∈l,pures r=true)→pures l.flatten=true
  | [],_=>rfl
  | r::l,h=>by rw [List.flatten_cons]; exact pures_app (h r (by simp)) (pures_flat fun q hq=>h q (by simp [hq]))
end
end Go.PX
