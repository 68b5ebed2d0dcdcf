/- Proved: a walk of a region by tables: what each slot holds is computed by the kernel from the model's own text; operations under a guard hold their value where the guard does. Program-independent. -/
import Derived.Deep.QuietTactic
import Derived.BigQuiet
import Derived.Deep.LoopGhost
import Derived.Below
import Derived.IntWalk
import Derived.Lib.Hide
set_option linter.unusedVariables false
set_option linter.unusedSimpArgs false
namespace Go.SX
open Go.RowKit

/-- a computation that only reads,its loads answered in turn: the addresses that it asks for,and what it comes to -/
def tr {α:Type} (P:Program):Sem α→List Value→Option (List Addr × α)
  | .pure a,[]=>some ([],a)
  | .load _ a k,v::vs=>match tr P (k v) vs with
    | some (l,r)=>some (a::l,r)
    | none=>none
  | .program k,vs=>tr P (k P) vs
  | .mark _ k,vs=>tr P k vs
  | _,_=>none

def Hits (w:World):List Addr→List Value→Prop
  | [],[]=>True
  | a::l,v::vs=>w.cell? a=some v∧Hits w l vs
  | _,_=>False

theorem tr_sound {α:Type} {P:Program} {w:World} (s:Sem α):∀ (vs:List Value) (l:List Addr) (r:α),tr P s vs=some (l,r)→Hits w l vs→s.run P w=.ok r w:=by
  induction s with
  | pure a =>
    intro vs l r h _
    cases vs with
    | nil=>simp only [tr,Option.some.injEq,Prod.mk.injEq] at h; simp [Sem.run,h.2]
    | cons v vs=>simp [tr] at h
  | load m a k ih =>
    intro vs l r h hh
    cases vs with
    | nil=>simp [tr] at h
    | cons v vs =>
      simp only [tr] at h
      cases hk:tr P (k v) vs with
      | none=>rw [hk] at h; simp at h
      | some x =>
        obtain ⟨l',r'⟩:=x
        rw [hk] at h
        simp only [Option.some.injEq,Prod.mk.injEq] at h
        obtain ⟨rfl,rfl⟩:=h
        simp only [Hits] at hh
        simp only [Sem.run,hh.1]
        exact ih v vs l' r' hk hh.2
  | program k ih=>intro vs l r h hh; simp only [tr] at h; simp only [Sem.run]; exact ih P vs l r h hh
  | mark m k ih=>intro vs l r h hh; simp only [tr] at h; simp only [Sem.run]; exact ih vs l r h hh
  | _=>intro vs l r h _; simp [tr] at h

/-- a slot: under which guards it has been written (each: the operation's number and the wanted answer),and what it holds there -/
structure Ent where
  t:Nat
  p:List (Nat × Bool)
  v:Value

def look:List Ent→Nat→Option Ent
  | [],_=>none
  | e::R,t=>bif Nat.beq e.t t then some e else look R t

def kv:List (Nat × Bool)→Nat→Bool
  | [],_=>false
  | x::l,j=>bif Nat.beq x.1 j then x.2 else kv l j

def pv (κ:List (Nat × Bool)):List (Nat × Bool)→Bool
  | []=>true
  | x::p=>pv κ p&&(kv κ x.1==x.2)

def has1 (x:Nat × Bool):List (Nat × Bool)→Bool
  | []=>false
  | y::q=>(Nat.beq x.1 y.1&&(x.2==y.2))||has1 x q
def sub:List (Nat × Bool)→List (Nat × Bool)→Bool
  | [],_=>true
  | x::p,q=>has1 x q&&sub p q

theorem pv_has {κ:List (Nat × Bool)} {x:Nat × Bool}:∀ {q:List (Nat × Bool)},has1 x q=true→pv κ q=true→(kv κ x.1==x.2)=true
  | y::q,h,hq=>by
    simp only [has1,Bool.or_eq_true,Bool.and_eq_true,beq_iff_eq] at h
    simp only [pv,Bool.and_eq_true] at hq
    rcases h with ⟨h1,h2⟩ | h
    · rw [Nat.eq_of_beq_eq_true h1,h2]; exact hq.2
    · exact pv_has h hq.1
theorem pv_sub {κ:List (Nat × Bool)} {q:List (Nat × Bool)}:∀ {p:List (Nat × Bool)},sub p q=true→pv κ q=true→pv κ p=true
  | [],_,_=>rfl
  | x::p,h,hq=>by
    simp only [sub,Bool.and_eq_true] at h
    simp only [pv,Bool.and_eq_true]
    exact ⟨pv_sub h.2 hq,pv_has h.1 hq⟩

/-- what a slot holds -/
def Ent.den (κ:List (Nat × Bool)) (e:Ent):Value:=if pv κ e.p=true then e.v else undef

structure RSt (N:Nat) (κ:List (Nat × Bool)) (R:List Ent) (a:Act):Prop where
  defers:a.defers=[]
  size:a.tmps.size=N
  at_:∀ t e,look R t=some e→a.tmps[t]?=some (e.den κ)

def rho (R:List Ent):Operand→Value
  | .tmp t=>match look R t with
    | some e=>e.v
    | none=>undef
  | .const v=>v
  | .global g=>.pointer (some ⟨g,0,none⟩)
  | .func f=>.func (.func f) #[] #[]

def okOpd (R:List Ent) (p:List (Nat × Bool)):Operand→Bool
  | .tmp t=>match look R t with
    | some e=>sub e.p p
    | none=>false
  | _=>true

def okAll (R:List Ent) (p:List (Nat × Bool)):List Operand→Bool
  | []=>true
  | x::l=>okOpd R p x&&okAll R p l

theorem okAll_mem {R:List Ent} {p:List (Nat × Bool)}:∀ {l:List Operand},okAll R p l=true→∀ x∈l,okOpd R p x=true
  | y::l,h,x,hx=>by
    simp only [okAll,Bool.and_eq_true] at h
    rcases List.mem_cons.1 hx with rfl | hx
    · exact h.1
    · exact okAll_mem h.2 x hx

theorem RSt.eval {N:Nat} {κ:List (Nat × Bool)} {R:List Ent} {a:Act} (h:RSt N κ R a) {p:List (Nat × Bool)} (hp:pv κ p=true) {x:Operand} (hx:okOpd R p x=true):a.eval x=rho R x:=by
  cases x with
  | tmp t =>
    simp only [okOpd] at hx
    cases hl:look R t with
    | none=>rw [hl] at hx; simp at hx
    | some e =>
      rw [hl] at hx
      simp only at hx
      have:=h.at_ t e hl
      simp only [Act.eval,rho,hl]
      simp [this,Ent.den,pv_sub hx hp]
  | const v=>rfl
  | global g=>rfl
  | func f=>rfl

def isSelect:Op→Bool
  | .select ..=>true
  | _=>false

theorem RSt.exec {N:Nat} {κ:List (Nat × Bool)} {R:List Ent} {a:Act} (h:RSt N κ R a) {p:List (Nat × Bool)} (hp:pv κ p=true) {o:Oper} (hs:isSelect o.op=false) (hx:okAll R p o.op.operands.toList=true):execOp a.eval o=execOp (rho R) o :=
  execOp_congr o (fun cs b e=>by rw [e] at hs; simp [isSelect] at hs) fun x hx'=>h.eval hp (okAll_mem hx x (by simpa using hx'))

/-- how an operation is answered -/
inductive Dir where
  | ld (is:List Nat)
  | pk
  | ix (r:Addr)
  | hd (v:Value)
  | cl (v:Value)
  | nm (v:Value)

/-- the path of an operation,and the answer of its guard beside what was said of it -/
def path (ops:Array Oper) (κ:List (Nat × Bool)) (R:List Ent) (o:Oper):Option (List (Nat × Bool) × List (Bool × Bool)) :=
  match o.guard with
  | none=>some ([],[])
  | some (j,want) =>
    match (ops[j]?).bind (·.dst) with
    | none=>none
    | some t=>match look R t with
      | some ⟨_,pj,.bool b⟩=>some ((j,want)::pj,[(b,kv κ j)])
      | _=>none

def AllEq {α:Type}:List (α × α)→Prop
  | []=>True
  | x::l=>x.1=x.2∧AllEq l
theorem allEq_append {α:Type}:∀ {l m:List (α × α)},AllEq (l++m)→AllEq l∧AllEq m
  | [],_,h=>⟨trivial,h⟩
  | x::l,m,h=>⟨⟨h.1,(allEq_append h.2).1⟩,(allEq_append h.2).2⟩
theorem allEq_of_map {α:Type}:∀ {l:List (α × α)},l.map (·.1)=l.map (·.2)→AllEq l
  | [],_=>trivial
  | x::l,h=>by simp only [List.map_cons,List.cons.injEq] at h; exact ⟨h.1,allEq_of_map h.2⟩

theorem path_spec {N:Nat} {ops:Array Oper} {κ:List (Nat × Bool)} {R:List Ent} {a:Act} (h:RSt N κ R a) {o:Oper} {p:List (Nat × Bool)} {bs:List (Bool × Bool)} (hp:path ops κ R o=some (p,bs)) (hb:AllEq bs) :
    Region.wanted o (yielded ops a.tmps)=pv κ p:=by
  unfold path at hp
  unfold Region.wanted
  cases hg:o.guard with
  | none=>rw [hg] at hp; simp only [Option.some.injEq,Prod.mk.injEq] at hp; rw [← hp.1]; rfl
  | some jw =>
    obtain ⟨j,want⟩:=jw
    rw [hg] at hp
    simp only at hp
    simp only
    cases ht:(ops[j]?).bind (·.dst) with
    | none=>rw [ht] at hp; simp at hp
    | some t =>
      rw [ht] at hp
      simp only at hp
      cases hl:look R t with
      | none=>rw [hl] at hp; simp at hp
      | some e =>
        rw [hl] at hp
        obtain ⟨t',pj,v⟩:=e
        cases v <;> simp only [reduceCtorEq] at hp
        rename_i b
        simp only [Option.some.injEq,Prod.mk.injEq] at hp
        obtain ⟨rfl,rfl⟩:=hp
        have hat:=h.at_ t _ hl
        have hbk:b=kv κ j:=hb.1
        unfold yielded
        rw [ht]
        simp only [Option.bind_some,hat,Ent.den,pv]
        cases hpj:pv κ pj
        · simp [undef]
        · simp only [if_true,Bool.true_and,hbk]
          cases kv κ j <;> cases want <;> rfl

def pickV (R:List Ent) (c:Bool) (a b:Operand):Value :=
  match b,rho R a with
  | .const (.bool false),.bool x=>.bool (c&&x)
  | _,_=>match a,rho R b with
    | .const (.bool true),.bool y=>.bool (c||y)
    | _,_=>if c=true then rho R a else rho R b
theorem pickV_eq (R:List Ent) (c:Bool) (a b:Operand):(if c=true then rho R a else rho R b)=pickV R c a b:=by
  unfold pickV
  cases c
  · simp only [Bool.false_eq_true,if_false]
    split
    · rfl
    · split <;> simp_all
  · simp only [if_true]
    split
    · rename_i x hx
      rw [hx]; rfl
    · split
      · rfl
      · rfl

/-- the path of a branch of a pick,less what is known there -/
def okPick (R:List Ent) (p:List (Nat × Bool)) (want:Bool):Operand→Option (Option Nat)
  | .tmp t=>match look R t with
    | none=>none
    | some e=>bif sub e.p p then some none else match e.p with
      | (j,w)::q=>bif (w==want)&&sub q p then some (some j) else none
      | []=>none
  | _=>some none

theorem RSt.evalPick {N:Nat} {κ:List (Nat × Bool)} {R:List Ent} {a:Act} (h:RSt N κ R a) {p:List (Nat × Bool)} (hp:pv κ p=true) {want:Bool} {x:Operand} {r:Option Nat} (hx:okPick R p want x=some r) (hr:∀ j,r=some j→kv κ j=want):a.eval x=rho R x:=by
  cases x with
  | tmp t =>
    simp only [okPick] at hx
    cases hl:look R t with
    | none=>rw [hl] at hx; simp at hx
    | some e =>
      rw [hl] at hx
      simp only at hx
      have hat:=h.at_ t e hl
      have key:pv κ e.p=true:=by
        cases hs:sub e.p p with
        | true=>exact pv_sub hs hp
        | false =>
          rw [hs] at hx
          simp only [cond_false] at hx
          cases hep:e.p with
          | nil=>rfl
          | cons y q =>
            rw [hep] at hx
            obtain ⟨j,w⟩:=y
            simp only at hx
            cases hc:((w==want)&&sub q p) with
            | false=>rw [hc] at hx; simp at hx
            | true =>
              rw [hc] at hx
              simp only [cond_true,Option.some.injEq] at hx
              simp only [Bool.and_eq_true,beq_iff_eq] at hc
              have:=hr j hx.symm
              simp only [pv,Bool.and_eq_true]
              exact ⟨pv_sub hc.2 hp,by rw [this,hc.1]; simp⟩
      simp only [Act.eval,rho,hl]
      simp [hat,Ent.den,key]
  | const v=>rfl
  | global g=>rfl
  | func f=>rfl

abbrev Mem:=List (Addr × Value)
def Cells (w:World) (M:Mem):Prop:=∀ x∈M,w.cell? x.1=some x.2

def mget:Mem→Nat→Option (Addr × Value)
  | [],_=>none
  | x::_,0=>some x
  | _::M,i+1=>mget M i
theorem mget_mem:∀ {M:Mem} {i:Nat} {x:Addr × Value},mget M i=some x→x∈M
  | x::M,0,y,h=>by simp only [mget,Option.some.injEq] at h; subst h; exact List.mem_cons_self
  | x::M,i+1,y,h=>List.mem_cons_of_mem _ (mget_mem h)
def mgets (M:Mem):List Nat→Option Mem
  | []=>some []
  | i::is=>match mget M i,mgets M is with
    | some x,some l=>some (x::l)
    | _,_=>none
theorem mgets_mem {M:Mem}:∀ {is:List Nat} {l:Mem},mgets M is=some l→∀ x∈l,x∈M
  | [],l,h,x,hx=>by simp only [mgets,Option.some.injEq] at h; subst h; simp at hx
  | i::is,l,h,x,hx=>by
    simp only [mgets] at h
    cases h1:mget M i with
    | none=>rw [h1] at h; simp at h
    | some y =>
      cases h2:mgets M is with
      | none=>rw [h1,h2] at h; simp at h
      | some l' =>
        rw [h1,h2] at h
        simp only [Option.some.injEq] at h
        subst h
        rcases List.mem_cons.1 hx with rfl | hx
        · exact mget_mem h1
        · exact mgets_mem h2 x hx

structure Out where
  v:Value
  ads:List (Addr × Addr):=[]
  bs:List (Bool × Bool):=[]
  ixs:List (List (Nat × Bool) × Addr × Nat × Int × Nat × Addr):=[]
  hs:List (List (Nat × Bool) × Sem Next × Value):=[]
  cs:List (List (Nat × Bool) × FuncId × Array Value × Value):=[]
  es:List (List (Nat × Bool) × Value × Value):=[]

/-- one operation,its path known -/
def one (P:Program) (κ:List (Nat × Bool)) (M:Mem) (R:List Ent) (p:List (Nat × Bool)) (o:Oper):Dir→Option Out
  | .ld is=>bif okAll R p o.op.operands.toList&&!isSelect o.op then
      match mgets M is with
      | none=>none
      | some l=>match tr P (execOp (rho R) o) (l.map (·.2)) with
        | some (as,.value v)=>bif Nat.beq as.length l.length then some { v,ads:=as.zip (l.map (·.1)) } else none
        | _=>none
    else none
  | .pk=>match o.op with
    | .pick c a b=>match rho R c,okOpd R p c,okPick R p true a,okPick R p false b with
      | .bool cb,true,some ra,some rb=>some { v:=pickV R cb a b,bs:=ra.toList.map (fun j=>(cb,kv κ j))++rb.toList.map (fun j=>(cb,kv κ j)) }
      | _,_,_,_=>none
    | _=>none
  | .ix r=>match o.op with
    | .indexAddr t x i=>bif okAll R p o.op.operands.toList then
        match tr P (underlying t) [],rho R x,rho R i with
        | some ([],.slice elem),.slice (some A) len _,.int _ n=>match tr P (sizeOf elem) [] with
          | some ([],size)=>some { v:=.pointer (some r),ixs:=[(p,A,len,n,size,r)] }
          | _=>none
        | _,_,_=>none
      else none
    | _=>none
  | .hd v=>bif okAll R p o.op.operands.toList&&!isSelect o.op then some { v,hs:=[(p,execOp (rho R) o,v)] } else none
  | .cl v=>bif okAll R p o.op.operands.toList&&!isSelect o.op then
      match tr P (execOp (rho R) o) [] with
      | some ([],.enter f args)=>some { v,cs:=[(p,f,args,v)] }
      | _=>none
    else none
  | .nm v'=>bif okAll R p o.op.operands.toList&&!isSelect o.op then
      match tr P (execOp (rho R) o) [] with
      | some ([],.value v)=>some { v:=v',es:=[(p,v,v')] }
      | _=>none
    else none

/-- what is owed for an operation,in the worlds of a class -/
structure Owed (P:Program) (κ:List (Nat × Bool)) (C:World→Prop) (x:Out):Prop where
  ads:AllEq x.ads
  bs:AllEq x.bs
  ixs:∀ y∈x.ixs,pv κ y.1=true→0≤y.2.2.2.1∧y.2.2.2.1<y.2.2.1∧y.2.1.add (y.2.2.2.1.toNat*y.2.2.2.2.1)=y.2.2.2.2.2
  hs:∀ w,C w→∀ y∈x.hs,pv κ y.1=true→y.2.1.run P w=.ok (.value y.2.2) w
  cs:∀ w,C w→∀ y∈x.cs,pv κ y.1=true→Calls P y.2.1 y.2.2.1 w (fun e w'=>e=.returned y.2.2.2∧C w')
  es:∀ y∈x.es,pv κ y.1=true→y.2.1=y.2.2

theorem hits_of {w:World} {M:Mem} (hM:Cells w M):∀ (l:Mem) (as:List Addr),(∀ x∈l,x∈M)→Nat.beq as.length l.length=true→AllEq (as.zip (l.map (·.1)))→Hits w as (l.map (·.2))
  | [],[],_,_,_=>trivial
  | [],a::as,_,hl,_=>by simp at hl
  | x::l,[],_,hl,_=>by simp at hl
  | x::l,a::as,hm,hl,he=>by
    simp only [List.map_cons,List.zip_cons_cons,AllEq] at he
    simp only [List.map_cons,Hits]
    refine ⟨by rw [he.1]; exact hM x (hm x List.mem_cons_self),hits_of hM l as (fun y hy=>hm y (List.mem_cons_of_mem _ hy)) (by simpa using hl) he.2⟩

theorem one_sound {P:Program} {N:Nat} {κ:List (Nat × Bool)} {M:Mem} {R:List Ent} {p:List (Nat × Bool)} {o:Oper} {d:Dir} {x:Out} {a:Act} {C:World→Prop}
    (h:one P κ M R p o d=some x) (hR:RSt N κ R a) (hp:pv κ p=true) (hM:∀ w,C w→Cells w M) (ho:Owed P κ C x):∀ w,C w→o.quietAt P a C w x.v:=by
  intro w hw
  unfold Oper.quietAt
  cases d with
  | ld is =>
    simp only [one] at h
    cases hk:(okAll R p o.op.operands.toList&&!isSelect o.op) with
    | false=>rw [hk] at h; simp at h
    | true =>
      rw [hk] at h
      simp only [cond_true] at h
      simp only [Bool.and_eq_true,Bool.not_eq_true'] at hk
      cases hl:mgets M is with
      | none=>rw [hl] at h; simp at h
      | some l =>
        rw [hl] at h
        simp only at h
        cases ht:tr P (execOp (rho R) o) (l.map (·.2)) with
        | none=>rw [ht] at h; simp at h
        | some y =>
          obtain ⟨as,n⟩:=y
          rw [ht] at h
          cases n <;> simp only [reduceCtorEq] at h
          rename_i v
          cases hz:Nat.beq as.length l.length with
          | false=>rw [hz] at h; simp at h
          | true =>
            rw [hz] at h
            simp only [cond_true,Option.some.injEq] at h
            subst h
            have:=tr_sound (w:=w) _ _ _ _ ht (hits_of (hM w hw) l as (mgets_mem hl) hz ho.ads)
            rw [hR.exec hp hk.2 hk.1,this]
            exact ⟨rfl,rfl⟩
  | pk =>
    simp only [one] at h
    split at h
    · rename_i c x' y' hop
      split at h
      · rename_i cb ra rb hc1 hc2 hc3 hc4
        simp only [Option.some.injEq] at h
        subst h
        have hbs:=allEq_append ho.bs
        have hca:a.eval c=.bool cb:=(hR.eval hp hc2).trans hc1
        have ea:cb=true→a.eval x'=rho R x':=fun hcb=>hR.evalPick hp hc3 (fun j hj=>by
          subst hj; have:=hbs.1; simp only [Option.toList,List.map_cons,AllEq] at this; rw [← this.1,hcb])
        have eb:cb=false→a.eval y'=rho R y':=fun hcb=>hR.evalPick hp hc4 (fun j hj=>by
          subst hj; have:=hbs.2; simp only [Option.toList,List.map_cons,AllEq] at this; rw [← this.1,hcb])
        unfold execOp
        simp only [hop,hca]
        show Oper.quietUpon P C w _ (.ok (.value (if cb=true then a.eval x' else a.eval y')) w)
        refine ⟨rfl,?_⟩
        rw [← pickV_eq]
        cases cb
        · simp [eb rfl]
        · simp [ea rfl]
      · simp at h
    · simp at h
  | ix r =>
    simp only [one] at h
    split at h
    · rename_i t x' i' hop
      cases hk:okAll R p o.op.operands.toList with
      | false=>rw [hk] at h; simp at h
      | true =>
        rw [hk] at h
        simp only [cond_true] at h
        split at h
        · rename_i elem A len cap kk n hu hx hi
          split at h
          · rename_i size hsz
            simp only [Option.some.injEq] at h
            subst h
            have hix:=ho.ixs _ List.mem_cons_self hp
            obtain ⟨h0,h1,h2⟩:=hix
            rw [hR.exec hp (by rw [hop]; rfl) hk]
            have r1:=tr_sound (w:=w) _ _ _ _ hu trivial
            have r2:=tr_sound (w:=w) _ _ _ _ hsz trivial
            have:(execOp (rho R) o).run P w=.ok (.value (.pointer (some r))) w:=by
              unfold execOp
              simp only [hop,hx,hi]
              simp only at h0 h1 h2
              simp [Instr.indexAt,asIntOf,Sem.run_bind,r1,r2,h0,h1,h2,Result.andThen]
            rw [this]
            exact ⟨rfl,rfl⟩
          · simp at h
        · simp at h
    · simp at h
  | hd v =>
    simp only [one] at h
    cases hk:(okAll R p o.op.operands.toList&&!isSelect o.op) with
    | false=>rw [hk] at h; simp at h
    | true =>
      rw [hk] at h
      simp only [cond_true,Option.some.injEq] at h
      subst h
      simp only [Bool.and_eq_true,Bool.not_eq_true'] at hk
      rw [hR.exec hp hk.2 hk.1,ho.hs w hw _ List.mem_cons_self hp]
      exact ⟨rfl,rfl⟩
  | cl v =>
    simp only [one] at h
    cases hk:(okAll R p o.op.operands.toList&&!isSelect o.op) with
    | false=>rw [hk] at h; simp at h
    | true =>
      rw [hk] at h
      simp only [cond_true] at h
      simp only [Bool.and_eq_true,Bool.not_eq_true'] at hk
      split at h
      · rename_i f args ht
        simp only [Option.some.injEq] at h
        subst h
        have:=tr_sound (w:=w) _ _ _ _ ht trivial
        rw [hR.exec hp hk.2 hk.1,this]
        exact ⟨rfl,ho.cs w hw _ List.mem_cons_self hp⟩
      · simp at h
  | nm v =>
    simp only [one] at h
    cases hk:(okAll R p o.op.operands.toList&&!isSelect o.op) with
    | false=>rw [hk] at h; simp at h
    | true =>
      rw [hk] at h
      simp only [cond_true] at h
      simp only [Bool.and_eq_true,Bool.not_eq_true'] at hk
      split at h
      · rename_i u ht
        simp only [Option.some.injEq] at h
        subst h
        have:=tr_sound (w:=w) _ _ _ _ ht trivial
        rw [hR.exec hp hk.2 hk.1,this]
        exact ⟨rfl,ho.es _ List.mem_cons_self hp⟩
      · simp at h
/-- what a list of operations leaves,and what is owed for it -/
structure Acc where
  R:List Ent
  ads:List (Addr × Addr):=[]
  bs:List (Bool × Bool):=[]
  ixs:List (List (Nat × Bool) × Addr × Nat × Int × Nat × Addr):=[]
  hs:List (List (Nat × Bool) × Sem Next × Value):=[]
  cs:List (List (Nat × Bool) × FuncId × Array Value × Value):=[]
  es:List (List (Nat × Bool) × Value × Value):=[]

def Acc.join (bs:List (Bool × Bool)) (x:Out) (y:Acc):Acc :=
  { R:=y.R,ads:=x.ads++y.ads,bs:=bs++(x.bs++y.bs),ixs:=x.ixs++y.ixs,hs:=x.hs++y.hs,cs:=x.cs++y.cs,es:=x.es++y.es }

def setR (R:List Ent) (o:Oper) (p:List (Nat × Bool)) (v:Value):List Ent :=
  match o.dst with
  | none=>R
  | some t=>⟨t,p,v⟩::R

def dstOk (N:Nat) (o:Oper):Bool :=
  match o.dst with
  | none=>true
  | some t=>Nat.blt t N

def grp (P:Program) (ops:Array Oper) (κ:List (Nat × Bool)) (M:Mem) (N:Nat):List Oper→List Dir→List Ent→Option Acc
  | [],[],R=>some { R }
  | o::l,d::ds,R=>match path ops κ R o with
    | none=>none
    | some (p,bs)=>match one P κ M R p o d with
      | none=>none
      | some x=>bif dstOk N o then match grp P ops κ M N l ds (setR R o p x.v) with
          | none=>none
          | some y=>some (y.join bs x)
        else none
  | _,_,_=>none

structure OwedA (P:Program) (κ:List (Nat × Bool)) (C:World→Prop) (x:Acc):Prop where
  ads:AllEq x.ads
  bs:AllEq x.bs
  ixs:∀ y∈x.ixs,pv κ y.1=true→0≤y.2.2.2.1∧y.2.2.2.1<y.2.2.1∧y.2.1.add (y.2.2.2.1.toNat*y.2.2.2.2.1)=y.2.2.2.2.2
  hs:∀ w,C w→∀ y∈x.hs,pv κ y.1=true→y.2.1.run P w=.ok (.value y.2.2) w
  cs:∀ w,C w→∀ y∈x.cs,pv κ y.1=true→Calls P y.2.1 y.2.2.1 w (fun e w'=>e=.returned y.2.2.2∧C w')
  es:∀ y∈x.es,pv κ y.1=true→y.2.1=y.2.2

theorem OwedA.split {P:Program} {κ:List (Nat × Bool)} {C:World→Prop} {bs:List (Bool × Bool)} {x:Out} {y:Acc} (h:OwedA P κ C (y.join bs x)):AllEq bs∧Owed P κ C x∧OwedA P κ C y:=by
  obtain ⟨h1,h2,h3,h4,h5,h6⟩:=h
  have b1:=allEq_append h2
  have b2:=allEq_append b1.2
  have a1:=allEq_append h1
  exact ⟨b1.1,⟨a1.1,b2.1,fun z hz=>h3 z (List.mem_append_left _ hz),fun w hw z hz=>h4 w hw z (List.mem_append_left _ hz),fun w hw z hz=>h5 w hw z (List.mem_append_left _ hz),fun z hz=>h6 z (List.mem_append_left _ hz)⟩,
    ⟨a1.2,b2.2,fun z hz=>h3 z (List.mem_append_right _ hz),fun w hw z hz=>h4 w hw z (List.mem_append_right _ hz),fun w hw z hz=>h5 w hw z (List.mem_append_right _ hz),fun z hz=>h6 z (List.mem_append_right _ hz)⟩⟩

theorem RSt.put {N:Nat} {κ:List (Nat × Bool)} {R:List Ent} {a:Act} (h:RSt N κ R a) {o:Oper} (hd:dstOk N o=true) {p:List (Nat × Bool)} {v u:Value} (hu:u=if pv κ p=true then v else undef):RSt N κ (setR R o p v) (a.put o.dst u):=by
  unfold dstOk at hd
  unfold setR
  cases ho:o.dst with
  | none=>exact h
  | some t =>
    rw [ho] at hd
    simp only [Nat.blt_eq] at hd
    refine ⟨h.defers,by simp [Act.put,h.size],fun t' e he=>?_⟩
    simp only [look] at he
    simp only [Act.put]
    cases hb:Nat.beq t t' with
    | true =>
      rw [hb] at he
      simp only [cond_true,Option.some.injEq] at he
      subst he
      obtain rfl:=Nat.eq_of_beq_eq_true hb
      rw [Array.getElem?_setIfInBounds_self_of_lt (by rw [h.size]; exact hd)]
      rw [hu]; rfl
    | false =>
      rw [hb] at he
      simp only [cond_false] at he
      rw [Array.getElem?_setIfInBounds_ne (by rintro rfl; simp at hb)]
      exact h.at_ t' e he

theorem grp_sound {P:Program} {ops:Array Oper} {κ:List (Nat × Bool)} {M:Mem} {N:Nat} {C:World→Prop} {Q:Act→Prop} (hM:∀ w,C w→Cells w M) :
    ∀ (l:List Oper) (ds:List Dir) (R:List Ent) (acc:Acc) (a:Act),grp P ops κ M N l ds R=some acc→RSt N κ R a→OwedA P κ C acc→(∀ a',RSt N κ acc.R a'→Q a')→wpQuiet P ops C Q l a
  | [],[],R,acc,a,h,hR,_,k=>by
    simp only [grp,Option.some.injEq] at h
    subst h
    exact k a hR
  | [],d::ds,R,acc,a,h,_,_,_=>by simp [grp] at h
  | o::l,[],R,acc,a,h,_,_,_=>by simp [grp] at h
  | o::l,d::ds,R,acc,a,h,hR,ho,k=>by
    simp only [grp] at h
    cases hp:path ops κ R o with
    | none=>rw [hp] at h; simp at h
    | some pb =>
      obtain ⟨p,bs⟩:=pb
      rw [hp] at h
      simp only at h
      cases h1:one P κ M R p o d with
      | none=>rw [h1] at h; simp at h
      | some x =>
        rw [h1] at h
        simp only at h
        cases hd:dstOk N o with
        | false=>rw [hd] at h; simp at h
        | true =>
          rw [hd] at h
          simp only [cond_true] at h
          cases hg:grp P ops κ M N l ds (setR R o p x.v) with
          | none=>rw [hg] at h; simp at h
          | some y =>
            rw [hg] at h
            simp only [Option.some.injEq] at h
            subst h
            obtain ⟨o1,o2,o3⟩:=ho.split
            have hw:=path_spec hR hp o1
            simp only [wpQuiet]
            cases hpv:pv κ p with
            | false =>
              rw [hw,hpv]
              simp only [Bool.false_eq_true,if_false]
              exact grp_sound hM l ds _ y _ hg (hR.put hd (by rw [hpv]; rfl)) o3 k
            | true =>
              rw [hw,hpv]
              simp only [if_true]
              exact ⟨x.v,one_sound h1 hR hpv hM o2,grp_sound hM l ds _ y _ hg (hR.put hd (by rw [hpv]; rfl)) o3 k⟩

def keep (R:List Ent):List Nat→Option (List Ent)
  | []=>some []
  | t::ts=>match look R t,keep R ts with
    | some ⟨_,[],v⟩,some T=>some (⟨t,[],v⟩::T)
    | _,_=>none

theorem keep_spec {R:List Ent}:∀ {ts:List Nat} {T:List Ent},keep R ts=some T→∀ t e,look T t=some e→∃ t',look R t=some ⟨t',[],e.v⟩∧e.p=[]
  | [],T,h,t,e,he=>by simp only [keep,Option.some.injEq] at h; subst h; simp [look] at he
  | s::ts,T,h,t,e,he=>by
    simp only [keep] at h
    split at h
    · rename_i _ _ t' v T' h1 h2
      simp only [Option.some.injEq] at h
      subst h
      simp only [look] at he
      cases hb:Nat.beq s t with
      | true =>
        rw [hb] at he
        simp only [cond_true,Option.some.injEq] at he
        subst he
        obtain rfl:=Nat.eq_of_beq_eq_true hb
        exact ⟨_,h1,rfl⟩
      | false =>
        rw [hb] at he
        simp only [cond_false] at he
        exact keep_spec h2 t e he
    · simp at h

theorem RSt.keep {N:Nat} {κ κ':List (Nat × Bool)} {R T:List Ent} {a:Act} (h:RSt N κ R a) {ts:List Nat} (hk:SX.keep R ts=some T):RSt N κ' T a :=
  ⟨h.defers,h.size,fun t e he=>by
    obtain ⟨t',h1,h2⟩:=keep_spec hk t e he
    rw [h.at_ t _ h1]
    simp [Ent.den,h2,pv]⟩

theorem Cells.below {w w':World} {M:Mem} (h:Cells w M) (hb:Below w.heap.size w w'):Cells w' M :=
  fun x hx=>(hb.cell (World.block_lt_of_cell? w x.1 (h x hx))).trans (h x hx)

abbrev IxL:=List (List (Nat × Bool) × Addr × Nat × Int × Nat × Addr)
abbrev HsL:=List (List (Nat × Bool) × Sem Next × Value)
abbrev CsL:=List (List (Nat × Bool) × FuncId × Array Value × Value)
abbrev EsL:=List (List (Nat × Bool) × Value × Value)

/-- the first m operations of a list,and what of their table is kept -/
def grpK (P:Program) (ops:Array Oper) (κ:List (Nat × Bool)) (M:Mem) (N:Nat) (l:List Oper) (ds:List Dir) (R:List Ent) (ts:List Nat):Option (List Ent × IxL × HsL × CsL × EsL) :=
  match grp P ops κ M N l ds R with
  | none=>none
  | some acc=>match keep acc.R ts with
    | none=>none
    | some T=>some (T,acc.ixs,acc.hs,acc.cs,acc.es)
def grpA (P:Program) (ops:Array Oper) (κ:List (Nat × Bool)) (M:Mem) (N:Nat) (l:List Oper) (ds:List Dir) (R:List Ent):List Addr × List Bool :=
  match grp P ops κ M N l ds R with
  | none=>([],[])
  | some acc=>(acc.ads.map (·.1),acc.bs.map (·.1))
def grpB (P:Program) (ops:Array Oper) (κ:List (Nat × Bool)) (M:Mem) (N:Nat) (l:List Oper) (ds:List Dir) (R:List Ent):List Addr × List Bool :=
  match grp P ops κ M N l ds R with
  | none=>([],[])
  | some acc=>(acc.ads.map (·.2),acc.bs.map (·.2))

def IxOk (κ:List (Nat × Bool)):IxL→Prop
  | []=>True
  | y::l=>(pv κ y.1=true→0≤y.2.2.2.1∧y.2.2.2.1<y.2.2.1∧y.2.1.add (y.2.2.2.1.toNat*y.2.2.2.2.1)=y.2.2.2.2.2)∧IxOk κ l
def HsOk (P:Program) (κ:List (Nat × Bool)) (w:World):HsL→Prop
  | []=>True
  | y::l=>(pv κ y.1=true→y.2.1.run P w=.ok (.value y.2.2) w)∧HsOk P κ w l
def CsOk (P:Program) (κ:List (Nat × Bool)) (w:World):CsL→Prop
  | []=>True
  | y::l=>(pv κ y.1=true→Calls P y.2.1 y.2.2.1 w (fun e w'=>e=.returned y.2.2.2∧Below w.heap.size w w'))∧CsOk P κ w l
def EsOk (κ:List (Nat × Bool)):EsL→Prop
  | []=>True
  | y::l=>(pv κ y.1=true→y.2.1=y.2.2)∧EsOk κ l
theorem EsOk.mem {κ:List (Nat × Bool)}:∀ {l:EsL},EsOk κ l→∀ y∈l,pv κ y.1=true→y.2.1=y.2.2
  | x::l,h,y,hy=>by
    rcases List.mem_cons.1 hy with rfl | hy
    · exact h.1
    · exact EsOk.mem h.2 y hy
theorem IxOk.mem {κ:List (Nat × Bool)}:∀ {l:IxL},IxOk κ l→∀ y∈l,pv κ y.1=true→0≤y.2.2.2.1∧y.2.2.2.1<y.2.2.1∧y.2.1.add (y.2.2.2.1.toNat*y.2.2.2.2.1)=y.2.2.2.2.2
  | x::l,h,y,hy=>by
    rcases List.mem_cons.1 hy with rfl | hy
    · exact h.1
    · exact IxOk.mem h.2 y hy
theorem HsOk.mem {P:Program} {κ:List (Nat × Bool)} {w:World}:∀ {l:HsL},HsOk P κ w l→∀ y∈l,pv κ y.1=true→y.2.1.run P w=.ok (.value y.2.2) w
  | x::l,h,y,hy=>by
    rcases List.mem_cons.1 hy with rfl | hy
    · exact h.1
    · exact HsOk.mem h.2 y hy
theorem CsOk.mem {P:Program} {κ:List (Nat × Bool)} {w:World}:∀ {l:CsL},CsOk P κ w l→∀ y∈l,pv κ y.1=true→Calls P y.2.1 y.2.2.1 w (fun e w'=>e=.returned y.2.2.2∧Below w.heap.size w w')
  | x::l,h,y,hy=>by
    rcases List.mem_cons.1 hy with rfl | hy
    · exact h.1
    · exact CsOk.mem h.2 y hy

theorem grpK_sound {P:Program} {ops:Array Oper} {κ:List (Nat × Bool)} {M:Mem} {N:Nat} {Q:Act→Prop} {l:List Oper} {ds:List Dir} {R T:List Ent} {ts:List Nat} {ixs:IxL} {hs:HsL} {cs:CsL} {es:EsL} {a:Act} {w:World} (hR:RSt N κ R a) (hM:Cells w M)
    (h:grpK P ops κ M N l ds R ts=some (T,ixs,hs,cs,es)) (he:grpA P ops κ M N l ds R=grpB P ops κ M N l ds R) (hi:IxOk κ ixs) (hes:EsOk κ es)
    (hh:∀ w',Below w.heap.size w w'→Cells w' M→HsOk P κ w' hs) (hc:∀ w',Below w.heap.size w w'→Cells w' M→CsOk P κ w' cs)
    (k:∀ a' R',SX.keep R' ts=some T→RSt N κ R' a'→Q a'):wpQuiet P ops (fun w'=>Below w.heap.size w w') Q l a:=by
  unfold grpK at h
  unfold grpA grpB at he
  cases hg:grp P ops κ M N l ds R with
  | none=>rw [hg] at h; simp at h
  | some acc =>
    rw [hg] at h he
    simp only at h he
    cases hk:SX.keep acc.R ts with
    | none=>rw [hk] at h; simp at h
    | some T' =>
      rw [hk] at h
      simp only [Option.some.injEq,Prod.mk.injEq] at h he
      obtain ⟨rfl,rfl,rfl,rfl,rfl⟩:=h
      refine grp_sound (fun w' hw'=>hM.below hw') l ds R acc a hg hR ⟨allEq_of_map he.1,allEq_of_map he.2,hi.mem,fun w' hw'=>(hh w' hw' (hM.below hw')).mem,fun w' hw' y hy hp=>?_,hes.mem⟩ (fun a' ha'=>k a' _ hk ha')
      exact ((hc w' hw' (hM.below hw')).mem y hy hp).mono fun e w'' ⟨h1,h2⟩=>⟨h1,hw'.trans (h2.mono hw'.size)⟩

theorem wpList_of_quiet {P:Program} {ops:Array Oper} {C:World→Prop} {Q:Exit→Act→World→Prop} {rest:List Oper}:∀ (l:List Oper) (a:Act) (w:World),C w→wpQuiet P ops C (fun a'=>∀ w',C w'→wpList P ops Q rest a' w') l a→wpList P ops Q (l++rest) a w
  | [],a,w,hw,h=>h w hw
  | o::l,a,w,hw,h=>by
    simp only [wpQuiet] at h
    simp only [List.cons_append,wpList]
    split
    · rename_i hg
      simp only [hg,if_true] at h
      exact .inl (Oper.wp_of_quiet hw (fun a' w' hw' h'=>wpList_of_quiet l a' w' hw' h') h)
    · rename_i hg
      simp only [hg] at h
      exact wpList_of_quiet l _ w hw h

/-- a region whose operations all read or call what only adds memory -/
theorem region_q {P:Program} {id N:Nat} {draw:Bool} {Q:Exit→Act→World→Prop} {l:List Oper} {a:Act} {w:World} {R:List Ent} {M:Mem} (κ:List (Nat × Bool)) (ds:List Dir) (ts:List Nat) (T:List Ent) (ixs:IxL) (hs:HsL) (cs:CsL) (es:EsL)
    (hR:RSt N [] R a) (hM:Cells w M) (hm:P.follows .mixedOrders=true) (hB:(!draw||Region.lexB .any l.toArray)=true) (h0:R.all (fun e=>e.p.isEmpty)=true)
    (h:grpK P l.toArray κ M N l ds R ts=some (T,ixs,hs,cs,es)) (he:grpA P l.toArray κ M N l ds R=grpB P l.toArray κ M N l ds R) (hi:IxOk κ ixs) (hes:EsOk κ es)
    (hh:∀ w',Below w.heap.size w w'→Cells w' M→HsOk P κ w' hs) (hc:∀ w',Below w.heap.size w w'→Cells w' M→CsOk P κ w' cs)
    (k:∀ a' w',RSt N [] T a'→Below w.heap.size w w'→Cells w' M→Q .normal a' w'):(Code.region id l.toArray draw).wp P Q a w:=by
  have hR':RSt N κ R a:=⟨hR.defers,hR.size,fun t e he=>by
    rw [hR.at_ t e he]
    have hm:∀ (R:List Ent),R.all (fun e=>e.p.isEmpty)=true→look R t=some e→e.p=[]:=fun R=>by
      induction R with
      | nil=>intro _ h; simp [look] at h
      | cons x R ih =>
        intro h h'
        simp only [List.all_cons,Bool.and_eq_true] at h
        simp only [look] at h'
        cases hb:Nat.beq x.t t with
        | true=>rw [hb] at h'; simp only [cond_true,Option.some.injEq] at h'; subst h'; simpa using h.1
        | false=>rw [hb] at h'; exact ih h.2 h'
    simp [Ent.den,hm R h0 he,pv]⟩
  cases draw with
  | false =>
    have:=wpList_of_quiet (P:=P) (ops:=l.toArray) (C:=fun w'=>Below w.heap.size w w') (Q:=Q) (rest:=[]) l a w (Below.refl _ _)
      (grpK_sound hR' hM h he hi hes hh hc fun a' R' hk ha'=>fun w' hw'=>k a' w' (ha'.keep hk) hw' (hM.below hw'))
    rw [List.append_nil] at this
    exact wp_region_lit this
  | true =>
    refine wp_region_quiet (C:=fun w'=>Below w.heap.size w w') hm (by simpa using hB) ⟨rfl,rfl,rfl,Nat.le_refl _,fun _ _=>rfl⟩ ?_
    exact grpK_sound hR' hM h he hi hes hh hc fun a' R' hk ha'=>fun w' hw'=>k a' w' (ha'.keep hk) hw' (hM.below hw')

/-! entering,tests,returning -/
def initT:Nat→List Value→List Ent
  | _,[]=>[]
  | i,v::l=>⟨i,[],v⟩::initT (i+1) l

theorem look_initT:∀ (l:List Value) (i t:Nat) (e:Ent),look (initT i l) t=some e→e.p=[]∧i≤t∧l[t-i]?=some e.v
  | [],_,_,_,h=>by simp [initT,look] at h
  | v::l,i,t,e,h=>by
    simp only [initT,look] at h
    cases hb:Nat.beq i t with
    | true =>
      rw [hb] at h
      simp only [cond_true,Option.some.injEq] at h
      subst h
      obtain rfl:=Nat.eq_of_beq_eq_true hb
      simp
    | false =>
      rw [hb] at h
      obtain ⟨h1,h2,h3⟩:=look_initT l (i+1) t e h
      refine ⟨h1,by omega,?_⟩
      rw [show t-i=(t-(i+1))+1 by omega]
      simpa using h3

theorem enter {P:Program} {f:FuncId} {fn:Func} {c:Code} {w:World} {Rp:Ending→World→Prop} (args:List Value) (N:Nat) (hf:P.funcs[f]?=some fn) (hb:fn.body=some c) (hN:fn.ntmps=N) (hle:Nat.ble args.length N=true)
    (h:∀ a,RSt N [] (initT 0 args) a→c.wp P (bodyPost P fn Rp) a w):Calls P f args.toArray w Rp:=by
  refine calls_of_wp hf hb (h _ ⟨rfl,?_,fun t e he=>?_⟩)
  · have:=Nat.le_of_ble_eq_true hle
    simp [hN]; omega
  · obtain ⟨h1,_,h3⟩:=look_initT args 0 t e he
    simp only [Nat.sub_zero] at h3
    have hl:=(List.getElem?_eq_some_iff.1 h3).1
    rw [Array.getElem?_append_left (by simpa using hl)]
    simp [h3,Ent.den,h1,pv]

def valOf (R:List Ent) (x:Operand):Option Value:=bif okOpd R [] x then some (rho R x) else none

theorem RSt.val {N:Nat} {κ:List (Nat × Bool)} {R:List Ent} {a:Act} (h:RSt N κ R a) {x:Operand} {v:Value} (hv:valOf R x=some v):a.eval x=v:=by
  unfold valOf at hv
  cases hx:okOpd R [] x with
  | false=>rw [hx] at hv; simp at hv
  | true=>rw [hx] at hv; simp only [cond_true,Option.some.injEq] at hv; rw [← hv]; exact h.eval rfl hx

theorem wrap_ok {z:Int} (h:-9223372036854775808≤z∧z≤9223372036854775807):Value.int .i64 (IntKind.i64.wrap z)=.int .i64 z:=by
  rw [IntWalk.i64_in z h]
def setBlk (w:World) (n:Nat) (ob:Obj):World:={ w with heap:=w.heap.setIfInBounds n ob }

/-- which blocks but one are as they were -/
structure But (n:Nat) (w w':World):Prop where
  os:w'.os=w.os
  tape:w'.tape=w.tape
  output:w'.output=w.output
  size:w'.heap.size=w.heap.size
  block:∀ k,k≠n→w'.heap[k]?=w.heap[k]?

theorem But.cell {n:Nat} {w w':World} (h:But n w w') {p:Addr} (hp:p.block≠n):w'.cell? p=w.cell? p:=World.cell?_of_block (w:=w) (h.block p.block hp)
theorem But.below {n B:Nat} {w w':World} (h:But n w w') (hB:B≤n):Below B w w':=⟨h.os,h.tape,h.output,by rw [h.size]; exact Nat.le_refl _,fun k hk=>h.block k (by omega)⟩

/-- two pieces of code,cut apart -/
theorem seq_cut {P:Program} {x y:Code} {Q:Exit→Act→World→Prop} {a:Act} {w:World} (Post:Act→World→Prop) (hx:x.wp P (Exit.then Post Q) a w) (hy:∀ a' w',Post a' w'→y.wp P Q a' w'):(Code.seq x y).wp P Q a w :=
  wp_seq (wp_mono hx fun e a' w' h=>by cases e <;> first | exact hy _ _ h | exact h)

/-! regions that only read,told by what they change -/
def lookE:List Ent→Nat→Value→Value
  | [],_,d=>d
  | e::R,t,d=>if e.t=t then e.v else lookE R t d
def tabE (R nw:List Ent):List Nat→List Ent
  | []=>[]
  | t::ts=>⟨t,[],lookE nw t (lookE R t (.bool false))⟩::tabE R nw ts
section
variable {P:Program} {id N:Nat} {draw:Bool} {Q:Exit→Act→World→Prop} {l:List Oper} {a:Act} {w w0:World} {R T:List Ent} {M:Mem} {rest:Code}
theorem qf (κ:List (Nat × Bool)) (ds:List Dir) (ts:List Nat) (nw:List Ent) (ixs:IxL) (hs:HsL) (cs:CsL) (es:EsL)
    (hR:RSt N [] R a) (hM:Cells w M) (hW:Below w0.heap.size w0 w) (hm:P.follows .mixedOrders=true) (hi:IxOk κ ixs) (hes:EsOk κ es)
    (hh:∀ w',Below w.heap.size w w'→Cells w' M→HsOk P κ w' hs) (hc:∀ w',Below w.heap.size w w'→Cells w' M→CsOk P κ w' cs)
    (k:∀ a' w',RSt N [] T a'→Below w.heap.size w w'→Below w0.heap.size w0 w'→Cells w' M→rest.wp P Q a' w')
    (hT:tabE R nw ts=T:=by (simp only [Go.SX.tabE,Go.SX.lookE,Nat.reduceEqDiff,↓reduceIte]; rfl)) (hB:(!draw||Region.lexB .any l.toArray)=true:=by kernel_rfl) (h0:R.all (fun e=>e.p.isEmpty)=true:=by kernel_rfl)
    (h:grpK P l.toArray κ M N l ds R ts=some (T,ixs,hs,cs,es):=by kernel_rfl) (he:grpA P l.toArray κ M N l ds R=grpB P l.toArray κ M N l ds R:=by kernel_rfl):(Code.seq (Code.region id l.toArray draw) rest).wp P Q a w :=
  wp_seq_k fun _ hK=>region_q κ ds ts T ixs hs cs es hR hM hm hB h0 h he hi hes hh hc fun a' w' q1 q2 q3=>hK _ _ (k a' w' q1 q2 (hW.trans (q2.mono hW.size)) q3)
theorem qs (ds:List Dir) (ts:List Nat) (nw:List Ent) (hR:RSt N [] R a) (hM:Cells w M) (hW:Below w0.heap.size w0 w) (hm:P.follows .mixedOrders=true)
    (k:∀ a' w',RSt N [] T a'→Below w.heap.size w w'→Below w0.heap.size w0 w'→Cells w' M→rest.wp P Q a' w')
    (hT:tabE R nw ts=T:=by (simp only [Go.SX.tabE,Go.SX.lookE,Nat.reduceEqDiff,↓reduceIte]; rfl)) (hB:(!draw||Region.lexB .any l.toArray)=true:=by kernel_rfl) (h0:R.all (fun e=>e.p.isEmpty)=true:=by kernel_rfl)
    (h:grpK P l.toArray [] M N l ds R ts=some (T,[],[],[],[]):=by kernel_rfl) (he:grpA P l.toArray [] M N l ds R=grpB P l.toArray [] M N l ds R:=by kernel_rfl):(Code.seq (Code.region id l.toArray draw) rest).wp P Q a w :=
  qf [] ds ts nw [] [] [] [] hR hM hW hm trivial trivial (fun _ _ _=>trivial) (fun _ _ _=>trivial) k hT hB h0 h he
end
end Go.SX
namespace Go
@[match_pattern] abbrev Value.I (x : Int) : Value := .int .i64 x
@[match_pattern] abbrev Value.P (b : Nat) : Value := .pointer (some ⟨b, 0, none⟩)
end Go
namespace Go.SX
open Go.RowKit
end Go.SX
