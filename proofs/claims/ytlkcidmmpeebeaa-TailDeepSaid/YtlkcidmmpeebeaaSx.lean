/- Proved: a walk of a region by tables: what each slot holds is computed by the kernel from the model's own text; operations under a guard hold their value where the guard does. Program-independent. -/
import Derived.Deep.QuietTactic
import Derived.BigQuiet
import Derived.Deep.LoopGhost
import Derived.Below
import Derived.IntWalk
import Derived.Lib.Hide
set_option linter.unusedVariables false
set_option linter.unusedSimpArgs false
namespace Go.SX
open Go.RowKit

/-- a computation that only reads,its loads answered in turn: the addresses that it asks for,and what it comes to -/
def tr {α:Type} (P:Program):Sem α→List Value→Option (List Addr × α)
  | .pure a,[]=>some ([],a)
  | .load _ a k,v::vs=>match tr P (k v) vs with
    | some (l,r)=>some (a::l,r)
    | none=>none
  | .program k,vs=>tr P (k P) vs
  | .mark _ k,vs=>tr P k vs
  | _,_=>none

def Hits (w:World):List Addr→List Value→Prop
  | [],[]=>True
  | a::l,v::vs=>w.cell? a=some v∧Hits w l vs
  | _,_=>False

theorem tr_sound {α:Type} {P:Program} {w:World} (s:Sem α):∀ (vs:List Value) (l:List Addr) (r:α),tr P s vs=some (l,r)→Hits w l vs→s.run P w=.ok r w:=by
  induction s with
  | pure a =>
    intro vs l r h _
    cases vs with
    | nil=>simp only [tr,Option.some.injEq,Prod.mk.injEq] at h; simp [Sem.run,h.2]
    | cons v vs=>simp [tr] at h
  | load m a k ih =>
    intro vs l r h hh
    cases vs with
    | nil=>simp [tr] at h
    | cons v vs =>
      simp only [tr] at h
      cases hk:tr P (k v) vs with
      | none=>rw [hk] at h; simp at h
      | some x =>
        obtain ⟨l',r'⟩:=x
        rw [hk] at h
        simp only [Option.some.injEq,Prod.mk.injEq] at h
        obtain ⟨rfl,rfl⟩:=h
        simp only [Hits] at hh
        simp only [Sem.run,hh.1]
        exact ih v vs l' r' hk hh.2
  | program k ih=>intro vs l r h hh; simp only [tr] at h; simp only [Sem.run]; exact ih P vs l r h hh
  | mark m k ih=>intro vs l r h hh; simp only [tr] at h; simp only [Sem.run]; exact ih vs l r h hh
  | _=>intro vs l r h _; simp [tr] at h

/-- a slot: under which guards it has been written (each: the operation's number and the wanted answer),and what it holds there -/
structure Ent where
  t:Nat
  p:List (Nat × Bool)
  v:Value

def look:List Ent→Nat→Option Ent
  | [],_=>none
  | e::R,t=>bif Nat.beq e.t t then some e else look R t

def kv:List (Nat × Bool)→Nat→Bool
  | [],_=>false
  | x::l,j=>bif Nat.beq x.1 j then x.2 else kv l j

def pv (κ:List (Nat × Bool)):List (Nat × Bool)→Bool
  | []=>true
  | x::p=>pv κ p&&(kv κ x.1==x.2)

def has1 (x:Nat × Bool):List (Nat × Bool)→Bool
  | []=>false
  | y::q=>(Nat.beq x.1 y.1&&(x.2==y.2))||has1 x q
def sub:List (Nat × Bool)→List (Nat × Bool)→Bool
  | [],_=>true
  | x::p,q=>has1 x q&&sub p q

theorem pv_has {κ:List (Nat × Bool)} {x:Nat × Bool}:∀ {q:List (Nat × Bool)},has1 x q=true→pv κ q=true→(kv κ x.1==x.2)=true
  | y::q,h,hq=>by
    simp only [has1,Bool.or_eq_true,Bool.and_eq_true,beq_iff_eq] at h
    simp only [pv,Bool.and_eq_true] at hq
    rcases h with ⟨h1,h2⟩ | h
    · rw [Nat.eq_of_beq_eq_true h1,h2]; exact hq.2
    · exact pv_has h hq.1
theorem pv_sub {κ:List (Nat × Bool)} {q:List (Nat × Bool)}:∀ {p:List (Nat × Bool)},sub p q=true→pv κ q=true→pv κ p=true
  | [],_,_=>rfl
  | x::p,h,hq=>by
    simp only [sub,Bool.and_eq_true] at h
    simp only [pv,Bool.and_eq_true]
    exact ⟨pv_sub h.2 hq,pv_has h.1 hq⟩

/-- what a slot holds -/
def Ent.den (κ:List (Nat × Bool)) (e:Ent):Value:=if pv κ e.p=true then e.v else undef

structure RSt (N:Nat) (κ:List (Nat × Bool)) (R:List Ent) (a:Act):Prop where
  defers:a.defers=[]
  size:a.tmps.size=N
  at_:∀ t e,look R t=some e→a.tmps[t]?=some (e.den κ)

def rho (R:List Ent):Operand→Value
  | .tmp t=>match look R t with
    | some e=>e.v
    | none=>undef
  | .const v=>v
  | .global g=>.pointer (some ⟨g,0,none⟩)
  | .func f=>.func (.func f) #[] #[]

def okOpd (R:List Ent) (p:List (Nat × Bool)):Operand→Bool
  | .tmp t=>match look R t with
    | some e=>sub e.p p
    | none=>false
  | _=>true

def okAll (R:List Ent) (p:List (Nat × Bool)):List Operand→Bool
  | []=>true
  | x::l=>okOpd R p x&&okAll R p l

theorem okAll_mem {R:List Ent} {p:List (Nat × Bool)}:∀ {l:List Operand},okAll R p l=true→∀ x∈l,okOpd R p x=true
  | y::l,h,x,hx=>by
    simp only [okAll,Bool.and_eq_true] at h
    rcases List.mem_cons.1 hx with rfl | hx
    · exact h.1
    · exact okAll_mem h.2 x hx

theorem RSt.eval {N:Nat} {κ:List (Nat × Bool)} {R:List Ent} {a:Act} (h:RSt N κ R a) {p:List (Nat × Bool)} (hp:pv κ p=true) {x:Operand} (hx:okOpd R p x=true):a.eval x=rho R x:=by
  cases x with
  | tmp t =>
    simp only [okOpd] at hx
    cases hl:look R t with
    | none=>rw [hl] at hx; simp at hx
    | some e =>
      rw [hl] at hx
      simp only at hx
      have:=h.at_ t e hl
      simp only [Act.eval,rho,hl]
      simp [this,Ent.den,pv_sub hx hp]
  | const v=>rfl
  | global g=>rfl
  | func f=>rfl

def isSelect:Op→Bool
  | .select ..=>true
  | _=>false

theorem RSt.exec {N:Nat} {κ:List (Nat × Bool)} {R:List Ent} {a:Act} (h:RSt N κ R a) {p:List (Nat × Bool)} (hp:pv κ p=true) {o:Oper} (hs:isSelect o.op=false) (hx:okAll R p o.op.operands.toList=true):execOp a.eval o=execOp (rho R) o :=
  execOp_congr o (fun cs b e=>by rw [e] at hs; simp [isSelect] at hs) fun x hx'=>h.eval hp (okAll_mem hx x (by simpa using hx'))

/-- how an operation is answered -/
inductive Dir where
  | ld (is:List Nat)
  | pk
  | ix (r:Addr)
  | hd (v:Value)
  | cl (v:Value)
  | nm (v:Value)

/-- the path of an operation,and the answer of its guard beside what was said of it -/
def path (ops:Array Oper) (κ:List (Nat × Bool)) (R:List Ent) (o:Oper):Option (List (Nat × Bool) × List (Bool × Bool)) :=
  match o.guard with
  | none=>some ([],[])
  | some (j,want) =>
    match (ops[j]?).bind (·.dst) with
    | none=>none
    | some t=>match look R t with
      | some ⟨_,pj,.bool b⟩=>some ((j,want)::pj,[(b,kv κ j)])
      | _=>none

def AllEq {α:Type}:List (α × α)→Prop
  | []=>True
  | x::l=>x.1=x.2∧AllEq l
theorem allEq_append {α:Type}:∀ {l m:List (α × α)},AllEq (l++m)→AllEq l∧AllEq m
  | [],_,h=>⟨trivial,h⟩
  | x::l,m,h=>⟨⟨h.1,(allEq_append h.2).1⟩,(allEq_append h.2).2⟩
theorem allEq_of_map {α:Type}:∀ {l:List (α × α)},l.map (·.1)=l.map (·.2)→AllEq l
  | [],_=>trivial
  | x::l,h=>by simp only [List.map_cons,List.cons.injEq] at h; exact ⟨h.1,allEq_of_map h.2⟩

theorem path_spec {N:Nat} {ops:Array Oper} {κ:List (Nat × Bool)} {R:List Ent} {a:Act} (h:RSt N κ R a) {o:Oper} {p:List (Nat × Bool)} {bs:List (Bool × Bool)} (hp:path ops κ R o=some (p,bs)) (hb:AllEq bs) :
    Region.wanted o (yielded ops a.tmps)=pv κ p:=by
  unfold path at hp
  unfold Region.wanted
  cases hg:o.guard with
  | none=>rw [hg] at hp; simp only [Option.some.injEq,Prod.mk.injEq] at hp; rw [← hp.1]; rfl
  | some jw =>
    obtain ⟨j,want⟩:=jw
    rw [hg] at hp
    simp only at hp
    simp only
    cases ht:(ops[j]?).bind (·.dst) with
    | none=>rw [ht] at hp; simp at hp
    | some t =>
      rw [ht] at hp
      simp only at hp
      cases hl:look R t with
      | none=>rw [hl] at hp; simp at hp
      | some e =>
        rw [hl] at hp
        obtain ⟨t',pj,v⟩:=e
        cases v <;> simp only [reduceCtorEq] at hp
        rename_i b
        simp only [Option.some.injEq,Prod.mk.injEq] at hp
        obtain ⟨rfl,rfl⟩:=hp
        have hat:=h.at_ t _ hl
        have hbk:b=kv κ j:=hb.1
        unfold yielded
        rw [ht]
        simp only [Option.bind_some,hat,Ent.den,pv]
        cases hpj:pv κ pj
        · simp [undef]
        · simp only [if_true,Bool.true_and,hbk]
          cases kv κ j <;> cases want <;> rfl

def pickV (R:List Ent) (c:Bool) (a b:Operand):Value :=
  match b,rho R a with
  | .const (.bool false),.bool x=>.bool (c&&x)
  | _,_=>match a,rho R b with
    | .const (.bool true),.bool y=>.bool (c||y)
    | _,_=>if c=true then rho R a else rho R b
/-- the path of a branch of a pick,less what is known there -/
def okPick (R:List Ent) (p:List (Nat × Bool)) (want:Bool):Operand→Option (Option Nat)
  | .tmp t=>match look R t with
    | none=>none
    | some e=>bif sub e.p p then some none else match e.p with
      | (j,w)::q=>bif (w==want)&&sub q p then some (some j) else none
      | []=>none
  | _=>some none

abbrev Mem:=List (Addr × Value)
def Cells (w:World) (M:Mem):Prop:=∀ x∈M,w.cell? x.1=some x.2

def mget:Mem→Nat→Option (Addr × Value)
  | [],_=>none
  | x::_,0=>some x
  | _::M,i+1=>mget M i
def mgets (M:Mem):List Nat→Option Mem
  | []=>some []
  | i::is=>match mget M i,mgets M is with
    | some x,some l=>some (x::l)
    | _,_=>none
structure Out where
  v:Value
  ads:List (Addr × Addr):=[]
  bs:List (Bool × Bool):=[]
  ixs:List (List (Nat × Bool) × Addr × Nat × Int × Nat × Addr):=[]
  hs:List (List (Nat × Bool) × Sem Next × Value):=[]
  cs:List (List (Nat × Bool) × FuncId × Array Value × Value):=[]
  es:List (List (Nat × Bool) × Value × Value):=[]

/-- one operation,its path known -/
def one (P:Program) (κ:List (Nat × Bool)) (M:Mem) (R:List Ent) (p:List (Nat × Bool)) (o:Oper):Dir→Option Out
  | .ld is=>bif okAll R p o.op.operands.toList&&!isSelect o.op then
      match mgets M is with
      | none=>none
      | some l=>match tr P (execOp (rho R) o) (l.map (·.2)) with
        | some (as,.value v)=>bif Nat.beq as.length l.length then some { v,ads:=as.zip (l.map (·.1)) } else none
        | _=>none
    else none
  | .pk=>match o.op with
    | .pick c a b=>match rho R c,okOpd R p c,okPick R p true a,okPick R p false b with
      | .bool cb,true,some ra,some rb=>some { v:=pickV R cb a b,bs:=ra.toList.map (fun j=>(cb,kv κ j))++rb.toList.map (fun j=>(cb,kv κ j)) }
      | _,_,_,_=>none
    | _=>none
  | .ix r=>match o.op with
    | .indexAddr t x i=>bif okAll R p o.op.operands.toList then
        match tr P (underlying t) [],rho R x,rho R i with
        | some ([],.slice elem),.slice (some A) len _,.int _ n=>match tr P (sizeOf elem) [] with
          | some ([],size)=>some { v:=.pointer (some r),ixs:=[(p,A,len,n,size,r)] }
          | _=>none
        | _,_,_=>none
      else none
    | _=>none
  | .hd v=>bif okAll R p o.op.operands.toList&&!isSelect o.op then some { v,hs:=[(p,execOp (rho R) o,v)] } else none
  | .cl v=>bif okAll R p o.op.operands.toList&&!isSelect o.op then
      match tr P (execOp (rho R) o) [] with
      | some ([],.enter f args)=>some { v,cs:=[(p,f,args,v)] }
      | _=>none
    else none
  | .nm v'=>bif okAll R p o.op.operands.toList&&!isSelect o.op then
      match tr P (execOp (rho R) o) [] with
      | some ([],.value v)=>some { v:=v',es:=[(p,v,v')] }
      | _=>none
    else none

/-- what is owed for an operation,in the worlds of a class -/
structure Owed (P:Program) (κ:List (Nat × Bool)) (C:World→Prop) (x:Out):Prop where
  ads:AllEq x.ads
  bs:AllEq x.bs
  ixs:∀ y∈x.ixs,pv κ y.1=true→0≤y.2.2.2.1∧y.2.2.2.1<y.2.2.1∧y.2.1.add (y.2.2.2.1.toNat*y.2.2.2.2.1)=y.2.2.2.2.2
  hs:∀ w,C w→∀ y∈x.hs,pv κ y.1=true→y.2.1.run P w=.ok (.value y.2.2) w
  cs:∀ w,C w→∀ y∈x.cs,pv κ y.1=true→Calls P y.2.1 y.2.2.1 w (fun e w'=>e=.returned y.2.2.2∧C w')
  es:∀ y∈x.es,pv κ y.1=true→y.2.1=y.2.2

/-- what a list of operations leaves,and what is owed for it -/
structure Acc where
  R:List Ent
  ads:List (Addr × Addr):=[]
  bs:List (Bool × Bool):=[]
  ixs:List (List (Nat × Bool) × Addr × Nat × Int × Nat × Addr):=[]
  hs:List (List (Nat × Bool) × Sem Next × Value):=[]
  cs:List (List (Nat × Bool) × FuncId × Array Value × Value):=[]
  es:List (List (Nat × Bool) × Value × Value):=[]

def Acc.join (bs:List (Bool × Bool)) (x:Out) (y:Acc):Acc :=
  { R:=y.R,ads:=x.ads++y.ads,bs:=bs++(x.bs++y.bs),ixs:=x.ixs++y.ixs,hs:=x.hs++y.hs,cs:=x.cs++y.cs,es:=x.es++y.es }

def setR (R:List Ent) (o:Oper) (p:List (Nat × Bool)) (v:Value):List Ent :=
  match o.dst with
  | none=>R
  | some t=>⟨t,p,v⟩::R

def dstOk (N:Nat) (o:Oper):Bool :=
  match o.dst with
  | none=>true
  | some t=>Nat.blt t N

structure OwedA (P:Program) (κ:List (Nat × Bool)) (C:World→Prop) (x:Acc):Prop where
  ads:AllEq x.ads
  bs:AllEq x.bs
  ixs:∀ y∈x.ixs,pv κ y.1=true→0≤y.2.2.2.1∧y.2.2.2.1<y.2.2.1∧y.2.1.add (y.2.2.2.1.toNat*y.2.2.2.2.1)=y.2.2.2.2.2
  hs:∀ w,C w→∀ y∈x.hs,pv κ y.1=true→y.2.1.run P w=.ok (.value y.2.2) w
  cs:∀ w,C w→∀ y∈x.cs,pv κ y.1=true→Calls P y.2.1 y.2.2.1 w (fun e w'=>e=.returned y.2.2.2∧C w')
  es:∀ y∈x.es,pv κ y.1=true→y.2.1=y.2.2

theorem OwedA.split {P:Program} {κ:List (Nat × Bool)} {C:World→Prop} {bs:List (Bool × Bool)} {x:Out} {y:Acc} (h:OwedA P κ C (y.join bs x)):AllEq bs∧Owed P κ C x∧OwedA P κ C y:=by
  obtain ⟨h1,h2,h3,h4,h5,h6⟩:=h
  have b1:=allEq_append h2
  have b2:=allEq_append b1.2
  have a1:=allEq_append h1
  exact ⟨b1.1,⟨a1.1,b2.1,fun z hz=>h3 z (List.mem_append_left _ hz),fun w hw z hz=>h4 w hw z (List.mem_append_left _ hz),fun w hw z hz=>h5 w hw z (List.mem_append_left _ hz),fun z hz=>h6 z (List.mem_append_left _ hz)⟩,
    ⟨a1.2,b2.2,fun z hz=>h3 z (List.mem_append_right _ hz),fun w hw z hz=>h4 w hw z (List.mem_append_right _ hz),fun w hw z hz=>h5 w hw z (List.mem_append_right _ hz),fun z hz=>h6 z (List.mem_append_right _ hz)⟩⟩

theorem RSt.put {N:Nat} {κ:List (Nat × Bool)} {R:List Ent} {a:Act} (h:RSt N κ R a) {o:Oper} (hd:dstOk N o=true) {p:List (Nat × Bool)} {v u:Value} (hu:u=if pv κ p=true then v else undef):RSt N κ (setR R o p v) (a.put o.dst u):=by
  unfold dstOk at hd
  unfold setR
  cases ho:o.dst with
  | none=>exact h
  | some t =>
    rw [ho] at hd
    simp only [Nat.blt_eq] at hd
    refine ⟨h.defers,by simp [Act.put,h.size],fun t' e he=>?_⟩
    simp only [look] at he
    simp only [Act.put]
    cases hb:Nat.beq t t' with
    | true =>
      rw [hb] at he
      simp only [cond_true,Option.some.injEq] at he
      subst he
      obtain rfl:=Nat.eq_of_beq_eq_true hb
      rw [Array.getElem?_setIfInBounds_self_of_lt (by rw [h.size]; exact hd)]
      rw [hu]; rfl
    | false =>
      rw [hb] at he
      simp only [cond_false] at he
      rw [Array.getElem?_setIfInBounds_ne (by rintro rfl; simp at hb)]
      exact h.at_ t' e he

def keep (R:List Ent):List Nat→Option (List Ent)
  | []=>some []
  | t::ts=>match look R t,keep R ts with
    | some ⟨_,[],v⟩,some T=>some (⟨t,[],v⟩::T)
    | _,_=>none

theorem keep_spec {R:List Ent}:∀ {ts:List Nat} {T:List Ent},keep R ts=some T→∀ t e,look T t=some e→∃ t',look R t=some ⟨t',[],e.v⟩∧e.p=[]
  | [],T,h,t,e,he=>by simp only [keep,Option.some.injEq] at h; subst h; simp [look] at he
  | s::ts,T,h,t,e,he=>by
    simp only [keep] at h
    split at h
    · rename_i _ _ t' v T' h1 h2
      simp only [Option.some.injEq] at h
      subst h
      simp only [look] at he
      cases hb:Nat.beq s t with
      | true =>
        rw [hb] at he
        simp only [cond_true,Option.some.injEq] at he
        subst he
        obtain rfl:=Nat.eq_of_beq_eq_true hb
        exact ⟨_,h1,rfl⟩
      | false =>
        rw [hb] at he
        simp only [cond_false] at he
        exact keep_spec h2 t e he
    · simp at h

theorem RSt.keep {N:Nat} {κ κ':List (Nat × Bool)} {R T:List Ent} {a:Act} (h:RSt N κ R a) {ts:List Nat} (hk:SX.keep R ts=some T):RSt N κ' T a :=
  ⟨h.defers,h.size,fun t e he=>by
    obtain ⟨t',h1,h2⟩:=keep_spec hk t e he
    rw [h.at_ t _ h1]
    simp [Ent.den,h2,pv]⟩

theorem Cells.below {w w':World} {M:Mem} (h:Cells w M) (hb:Below w.heap.size w w'):Cells w' M :=
  fun x hx=>(hb.cell (World.block_lt_of_cell? w x.1 (h x hx))).trans (h x hx)

abbrev IxL:=List (List (Nat × Bool) × Addr × Nat × Int × Nat × Addr)
abbrev HsL:=List (List (Nat × Bool) × Sem Next × Value)
abbrev CsL:=List (List (Nat × Bool) × FuncId × Array Value × Value)
abbrev EsL:=List (List (Nat × Bool) × Value × Value)

def IxOk (κ:List (Nat × Bool)):IxL→Prop
  | []=>True
  | y::l=>(pv κ y.1=true→0≤y.2.2.2.1∧y.2.2.2.1<y.2.2.1∧y.2.1.add (y.2.2.2.1.toNat*y.2.2.2.2.1)=y.2.2.2.2.2)∧IxOk κ l
def HsOk (P:Program) (κ:List (Nat × Bool)) (w:World):HsL→Prop
  | []=>True
  | y::l=>(pv κ y.1=true→y.2.1.run P w=.ok (.value y.2.2) w)∧HsOk P κ w l
def CsOk (P:Program) (κ:List (Nat × Bool)) (w:World):CsL→Prop
  | []=>True
  | y::l=>(pv κ y.1=true→Calls P y.2.1 y.2.2.1 w (fun e w'=>e=.returned y.2.2.2∧Below w.heap.size w w'))∧CsOk P κ w l
def EsOk (κ:List (Nat × Bool)):EsL→Prop
  | []=>True
  | y::l=>(pv κ y.1=true→y.2.1=y.2.2)∧EsOk κ l
theorem EsOk.mem {κ:List (Nat × Bool)}:∀ {l:EsL},EsOk κ l→∀ y∈l,pv κ y.1=true→y.2.1=y.2.2
  | x::l,h,y,hy=>by
    rcases List.mem_cons.1 hy with rfl | hy
    · exact h.1
    · exact EsOk.mem h.2 y hy
theorem IxOk.mem {κ:List (Nat × Bool)}:∀ {l:IxL},IxOk κ l→∀ y∈l,pv κ y.1=true→0≤y.2.2.2.1∧y.2.2.2.1<y.2.2.1∧y.2.1.add (y.2.2.2.1.toNat*y.2.2.2.2.1)=y.2.2.2.2.2
  | x::l,h,y,hy=>by
    rcases List.mem_cons.1 hy with rfl | hy
    · exact h.1
    · exact IxOk.mem h.2 y hy
theorem HsOk.mem {P:Program} {κ:List (Nat × Bool)} {w:World}:∀ {l:HsL},HsOk P κ w l→∀ y∈l,pv κ y.1=true→y.2.1.run P w=.ok (.value y.2.2) w
  | x::l,h,y,hy=>by
    rcases List.mem_cons.1 hy with rfl | hy
    · exact h.1
    · exact HsOk.mem h.2 y hy
theorem CsOk.mem {P:Program} {κ:List (Nat × Bool)} {w:World}:∀ {l:CsL},CsOk P κ w l→∀ y∈l,pv κ y.1=true→Calls P y.2.1 y.2.2.1 w (fun e w'=>e=.returned y.2.2.2∧Below w.heap.size w w')
  | x::l,h,y,hy=>by
    rcases List.mem_cons.1 hy with rfl | hy
    · exact h.1
    · exact CsOk.mem h.2 y hy

def initT:Nat→List Value→List Ent
  | _,[]=>[]
  | i,v::l=>⟨i,[],v⟩::initT (i+1) l

theorem look_initT:∀ (l:List Value) (i t:Nat) (e:Ent),look (initT i l) t=some e→e.p=[]∧i≤t∧l[t-i]?=some e.v
  | [],_,_,_,h=>by simp [initT,look] at h
  | v::l,i,t,e,h=>by
    simp only [initT,look] at h
    cases hb:Nat.beq i t with
    | true =>
      rw [hb] at h
      simp only [cond_true,Option.some.injEq] at h
      subst h
      obtain rfl:=Nat.eq_of_beq_eq_true hb
      simp
    | false =>
      rw [hb] at h
      obtain ⟨h1,h2,h3⟩:=look_initT l (i+1) t e h
      refine ⟨h1,by omega,?_⟩
      rw [show t-i=(t-(i+1))+1 by omega]
      simpa using h3

theorem enter {P:Program} {f:FuncId} {fn:Func} {c:Code} {w:World} {Rp:Ending→World→Prop} (args:List Value) (N:Nat) (hf:P.funcs[f]?=some fn) (hb:fn.body=some c) (hN:fn.ntmps=N) (hle:Nat.ble args.length N=true)
    (h:∀ a,RSt N [] (initT 0 args) a→c.wp P (bodyPost P fn Rp) a w):Calls P f args.toArray w Rp:=by
  refine calls_of_wp hf hb (h _ ⟨rfl,?_,fun t e he=>?_⟩)
  · have:=Nat.le_of_ble_eq_true hle
    simp [hN]; omega
  · obtain ⟨h1,_,h3⟩:=look_initT args 0 t e he
    simp only [Nat.sub_zero] at h3
    have hl:=(List.getElem?_eq_some_iff.1 h3).1
    rw [Array.getElem?_append_left (by simpa using hl)]
    simp [h3,Ent.den,h1,pv]

def valOf (R:List Ent) (x:Operand):Option Value:=bif okOpd R [] x then some (rho R x) else none

theorem RSt.val {N:Nat} {κ:List (Nat × Bool)} {R:List Ent} {a:Act} (h:RSt N κ R a) {x:Operand} {v:Value} (hv:valOf R x=some v):a.eval x=v:=by
  unfold valOf at hv
  cases hx:okOpd R [] x with
  | false=>rw [hx] at hv; simp at hv
  | true=>rw [hx] at hv; simp only [cond_true,Option.some.injEq] at hv; rw [← hv]; exact h.eval rfl hx

theorem wrap_ok {z:Int} (h:-9223372036854775808≤z∧z≤9223372036854775807):Value.int .i64 (IntKind.i64.wrap z)=.int .i64 z:=by
  rw [IntWalk.i64_in z h]
def setBlk (w:World) (n:Nat) (ob:Obj):World:={ w with heap:=w.heap.setIfInBounds n ob }

/-- which blocks but one are as they were -/
structure But (n:Nat) (w w':World):Prop where
  os:w'.os=w.os
  tape:w'.tape=w.tape
  output:w'.output=w.output
  size:w'.heap.size=w.heap.size
  block:∀ k,k≠n→w'.heap[k]?=w.heap[k]?

theorem But.cell {n:Nat} {w w':World} (h:But n w w') {p:Addr} (hp:p.block≠n):w'.cell? p=w.cell? p:=World.cell?_of_block (w:=w) (h.block p.block hp)
theorem But.below {n B:Nat} {w w':World} (h:But n w w') (hB:B≤n):Below B w w':=⟨h.os,h.tape,h.output,by rw [h.size]; exact Nat.le_refl _,fun k hk=>h.block k (by omega)⟩

/-- two pieces of code,cut apart -/
theorem seq_cut {P:Program} {x y:Code} {Q:Exit→Act→World→Prop} {a:Act} {w:World} (Post:Act→World→Prop) (hx:x.wp P (Exit.then Post Q) a w) (hy:∀ a' w',Post a' w'→y.wp P Q a' w'):(Code.seq x y).wp P Q a w :=
  wp_seq (wp_mono hx fun e a' w' h=>by cases e <;> first | exact hy _ _ h | exact h)

/-! regions that only read,told by what they change -/
section
variable {P:Program} {id N:Nat} {draw:Bool} {Q:Exit→Act→World→Prop} {l:List Oper} {a:Act} {w w0:World} {R T:List Ent} {M:Mem} {rest:Code}
end
end Go.SX
namespace Go
@[match_pattern] abbrev Value.I (x : Int) : Value := .int .i64 x
@[match_pattern] abbrev Value.P (b : Nat) : Value := .pointer (some ⟨b, 0, none⟩)
end Go
namespace Go.SX
open Go.RowKit
end Go.SX
