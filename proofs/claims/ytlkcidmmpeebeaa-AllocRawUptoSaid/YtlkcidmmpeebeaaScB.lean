/- Proved: a region that draws its order,whose operations that change the world come one after another,may be walked in one order: first all that only reads,then the next one that changes the world,and so on. Conditions: the reads yield the same in every world that meets S,and S holds behind every operation but the last ones (number n and later),which wait for all the others. -/
import Derived.Deep.QuietTactic
import Derived.StillTail
import Derived.OrdersHeld
import Derived.Test.YtlkcidmmpeebeaaSx
set_option linter.unusedVariables false
set_option linter.unusedSimpArgs false
namespace Go.Lex

/-- operations that never enter a function -/
def quietKind:Op→Bool
  | .move _ | .assign _ | .pick .. | .build .. | .load .. | .binOp .. | .unOp .. | .convert .. | .slice .. | .fieldAddr .. | .field .. | .indexAddr .. | .index .. | .extract .. | .makeFunc .. | .nilCheck ..=>true
  | .call { callee:=.builtin .len,.. } | .call { callee:=.builtin .min,.. } | .call { callee:=.builtin .max,.. }=>true
  | _=>false

theorem run_v (P:Program) (s:Sem Value) (w:World) (f:FuncId) (args:Array Value) (w':World):((do pure (.value (← s))):Sem Next).run P w≠.ok (.enter f args) w':=by
  intro h
  rw [Sem.run_bind] at h
  cases hs:s.run P w with
  | ok a w1=>rw [hs] at h; simp [Result.andThen,Sem.run] at h
  | halt x w1=>rw [hs] at h; simp [Result.andThen] at h

theorem noEnter {P:Program} {ρ:Operand→Value} {o:Oper} (h:quietKind o.op=true) (w:World) (f:FuncId) (args:Array Value) (w':World):(execOp ρ o).run P w≠.ok (.enter f args) w':=by
  unfold execOp
  cases ho:o.op <;> rw [ho] at h <;> simp only [quietKind,Bool.false_eq_true] at h
  case move=>simp [Sem.run]
  case assign=>simp [Sem.run]
  case nilCheck x =>
    have bnd:∀ {α:Type} (s:Sem α) (k:α→Sem Next) (w:World),(∀ a w1,(k a).run P w1≠.ok (.enter f args) w')→(s >>= k).run P w≠.ok (.enter f args) w':=fun s k w hk hh=>by
      rw [Sem.run_bind] at hh
      cases hs:s.run P w with
      | ok a w1=>rw [hs] at hh; exact hk a w1 hh
      | halt x w1=>rw [hs] at hh; simp [Result.andThen] at hh
    have pan:∀ (w:World),(runtimePanic .nilDeref:Sem Next).run P w≠.ok (.enter f args) w':=fun w hh=>by
      simp [runtimePanic,goPanic,Sem.run] at hh
    simp only
    split
    · exact pan _
    · exact pan _
    · exact pan _
    · split
      · exact pan _
      · refine bnd _ _ _ fun a w1=>bnd _ _ _ fun a w1=>?_
        split
        · refine bnd _ _ _ fun a w1=>?_
          simp [Sem.run]
        · simp [Sem.run]
      · simp [Sem.run]
    · simp [Sem.run]
  case pick c a b =>
    intro hh
    simp only [Sem.run_bind] at hh
    cases hs:(asBool (ρ c)).run P w with
    | ok a w1=>rw [hs] at hh; simp [Result.andThen,Sem.run] at hh
    | halt x w1=>rw [hs] at hh; simp [Result.andThen] at hh
  case call c =>
    obtain ⟨callee,as,ats⟩:=c
    cases callee with
    | value f=>simp at h
    | invoke r m=>simp at h
    | builtin b =>
      have key:∀ s:Sem Value,((do let d ← resolve ρ { callee:=.builtin b,args:=as,argTypes:=ats } o.type; invoke d.target d.args):Sem Next)=(do pure (.value (← s)))→((do let d ← resolve ρ { callee:=.builtin b,args:=as,argTypes:=ats } o.type; invoke d.target d.args):Sem Next).run P w≠.ok (.enter f args) w':=fun s hs=>by
        rw [hs]; exact run_v P s w f args w'
      cases b <;> simp at h <;> exact key _ rfl
  all_goals exact run_v P _ w f args w'

section
variable {P:Program} {ops:Array Oper} {Q:Exit→Act→World→Prop} {md:Region.Mode} {S:World→Prop} {n:Nat}

/-- a world that meets S -/
structure HW (S:World→Prop) where
  w:World
  ok:S w

/-- the class of the worlds that meet S -/
def Cl (S:World→Prop):World→Prop:=fun w'=>∃ p:HW S,w'=p.w

def YieldsQ (P:Program) (ops:Array Oper) (S:World→Prop) (o:Oper) (v:Value) (a:Act):Prop :=
  (Region.wanted o (yielded ops a.tmps)=true∧quietKind o.op=true∧∀ w,S w→o.quietAt P a (Cl S) w v) ∨
  (Region.wanted o (yielded ops a.tmps)=false∧v=undef)

theorem upon_of_quiet {o:Oper} {a:Act} {v:Value} {w:World} {K:Act→World→Prop} (hk:quietKind o.op=true) (h:o.quietAt P a (Cl S) w v) (hK:K (a.put o.dst v) w):o.wp P a w K Q:=by
  unfold Oper.quietAt at h
  unfold Oper.wp
  have hne:=noEnter (P:=P) (ρ:=a.eval) hk w
  generalize (execOp a.eval o).run P w=r at *
  cases r with
  | ok x w' =>
    cases x <;> simp only [Oper.quietUpon] at h <;> simp only [Oper.upon]
    case value u=>obtain ⟨rfl,rfl⟩:=h; exact hK
    case skip=>obtain ⟨rfl,rfl⟩:=h; exact hK
    case enter f args=>exact absurd rfl (hne f args w')
  | halt x w'=>simp only [Oper.quietUpon] at h

theorem YieldsQ.wpOp {i:Nat} {o:Oper} {v:Value} {a:Act} (hi:ops[i]?=some o) (hy:YieldsQ P ops S o v a)
    {K:Act→World→Prop} {w:World} (hS:S w) (h:K (a.put o.dst v) w):wpOp P ops Q i K a w:=by
  unfold Go.wpOp
  simp only [hi]
  rcases hy with ⟨hw,hk,hv⟩ | ⟨hw,rfl⟩
  · simp only [hw,if_true]
    exact .inl (upon_of_quiet hk (hv w hS) h)
  · simp only [hw,Bool.false_eq_true,if_false]; exact h

theorem YieldsQ.of_same {o:Oper} {v:Value} {a a':Act} (hy:YieldsQ P ops S o v a) (he:execOp a'.eval o=execOp a.eval o)
    (hw:Region.wanted o (yielded ops a'.tmps)=Region.wanted o (yielded ops a.tmps)):YieldsQ P ops S o v a':=by
  unfold YieldsQ Oper.quietAt at *
  rw [he,hw]
  exact hy

theorem wpOp_putQ {j:Nat} {oi oj:Oper} {v:Value} (hj:ops[j]?=some oj) (hap:oi.apart ops oj=true)
    (hsi:∀ cs b,oi.op≠.select cs b) (hsj:∀ cs b,oj.op≠.select cs b)
    (hQ:∀ c a w,Q (.panic c) (a.put oi.dst v) w→Q (.panic c) a w) {K:Act→World→Prop} {a:Act} {w:World}
    (hy:YieldsQ P ops S oi v a) (h:wpOp P ops Q j K (a.put oi.dst v) w) :
    wpOp P ops Q j (fun a' w'=>YieldsQ P ops S oi v a'∧K (a'.put oi.dst v) w') a w:=by
  obtain ⟨h1,h2,h3⟩:=Oper.apart_spec hap
  have keep:∀ (a:Act),YieldsQ P ops S oi v a→∀ u,YieldsQ P ops S oi v (a.put oj.dst u):=fun a hy u =>
    hy.of_same (execOp_put oi hsi a oj.dst u h3) (wanted_put oi a oj.dst u h3)
  have keepD:∀ d,YieldsQ P ops S oi v { a with defers:=d::a.defers }:=fun d=>hy.of_same rfl rfl
  unfold wpOp at *
  simp only [hj] at *
  rw [wanted_put oj a oi.dst v h1] at h
  split
  · rename_i hw
    simp only [hw,if_true] at h
    rcases h with h | ⟨hasks,hlets⟩
    case inr=>exact .inr ⟨by unfold Oper.asks at *; rw [execOp_put oj hsj a oi.dst v h1] at hasks; exact hasks,hlets⟩
    refine .inl ?_
    unfold Oper.wp at *
    rw [execOp_put oj hsj a oi.dst v h1] at h
    generalize (execOp a.eval oj).run P w=r at *
    cases r with
    | ok n w' =>
      cases n <;> simp only [Oper.upon] at h ⊢
      case value u=>exact ⟨keep a hy u,by rw [← Act.put_comm a v u h2]; exact h⟩
      case skip=>exact ⟨keep a hy _,by rw [← Act.put_comm a v undef h2]; exact h⟩
      case defer d =>
        refine ⟨keep _ (keepD d) _,?_⟩
        rw [← Act.put_comm _ v undef h2,← Act.put_defers]
        exact h
      case enter f args =>
        refine Calls.mono h fun e w'' he=>?_
        cases e with
        | returned u=>exact ⟨keep a hy u,by rw [← Act.put_comm a v u h2]; exact he⟩
        | panicked c=>exact hQ _ _ _ he
        | outgrown=>exact he
      case row row args=>exact Rows.mono h fun u w'' he=>⟨keep a hy u,by rw [← Act.put_comm a v u h2]; exact he⟩
    | halt x w' =>
      cases x <;> simp only [Oper.upon] at h ⊢
      case panic u=>exact hQ _ _ _ h
  · rename_i hw
    simp only [hw] at h
    exact ⟨keep a hy _,by rw [← Act.put_comm a v undef h2]; exact h⟩

/-- whatever order is picked from here on,and S holds behind every operation below n -/
def wpAnyT (P:Program) (md:Region.Mode) (ops:Array Oper) (Q:Exit→Act→World→Prop) (S:World→Prop) (n:Nat):Nat→Array Bool→Act→World→Prop
  | 0,listed,a,w=>Region.ready md ops listed=[]∧Q .normal a w
  | fuel+1,listed,a,w =>
    (Region.ready md ops listed=[]→Q .normal a w) ∧
    ∀ i∈Region.ready md ops listed,wpOp P ops Q i (fun a' w'=>(i<n→S w')∧wpAnyT P md ops Q S n fuel (listed.setIfInBounds i true) a' w') a w

theorem wpAny_of_T:∀ (fuel:Nat) (listed:Array Bool) (a:Act) (w:World),wpAnyT P md ops Q S n fuel listed a w→wpAny P md ops Q fuel listed a w
  | 0,_,_,_,h=>h
  | fuel+1,_,_,_,h=>⟨h.1,fun i hi=>wpOp_mono (fun a' w' h'=>wpAny_of_T fuel _ a' w' h'.2) (h.2 i hi)⟩

/-- while one of the first n has not come up,none of the others can -/
def Waits (md:Region.Mode) (ops:Array Oper) (n:Nat):Prop :=
  ∀ listed,HeadInv md ops n listed→∀ i,i<n→listed.getD i true=false→∀ t,n≤t→t ∉ Region.ready md ops listed

def waitsB (md:Region.Mode) (ops:Array Oper) (n:Nat):Bool :=
  decide (ops.size≤n)||(decide (n<ops.size)&&Region.sinkB md ops n&&Region.chainB md ops n)

theorem waits_of (h:waitsB md ops n=true):Waits md ops n:=by
  intro listed inv i hi hun t ht
  simp only [waitsB,Bool.or_eq_true,Bool.and_eq_true,decide_eq_true_eq] at h
  rcases h with h | ⟨⟨h1,h2⟩,h3⟩
  · intro hr
    obtain ⟨_,ot,hot,_⟩:=mem_ready.1 hr
    have:=(Array.getElem?_eq_some_iff.1 hot).1
    omega
  · exact tail_waits h2 h3 h1 inv _ i rfl hi hun t ht

theorem wpAnyT_first {i:Nat} {oi:Oper} {v:Value} (hW:Waits md ops n) (hin:i<n) (hi:ops[i]?=some oi) (hsel:∀ (j:Nat) (o:Oper) cs b,ops[j]?=some o→o.op≠.select cs b)
    (hQ:∀ c a w,Q (.panic c) (a.put oi.dst v) w→Q (.panic c) a w) :
    ∀ (fuel:Nat) (listed:Array Bool) (a:Act) (w:World),HeadInv md ops n listed →
      (∀ j oj,ops[j]?=some oj→j≠i→listed.getD j true=false→(∀ e∈oj.after,Region.binds md e=true→e.on≠i)→oi.apart ops oj=true) →
      i∈Region.ready md ops listed→YieldsQ P ops S oi v a→S w →
      wpAnyT P md ops Q S n fuel (listed.setIfInBounds i true) (a.put oi.dst v) w→wpAnyT P md ops Q S n (fuel+1) listed a w:=by
  intro fuel
  induction fuel with
  | zero =>
    intro listed a w _ _ hr hy hS H
    refine ⟨fun h=>(by rw [h] at hr; cases hr),fun j hj=>?_⟩
    by_cases hji:j=i
    · subst hji; exact hy.wpOp hi hS ⟨fun _=>hS,H⟩
    · have:=ready_mono hj hji
      rw [H.1] at this
      cases this
  | succ fuel ih =>
    intro listed a w inv hfree hr hy hS H
    refine ⟨fun h=>(by rw [h] at hr; cases hr),fun j hj=>?_⟩
    by_cases hji:j=i
    · subst hji; exact hy.wpOp hi hS ⟨fun _=>hS,H⟩
    · have h1:=H.2 j (ready_mono hj hji)
      have hjn:j<n:=by
        rcases Nat.lt_or_ge j n with h | h
        · exact h
        · exact absurd hj (hW listed inv i hin (mem_ready.1 hr).1 j h)
      obtain ⟨hjun,oj,hoj,hall⟩:=mem_ready.1 hj
      have hnot:∀ e∈oj.after,Region.binds md e=true→e.on≠i:=fun e he hb heq=>by
        have h1:=hall e he hb
        have h0:=(mem_ready.1 hr).1
        rw [heq] at h1
        rcases Nat.lt_or_ge i listed.size with h' | h'
        · simp [h'] at h0 h1; rw [h0] at h1; cases h1
        · simp [Array.getElem?_eq_none h'] at h1
      have h2:=wpOp_putQ hoj (hfree j oj hoj hji hjun hnot) (fun cs b=>hsel i oi cs b hi) (fun cs b=>hsel j oj cs b hoj) hQ hy h1
      have hfree':∀ k ok,ops[k]?=some ok→k≠i→(listed.setIfInBounds j true).getD k true=false →
          (∀ e∈ok.after,Region.binds md e=true→e.on≠i)→oi.apart ops ok=true:=fun k ok hk hki hun hno=>by
        refine hfree k ok hk hki ?_ hno
        by_cases hjk:j=k
        · subst hjk; exact hjun
        · rw [getD_set_ne true hjk] at hun; exact hun
      refine wpOp_mono (fun a' w' h3=>⟨fun _=>h3.2.1 hjn,ih (listed.setIfInBounds j true) a' w' (inv.set hj hjn) hfree' (ready_mono hr (Ne.symm hji)) h3.1 (h3.2.1 hjn) ?_⟩) h2
      rw [Array.setIfInBounds_comm _ _ hji]
      exact h3.2.2

/-- the walk of a plan: groups of operations that only read,each followed by one that changes the world -/
def LexW (P:Program) (ops:Array Oper) (S:World→Prop) (n:Nat) (Q:Exit→Act→World→Prop):List (List Nat × Option Nat)→Act→World→Prop
  | [],a,w=>Q .normal a w
  | (qs,none)::rest,a,w=>wpQuiet P ops (Cl S) (fun a'=>LexW P ops S n Q rest a' w) (qs.filterMap (ops[·]?)) a
  | (qs,some i)::rest,a,w=>wpQuiet P ops (Cl S) (fun a'=>wpList P ops (Exit.then (fun a'' w''=>(i<n→S w'')∧LexW P ops S n Q rest a'' w'') Q) (ops[i]?).toList a' w) (qs.filterMap (ops[·]?)) a

def quietsB (md:Region.Mode) (ops:Array Oper) (n:Nat):List Nat→Array Bool→Bool
  | [],_=>true
  | q::qs,listed=>(Region.ready md ops listed).contains q&&Region.free md ops listed q&&decide (q<n)&&((ops[q]?).map (fun o=>quietKind o.op)).getD false&&quietsB md ops n qs (listed.setIfInBounds q true)

def setAll:List Nat→Array Bool→Array Bool
  | [],listed=>listed
  | q::qs,listed=>setAll qs (listed.setIfInBounds q true)

def planB (md:Region.Mode) (ops:Array Oper) (n:Nat):List (List Nat × Option Nat)→Array Bool→Bool
  | [],listed=>(Region.ready md ops listed).isEmpty
  | (qs,none)::rest,listed=>quietsB md ops n qs listed&&planB md ops n rest (setAll qs listed)
  | (qs,some i)::rest,listed=>quietsB md ops n qs listed&&decide (Region.ready md ops (setAll qs listed)=[i])&&(decide (i<n)||rest.all (fun s=>s.1.isEmpty))&&planB md ops n rest ((setAll qs listed).setIfInBounds i true)

def planLen:List (List Nat × Option Nat)→Nat
  | []=>0
  | (qs,none)::rest=>qs.length+planLen rest
  | (qs,some _)::rest=>qs.length+(1+planLen rest)

theorem wp_then {o:Oper} {a:Act} {w:World} {K:Act→World→Prop} (h:o.wp P a w K (Exit.then K Q)):o.wp P a w K Q:=by
  unfold Oper.wp at *
  generalize (execOp a.eval o).run P w=r at *
  cases r with
  | ok x w' =>
    cases x <;> simp only [Oper.upon] at h ⊢ <;> exact h
  | halt x w'=>cases x <;> simp only [Oper.upon] at h ⊢ <;> exact h

theorem wpOp_of_list {i:Nat} {o:Oper} {a:Act} {w:World} {K:Act→World→Prop} (hi:ops[i]?=some o) (h:wpList P ops (Exit.then K Q) [o] a w):wpOp P ops Q i K a w:=by
  unfold wpOp
  simp only [hi]
  unfold wpList at h
  split
  · rename_i hw
    simp only [hw,if_true] at h
    rcases h with h | ⟨h1,h2⟩
    · exact .inl (wp_then (Oper.wp_mono (fun _ _ h=>h) h))
    · exact .inr ⟨h1,h2⟩
  · rename_i hw
    simp only [hw] at h
    exact h

theorem inv_setAll:∀ (qs:List Nat) (listed:Array Bool),HeadInv md ops n listed→quietsB md ops n qs listed=true→HeadInv md ops n (setAll qs listed)
  | [],_,inv,_=>inv
  | q::qs,listed,inv,h=>by
    simp only [quietsB,Bool.and_eq_true,decide_eq_true_eq] at h
    exact inv_setAll qs _ (inv.set (by simpa using h.1.1.1.1) h.1.1.2) h.2

theorem lex_quiets (hW:Waits md ops n) (hsel:Region.noSelect ops=true) (hQ:∀ c (a:Act) d v w,Q (.panic c) (a.put d v) w→Q (.panic c) a w) :
    ∀ (qs:List Nat) (fuel:Nat) (listed:Array Bool) (a:Act) (w:World),HeadInv md ops n listed→quietsB md ops n qs listed=true→S w →
      wpQuiet P ops (Cl S) (fun a'=>wpAnyT P md ops Q S n fuel (setAll qs listed) a' w) (qs.filterMap (ops[·]?)) a→wpAnyT P md ops Q S n (qs.length+fuel) listed a w
  | [],fuel,listed,a,w,_,_,_,h=>by
    have h':wpAnyT P md ops Q S n fuel listed a w:=h
    simpa using h'
  | q::qs,fuel,listed,a,w,inv,hB,hS,h=>by
    simp only [quietsB,Bool.and_eq_true,decide_eq_true_eq] at hB
    obtain ⟨⟨⟨⟨hr,hf⟩,hqn⟩,hk⟩,hrest⟩:=hB
    have hr':q∈Region.ready md ops listed:=by simpa using hr
    cases ho:ops[q]? with
    | none=>rw [ho] at hk; simp at hk
    | some o =>
      rw [ho] at hk
      simp only [Option.map_some,Option.getD_some] at hk
      rw [List.filterMap_cons_some ho] at h
      rw [show (q::qs).length+fuel=(qs.length+fuel)+1 by simp; omega]
      simp only [wpQuiet] at h
      split at h
      · rename_i hw
        obtain ⟨v,hv,hn⟩:=h
        exact wpAnyT_first hW hqn ho (Region.noSelect_spec hsel) (fun c a w=>hQ c a _ _ w) _ listed a w inv (Region.free_spec ho hf) hr' (.inl ⟨hw,hk,fun w hS=>hv w ⟨⟨w,hS⟩,rfl⟩⟩) hS
          (lex_quiets hW hsel hQ qs fuel _ _ w (inv.set hr' hqn) hrest hS hn)
      · rename_i hw
        exact wpAnyT_first hW hqn ho (Region.noSelect_spec hsel) (fun c a w=>hQ c a _ _ w) _ listed a w inv (Region.free_spec ho hf) hr' (.inr ⟨by simpa using hw,rfl⟩) hS
          (lex_quiets hW hsel hQ qs fuel _ _ w (inv.set hr' hqn) hrest hS h)

end
end Go.Lex

/- Proved: a region that draws its order,walked by tables: what only reads is taken as soon as it can be,and of the others each that may come next. Program-independent. -/
namespace Go.SX
open Go.RowKit Go.Lex

def CutQ (Post:Act→World→Prop):Exit→Act→World→Prop:=fun e a' w'=>e=.normal∧Post a' w'

/-- a region,cut off from what follows it -/
theorem region_cut {P:Program} {c:Code} {Q:Exit→Act→World→Prop} {a:Act} {w:World} (Post:Act→World→Prop) (h:c.wp P (CutQ Post) a w) (k:∀ a' w',Post a' w'→Q .normal a' w'):c.wp P Q a w :=
  wp_mono h fun e a' w' ⟨he,hp⟩=>by subst he; exact k a' w' hp

/-- whatever comes next -/
def Any (P:Program) (ops:Array Oper) (Post:Act→World→Prop) (M:Mem) (n fuel:Nat) (listed:Array Bool) (a:Act) (w:World):Prop :=
  HeadInv .any ops n listed→wpAnyT P .any ops (CutQ Post) (fun w'=>Cells w' M) n fuel listed a w

theorem any_start {P:Program} {id:Nat} {l:List Oper} {a:Act} {w:World} {M:Mem} {Post:Act→World→Prop} (n N0:Nat) (hN:l.length=N0) (hm:P.follows .mixedOrders=true)
    (hB:(waitsB .any l.toArray n&&Region.noSelect l.toArray)=true) (h:∀ w',Below w.heap.size w w'→w'.heap.size=w.heap.size→Any P l.toArray Post M n N0 (Array.replicate N0 false) a w'):(Code.region id l.toArray true).wp P (CutQ Post) a w:=by
  subst hN
  simp only [Bool.and_eq_true] at hB
  refine wp_region_any hm ?_
  have inv0:HeadInv .any l.toArray n (Array.replicate l.toArray.size false) :=
    ⟨by simp,fun j oj _ hl=>(by rw [getD_replicate_false] at hl; cases hl),fun t _ ht=>getD_in (by simpa using ht) (getD_replicate_false _ _)⟩
  have:=h w.drew ⟨rfl,rfl,rfl,Nat.le_refl _,fun _ _=>rfl⟩ rfl (by simpa using inv0)
  exact wpAny_of_T (n:=n) (S:=fun w'=>Cells w' M) _ _ _ _ (by simpa using this)

theorem any_quiet {P:Program} {ops:Array Oper} {Post:Act→World→Prop} {M:Mem} {n N:Nat} (fuel:Nat) {listed:Array Bool} {a:Act} {w:World} {κ:List (Nat × Bool)} {R:List Ent} (qs:List Nat) (ds:List Dir) (R':List Ent) (ixs:IxL) (hs:HsL) (es:EsL) (F:Nat) (hF:qs.length+fuel=F)
    (hR:RSt N κ R a) (hM:Cells w M) (hW:waitsB .any ops n=true) (hsel:Region.noSelect ops=true) (hq:quietsB .any ops n qs listed=true)
    (h:(grp P ops κ M N (qs.filterMap (ops[·]?)) ds R).map (fun x=>(x.R,x.ixs,x.hs,x.cs,x.es))=some (R',ixs,hs,[],es))
    (he:grpA P ops κ M N (qs.filterMap (ops[·]?)) ds R=grpB P ops κ M N (qs.filterMap (ops[·]?)) ds R) (hi:IxOk κ ixs) (hes:EsOk κ es) (hh:∀ w',Cells w' M→HsOk P κ w' hs)
    (k:∀ a',RSt N κ R' a'→Any P ops Post M n fuel (setAll qs listed) a' w):Any P ops Post M n F listed a w:=by
  subst hF
  intro inv
  refine lex_quiets (waits_of hW) hsel (fun c a d v w hc=>absurd hc.1 (by simp)) qs fuel listed a w inv hq hM ?_
  cases hg:grp P ops κ M N (qs.filterMap (ops[·]?)) ds R with
  | none=>rw [hg] at h; simp at h
  | some acc =>
    unfold grpA grpB at he
    rw [hg] at h he
    simp only [Option.map_some,Option.some.injEq,Prod.mk.injEq] at h he
    obtain ⟨rfl,rfl,rfl,h4,rfl⟩:=h
    refine grp_sound (C:=Cl (fun w'=>Cells w' M)) (fun w' hw'=>by obtain ⟨p,rfl⟩:=hw'; exact p.ok) _ ds R acc a hg hR
      ⟨allEq_of_map he.1,allEq_of_map he.2,hi.mem,fun w' hw'=>by obtain ⟨p,rfl⟩:=hw'; exact (hh p.w p.ok).mem,fun w' hw' y hy=>(by rw [h4] at hy; cases hy),hes.mem⟩ (fun a' ha'=>?_)
    exact k a' ha' (inv_setAll qs listed inv hq)

theorem inv_next {ops:Array Oper} {n i:Nat} {listed:Array Bool} {rs:List Nat} (inv:HeadInv .any ops n listed) (hr:Region.ready .any ops listed=rs) (hi:i∈rs) (hn:i<n):HeadInv .any ops n (listed.setIfInBounds i true):=inv.set (by rw [hr]; exact hi) hn

/-- what is owed for one operation that comes next -/
def Next1 (P:Program) (ops:Array Oper) (Post:Act→World→Prop) (M:Mem) (n fuel:Nat) (listed:Array Bool) (a:Act) (w:World) (i:Nat):Prop :=
  ∀ K:Act→World→Prop,(∀ a' w',(i<n→Cells w' M)→Any P ops Post M n fuel (listed.setIfInBounds i true) a' w'→K a' w')→wpList P ops (Exit.then K (CutQ Post)) ((ops[i]?).toList.drop 0) a w

theorem any_loud {P:Program} {ops:Array Oper} {Post:Act→World→Prop} {M:Mem} {n:Nat} (fuel:Nat) {listed:Array Bool} {a:Act} {w:World} (rs:List Nat) (F:Nat) (hF:fuel+1=F) (hr:Region.ready .any ops listed=rs) (hne:rs.isEmpty=false) (hn:rs.all (fun i=>Nat.blt i n)=true)
    (h:∀ i∈rs,Next1 P ops Post M n fuel listed a w i):Any P ops Post M n F listed a w:=by
  subst hF
  intro inv
  refine ⟨fun h0=>?_,fun i hi=>?_⟩
  · rw [hr] at h0; rw [h0] at hne; simp at hne
  · rw [hr] at hi
    obtain ⟨_,o,ho,_⟩:=mem_ready.1 (by rw [hr]; exact hi)
    have hin:i<n:=by
      have:=List.all_eq_true.1 hn i hi
      simpa using this
    have:=h i hi (fun a' w'=>(i<n→Cells w' M)∧wpAnyT P .any ops (CutQ Post) (fun w'=>Cells w' M) n fuel (listed.setIfInBounds i true) a' w') (fun a' w' h1 h2=>⟨h1,h2 (inv_next inv hr hi hin)⟩)
    rw [ho] at this
    exact wpOp_of_list ho this

theorem any_end {P:Program} {ops:Array Oper} {Post:Act→World→Prop} {M:Mem} {n:Nat} {listed:Array Bool} {a:Act} {w:World} (hr:Region.ready .any ops listed=[]) (h:Post a w):Any P ops Post M n 0 listed a w:=fun _=>⟨hr,rfl,h⟩
theorem next1_nil {P:Program} {ops:Array Oper} {Post:Act→World→Prop} {M:Mem} {n fuel:Nat} {listed:Array Bool} {a:Act} {w:World}:∀ i∈([]:List Nat),Next1 P ops Post M n fuel listed a w i:=fun i hi=>by cases hi
theorem next1_cons {P:Program} {ops:Array Oper} {Post:Act→World→Prop} {M:Mem} {n fuel:Nat} {listed:Array Bool} {a:Act} {w:World} {j:Nat} {rs:List Nat} (h:Next1 P ops Post M n fuel listed a w j) (h':∀ i∈rs,Next1 P ops Post M n fuel listed a w i):∀ i∈j::rs,Next1 P ops Post M n fuel listed a w i:=fun i hi=>by
  rcases List.mem_cons.1 hi with rfl | hi
  · exact h
  · exact h' i hi

/-- a contract: it returns,has only added memory,and of the answer this is known -/
def Ret (Φ:Value→World→Prop) (w:World):Ending→World→Prop:=fun e w'=>∃ v,e=.returned v∧Below w.heap.size w w'∧Φ v w'

theorem list_callR {P:Program} {N:Nat} {κ:List (Nat × Bool)} {R:List Ent} {Q:Exit→Act→World→Prop} {ops:Array Oper} {l:List Oper} {a:Act} {w:World} {Φ:Value→World→Prop} (k:Nat) (d:Nat) (f:FuncId) (args:Array Value) (hR:RSt N κ R a) (h:callOp P R (l.drop k)=some (some d,f,args)) (hd:Nat.blt d N=true)
    (hc:Calls P f args w (Ret Φ w))
    (kk:∀ v a' w',RSt N κ (⟨d,[],v⟩::R) a'→Below w.heap.size w w'→Φ v w'→wpList P ops Q (l.drop (k+1)) a' w'):wpList P ops Q (l.drop k) a w :=
  list_call k (some d) f args hR h hd hc (fun e w' ⟨v,he,_⟩=>⟨v,he⟩) fun v w' ⟨u,he,hb,hp⟩ a' ha'=>by
    injection he with he; subst he; exact kk v a' w' ha' hb hp
/-- a result that lies in memory -/
def cellS (ty:TypeId) (p:Value):Sem Value:=do loadVar ty (← asAddr p)
end Go.SX
