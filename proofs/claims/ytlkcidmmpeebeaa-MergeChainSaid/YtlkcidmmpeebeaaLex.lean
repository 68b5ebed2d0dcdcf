/- Proved: a region that draws its order,whose operations that change the world come one after another,may be walked in one order: first all that only reads,then the next one that changes the world,and so on. Conditions: the reads yield the same in every world that meets S,and S holds behind every operation but the last ones (number n and later),which wait for all the others. -/
import Derived.Deep.QuietTactic
import Derived.StillTail
import Derived.OrdersHeld
set_option linter.unusedVariables false
set_option linter.unusedSimpArgs false
namespace Go.Lex

/-- operations that never enter a function -/
def quietKind:Op→Bool
  | .move _ | .assign _ | .pick .. | .build .. | .load .. | .binOp .. | .unOp .. | .convert .. | .slice .. | .fieldAddr .. | .field .. | .indexAddr .. | .index .. | .extract .. | .makeFunc .. | .nilCheck ..=>true
  | .call { callee:=.builtin .len,.. } | .call { callee:=.builtin .min,.. } | .call { callee:=.builtin .max,.. }=>true
  | _=>false

theorem run_v (P:Program) (s:Sem Value) (w:World) (f:FuncId) (args:Array Value) (w':World):((do pure (.value (← s))):Sem Next).run P w≠.ok (.enter f args) w':=by
  intro h
  rw [Sem.run_bind] at h
  cases hs:s.run P w with
  | ok a w1=>rw [hs] at h; simp [Result.andThen,Sem.run] at h
  | halt x w1=>rw [hs] at h; simp [Result.andThen] at h

theorem noEnter {P:Program} {ρ:Operand→Value} {o:Oper} (h:quietKind o.op=true) (w:World) (f:FuncId) (args:Array Value) (w':World):(execOp ρ o).run P w≠.ok (.enter f args) w':=by
  unfold execOp
  cases ho:o.op <;> rw [ho] at h <;> simp only [quietKind,Bool.false_eq_true] at h
  case move=>simp [Sem.run]
  case assign=>simp [Sem.run]
  case nilCheck x =>
    have bnd:∀ {α:Type} (s:Sem α) (k:α→Sem Next) (w:World),(∀ a w1,(k a).run P w1≠.ok (.enter f args) w')→(s >>= k).run P w≠.ok (.enter f args) w':=fun s k w hk hh=>by
      rw [Sem.run_bind] at hh
      cases hs:s.run P w with
      | ok a w1=>rw [hs] at hh; exact hk a w1 hh
      | halt x w1=>rw [hs] at hh; simp [Result.andThen] at hh
    have pan:∀ (w:World),(runtimePanic .nilDeref:Sem Next).run P w≠.ok (.enter f args) w':=fun w hh=>by
      simp [runtimePanic,goPanic,Sem.run] at hh
    simp only
    split
    · exact pan _
    · exact pan _
    · exact pan _
    · split
      · exact pan _
      · refine bnd _ _ _ fun a w1=>bnd _ _ _ fun a w1=>?_
        split
        · refine bnd _ _ _ fun a w1=>?_
          simp [Sem.run]
        · simp [Sem.run]
      · simp [Sem.run]
    · simp [Sem.run]
  case pick c a b =>
    intro hh
    simp only [Sem.run_bind] at hh
    cases hs:(asBool (ρ c)).run P w with
    | ok a w1=>rw [hs] at hh; simp [Result.andThen,Sem.run] at hh
    | halt x w1=>rw [hs] at hh; simp [Result.andThen] at hh
  case call c =>
    obtain ⟨callee,as,ats⟩:=c
    cases callee with
    | value f=>simp at h
    | invoke r m=>simp at h
    | builtin b =>
      have key:∀ s:Sem Value,((do let d ← resolve ρ { callee:=.builtin b,args:=as,argTypes:=ats } o.type; invoke d.target d.args):Sem Next)=(do pure (.value (← s)))→((do let d ← resolve ρ { callee:=.builtin b,args:=as,argTypes:=ats } o.type; invoke d.target d.args):Sem Next).run P w≠.ok (.enter f args) w':=fun s hs=>by
        rw [hs]; exact run_v P s w f args w'
      cases b <;> simp at h <;> exact key _ rfl
  all_goals exact run_v P _ w f args w'

section
variable {P:Program} {ops:Array Oper} {Q:Exit→Act→World→Prop} {md:Region.Mode} {S:World→Prop} {n:Nat}

/-- a world that meets S -/
structure HW (S:World→Prop) where
  w:World
  ok:S w

/-- the class of the worlds that meet S -/
def Cl (S:World→Prop):World→Prop:=fun w'=>∃ p:HW S,w'=p.w

def YieldsQ (P:Program) (ops:Array Oper) (S:World→Prop) (o:Oper) (v:Value) (a:Act):Prop :=
  (Region.wanted o (yielded ops a.tmps)=true∧quietKind o.op=true∧∀ w,S w→o.quietAt P a (Cl S) w v) ∨
  (Region.wanted o (yielded ops a.tmps)=false∧v=undef)

theorem upon_of_quiet {o:Oper} {a:Act} {v:Value} {w:World} {K:Act→World→Prop} (hk:quietKind o.op=true) (h:o.quietAt P a (Cl S) w v) (hK:K (a.put o.dst v) w):o.wp P a w K Q:=by
  unfold Oper.quietAt at h
  unfold Oper.wp
  have hne:=noEnter (P:=P) (ρ:=a.eval) hk w
  generalize (execOp a.eval o).run P w=r at *
  cases r with
  | ok x w' =>
    cases x <;> simp only [Oper.quietUpon] at h <;> simp only [Oper.upon]
    case value u=>obtain ⟨rfl,rfl⟩:=h; exact hK
    case skip=>obtain ⟨rfl,rfl⟩:=h; exact hK
    case enter f args=>exact absurd rfl (hne f args w')
  | halt x w'=>simp only [Oper.quietUpon] at h

theorem YieldsQ.wpOp {i:Nat} {o:Oper} {v:Value} {a:Act} (hi:ops[i]?=some o) (hy:YieldsQ P ops S o v a)
    {K:Act→World→Prop} {w:World} (hS:S w) (h:K (a.put o.dst v) w):wpOp P ops Q i K a w:=by
  unfold Go.wpOp
  simp only [hi]
  rcases hy with ⟨hw,hk,hv⟩ | ⟨hw,rfl⟩
  · simp only [hw,if_true]
    exact .inl (upon_of_quiet hk (hv w hS) h)
  · simp only [hw,Bool.false_eq_true,if_false]; exact h

theorem YieldsQ.of_same {o:Oper} {v:Value} {a a':Act} (hy:YieldsQ P ops S o v a) (he:execOp a'.eval o=execOp a.eval o)
    (hw:Region.wanted o (yielded ops a'.tmps)=Region.wanted o (yielded ops a.tmps)):YieldsQ P ops S o v a':=by
  unfold YieldsQ Oper.quietAt at *
  rw [he,hw]
  exact hy

theorem wpOp_putQ {j:Nat} {oi oj:Oper} {v:Value} (hj:ops[j]?=some oj) (hap:oi.apart ops oj=true)
    (hsi:∀ cs b,oi.op≠.select cs b) (hsj:∀ cs b,oj.op≠.select cs b)
    (hQ:∀ c a w,Q (.panic c) (a.put oi.dst v) w→Q (.panic c) a w) {K:Act→World→Prop} {a:Act} {w:World}
    (hy:YieldsQ P ops S oi v a) (h:wpOp P ops Q j K (a.put oi.dst v) w) :
    wpOp P ops Q j (fun a' w'=>YieldsQ P ops S oi v a'∧K (a'.put oi.dst v) w') a w:=by
  obtain ⟨h1,h2,h3⟩:=Oper.apart_spec hap
  have keep:∀ (a:Act),YieldsQ P ops S oi v a→∀ u,YieldsQ P ops S oi v (a.put oj.dst u):=fun a hy u =>
    hy.of_same (execOp_put oi hsi a oj.dst u h3) (wanted_put oi a oj.dst u h3)
  have keepD:∀ d,YieldsQ P ops S oi v { a with defers:=d::a.defers }:=fun d=>hy.of_same rfl rfl
  unfold wpOp at *
  simp only [hj] at *
  rw [wanted_put oj a oi.dst v h1] at h
  split
  · rename_i hw
    simp only [hw,if_true] at h
    rcases h with h | ⟨hasks,hlets⟩
    case inr=>exact .inr ⟨by unfold Oper.asks at *; rw [execOp_put oj hsj a oi.dst v h1] at hasks; exact hasks,hlets⟩
    refine .inl ?_
    unfold Oper.wp at *
    rw [execOp_put oj hsj a oi.dst v h1] at h
    generalize (execOp a.eval oj).run P w=r at *
    cases r with
    | ok n w' =>
      cases n <;> simp only [Oper.upon] at h ⊢
      case value u=>exact ⟨keep a hy u,by rw [← Act.put_comm a v u h2]; exact h⟩
      case skip=>exact ⟨keep a hy _,by rw [← Act.put_comm a v undef h2]; exact h⟩
      case defer d =>
        refine ⟨keep _ (keepD d) _,?_⟩
        rw [← Act.put_comm _ v undef h2,← Act.put_defers]
        exact h
      case enter f args =>
        refine Calls.mono h fun e w'' he=>?_
        cases e with
        | returned u=>exact ⟨keep a hy u,by rw [← Act.put_comm a v u h2]; exact he⟩
        | panicked c=>exact hQ _ _ _ he
        | outgrown=>exact he
      case row row args=>exact Rows.mono h fun u w'' he=>⟨keep a hy u,by rw [← Act.put_comm a v u h2]; exact he⟩
    | halt x w' =>
      cases x <;> simp only [Oper.upon] at h ⊢
      case panic u=>exact hQ _ _ _ h
  · rename_i hw
    simp only [hw] at h
    exact ⟨keep a hy _,by rw [← Act.put_comm a v undef h2]; exact h⟩

theorem wpQuiet_mono {C:World→Prop} {K K':Act→Prop} (hK:∀ a,K a→K' a):∀ (l:List Oper) (a:Act),wpQuiet P ops C K l a→wpQuiet P ops C K' l a
  | [],a,h=>hK a h
  | o::l,a,h=>by
    simp only [wpQuiet] at h ⊢
    split
    · rename_i hw
      simp only [hw,if_true] at h
      exact Oper.quiet_mono (fun a' h'=>wpQuiet_mono hK l a' h') h
    · rename_i hw
      simp only [hw] at h
      exact wpQuiet_mono hK l _ h

/-- whatever order is picked from here on,and S holds behind every operation below n -/
def wpAnyT (P:Program) (md:Region.Mode) (ops:Array Oper) (Q:Exit→Act→World→Prop) (S:World→Prop) (n:Nat):Nat→Array Bool→Act→World→Prop
  | 0,listed,a,w=>Region.ready md ops listed=[]∧Q .normal a w
  | fuel+1,listed,a,w =>
    (Region.ready md ops listed=[]→Q .normal a w) ∧
    ∀ i∈Region.ready md ops listed,wpOp P ops Q i (fun a' w'=>(i<n→S w')∧wpAnyT P md ops Q S n fuel (listed.setIfInBounds i true) a' w') a w

theorem wpAny_of_T:∀ (fuel:Nat) (listed:Array Bool) (a:Act) (w:World),wpAnyT P md ops Q S n fuel listed a w→wpAny P md ops Q fuel listed a w
  | 0,_,_,_,h=>h
  | fuel+1,_,_,_,h=>⟨h.1,fun i hi=>wpOp_mono (fun a' w' h'=>wpAny_of_T fuel _ a' w' h'.2) (h.2 i hi)⟩

/-- while one of the first n has not come up,none of the others can -/
def Waits (md:Region.Mode) (ops:Array Oper) (n:Nat):Prop :=
  ∀ listed,HeadInv md ops n listed→∀ i,i<n→listed.getD i true=false→∀ t,n≤t→t ∉ Region.ready md ops listed

def waitsB (md:Region.Mode) (ops:Array Oper) (n:Nat):Bool :=
  decide (ops.size≤n)||(decide (n<ops.size)&&Region.sinkB md ops n&&Region.chainB md ops n)

theorem waits_of (h:waitsB md ops n=true):Waits md ops n:=by
  intro listed inv i hi hun t ht
  simp only [waitsB,Bool.or_eq_true,Bool.and_eq_true,decide_eq_true_eq] at h
  rcases h with h | ⟨⟨h1,h2⟩,h3⟩
  · intro hr
    obtain ⟨_,ot,hot,_⟩:=mem_ready.1 hr
    have:=(Array.getElem?_eq_some_iff.1 hot).1
    omega
  · exact tail_waits h2 h3 h1 inv _ i rfl hi hun t ht

theorem wpAnyT_first {i:Nat} {oi:Oper} {v:Value} (hW:Waits md ops n) (hin:i<n) (hi:ops[i]?=some oi) (hsel:∀ (j:Nat) (o:Oper) cs b,ops[j]?=some o→o.op≠.select cs b)
    (hQ:∀ c a w,Q (.panic c) (a.put oi.dst v) w→Q (.panic c) a w) :
    ∀ (fuel:Nat) (listed:Array Bool) (a:Act) (w:World),HeadInv md ops n listed →
      (∀ j oj,ops[j]?=some oj→j≠i→listed.getD j true=false→(∀ e∈oj.after,Region.binds md e=true→e.on≠i)→oi.apart ops oj=true) →
      i∈Region.ready md ops listed→YieldsQ P ops S oi v a→S w →
      wpAnyT P md ops Q S n fuel (listed.setIfInBounds i true) (a.put oi.dst v) w→wpAnyT P md ops Q S n (fuel+1) listed a w:=by
  intro fuel
  induction fuel with
  | zero =>
    intro listed a w _ _ hr hy hS H
    refine ⟨fun h=>(by rw [h] at hr; cases hr),fun j hj=>?_⟩
    by_cases hji:j=i
    · subst hji; exact hy.wpOp hi hS ⟨fun _=>hS,H⟩
    · have:=ready_mono hj hji
      rw [H.1] at this
      cases this
  | succ fuel ih =>
    intro listed a w inv hfree hr hy hS H
    refine ⟨fun h=>(by rw [h] at hr; cases hr),fun j hj=>?_⟩
    by_cases hji:j=i
    · subst hji; exact hy.wpOp hi hS ⟨fun _=>hS,H⟩
    · have h1:=H.2 j (ready_mono hj hji)
      have hjn:j<n:=by
        rcases Nat.lt_or_ge j n with h | h
        · exact h
        · exact absurd hj (hW listed inv i hin (mem_ready.1 hr).1 j h)
      obtain ⟨hjun,oj,hoj,hall⟩:=mem_ready.1 hj
      have hnot:∀ e∈oj.after,Region.binds md e=true→e.on≠i:=fun e he hb heq=>by
        have h1:=hall e he hb
        have h0:=(mem_ready.1 hr).1
        rw [heq] at h1
        rcases Nat.lt_or_ge i listed.size with h' | h'
        · simp [h'] at h0 h1; rw [h0] at h1; cases h1
        · simp [Array.getElem?_eq_none h'] at h1
      have h2:=wpOp_putQ hoj (hfree j oj hoj hji hjun hnot) (fun cs b=>hsel i oi cs b hi) (fun cs b=>hsel j oj cs b hoj) hQ hy h1
      have hfree':∀ k ok,ops[k]?=some ok→k≠i→(listed.setIfInBounds j true).getD k true=false →
          (∀ e∈ok.after,Region.binds md e=true→e.on≠i)→oi.apart ops ok=true:=fun k ok hk hki hun hno=>by
        refine hfree k ok hk hki ?_ hno
        by_cases hjk:j=k
        · subst hjk; exact hjun
        · rw [getD_set_ne true hjk] at hun; exact hun
      refine wpOp_mono (fun a' w' h3=>⟨fun _=>h3.2.1 hjn,ih (listed.setIfInBounds j true) a' w' (inv.set hj hjn) hfree' (ready_mono hr (Ne.symm hji)) h3.1 (h3.2.1 hjn) ?_⟩) h2
      rw [Array.setIfInBounds_comm _ _ hji]
      exact h3.2.2

/-- the walk of a plan: groups of operations that only read,each followed by one that changes the world -/
def LexW (P:Program) (ops:Array Oper) (S:World→Prop) (n:Nat) (Q:Exit→Act→World→Prop):List (List Nat × Option Nat)→Act→World→Prop
  | [],a,w=>Q .normal a w
  | (qs,none)::rest,a,w=>wpQuiet P ops (Cl S) (fun a'=>LexW P ops S n Q rest a' w) (qs.filterMap (ops[·]?)) a
  | (qs,some i)::rest,a,w=>wpQuiet P ops (Cl S) (fun a'=>wpList P ops (Exit.then (fun a'' w''=>(i<n→S w'')∧LexW P ops S n Q rest a'' w'') Q) (ops[i]?).toList a' w) (qs.filterMap (ops[·]?)) a

def quietsB (md:Region.Mode) (ops:Array Oper) (n:Nat):List Nat→Array Bool→Bool
  | [],_=>true
  | q::qs,listed=>(Region.ready md ops listed).contains q&&Region.free md ops listed q&&decide (q<n)&&((ops[q]?).map (fun o=>quietKind o.op)).getD false&&quietsB md ops n qs (listed.setIfInBounds q true)

def setAll:List Nat→Array Bool→Array Bool
  | [],listed=>listed
  | q::qs,listed=>setAll qs (listed.setIfInBounds q true)

def planB (md:Region.Mode) (ops:Array Oper) (n:Nat):List (List Nat × Option Nat)→Array Bool→Bool
  | [],listed=>(Region.ready md ops listed).isEmpty
  | (qs,none)::rest,listed=>quietsB md ops n qs listed&&planB md ops n rest (setAll qs listed)
  | (qs,some i)::rest,listed=>quietsB md ops n qs listed&&decide (Region.ready md ops (setAll qs listed)=[i])&&(decide (i<n)||rest.all (fun s=>s.1.isEmpty))&&planB md ops n rest ((setAll qs listed).setIfInBounds i true)

def planLen:List (List Nat × Option Nat)→Nat
  | []=>0
  | (qs,none)::rest=>qs.length+planLen rest
  | (qs,some _)::rest=>qs.length+(1+planLen rest)

theorem wp_then {o:Oper} {a:Act} {w:World} {K:Act→World→Prop} (h:o.wp P a w K (Exit.then K Q)):o.wp P a w K Q:=by
  unfold Oper.wp at *
  generalize (execOp a.eval o).run P w=r at *
  cases r with
  | ok x w' =>
    cases x <;> simp only [Oper.upon] at h ⊢ <;> exact h
  | halt x w'=>cases x <;> simp only [Oper.upon] at h ⊢ <;> exact h

theorem wpOp_of_list {i:Nat} {o:Oper} {a:Act} {w:World} {K:Act→World→Prop} (hi:ops[i]?=some o) (h:wpList P ops (Exit.then K Q) [o] a w):wpOp P ops Q i K a w:=by
  unfold wpOp
  simp only [hi]
  unfold wpList at h
  split
  · rename_i hw
    simp only [hw,if_true] at h
    rcases h with h | ⟨h1,h2⟩
    · exact .inl (wp_then (Oper.wp_mono (fun _ _ h=>h) h))
    · exact .inr ⟨h1,h2⟩
  · rename_i hw
    simp only [hw] at h
    exact h

theorem inv_setAll:∀ (qs:List Nat) (listed:Array Bool),HeadInv md ops n listed→quietsB md ops n qs listed=true→HeadInv md ops n (setAll qs listed)
  | [],_,inv,_=>inv
  | q::qs,listed,inv,h=>by
    simp only [quietsB,Bool.and_eq_true,decide_eq_true_eq] at h
    exact inv_setAll qs _ (inv.set (by simpa using h.1.1.1.1) h.1.1.2) h.2

theorem lex_quiets (hW:Waits md ops n) (hsel:Region.noSelect ops=true) (hQ:∀ c (a:Act) d v w,Q (.panic c) (a.put d v) w→Q (.panic c) a w) :
    ∀ (qs:List Nat) (fuel:Nat) (listed:Array Bool) (a:Act) (w:World),HeadInv md ops n listed→quietsB md ops n qs listed=true→S w →
      wpQuiet P ops (Cl S) (fun a'=>wpAnyT P md ops Q S n fuel (setAll qs listed) a' w) (qs.filterMap (ops[·]?)) a→wpAnyT P md ops Q S n (qs.length+fuel) listed a w
  | [],fuel,listed,a,w,_,_,_,h=>by
    have h':wpAnyT P md ops Q S n fuel listed a w:=h
    simpa using h'
  | q::qs,fuel,listed,a,w,inv,hB,hS,h=>by
    simp only [quietsB,Bool.and_eq_true,decide_eq_true_eq] at hB
    obtain ⟨⟨⟨⟨hr,hf⟩,hqn⟩,hk⟩,hrest⟩:=hB
    have hr':q∈Region.ready md ops listed:=by simpa using hr
    cases ho:ops[q]? with
    | none=>rw [ho] at hk; simp at hk
    | some o =>
      rw [ho] at hk
      simp only [Option.map_some,Option.getD_some] at hk
      rw [List.filterMap_cons_some ho] at h
      rw [show (q::qs).length+fuel=(qs.length+fuel)+1 by simp; omega]
      simp only [wpQuiet] at h
      split at h
      · rename_i hw
        obtain ⟨v,hv,hn⟩:=h
        exact wpAnyT_first hW hqn ho (Region.noSelect_spec hsel) (fun c a w=>hQ c a _ _ w) _ listed a w inv (Region.free_spec ho hf) hr' (.inl ⟨hw,hk,fun w hS=>hv w ⟨⟨w,hS⟩,rfl⟩⟩) hS
          (lex_quiets hW hsel hQ qs fuel _ _ w (inv.set hr' hqn) hrest hS hn)
      · rename_i hw
        exact wpAnyT_first hW hqn ho (Region.noSelect_spec hsel) (fun c a w=>hQ c a _ _ w) _ listed a w inv (Region.free_spec ho hf) hr' (.inr ⟨by simpa using hw,rfl⟩) hS
          (lex_quiets hW hsel hQ qs fuel _ _ w (inv.set hr' hqn) hrest hS h)

theorem lex_sound (hW:Waits md ops n) (hsel:Region.noSelect ops=true) (hQ:∀ c (a:Act) d v w,Q (.panic c) (a.put d v) w→Q (.panic c) a w) :
    ∀ (plan:List (List Nat × Option Nat)) (listed:Array Bool) (a:Act) (w:World),planB md ops n plan listed=true→((HeadInv md ops n listed∧S w)∨plan.all (fun s=>s.1.isEmpty)=true) →
      LexW P ops S n Q plan a w→wpAnyT P md ops Q S n (planLen plan) listed a w
  | [],listed,a,w,hB,_,h=>by
    simp only [planB,List.isEmpty_iff] at hB
    exact ⟨hB,h⟩
  | (qs,none)::rest,listed,a,w,hB,hI,h=>by
    simp only [planB,Bool.and_eq_true] at hB
    simp only [LexW] at h
    rcases hI with ⟨inv,hS⟩ | hE
    · refine lex_quiets hW hsel hQ qs _ listed a w inv hB.1 hS ?_
      refine wpQuiet_mono (fun a' h'=>?_) _ _ h
      exact lex_sound hW hsel hQ rest _ a' w hB.2 (.inl ⟨inv_setAll qs listed inv hB.1,hS⟩) h'
    · simp only [List.all_cons,Bool.and_eq_true,List.isEmpty_iff] at hE
      obtain ⟨rfl,hE⟩:=hE
      simp only [planLen,List.length_nil,Nat.zero_add]
      exact lex_sound hW hsel hQ rest listed a w hB.2 (.inr hE) h
  | (qs,some i)::rest,listed,a,w,hB,hI,h=>by
    simp only [planB,Bool.and_eq_true,decide_eq_true_eq] at hB
    obtain ⟨⟨⟨hq,hr⟩,ht⟩,hB⟩:=hB
    simp only [LexW] at h
    have step:∀ a':Act,(∀ w'',(i<n→S w'')→((HeadInv md ops n ((setAll qs listed).setIfInBounds i true)∧S w'')∨rest.all (fun s=>s.1.isEmpty)=true))→wpList P ops (Exit.then (fun a'' w''=>(i<n→S w'')∧LexW P ops S n Q rest a'' w'') Q) (ops[i]?).toList a' w →
        wpAnyT P md ops Q S n (1+planLen rest) (setAll qs listed) a' w:=by
      intro a' hinv h'
      rw [Nat.add_comm]
      refine ⟨fun h0=>(by rw [hr] at h0; cases h0),fun j hj=>?_⟩
      have hij:j=i:=by rw [hr] at hj; simpa using hj
      subst hij
      obtain ⟨_,o,ho,_⟩:=mem_ready.1 hj
      rw [ho] at h'
      refine wpOp_mono (fun a'' w'' hh=>⟨hh.1,?_⟩) (wpOp_of_list ho h')
      exact lex_sound hW hsel hQ rest _ a'' w'' hB (hinv w'' hh.1) hh.2
    rcases hI with ⟨inv,hS⟩ | hE
    · refine lex_quiets hW hsel hQ qs _ listed a w inv hq hS ?_
      refine wpQuiet_mono (fun a' h'=>step a' (fun w'' hS''=>?_) h') _ _ h
      simp only [Bool.or_eq_true,decide_eq_true_eq] at ht
      rcases Nat.lt_or_ge i n with hin | hin
      · exact .inl ⟨(inv_setAll qs listed inv hq).set (by rw [hr]; simp) hin,hS'' hin⟩
      · rcases ht with ht | ht
        · omega
        · exact .inr ht
    · simp only [List.all_cons,Bool.and_eq_true,List.isEmpty_iff] at hE
      obtain ⟨rfl,hE⟩:=hE
      simp only [planLen,List.length_nil,Nat.zero_add]
      exact step a (fun _ _=>.inr hE) h

/-- one group of a plan,and the operation behind it -/
theorem lexW_some {qs:List Nat} {i:Nat} {rest:List (List Nat × Option Nat)} {a:Act} {w:World} {os:List Oper} {o:Oper} (hqs:qs.filterMap (ops[·]?)=os) (ho:ops[i]?=some o)
    (h:wpQuiet P ops (fun w'=>∃ p:HW S,w'=p.w) (fun a'=>∀ K:Act→World→Prop,(∀ a'' w'',(i<n→S w'')→LexW P ops S n Q rest a'' w''→K a'' w'')→wpList P ops (Exit.then K Q) [o] a' w) os a) :
    LexW P ops S n Q ((qs,some i)::rest) a w:=by
  simp only [LexW,hqs,ho,Option.toList]
  exact wpQuiet_mono (fun a' h'=>h' _ (fun a'' w'' h1 h2=>⟨h1,h2⟩)) _ _ h

/-- the last group of a plan -/
theorem lexW_none {qs:List Nat} {rest:List (List Nat × Option Nat)} {a:Act} {w:World} {os:List Oper} (hqs:qs.filterMap (ops[·]?)=os)
    (h:wpQuiet P ops (fun w'=>∃ p:HW S,w'=p.w) (fun a'=>LexW P ops S n Q rest a' w) os a):LexW P ops S n Q ((qs,none)::rest) a w:=by
  simp only [LexW,hqs]
  exact h

theorem lexW_nil {a:Act} {w:World} (h:Q .normal a w):LexW P ops S n Q [] a w:=h

/-- the region,by a plan -/
theorem wp_region_lex {id:Nat} {a:Act} {w:World} {l:List Oper} (S:World→Prop) (n:Nat) (plan:List (List Nat × Option Nat)) (hm:P.follows .mixedOrders=true)
    (hB:(waitsB .any l.toArray n&&Region.noSelect l.toArray&&planB .any l.toArray n plan (Array.replicate l.toArray.size false)&&decide (planLen plan=l.toArray.size))=true)
    (hQ:∀ c (a:Act) d v w,Q (.panic c) (a.put d v) w→Q (.panic c) a w) (hS:S w.drew) (h:LexW P l.toArray S n Q plan a w.drew):(Code.region id l.toArray true).wp P Q a w:=by
  simp only [Bool.and_eq_true,decide_eq_true_eq] at hB
  obtain ⟨⟨⟨hW,hsel⟩,hP⟩,hL⟩:=hB
  refine wp_region_any hm ?_
  have inv0:HeadInv .any l.toArray n (Array.replicate l.toArray.size false) :=
    ⟨by simp,fun j oj _ hl=>(by rw [getD_replicate_false] at hl; cases hl),fun t _ ht=>getD_in (by simpa using ht) (getD_replicate_false _ _)⟩
  have:=lex_sound (waits_of hW) hsel hQ plan _ a w.drew hP (.inl ⟨inv0,hS⟩) h
  rw [hL] at this
  exact wpAny_of_T _ _ _ _ this
end
end Go.Lex
