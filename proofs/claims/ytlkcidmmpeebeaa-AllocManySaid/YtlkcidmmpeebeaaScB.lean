/- Proved: a region that draws its order,whose operations that change the world come one after another,may be walked in one order: first all that only reads,then the next one that changes the world,and so on. Conditions: the reads yield the same in every world that meets S,and S holds behind every operation but the last ones (number n and later),which wait for all the others. -/
import Derived.Deep.QuietTactic
import Derived.StillTail
import Derived.OrdersHeld
import Derived.Test.YtlkcidmmpeebeaaSx
set_option linter.unusedVariables false
set_option linter.unusedSimpArgs false
namespace Go.Lex

/-- operations that never enter a function -/
def quietKind:Op→Bool
  | .move _ | .assign _ | .pick .. | .build .. | .load .. | .binOp .. | .unOp .. | .convert .. | .slice .. | .fieldAddr .. | .field .. | .indexAddr .. | .index .. | .extract .. | .makeFunc .. | .nilCheck ..=>true
  | .call { callee:=.builtin .len,.. } | .call { callee:=.builtin .min,.. } | .call { callee:=.builtin .max,.. }=>true
  | _=>false

theorem run_v (P:Program) (s:Sem Value) (w:World) (f:FuncId) (args:Array Value) (w':World):((do pure (.value (← s))):Sem Next).run P w≠.ok (.enter f args) w':=by
  intro h
  rw [Sem.run_bind] at h
  cases hs:s.run P w with
  | ok a w1=>rw [hs] at h; simp [Result.andThen,Sem.run] at h
  | halt x w1=>rw [hs] at h; simp [Result.andThen] at h

theorem noEnter {P:Program} {ρ:Operand→Value} {o:Oper} (h:quietKind o.op=true) (w:World) (f:FuncId) (args:Array Value) (w':World):(execOp ρ o).run P w≠.ok (.enter f args) w':=by
  unfold execOp
  cases ho:o.op <;> rw [ho] at h <;> simp only [quietKind,Bool.false_eq_true] at h
  case move=>simp [Sem.run]
  case assign=>simp [Sem.run]
  case nilCheck x =>
    have bnd:∀ {α:Type} (s:Sem α) (k:α→Sem Next) (w:World),(∀ a w1,(k a).run P w1≠.ok (.enter f args) w')→(s >>= k).run P w≠.ok (.enter f args) w':=fun s k w hk hh=>by
      rw [Sem.run_bind] at hh
      cases hs:s.run P w with
      | ok a w1=>rw [hs] at hh; exact hk a w1 hh
      | halt x w1=>rw [hs] at hh; simp [Result.andThen] at hh
    have pan:∀ (w:World),(runtimePanic .nilDeref:Sem Next).run P w≠.ok (.enter f args) w':=fun w hh=>by
      simp [runtimePanic,goPanic,Sem.run] at hh
    simp only
    split
    · exact pan _
    · exact pan _
    · exact pan _
    · split
      · exact pan _
      · refine bnd _ _ _ fun a w1=>bnd _ _ _ fun a w1=>?_
        split
        · refine bnd _ _ _ fun a w1=>?_
          simp [Sem.run]
        · simp [Sem.run]
      · simp [Sem.run]
    · simp [Sem.run]
  case pick c a b =>
    intro hh
    simp only [Sem.run_bind] at hh
    cases hs:(asBool (ρ c)).run P w with
    | ok a w1=>rw [hs] at hh; simp [Result.andThen,Sem.run] at hh
    | halt x w1=>rw [hs] at hh; simp [Result.andThen] at hh
  case call c =>
    obtain ⟨callee,as,ats⟩:=c
    cases callee with
    | value f=>simp at h
    | invoke r m=>simp at h
    | builtin b =>
      have key:∀ s:Sem Value,((do let d ← resolve ρ { callee:=.builtin b,args:=as,argTypes:=ats } o.type; invoke d.target d.args):Sem Next)=(do pure (.value (← s)))→((do let d ← resolve ρ { callee:=.builtin b,args:=as,argTypes:=ats } o.type; invoke d.target d.args):Sem Next).run P w≠.ok (.enter f args) w':=fun s hs=>by
        rw [hs]; exact run_v P s w f args w'
      cases b <;> simp at h <;> exact key _ rfl
  all_goals exact run_v P _ w f args w'

section
variable {P:Program} {ops:Array Oper} {Q:Exit→Act→World→Prop} {md:Region.Mode} {S:World→Prop} {n:Nat}

/-- a world that meets S -/
structure HW (S:World→Prop) where
  w:World
  ok:S w

/-- the class of the worlds that meet S -/
def Cl (S:World→Prop):World→Prop:=fun w'=>∃ p:HW S,w'=p.w

def YieldsQ (P:Program) (ops:Array Oper) (S:World→Prop) (o:Oper) (v:Value) (a:Act):Prop :=
  (Region.wanted o (yielded ops a.tmps)=true∧quietKind o.op=true∧∀ w,S w→o.quietAt P a (Cl S) w v) ∨
  (Region.wanted o (yielded ops a.tmps)=false∧v=undef)

theorem upon_of_quiet {o:Oper} {a:Act} {v:Value} {w:World} {K:Act→World→Prop} (hk:quietKind o.op=true) (h:o.quietAt P a (Cl S) w v) (hK:K (a.put o.dst v) w):o.wp P a w K Q:=by
  unfold Oper.quietAt at h
  unfold Oper.wp
  have hne:=noEnter (P:=P) (ρ:=a.eval) hk w
  generalize (execOp a.eval o).run P w=r at *
  cases r with
  | ok x w' =>
    cases x <;> simp only [Oper.quietUpon] at h <;> simp only [Oper.upon]
    case value u=>obtain ⟨rfl,rfl⟩:=h; exact hK
    case skip=>obtain ⟨rfl,rfl⟩:=h; exact hK
    case enter f args=>exact absurd rfl (hne f args w')
  | halt x w'=>simp only [Oper.quietUpon] at h

theorem YieldsQ.wpOp {i:Nat} {o:Oper} {v:Value} {a:Act} (hi:ops[i]?=some o) (hy:YieldsQ P ops S o v a)
    {K:Act→World→Prop} {w:World} (hS:S w) (h:K (a.put o.dst v) w):wpOp P ops Q i K a w:=by
  unfold Go.wpOp
  simp only [hi]
  rcases hy with ⟨hw,hk,hv⟩ | ⟨hw,rfl⟩
  · simp only [hw,if_true]
    exact .inl (upon_of_quiet hk (hv w hS) h)
  · simp only [hw,Bool.false_eq_true,if_false]; exact h

/-- whatever order is picked from here on,and S holds behind every operation below n -/
def wpAnyT (P:Program) (md:Region.Mode) (ops:Array Oper) (Q:Exit→Act→World→Prop) (S:World→Prop) (n:Nat):Nat→Array Bool→Act→World→Prop
  | 0,listed,a,w=>Region.ready md ops listed=[]∧Q .normal a w
  | fuel+1,listed,a,w =>
    (Region.ready md ops listed=[]→Q .normal a w) ∧
    ∀ i∈Region.ready md ops listed,wpOp P ops Q i (fun a' w'=>(i<n→S w')∧wpAnyT P md ops Q S n fuel (listed.setIfInBounds i true) a' w') a w

/-- while one of the first n has not come up,none of the others can -/
def Waits (md:Region.Mode) (ops:Array Oper) (n:Nat):Prop :=
  ∀ listed,HeadInv md ops n listed→∀ i,i<n→listed.getD i true=false→∀ t,n≤t→t ∉ Region.ready md ops listed

def waitsB (md:Region.Mode) (ops:Array Oper) (n:Nat):Bool :=
  decide (ops.size≤n)||(decide (n<ops.size)&&Region.sinkB md ops n&&Region.chainB md ops n)

/-- the walk of a plan: groups of operations that only read,each followed by one that changes the world -/
def LexW (P:Program) (ops:Array Oper) (S:World→Prop) (n:Nat) (Q:Exit→Act→World→Prop):List (List Nat × Option Nat)→Act→World→Prop
  | [],a,w=>Q .normal a w
  | (qs,none)::rest,a,w=>wpQuiet P ops (Cl S) (fun a'=>LexW P ops S n Q rest a' w) (qs.filterMap (ops[·]?)) a
  | (qs,some i)::rest,a,w=>wpQuiet P ops (Cl S) (fun a'=>wpList P ops (Exit.then (fun a'' w''=>(i<n→S w'')∧LexW P ops S n Q rest a'' w'') Q) (ops[i]?).toList a' w) (qs.filterMap (ops[·]?)) a

def quietsB (md:Region.Mode) (ops:Array Oper) (n:Nat):List Nat→Array Bool→Bool
  | [],_=>true
  | q::qs,listed=>(Region.ready md ops listed).contains q&&Region.free md ops listed q&&decide (q<n)&&((ops[q]?).map (fun o=>quietKind o.op)).getD false&&quietsB md ops n qs (listed.setIfInBounds q true)

def setAll:List Nat→Array Bool→Array Bool
  | [],listed=>listed
  | q::qs,listed=>setAll qs (listed.setIfInBounds q true)

def planB (md:Region.Mode) (ops:Array Oper) (n:Nat):List (List Nat × Option Nat)→Array Bool→Bool
  | [],listed=>(Region.ready md ops listed).isEmpty
  | (qs,none)::rest,listed=>quietsB md ops n qs listed&&planB md ops n rest (setAll qs listed)
  | (qs,some i)::rest,listed=>quietsB md ops n qs listed&&decide (Region.ready md ops (setAll qs listed)=[i])&&(decide (i<n)||rest.all (fun s=>s.1.isEmpty))&&planB md ops n rest ((setAll qs listed).setIfInBounds i true)

def planLen:List (List Nat × Option Nat)→Nat
  | []=>0
  | (qs,none)::rest=>qs.length+planLen rest
  | (qs,some _)::rest=>qs.length+(1+planLen rest)

end
end Go.Lex

/- Proved: a region that draws its order,walked by tables: what only reads is taken as soon as it can be,and of the others each that may come next. Program-independent. -/
namespace Go.SX
open Go.RowKit Go.Lex

def CutQ (Post:Act→World→Prop):Exit→Act→World→Prop:=fun e a' w'=>e=.normal∧Post a' w'

/-- whatever comes next -/
def Any (P:Program) (ops:Array Oper) (Post:Act→World→Prop) (M:Mem) (n fuel:Nat) (listed:Array Bool) (a:Act) (w:World):Prop :=
  HeadInv .any ops n listed→wpAnyT P .any ops (CutQ Post) (fun w'=>Cells w' M) n fuel listed a w

/-- what is owed for one operation that comes next -/
def Next1 (P:Program) (ops:Array Oper) (Post:Act→World→Prop) (M:Mem) (n fuel:Nat) (listed:Array Bool) (a:Act) (w:World) (i:Nat):Prop :=
  ∀ K:Act→World→Prop,(∀ a' w',(i<n→Cells w' M)→Any P ops Post M n fuel (listed.setIfInBounds i true) a' w'→K a' w')→wpList P ops (Exit.then K (CutQ Post)) ((ops[i]?).toList.drop 0) a w

/-- a contract: it returns,has only added memory,and of the answer this is known -/
def Ret (Φ:Value→World→Prop) (w:World):Ending→World→Prop:=fun e w'=>∃ v,e=.returned v∧Below w.heap.size w w'∧Φ v w'

/-- a result that lies in memory -/
def cellS (ty:TypeId) (p:Value):Sem Value:=do loadVar ty (← asAddr p)
end Go.SX
