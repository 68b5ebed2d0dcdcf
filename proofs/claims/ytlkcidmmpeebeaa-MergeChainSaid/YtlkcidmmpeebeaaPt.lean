/- Proved: this program's data as plain data,and back. -/
import Derived.Test.YtlkcidmmpeebeaaPcC
import Derived.Test.YtlkcidmmpeebeaaDk
set_option linter.unusedVariables false
set_option linter.unusedSimpArgs false
namespace Go.PX
open Go.RowKit Go.SX
theorem EnvOk.le {E:Env} {H:Heap} {U:Upd} {lo top n:Nat} (h:EnvOk E H U lo top) (hn:n≤top):n≤E.top:=by rw [h.etop]; exact hn
theorem nm_int {a b:Int} (h:a=b):(PV.sc (.int .i64 a))=PV.sc (.int .i64 b):=by rw [h]
theorem nm_len {a b:Nat} (h:a=b):(PV.sc (.int .i64 (a:Int)))=PV.sc (.int .i64 (b:Int)):=by rw [h]
theorem map_get {α β:Type} {f:α→β} {xs:List α} {k:Nat} {x:α} (h:xs[k]?=some x):(xs.map f)[k]?=some (f x):=by simp [h]

theorem imm_to {Z:Nat→Prop} {w:World} {α:Type} {sz:Nat} (f:α→List PV) {A:Option Addr} {cap:Nat} (xs:List α) (h1:xs.length≤cap∧xs.length≤140737488351232) (h2:cap≤9223372036854775807∧(A=none→cap=0))
    (h:∀ (k:Nat) (x:α),xs[k]?=some x→(f x).length=sz∧ones (f x)=true∧∃ (b off:Nat) (l:List Value),A=some ⟨b,off,none⟩∧Z b∧l.length=sz∧(∀ (i:Nat) (u:Value),l[i]?=some u→w.cell? ⟨b,off+k*sz+i,none⟩=some u)∧∀ (i:Nat) (u:Value) (y:PV),l[i]?=some u→(f x)[i]?=some y→IR Z w u y) :
    IR Z w (.slice A xs.length cap) (.imm sz (xs.map f)):=by
  have ex:∀ k:Nat,∃ l:List Value,∀ x:α,xs[k]?=some x→∃ (b off:Nat),A=some ⟨b,off,none⟩∧Z b∧l.length=sz∧(∀ (i:Nat) (u:Value),l[i]?=some u→w.cell? ⟨b,off+k*sz+i,none⟩=some u)∧∀ (i:Nat) (u:Value) (y:PV),l[i]?=some u→(f x)[i]?=some y→IR Z w u y:=fun k=>by
    cases hx:xs[k]? with
    | none=>exact ⟨[],fun x h=>by cases h⟩
    | some x =>
      obtain ⟨_,_,b,off,l,q⟩:=h k x hx
      exact ⟨l,fun x' h'=>by injection h' with h'; subst h'; exact ⟨b,off,q⟩⟩
  obtain ⟨G,hG⟩:=Classical.axiomOfChoice ex
  have hl:xs.length=(xs.map f).length:=by simp
  rw [hl]
  refine .imm A cap sz _ (fun k i=>(G k).getD i undef) (by simpa using h1) h2 (fun k row hr=>?_) (fun k row i y hr hy=>?_)
  · rw [List.getElem?_map] at hr
    obtain ⟨x,hx,rfl⟩:=Option.map_eq_some_iff.1 hr
    obtain ⟨q1,q2,_⟩:=h k x hx
    obtain ⟨b,off,r1,r2,r3,r4,_⟩:=hG k x hx
    refine ⟨q1,q2,b,off,r1,r2,fun i hi=>r4 i _ ?_⟩
    simp [List.getD,show i<(G k).length by omega]
  · rw [List.getElem?_map] at hr
    obtain ⟨x,hx,rfl⟩:=Option.map_eq_some_iff.1 hr
    obtain ⟨q1,_,_⟩:=h k x hx
    obtain ⟨b,off,r1,r2,r3,r4,r5⟩:=hG k x hx
    have hi:i<sz:=by have:=(List.getElem?_eq_some_iff.1 hy).1; omega
    exact r5 i _ y (by simp [List.getD,show i<(G k).length by omega]) hy
theorem imm_of {Z:Nat→Prop} {w:World} {α:Type} {sz:Nat} {f:α→List PV} {v:Value} {xs:List α} (h:IR Z w v (.imm sz (xs.map f))) :
    ∃ A cap,v=.slice A xs.length cap∧(xs.length≤cap∧xs.length≤140737488351232)∧(cap≤9223372036854775807∧(A=none→cap=0))∧∀ (k:Nat) (x:α),xs[k]?=some x→∃ (b off:Nat) (l:List Value),A=some ⟨b,off,none⟩∧Z b∧l.length=sz∧(∀ (i:Nat) (u:Value),l[i]?=some u→w.cell? ⟨b,off+k*sz+i,none⟩=some u)∧∀ (i:Nat) (u:Value) (y:PV),l[i]?=some u→(f x)[i]?=some y→IR Z w u y:=by
  generalize hr:xs.map f=rows at h
  cases h with
  | imm A cap _ _ U h1 h2 h3 h4 =>
    subst hr
    simp only [List.length_map] at h1
    refine ⟨A,cap,by simp,h1,h2,fun k x hx=>?_⟩
    have hm:(xs.map f)[k]?=some (f x):=map_get hx
    obtain ⟨q1,q2,b,off,q3,q4,q5⟩:=h3 k _ hm
    refine ⟨b,off,(List.range sz).map (U k),q3,q4,by simp,fun i u hu=>?_,fun i u y hu hy=>?_⟩
    · rw [List.getElem?_map] at hu
      obtain ⟨j,hj,rfl⟩:=Option.map_eq_some_iff.1 hu
      have hlt:=(List.getElem?_eq_some_iff.1 hj).1
      simp only [List.length_range] at hlt
      rw [List.getElem?_range hlt] at hj
      simp only [Option.some.injEq] at hj; subst hj
      exact q5 i hlt
    · rw [List.getElem?_map] at hu
      obtain ⟨j,hj,rfl⟩:=Option.map_eq_some_iff.1 hu
      have hlt:=(List.getElem?_eq_some_iff.1 hj).1
      simp only [List.length_range] at hlt
      rw [List.getElem?_range hlt] at hj
      simp only [Option.some.injEq] at hj; subst hj
      exact h4 k _ i y hm hy
end Go.PX
namespace Go.Proofs.Ytlkcidmmpeebeaa
open Go.RowKit Go.PX

def encI (x:Int):List PV:=[.sc (.int .i64 x)]
def encO (o:OpD):List PV:=[.sc (.int .i64 o.kind),.sc (.int .i64 o.dst),.sc (.int .i64 o.a),.sc (.int .i64 o.b),.sc (.int .i64 o.n),.sc (.int .i64 o.ctx),.sc (.int .i64 o.var),.sc (.int .i64 o.piece),.sc (.int .i64 o.sk),.sc (.int .i64 o.sv),.sc (.int .i64 o.sa)]
def encR (o:Int × Int × Int):List PV:=[.sc (.int .i64 o.1),.sc (.int .i64 o.2.1),.sc (.int .i64 o.2.2)]
def encB (b:BlockD):List PV:=[.sc (.int .i64 b.params),.imm 11 (b.ops.map encO),.sc (.int .i64 b.term.kind),.sc (.int .i64 b.term.a),.sc (.int .i64 b.term.n),.imm 1 (b.term.args.map encI),.sc (.int .i64 b.term.b0),.imm 1 (b.term.args0.map encI),.sc (.int .i64 b.term.b1),.imm 1 (b.term.args1.map encI)]
def codeP (c:CodeD):PV:=.agg [.sc (.int .i64 c.params),.imm 10 (c.blocks.map encB),.imm 3 (c.contexts.map encR),.imm 3 (c.objects.map encR)]
def BlkI (b:BlockD):Prop:=(I64 b.params∧I64 b.term.kind∧I64 b.term.a∧I64 b.term.n∧I64 b.term.b0∧I64 b.term.b1)∧(∀ o∈b.ops,OpI o)∧(∀ x∈b.term.args,I64 x)∧(∀ x∈b.term.args0,I64 x)∧(∀ x∈b.term.args1,I64 x)∧b.ops.length≤140737488351232
def RecI (o:Int × Int × Int):Prop:=I64 o.1∧I64 o.2.1∧I64 o.2.2
def CodeI (c:CodeD):Prop:=I64 c.params∧(∀ b∈c.blocks,BlkI b)∧(∀ o∈c.contexts,RecI o)∧∀ o∈c.objects,RecI o

section
variable {Z:Nat→Prop} {w:World} {v:Value}
theorem ir_int {u:Value} {x:Int} (h:IR Z w u (.sc (.int .i64 x))):u=.int .i64 x:=by cases h; rfl
end
abbrev codeL (c:CodeD):List PX.PV:=[.sc (.int .i64 c.params),.imm 10 (c.blocks.map encB),.imm 3 (c.contexts.map encR),.imm 3 (c.objects.map encR)]
end Go.Proofs.Ytlkcidmmpeebeaa
