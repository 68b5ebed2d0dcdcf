/- Proved: contracts that were walked in memory,on plain data. -/
import Derived.Test.YtlkcidmmpeebeaaPt
import Derived.Test.YtlkcidmmpeebeaaSame
import Derived.Test.YtlkcidmmpeebeaaClone
import Derived.Test.YtlkcidmmpeebeaaIrCheck
import Derived.Test.YtlkcidmmpeebeaaTl
set_option linter.unusedVariables false
set_option linter.unusedSimpArgs false
namespace Go.PX
open Go.RowKit Go.SX
theorem eff_pure {σ:Nm} {Z:Nat→Prop} {w w':World} (h:Below w.heap.size w w'):Eff σ Z w [] [] σ Z w' :=
  ⟨Ext.refl σ,fun _ h _=>h,fun _ h=>h,fun _ h=>.inl h,(Chg.of_below h).mono fun _ _ q=>q.elim,fun id o h=>by simp [ulook] at h,fun id o b c h=>by simp [ulook] at h,fun id id' o o' b c c' h=>by simp [ulook] at h⟩
def ZN (Z:Nat→Prop) (w w':World):Nat→Prop:=fun b=>Z b∨(w.heap.size≤b∧b<w'.heap.size)
theorem VRs.inv0 {σ:Nm} {Z:Nat→Prop} {w:World} {l:List Value} (h:VRs σ Z w l []):l=[]:=List.length_eq_zero_iff.1 (by simpa using h.1)
theorem VR.sc_inv {σ:Nm} {Z:Nat→Prop} {w:World} {v u:Value} (h:VR σ Z w v (.sc u)):v=u:=by cases h; rfl
theorem VR.imm_inv {σ:Nm} {Z:Nat→Prop} {w:World} {v:Value} {sz:Nat} {rows:List (List PV)} (h:VR σ Z w v (.imm sz rows)):IR Z w v (.imm sz rows):=by cases h; assumption
theorem VR.agg_inv {σ:Nm} {Z:Nat→Prop} {w:World} {v:Value} {xs:List PV} (h:VR σ Z w v (.agg xs)):∃ l,v=.agg l.toArray∧VRs σ Z w l xs:=by
  cases h with
  | agg l _ hl ho h=>exact ⟨l,rfl,hl,h⟩
end Go.PX
namespace Go.Proofs.Ytlkcidmmpeebeaa
open Go.RowKit Go.PX

section
variable {σ:Nm} {Z:Nat→Prop} {w:World} {v:Value}
theorem blk_of {l:List Value} {b:BlockD} (hl:l.length=10) (h:∀ (i:Nat) (u:Value) (y:PV),l[i]?=some u→(encB b)[i]?=some y→IR Z w u y) (hi:BlkI b):∃ u1 u2 u3 u4,l=[.int .i64 b.params,u1,.int .i64 b.term.kind,.int .i64 b.term.a,.int .i64 b.term.n,u2,.int .i64 b.term.b0,u3,.int .i64 b.term.b1,u4]∧BlkAt w u1 u2 u3 u4 b:=by
  match l,hl with
  | [x0,x1,x2,x3,x4,x5,x6,x7,x8,x9],_ =>
    have e0:=ir_int (h 0 x0 _ rfl rfl)
    have e2:=ir_int (h 2 x2 _ rfl rfl)
    have e3:=ir_int (h 3 x3 _ rfl rfl)
    have e4:=ir_int (h 4 x4 _ rfl rfl)
    have e6:=ir_int (h 6 x6 _ rfl rfl)
    have e8:=ir_int (h 8 x8 _ rfl rfl)
    subst e0 e2 e3 e4 e6 e8
    exact ⟨x1,x5,x7,x9,rfl,hi.1,ops_of (h 1 x1 _ rfl rfl) hi.2.1,ints_of (h 5 x5 _ rfl rfl) hi.2.2.1,ints_of (h 7 x7 _ rfl rfl) hi.2.2.2.1,ints_of (h 9 x9 _ rfl rfl) hi.2.2.2.2.1⟩
theorem blocks_of {xs:List BlockD} (h:IR Z w v (.imm 10 (xs.map encB))) (hi:∀ x∈xs,BlkI x):BlocksAt w v xs:=by
  obtain ⟨A,cap,rfl,h1,h2,h3⟩:=imm_of h
  refine ⟨A,cap,rfl,h1,h2,fun k x hx=>?_⟩
  obtain ⟨b,off,l,q1,_,q2,q3,q4⟩:=h3 k x hx
  obtain ⟨u1,u2,u3,u4,rfl,q5⟩:=blk_of q2 q4 (hi x (List.mem_of_getElem? hx))
  exact ⟨b,off,u1,u2,u3,u4,q1,q5,q3 0 _ rfl,q3 1 _ rfl,q3 2 _ rfl,q3 3 _ rfl,q3 4 _ rfl,q3 5 _ rfl,q3 6 _ rfl,q3 7 _ rfl,q3 8 _ rfl,q3 9 _ rfl⟩
theorem code_of {c:CodeD} (h:VR σ Z w v (codeP c)) (hi:CodeI c):∃ v1 v2 v3,v=.agg #[.int .i64 c.params,v1,v2,v3]∧CodeAt w v1 v2 v3 c:=by
  obtain ⟨l,rfl,g⟩:=h.agg_inv
  obtain ⟨u0,l,rfl,h0,g⟩:=g.inv
  obtain ⟨u1,l,rfl,h1,g⟩:=g.inv
  obtain ⟨u2,l,rfl,h2,g⟩:=g.inv
  obtain ⟨u3,l,rfl,h3,g⟩:=g.inv
  obtain rfl:=g.inv0
  obtain rfl:=h0.sc_inv
  exact ⟨u1,u2,u3,rfl,hi.1,blocks_of h1.imm_inv hi.2.1,recs_of h2.imm_inv hi.2.2.1,recs_of h3.imm_inv hi.2.2.2⟩
end
section
variable {lo top:Nat}
theorem con_code {f:FuncId} {c:CodeD} {r:Value} (hi:CodeI c) (hr:scOk r=true) (h:∀ (v1 v2 v3:Value) (w:World),CodeAt w v1 v2 v3 c→Calls Try.prog f #[.agg #[.int .i64 c.params,v1,v2,v3]] w fun e w'=>e=.returned r∧Below w.heap.size w w'):Con Try.prog f [codeP c] [] lo top (.sc r) []:=by
  intro w σ Z vs _ hv _
  obtain ⟨u,l,rfl,h1,h2⟩:=hv.inv
  obtain rfl:=h2.inv0
  obtain ⟨v1,v2,v3,rfl,h3⟩:=code_of h1 hi
  exact (h v1 v2 v3 w h3).mono fun e w' ⟨he,hb⟩=>⟨r,σ,Z,he,.sc r hr,eff_pure hb⟩
theorem con_check {c:CodeD} (hi:CodeI c):Con Try.prog 46 [codeP c] [] lo top (.sc (.int .i64 (P.check c (totW c.blocks)))) []:=con_code hi rfl fun v1 v2 v3 w h=>irCheck_any c v1 v2 v3 w h
theorem con_rcheck {c:CodeD} (hi:CodeI c):Con Try.prog 18 [codeP c] [] lo top (.sc (.int .i64 (R.check c (totW c.blocks)))) []:=con_code hi rfl fun v1 v2 v3 w h=>refCheck_any c v1 v2 v3 w h
theorem con_ops {c:CodeD} (hi:CodeI c):Con Try.prog 45 [codeP c] [] lo top (.sc (.int .i64 (totW c.blocks))) []:=con_code hi rfl fun v1 v2 v3 w h=>ops_any c v1 v2 v3 w h
def termP (t:TermD):PV:=.agg [.sc (.int .i64 t.kind),.sc (.int .i64 t.a),.sc (.int .i64 t.n),.imm 1 (t.args.map encI),.sc (.int .i64 t.b0),.imm 1 (t.args0.map encI),.sc (.int .i64 t.b1),.imm 1 (t.args1.map encI)]
def blockP (b:BlockD):PV:=.agg (encB b)
end
end Go.Proofs.Ytlkcidmmpeebeaa
