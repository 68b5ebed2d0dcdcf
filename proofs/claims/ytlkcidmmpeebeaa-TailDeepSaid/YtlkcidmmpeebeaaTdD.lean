/- Proved: the two functions of TailDeep as the interpreter runs them,on plain data. -/
import Derived.Test.YtlkcidmmpeebeaaPTsD
import Derived.Test.YtlkcidmmpeebeaaPTlK
set_option linter.unusedVariables false
set_option linter.unusedSimpArgs false
namespace Go.Proofs.Ytlkcidmmpeebeaa
open Go.RowKit Go.PX
set_option maxRecDepth 100000
theorem simple_of {c:CodeD} (h:(R.check c (totW c.blocks)==0&&c.contexts.all (fun x=>x.2.2==0)&&c.objects.isEmpty&&c.blocks.all (fun b=>b.ops.all (fun o=>[1,3,4,19,20].any fun k=>o.kind==(k:Int)))&&c.blocks.all (fun b=>[1,2,3,4,6].any fun k=>b.term.kind==(k:Int))&&c.blocks.all (fun b=>!(b.term.kind==3||b.term.kind==6)||(b.term.n==0&&(b.term.args.length:Int)==c.params&&b.term.args0.isEmpty&&b.term.args1.isEmpty)))=true):Simple c:=by
 simp only [Bool.and_eq_true,beq_iff_eq,List.all_eq_true,List.isEmpty_iff,List.any_cons,List.any_nil,Bool.or_false,Bool.or_eq_true,Bool.not_eq_true',Bool.or_eq_false_iff,beq_eq_false_iff_ne,ne_eq] at h
 obtain ⟨⟨⟨⟨⟨h1,h2⟩,h3⟩,h4⟩,h5⟩,h6⟩:=h
 refine ⟨h1,h2,h3,fun b hb o ho=>?_,fun b hb=>?_,fun b hb hk=>?_⟩
 ·have:=h4 b hb o ho; unfold OpS; omega
 ·have:=h5 b hb; omega
 ·rcases h6 b hb with q | q
  ·omega
  ·exact ⟨q.1.1.1,q.1.1.2,q.1.2,q.2⟩
theorem simple_T:Simple tF:=simple_of (by kernel_rfl)
theorem simple_F:Simple downF:=simple_of (by kernel_rfl)
theorem fit_T:Fit tF:=fit_of codeI_tF simple_T.chk
theorem fit_F:Fit downF:=fit_of codeI_F simple_F.chk
section
variable {m:Nat} {k e val:Int} {stk:List (Int × Int)}
theorem wrap_e (h:0≤e∧e<5000):IntKind.i64.wrap (e+1)=e+1:=IntWalk.i64_in _ (by omega)
theorem t_0 (h:0≤e∧e<5000):finS tF 1 (m+1) 0 [k] 0 e val stk=if k=0 then finS tF 1 m 3 [k] 0 (e+1) val stk else finS tF 1 m 1 [k] 0 (e+1) val stk:=by
 rw [finS,if_neg (by decide),if_neg (by omega),wrap_e h]; rfl
theorem t_1 (h:0≤e∧e<5000):finS tF 1 (m+1) 1 [k] 0 e val stk=finS tF 1 m 0 [IntKind.i64.wrap (k-1)] 0 (e+1) val stk:=by
 rw [finS,if_neg (by decide),if_neg (by omega),wrap_e h]; rfl
theorem t_3 (h:0≤e∧e<5000):finS tF 1 (m+1) 3 [k] 0 e val []=finS tF 1 m (-1) [] 0 (e+1) 5 []:=by
 rw [finS,if_neg (by decide),if_neg (by omega),wrap_e h]; rfl
theorem d_0 (h:0≤e∧e<5000):finS downF 1 (m+1) 0 [k] 0 e val stk=if k=0 then finS downF 1 m 3 [k] 0 (e+1) val stk else finS downF 1 m 1 [k] 0 (e+1) val stk:=by
 rw [finS,if_neg (by decide),if_neg (by omega),wrap_e h]; rfl
theorem d_1 (h:0≤e∧e<5000):finS downF 1 (m+1) 1 [k] 0 e val stk=if 20≤stk.length+1 then some (5,val) else finS downF 1 m 0 [IntKind.i64.wrap (k-1)] 0 (e+1) val ((2,-1)::stk):=by
 rw [finS,if_neg (by decide),if_neg (by omega),wrap_e h]; rfl
theorem wrap_k (h:1≤k∧k≤1000):IntKind.i64.wrap (k-1)=k-1:=IntWalk.i64_in _ (by omega)
end
theorem tail_run:∀ (k:Nat) (e:Int),0≤e→e+2*k+3≤5000→k≤1000→finS tF 1 (2*k+3) 0 [(k:Int)] 0 e 0 []=some (0,5)
 | 0,e,h0,h1,_=>by
  rw [show 2*0+3=2+1 from rfl,t_0 (by omega),if_pos (show ((0:Nat):Int)=0 from rfl)]
  exact (t_3 (m:=1) (by omega)).trans rfl
 | k+1,e,h0,h1,h2=>by
  rw [show 2*(k+1)+3=(2*k+3)+1+1 by omega,t_0 (by omega),if_neg (by omega),t_1 (by omega),wrap_k (by omega),show (((k+1:Nat):Int)-1)=(k:Int) by omega]
  exact tail_run k (e+1+1) (by omega) (by omega) (by omega)
theorem deep_run:∀ (j:Nat) (k:Nat) (e:Int) (stk:List (Int × Int)),stk.length+j=19→j+1≤k→k≤1000→0≤e→e≤100+2*(stk.length:Int)→finS downF 1 (2*j+2) 0 [(k:Int)] 0 e 0 stk=some (5,0)
 | 0,k,e,stk,h1,h2,h3,h4,h5=>by
  rw [show 2*0+2=1+1 from rfl,d_0 (by omega),if_neg (by omega),d_1 (by omega),if_pos (by omega)]
 | j+1,k,e,stk,h1,h2,h3,h4,h5=>by
  rw [show 2*(j+1)+2=(2*j+2)+1+1 by omega,d_0 (by omega),if_neg (by omega),d_1 (by omega),if_neg (by omega),wrap_k (by omega),show ((k:Int)-1)=((k-1:Nat):Int) by omega]
  exact deep_run j (k-1) (e+1+1) ((2,-1)::stk) (by simp; omega) (by omega) (by omega) (by omega) (by simp; omega)
theorem few_run:(List.range 20).all (fun k=>finS downF 1 100 0 [(k:Int)] 0 0 0 []==some (0,5))=true:=by kernel_rfl
theorem plain_run (k:Nat) (hk:k<1000):∃ F val,finS downF 1 F 0 [(k:Int)] 0 0 0 []=some (if decide ((20:Int)≤(k:Int))=true then 5 else 0,val):=by
 by_cases h:k<20
 ·refine ⟨100,5,?_⟩
  rw [if_neg (by simp; omega)]
  have:=List.all_eq_true.1 few_run k (List.mem_range.2 h)
  simpa using this
 ·refine ⟨2*19+2,0,?_⟩
  rw [if_pos (by simp; omega)]
  exact deep_run 19 k 0 [] rfl (by omega) (by omega) (by omega) (by simp)
end Go.Proofs.Ytlkcidmmpeebeaa
