/- Proved: the layouts of the law -/
import Derived.Test.YtlkcidmmpeebeaaPAlF
import Derived.Test.YtlkcidmmpeebeaaPDown
import Derived.Test.YtlkcidmmpeebeaaPcI
set_option linter.unusedVariables false
set_option linter.unusedSimpArgs false
namespace Go.Proofs.Ytlkcidmmpeebeaa
open Go.RowKit Go.PX
set_option maxRecDepth 100000
theorem self_ne78 (i j:Nat) {a b c d e f:Int} (h1:a=d) (h2:b=e) (h3:c=f):PX.BinIs Try.prog .neq 78 (.tmp i) (.tmp j) (.agg #[.I a,.I b,.I c]) (.agg #[.I d,.I e,.I f]) (.bool false):=by
 subst h1 h2 h3
 intro w
 simp [go_sem,eqGuard,Try.underlying78]
def retC (p v:Int) (ops:List OpD):CodeD:={ params:=p,blocks:=[retD p v ops],contexts:=[(-1,-1,0)],objects:=[] }
def constOp (p i:Nat):OpD:=⟨1,((p+i:Nat):Int),0,0,(i:Int),0,0,0,0,0,0⟩
def printOp (i:Nat):OpD:=⟨18,0,(i:Int),0,0,0,0,0,0,0,0⟩
def opsA (p i:Nat):List OpD:=(List.range i).map (constOp p)
def opsB (p k j:Nat):List OpD:=opsA p k++(List.range j).map printOp
def mC (p k:Nat):CodeD:=retC (p:Int) 0 (opsB p k (p+k))
def plI (i:Nat):PlaceD:=if i<12 then (2,((i+1:Nat):Int),0) else (3,(i:Int)-12,0)
def plM (p k:Nat):List PlaceD:=(List.range (p+k)).map plI
@[simp] theorem plM_len (p k:Nat):(plM p k).length=p+k:=by simp [plM]
def slM (p k:Nat):Int:=if ((p+k:Nat):Int)-12 > 0 then ((p+k:Nat):Int)-12 else 0
def layM (p k:Nat):LayD:=⟨[plM p k],slM p k,0,[],slM p k⟩
def layEq (a b:LayD):Bool:=decide (a.places=b.places)&&(decide (a.slots=b.slots)&&(decide (a.saves=b.saves)&&(decide (a.objects=b.objects)&&decide (a.size=b.size))))
def layAll:Bool:=(List.range 5).all fun p=>(List.range 30).all fun k=>Nat.beq (p+k) 0||layEq (layD false (mC p k)) (layM p k)
theorem i64_small {n:Int} (h:-1000000≤n∧n≤1000000):I64 n:=⟨by omega,by omega⟩
theorem codeI_ret {p v:Int} {ops:List OpD} (hp:-1000000≤p∧p≤1000000) (hv:-1000000≤v∧v≤1000000) (ho:∀ o∈ops,OpI o) (hl:ops.length≤1000):CodeI (retC p v ops):=by
 have z:∀ n:Int,-1000000≤n∧n≤1000000→I64 n:=fun n h=>i64_small h
 refine ⟨z _ hp,fun b hb=>?_,fun o ho=>?_,fun o ho=>by cases ho⟩
 ·simp only [retC,List.mem_singleton] at hb; subst hb
  exact ⟨⟨z _ hp,z 4 (by decide),z _ hv,z 0 (by decide),z (-1) (by decide),z (-1) (by decide)⟩,ho,(fun x hx=>by cases hx),(fun x hx=>by cases hx),(fun x hx=>by cases hx),Nat.le_trans hl (by decide)⟩
 ·simp only [retC,List.mem_singleton] at ho; subst ho
  exact ⟨z _ (by decide),z _ (by decide),z _ (by decide)⟩
def kAl:CodeD:=retC 2 3 [⟨3,2,0,1,0,0,0,0,0,0,0⟩,⟨3,3,2,1,0,0,0,0,0,0,0⟩]
def kLl:LayD:=⟨[[(2,1,0),(2,2,0),(2,1,0),(2,1,0)]],0,0,[],0⟩
theorem lay_k:layD false kAl=kLl:=by kernel_rfl
theorem opI_small (o:OpD) (h:([o.kind,o.dst,o.a,o.b,o.n,o.ctx,o.var,o.piece,o.sk,o.sv,o.sa].all fun n=>decide (-1000000≤n)&&decide (n≤1000000))=true):OpI o:=by
 simp only [List.all_cons,List.all_nil,Bool.and_true,Bool.and_eq_true,decide_eq_true_eq] at h
 obtain ⟨h1,h2,h3,h4,h5,h6,h7,h8,h9,h10,h11⟩:=h
 exact ⟨i64_small h1,i64_small h2,i64_small h3,i64_small h4,i64_small h5,i64_small h6,i64_small h7,i64_small h8,i64_small h9,i64_small h10,i64_small h11⟩
theorem codeI_kAl:CodeI kAl:=codeI_ret (p:=2) (v:=3) (by decide) (by decide) (fun o ho=>by
 simp only [List.mem_cons,List.not_mem_nil,or_false] at ho
 rcases ho with rfl | rfl <;> exact opI_small _ (by decide)) (by decide)
end Go.Proofs.Ytlkcidmmpeebeaa
