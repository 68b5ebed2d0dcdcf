/- Proved: what the checks of a function's code compute,step by step,on plain data. No program in sight. -/
import Derived.Test.YtlkcidmmpeebeaaRows
import Derived.Test.YtlkcidmmpeebeaaCheck
import Derived.Test.YtlkcidmmpeebeaaPcC
import Derived.WalkKit
import Derived.WalkSpells
import Derived.WalkLawsBesides
set_option linter.unusedVariables false
set_option linter.unusedSimpArgs false
namespace Go.Proofs.Ytlkcidmmpeebeaa
open Go.RowKit
def I64 (x:Int):Prop:=-9223372036854775808≤x∧x≤9223372036854775807
theorem get_of_lt {α:Type} {l:List α} {k:Nat} (h:k<l.length):∃ x,l[k]?=some x:=⟨l[k],List.getElem?_eq_getElem h⟩
/-- the numbers of an operation are numbers of the machine -/
def OpI (o:OpD):Prop:=I64 o.kind∧I64 o.dst∧I64 o.a∧I64 o.b∧I64 o.n∧I64 o.ctx∧I64 o.var∧I64 o.piece∧I64 o.sk∧I64 o.sv∧I64 o.sa
def fieldsN (k:Int):Int :=
  if k=1 then 9 else if k=2 then 3 else if 3≤k∧k≤14 then 7 else if k=15 then 11 else if k=16 then 14 else if k=17 then 8 else if k=18 then 2 else if k=19∨k=20 then 24 else if k=21 then 48 else 0
theorem mixed:Try.prog.follows .mixedOrders=true:=by kernel_rfl
def findD (D:List (Int × Int)) (x:Int):Option Int:=(D.find? (fun p=>x==p.1)).map (·.2)
def hasD (params:Int) (D:List (Int × Int)) (v n:Int):Bool:=P.within v (params-1)||((findD D v).isSome&&decide ((findD D v).getD 0<n))
def andI (a b:Int):Int:=IntKind.i64.wrap ((BitVec.ofInt 64 a &&& BitVec.ofInt 64 b).toNat)
theorem fields_cases (k:Int) (p:Int→Prop) (h1:k=1→p 9) (h2:k=2→p 3) (h3:3≤k→k≤14→p 7) (h4:k=15→p 11) (h5:k=16→p 14) (h6:k=17→p 8) (h7:k=18→p 2) (h8:k=19∨k=20→p 24) (h9:k=21→p 48) (h10:k<1∨21<k→p 0):p (fieldsN k):=by
  unfold fieldsN
  repeat' split
  all_goals first | (apply h1; omega) | (apply h2; omega) | (apply h3 <;> omega) | (apply h4; omega) | (apply h5; omega) | (apply h6; omega) | (apply h7; omega) | (apply h8; omega) | (apply h9; omega) | (apply h10; omega)
theorem f_zero (k:Int):(fieldsN k==0)=!P.known k:=by
  refine fields_cases k (fun f=>(f==0)=!P.known k) ?_ ?_ ?_ ?_ ?_ ?_ ?_ ?_ ?_ ?_ <;> intros <;> simp [P.known] <;> omega
theorem f_dst (k:Int):(andI (fieldsN k) 1==0)=!P.fDst k:=by
  refine fields_cases k (fun f=>(andI f 1==0)=!P.fDst k) ?_ ?_ ?_ ?_ ?_ ?_ ?_ ?_ ?_ ?_ <;> intros <;> simp [P.fDst,R.defines,andI,IntKind.wrap_i64] <;> omega
theorem f_a (k:Int):(andI (fieldsN k) 2==0)=!P.fA k:=by
  refine fields_cases k (fun f=>(andI f 2==0)=!P.fA k) ?_ ?_ ?_ ?_ ?_ ?_ ?_ ?_ ?_ ?_ <;> intros <;> simp [P.fA,andI,IntKind.wrap_i64] <;> omega
theorem f_b (k:Int):(andI (fieldsN k) 4==0)=!P.fB k:=by
  refine fields_cases k (fun f=>(andI f 4==0)=!P.fB k) ?_ ?_ ?_ ?_ ?_ ?_ ?_ ?_ ?_ ?_ <;> intros <;> simp [P.fB,andI,IntKind.wrap_i64] <;> omega
theorem f_n (k:Int):(andI (fieldsN k) 8==0)=!P.fN k:=by
  refine fields_cases k (fun f=>(andI f 8==0)=!P.fN k) ?_ ?_ ?_ ?_ ?_ ?_ ?_ ?_ ?_ ?_ <;> intros <;> simp [P.fN,andI,IntKind.wrap_i64] <;> omega
theorem f_ctx (k:Int):(andI (fieldsN k) 16==0)=!P.fCtx k:=by
  refine fields_cases k (fun f=>(andI f 16==0)=!P.fCtx k) ?_ ?_ ?_ ?_ ?_ ?_ ?_ ?_ ?_ ?_ <;> intros <;> simp [P.fCtx,andI,IntKind.wrap_i64] <;> omega
theorem f_bind (k:Int):(andI (fieldsN k) 32==0)=!P.fBind k:=by
  refine fields_cases k (fun f=>(andI f 32==0)=!P.fBind k) ?_ ?_ ?_ ?_ ?_ ?_ ?_ ?_ ?_ ?_ <;> intros <;> simp [P.fBind,andI,IntKind.wrap_i64] <;> omega
theorem bne_of {a b:Int} {x:Bool} (h:(a==b)=!x):(a != b)=x:=by
  show (!(a==b))=x
  rw [h]; simp
def Upto {α:Type} (xs:List α) (p:Nat→α→Bool) (k:Nat):Prop:=∀ j x,j<k→xs[j]?=some x→p j x=true
theorem Upto.zero {α:Type} {xs:List α} {p:Nat→α→Bool}:Upto xs p 0:=fun j _ h=>absurd h (Nat.not_lt_zero j)
theorem Upto.step {α:Type} {xs:List α} {p:Nat→α→Bool} {k:Nat} {x:α} (h:Upto xs p k) (hx:xs[k]?=some x) (hp:p k x=true):Upto xs p (k+1):=fun j y hj hy=>by
  rcases Nat.lt_or_ge j k with hlt | hge
  · exact h j y hlt hy
  · obtain rfl:j=k:=by omega
    rw [hx] at hy; injection hy with hy; subst hy; exact hp
theorem Upto.all {α:Type} {xs:List α} {p:α→Bool} {k:Nat} (h:Upto xs (fun _=>p) k) (hk:xs.length≤k):true=xs.all p:=by
  symm; rw [List.all_eq_true]; intro x hx
  obtain ⟨j,hj⟩:=List.mem_iff_getElem?.1 hx
  exact h j x (by have:=(List.getElem?_eq_some_iff.1 hj).1; omega) hj
theorem all_no {α:Type} {xs:List α} {p:α→Bool} {k:Nat} {x:α} (hx:xs[k]?=some x) (hp:p x=false):false=xs.all p:=by
  symm; rw [List.all_eq_false]; exact ⟨x,List.mem_of_getElem? hx,by simp [hp]⟩
theorem Upto.allAt {α:Type} {xs:List α} {p:Nat→α→Bool} {k:Nat} (h:Upto xs p k) (hk:xs.length≤k):true=R.allAt xs p:=by
  symm; rw [allAt_iff]; intro j x hx
  exact h j x (by have:=(List.getElem?_eq_some_iff.1 hx).1; omega) hx
theorem allAt_no {α:Type} {xs:List α} {p:Nat→α→Bool} {k:Nat} {x:α} (hx:xs[k]?=some x) (hp:p k x=false):false=R.allAt xs p:=by
  symm; rw [Bool.eq_false_iff]; intro h
  rw [allAt_iff] at h
  rw [h k x hx] at hp; cases hp
theorem params_at {c:CodeD} {i:Int} {x:BlockD} (hx:c.blocks[i.toNat]?=some x):R.paramsAt c i=x.params:=by unfold R.paramsAt; rw [hx]; rfl
theorem lt_of_dec {k n:Nat} (h:decide ((k:Int)<(n:Int))=true):k<n:=by simpa using h
theorem le_of_dec {k n:Nat} (h:decide ((k:Int)<(n:Int))=false):n≤k:=by simpa using h
/-- how many operations,as the programs count them -/
def totW (l:List BlockD):Int:=l.foldl (fun n b=>IntKind.i64.wrap (n+(b.ops.length:Int))) 0
theorem totW_step {l:List BlockD} {k:Nat} {x:BlockD} (hx:l[k]?=some x):totW (l.take (k+1))=IntKind.i64.wrap (totW (l.take k)+(x.ops.length:Int)):=by
  unfold totW
  obtain ⟨hk,rfl⟩:=List.getElem?_eq_some_iff.1 hx
  rw [List.take_succ_eq_append_getElem hk,List.foldl_append]; rfl
theorem totW_all {l:List BlockD} {k:Nat} (h:l.length≤k):totW (l.take k)=totW l:=by rw [List.take_of_length_le h]
theorem tmap_step {α β:Type} {l:List α} {f:α→β} {k:Nat} {x:α} (hx:l[k]?=some x):(l.take (k+1)).map f=(l.take k).map f++[f x]:=by
  obtain ⟨hk,rfl⟩:=List.getElem?_eq_some_iff.1 hx
  rw [List.take_succ_eq_append_getElem hk,List.map_append]; rfl
theorem contains_all (l:List (Int × Int × Int)) (x:Int × Int × Int):(l.map (fun y=>(y.1,y.2.1))).contains (x.1,x.2.1)=!l.all (fun y=>!(y.1==x.1&&y.2.1==x.2.1)):=by
  induction l with
  | nil=>rfl
  | cons y l ih =>
    rw [List.map_cons,List.contains_cons,ih,List.all_cons]
    have e:((x.1,x.2.1)==(y.1,y.2.1))=(y.1==x.1&&y.2.1==x.2.1):=by
      rw [Bool.eq_iff_iff]; simp only [beq_iff_eq,Prod.mk.injEq,Bool.and_eq_true]; constructor <;> rintro ⟨h1,h2⟩ <;> exact ⟨h1.symm,h2.symm⟩
    rw [e]
    cases (y.1==x.1&&y.2.1==x.2.1) <;> simp
def objAt (n:Nat) (l:List (Int × Int × Int)) (i:Nat) (x:Int × Int × Int):Bool:=R.obj1 n x&&(l.take i).all (fun y=>!(y.1==x.1&&y.2.1==x.2.1))
theorem objAt_eq (n:Nat) (l:List (Int × Int × Int)) (k:Nat) (x:Int × Int × Int) :
    ((((!P.within x.1 ((n:Int)-1)||!P.within x.2.1 23)||decide (x.2.2<1))||decide (8<x.2.2))||((l.take k).map (fun y=>(y.1,y.2.1))).contains (x.1,x.2.1))=!objAt n l k x:=by
  unfold objAt
  rw [contains_all,obj1_eq]
  unfold P.obj1
  cases (((!P.within x.1 ((n:Int)-1)||!P.within x.2.1 23)||decide (x.2.2<1))||decide (8<x.2.2)) <;> simp
def rightBindD (c:CodeD) (ps:Int) (D:List (Int × Int)) (o:OpD) (n:Int):Bool :=
  if !P.within o.var 23||!P.within o.piece 3 then false
  else if o.sk==0 then o.sv==0&&o.sa==0 else if o.sk==1 then o.sv==0 else if o.sk==2 then hasD ps D o.sv n else if o.sk==3 then P.within o.sv (c.params-1) else false
def rightOpD (c:CodeD) (ps:Int) (D:List (Int × Int)) (o:OpD) (i:Int):Bool :=
  if ((andI (fieldsN o.kind) 2 != 0&&!hasD ps D o.a i)||(andI (fieldsN o.kind) 4 != 0&&!hasD ps D o.b i))||(andI (fieldsN o.kind) 16 != 0&&!P.within o.ctx ((c.contexts.length:Int)-1)) then false
  else if o.kind==15 then P.within o.n ((c.objects.length:Int)-1) else if o.kind==16 then P.within o.n ((c.objects.length:Int)-1) else if o.kind==17 then P.within o.n ((c.objects.length:Int)-1)
  else if o.kind==19 then P.within o.n 9999 else if o.kind==20 then P.within o.n 9999
  else true
def rightTermH (c:CodeD) (H:Int→Bool) (t:TermD):Bool :=
  if !t.args.all H||!t.args0.all H||!t.args1.all H then false else
  match P.edges t with
  | none=>false
  | some e =>
    if (if t.kind==2||t.kind==4||t.kind==5 then !H t.a else t.a != 0) then false else
    if (if t.kind==3||t.kind==6 then !P.within t.n 7||decide (4<t.args.length) else t.n != 0||t.args.length != 0) then false else
    !((decide (0<e)&&!P.rightEdge c t.b0 t.args0 t.kind)||(decide (e≤0)&&!P.absent t.b0 t.args0))&&!((decide (1<e)&&!P.rightEdge c t.b1 t.args1 t.kind)||(decide (e≤1)&&!P.absent t.b1 t.args1))
theorem lt4 (n:Nat):decide ((4:Int)<(n:Int))=decide (4<n):=by rw [Bool.eq_iff_iff]; simp; omega
theorem lt0m (m:Nat):decide ((0:Int)<(m:Int))=decide (0<m):=by rw [Bool.eq_iff_iff]; simp
theorem le0m (m:Nat):decide ((m:Int)≤0)=decide (m≤0):=by rw [Bool.eq_iff_iff]; simp only [decide_eq_true_eq]; omega
theorem lt1m (m:Nat):decide ((1:Int)<(m:Int))=decide (1<m):=by rw [Bool.eq_iff_iff]; simp only [decide_eq_true_eq]; omega
theorem le1m (m:Nat):decide ((m:Int)≤1)=decide (m≤1):=by rw [Bool.eq_iff_iff]; simp only [decide_eq_true_eq]; omega
theorem ne0 (n:Nat):((n:Int) != 0)=(n != 0):=by rw [Bool.eq_iff_iff]; simp
/-- what the map has behind the first k operations -/
def dk (ops:List OpD) (k:Nat):List (Int × Int):=(List.range k).filterMap (fun i=>match ops[i]? with | some o=>if P.fDst o.kind=true then some (o.dst,(i:Int)) else none | none=>none)
theorem dk_zero (ops:List OpD):dk ops 0=[]:=rfl
theorem dk_yes {ops:List OpD} {k:Nat} {o:OpD} (hx:ops[k]?=some o) (hd:P.fDst o.kind=true):dk ops (k+1)=dk ops k++[(o.dst,(k:Int))]:=by
  unfold dk; rw [List.range_succ,List.filterMap_append]; simp [hx,hd]
theorem dk_no {ops:List OpD} {k:Nat} {o:OpD} (hx:ops[k]?=some o) (hd:P.fDst o.kind=false):dk ops (k+1)=dk ops k:=by
  unfold dk; rw [List.range_succ,List.filterMap_append]; simp [hx,hd]
theorem findD_append (D:List (Int × Int)) (p:Int × Int) (v:Int):findD (D++[p]) v=(match findD D v with | some x=>some x | none=>if (v==p.1)=true then some p.2 else none):=by
  unfold findD
  rw [List.find?_append]
  cases h:D.find? (fun q=>v==q.1) with
  | some x=>simp
  | none=>cases h':(v==p.1) <;> simp [List.find?_cons,h']
/-- the first k operations' answer -/
def fi (ops:List OpD) (k:Nat) (v:Int):Option Int:=((List.range k).find? (fun i=>match ops[i]? with | some o=>P.fDst o.kind&&o.dst==v | none=>false)).map (fun i:Nat=>(i:Int))
theorem findD_dk (ops:List OpD) (v:Int):∀ k,findD (dk ops k) v=fi ops k v
  | 0=>rfl
  | k+1=>by
    have ih:=findD_dk ops v k
    unfold fi
    rw [List.range_succ,List.find?_append]
    have ih':findD (dk ops k) v=((List.range k).find? (fun i=>match ops[i]? with | some o=>P.fDst o.kind&&o.dst==v | none=>false)).map (fun i:Nat=>(i:Int)):=ih
    cases hx:ops[k]? with
    | none =>
      have e:dk ops (k+1)=dk ops k:=by unfold dk; rw [List.range_succ,List.filterMap_append]; simp [hx]
      rw [e,ih']; simp [hx]
    | some o =>
      cases hd:P.fDst o.kind with
      | false=>rw [dk_no hx hd,ih']; simp [hx,hd]
      | true =>
        rw [dk_yes hx hd,findD_append,ih']
        cases hf:(List.range k).find? (fun i=>match ops[i]? with | some o=>P.fDst o.kind&&o.dst==v | none=>false) with
        | some j=>simp
        | none =>
          have e:(v==o.dst)=(o.dst==v):=by rw [Bool.eq_iff_iff,beq_iff_eq,beq_iff_eq]; exact ⟨Eq.symm,Eq.symm⟩
          simp only [Option.map_none,Option.none_or,hx,hd,Bool.true_and,List.find?_cons,List.find?_nil,e]
          cases (o.dst==v) <;> simp
theorem fi_defined (ops:List OpD) (v:Int):fi ops ops.length v=(P.definedAt ops v).map (fun i:Nat=>(i:Int)):=by
  unfold fi
  congr 1
  cases h:P.definedAt ops v with
  | none =>
    unfold P.definedAt at h
    rw [List.findIdx?_eq_none_iff] at h
    rw [List.find?_eq_none]
    intro i hi
    cases hx:ops[i]? with
    | none=>simp
    | some o =>
      have:=h o (List.mem_of_getElem? hx)
      simp only [this,Bool.false_eq_true,not_false_eq_true]
  | some j =>
    unfold P.definedAt at h
    rw [List.findIdx?_eq_some_iff_getElem] at h
    obtain ⟨hj,hp,hmin⟩:=h
    rw [List.find?_range_eq_some]
    refine ⟨by rw [List.getElem?_eq_getElem hj]; exact hp,by simpa using hj,fun i hi=>?_⟩
    rw [List.getElem?_eq_getElem (by omega)]
    have:=hmin i hi
    simp only [Bool.not_eq_true] at this ⊢
    simp only [this,Bool.not_false]
theorem hasD_eq (ps:Int) (ops:List OpD) (v:Int) (n:Nat):hasD ps (dk ops ops.length) v (n:Int)=P.has ps ops v n:=by
  unfold hasD P.has
  rw [findD_dk,fi_defined]
  congr 1
  cases P.definedAt ops v with
  | none=>simp
  | some i=>simp
theorem rightOpD_eq (c:CodeD) (b:BlockD) (o:OpD) (i:Nat):rightOpD c b.params (dk b.ops b.ops.length) o (i:Int)=P.rightOp c b o i:=by
  unfold rightOpD P.rightOp
  rw [hasD_eq,hasD_eq,bne_of (f_a o.kind),bne_of (f_b o.kind),bne_of (f_ctx o.kind)]
  simp only [Bool.or_assoc]
  split
  · rfl
  · cases h15:(o.kind==15) <;> cases h16:(o.kind==16) <;> cases h17:(o.kind==17) <;> cases h19:(o.kind==19) <;> cases h20:(o.kind==20) <;> simp
theorem rightBindD_eq (c:CodeD) (b:BlockD) (o:OpD) (n:Nat):rightBindD c b.params (dk b.ops b.ops.length) o (n:Int)=P.rightBind c b o n:=by
  unfold rightBindD P.rightBind; rw [hasD_eq]
theorem rightTermH_eq (c:CodeD) (b:BlockD) (n:Nat):rightTermH c (fun x=>hasD b.params (dk b.ops b.ops.length) x (n:Int)) b.term=P.rightTerm c b n:=by
  have:(fun x=>hasD b.params (dk b.ops b.ops.length) x (n:Int))=(fun v=>P.has b.params b.ops v n):=funext fun v=>hasD_eq _ _ _ _
  rw [this]; rfl
/-- one definition -/
def okDef (params:Int) (ops:List OpD) (i:Nat) (o:OpD):Bool:=!P.fDst o.kind||!(((findD (dk ops i) o.dst).isSome||decide (o.dst<params))||decide (9999<o.dst))
theorem find_dsts (ops:List OpD) (v:Int):∀ k,k≤ops.length→(findD (dk ops k) v).isSome=(dsts (ops.take k)).contains v
  | 0,_=>by simp [dk_zero,findD,dsts]
  | k+1,hk=>by
    have ih:=find_dsts ops v k (by omega)
    have hx:ops[k]?=some ops[k]:=List.getElem?_eq_getElem (by omega)
    rw [List.take_succ_eq_append_getElem (by omega),dsts_snoc]
    cases hd:P.fDst ops[k].kind with
    | false =>
      have hd':R.defines ops[k].kind=false:=hd
      rw [dk_no hx hd,ih,hd']; simp
    | true =>
      have hd':R.defines ops[k].kind=true:=hd
      rw [dk_yes hx hd,findD_append,hd']
      simp only [if_true]
      have hc:(dsts (ops.take k)++[ops[k].dst]).contains v=((dsts (ops.take k)).contains v||v==ops[k].dst):=by
        rw [Bool.eq_iff_iff]; simp
      rw [hc,← ih]
      cases hf:findD (dk ops k) v with
      | some x=>simp
      | none=>cases hv:(v==ops[k].dst) <;> simp
theorem defs_from (params:Int):∀ (os pre:List OpD),P.defs params (dsts pre).reverse os=R.allAt os (fun i o=>!P.fDst o.kind||!(((dsts (pre++os.take i)).contains o.dst||decide (o.dst<params))||decide (9999<o.dst)))
  | [],pre=>rfl
  | o::os,pre=>by
    have ih:=defs_from params os (pre++[o])
    unfold R.allAt at ih ⊢
    rw [List.length_cons,range_succ_all]
    simp only [List.getElem?_cons_zero,List.getElem?_cons_succ,List.take_succ_cons,List.take_zero,List.append_nil]
    simp only [List.append_assoc,List.singleton_append] at ih
    rw [P.defs,← ih,dsts_snoc]
    have hr:(dsts pre).reverse.contains o.dst=(dsts pre).contains o.dst:=by rw [Bool.eq_iff_iff]; simp
    cases hd:P.fDst o.kind with
    | false =>
      have hd':R.defines o.kind=false:=hd
      simp [hd']
    | true =>
      have hd':R.defines o.kind=true:=hd
      rw [hr]
      simp [hd',List.reverse_append]
theorem defs_eq (params:Int) (ops:List OpD):P.defs params [] ops=R.allAt ops (okDef params ops):=by
  have h:=defs_from params ops []
  have e:(dsts ([]:List OpD)).reverse=[]:=rfl
  rw [e] at h
  rw [h,Bool.eq_iff_iff,allAt_iff,allAt_iff]
  unfold okDef
  constructor
  · intro h i o hx
    have:=h i o hx
    rw [find_dsts ops o.dst i (by have:=(List.getElem?_eq_some_iff.1 hx).1; omega)]
    simpa using this
  · intro h i o hx
    have:=h i o hx
    rw [find_dsts ops o.dst i (by have:=(List.getElem?_eq_some_iff.1 hx).1; omega)] at this
    simpa using this
def opAt (c:CodeD) (b:BlockD) (i:Nat) (o:OpD):Bool:=P.clean o&&P.rightOp c b o i&&(o.kind != 21||P.rightBind c b o b.ops.length)
theorem rightBlock_eq (c:CodeD) (b:BlockD):P.rightBlock c b=(R.allAt b.ops (okDef b.params b.ops)&&R.allAt b.ops (opAt c b)&&P.rightTerm c b b.ops.length):=by
  unfold P.rightBlock; rw [defs_eq]
  congr 1
  congr 1
  unfold R.allAt
  congr 1
  funext i
  cases b.ops[i]? <;> rfl
theorem ctx1_eq (k:Nat) (y:Int × Int × Int):P.ctx1 k y=!((!P.within y.2.2 7)||(decide ((0:Int)<(k:Int))&&((!P.within y.1 ((k:Int)-1))||(!P.within y.2.1 9999)))):=by
  unfold P.ctx1
  have e:decide ((0:Int)<(k:Int))=decide (0<k):=by rw [Bool.eq_iff_iff]; simp
  rw [e]
  cases P.within y.2.2 7 <;> simp
theorem lim_eq (c:CodeD) (tot:Int):(decide (400<c.blocks.length)||decide (6000<tot)||decide (64<c.contexts.length)||decide (64<c.objects.length))=(((decide ((400:Int)<((c.blocks.length:Nat):Int))||decide (6000<tot))||decide ((64:Int)<((c.contexts.length:Nat):Int)))||decide ((64:Int)<((c.objects.length:Nat):Int))):=by
  have e1:decide (400<c.blocks.length)=decide ((400:Int)<((c.blocks.length:Nat):Int)):=by rw [Bool.eq_iff_iff]; simp only [decide_eq_true_eq]; omega
  have e2:decide (64<c.contexts.length)=decide ((64:Int)<((c.contexts.length:Nat):Int)):=by rw [Bool.eq_iff_iff]; simp only [decide_eq_true_eq]; omega
  have e3:decide (64<c.objects.length)=decide ((64:Int)<((c.objects.length:Nat):Int)):=by rw [Bool.eq_iff_iff]; simp only [decide_eq_true_eq]; omega
  rw [e1,e2,e3]
theorem dsts_yes {ops:List OpD} {k:Nat} {o:OpD} (hx:ops[k]?=some o) (hd:R.defines o.kind=true):dsts (ops.take (k+1))=dsts (ops.take k)++[o.dst]:=by
  obtain ⟨hk,rfl⟩:=List.getElem?_eq_some_iff.1 hx
  rw [List.take_succ_eq_append_getElem hk,dsts_snoc,hd]; rfl
theorem dsts_no {ops:List OpD} {k:Nat} {o:OpD} (hx:ops[k]?=some o) (hd:R.defines o.kind=false):dsts (ops.take (k+1))=dsts (ops.take k):=by
  obtain ⟨hk,rfl⟩:=List.getElem?_eq_some_iff.1 hx
  rw [List.take_succ_eq_append_getElem hk,dsts_snoc,hd]; rfl
theorem dsts_le (ops:List OpD) (k:Nat):(dsts (ops.take k)).length≤ops.length:=by
  unfold dsts
  rw [List.length_map]
  exact Nat.le_trans (List.length_filter_le _ _) (by rw [List.length_take]; omega)
theorem values_take {b:BlockD} {k:Nat} (h:b.ops.length≤k):R.upto b.params++dsts (b.ops.take k)=R.values b:=by rw [List.take_of_length_le h]; rfl
theorem upto_len (n:Int):(R.upto n).length=n.toNat:=by simp [R.upto]
def stepB (c:CodeD) (params:Int) (all K:List Int) (o:OpD):Bool:=R.head K o&&(!R.defines o.kind||!(decide (o.dst<params)||decide (9999<o.dst)||R.has K o.dst))&&R.tail c all o
theorem opsFrom_all (c:CodeD) (params:Int) (all:List Int):∀ (os pre:List OpD),R.opsFrom c params all (R.upto params++dsts pre) os=R.allAt os (fun i o=>stepB c params all (R.upto params++dsts (pre++os.take i)) o)
  | [],pre=>rfl
  | o::os,pre=>by
    have ih:=opsFrom_all c params all os (pre++[o])
    have e1:(if R.defines o.kind then R.upto params++dsts pre++[o.dst] else R.upto params++dsts pre)=R.upto params++dsts (pre++[o]):=by
      rw [dsts_snoc]; split <;> simp
    unfold R.allAt at ih ⊢
    rw [List.length_cons,range_succ_all,R.opsFrom,e1,ih]
    simp only [List.getElem?_cons_zero,List.getElem?_cons_succ,List.take_succ_cons,List.take_zero,List.append_nil,List.append_assoc,List.singleton_append]
    rfl
theorem ops_all (c:CodeD) (b:BlockD):R.ops c b=R.allAt b.ops (fun i o=>stepB c b.params (R.values b) (R.upto b.params++dsts (b.ops.take i)) o):=by
  have h:=opsFrom_all c b.params (R.values b) b.ops []
  have e0:R.upto b.params++dsts []=R.upto b.params:=by simp [dsts]
  rw [e0] at h
  unfold R.ops; rw [h]; rfl
theorem not_in (n:Int) (m:Nat):(decide (n<0)||decide ((m:Int)≤n))=!(decide (0≤n)&&decide (n<(m:Int))):=by rw [Bool.eq_iff_iff]; simp <;> try omega
theorem tail_obj {c:CodeD} {all:List Int} {o:OpD} (h:(o.kind==15||o.kind==16||o.kind==17)=true):R.tail c all o=!(decide (o.n<0)||decide (((c.objects.length:Nat):Int)≤o.n)):=by
  unfold R.tail; rw [if_pos h,not_in]; simp
theorem tail_mark {c:CodeD} {all:List Int} {o:OpD} (h0:(o.kind==15||o.kind==16||o.kind==17)=false) (h:(o.kind==19||o.kind==20)=true):R.tail c all o=!(((decide (o.n<0)||decide (9999<o.n))||decide (o.ctx<0))||decide (((c.contexts.length:Nat):Int)≤o.ctx)):=by
  unfold R.tail; rw [if_neg (by rw [h0]; simp),if_pos h,Bool.eq_iff_iff]; simp <;> try omega
theorem tail_bind {c:CodeD} {all:List Int} {o:OpD} (h0:(o.kind==15||o.kind==16||o.kind==17)=false) (h1:(o.kind==19||o.kind==20)=false) (h:(o.kind==21)=true):R.tail c all o=!((((((decide (o.ctx<0)||decide (((c.contexts.length:Nat):Int)≤o.ctx))||decide (o.var<0))||decide (24≤o.var))||decide (o.piece<0))||decide (4≤o.piece))||(!R.source c o all)):=by
  unfold R.tail; rw [if_neg (by rw [h0]; simp),if_neg (by rw [h1]; simp),if_pos h]
  cases R.source c o all <;> (rw [Bool.eq_iff_iff]; simp; try omega)
theorem tail_else {c:CodeD} {all:List Int} {o:OpD} (h0:(o.kind==15||o.kind==16||o.kind==17)=false) (h1:(o.kind==19||o.kind==20)=false) (h:(o.kind==21)=false):R.tail c all o=true:=by
  unfold R.tail; rw [if_neg (by rw [h0]; simp),if_neg (by rw [h1]; simp),if_neg (by rw [h]; simp)]
theorem ctxR_eq (k:Nat) (y:Int × Int × Int):(((decide (y.2.2<0)||decide (8≤y.2.2))||((((k:Nat):Int)==0)&&((y.1 != (-1))||(y.2.1 != (-1)))))||(decide (0<((k:Nat):Int))&&(((decide (y.1<0)||decide (((k:Nat):Int)≤y.1))||decide (y.2.1<0))||decide (9999<y.2.1))))=!R.ctx1 k y:=by
  unfold R.ctx1
  have e1:((((k:Nat):Int))==0)=(k==0):=by rw [Bool.eq_iff_iff]; simp
  have e2:decide (0<((k:Nat):Int))=decide (0<k):=by rw [Bool.eq_iff_iff]; simp
  rw [e1,e2,Bool.not_not]
theorem objR_eq (n:Nat) (y:Int × Int × Int):(((((decide (y.1<0)||decide (((n:Nat):Int)≤y.1))||decide (y.2.1<0))||decide (24≤y.2.1))||decide (y.2.2<1))||decide (8<y.2.2))=!R.obj1 n y:=by
  unfold R.obj1; rw [Bool.not_not]
theorem Upto.take_all {α:Type} {xs:List α} {p:α→Bool} {j k:Nat} (h:Upto xs (fun _=>p) j) (hk:k≤j):(xs.take k).all p=true:=by
  rw [List.all_eq_true]; intro x hx
  obtain ⟨i,hi⟩:=List.mem_iff_getElem?.1 hx
  rw [List.getElem?_take] at hi
  split at hi
  · exact h i x (by omega) hi
  · cases hi
theorem take_no {α:Type} {xs:List α} {p:α→Bool} {j k:Nat} {x:α} (hx:xs[j]?=some x) (hj:j<k) (hp:p x=false):(xs.take k).all p=false:=by
  rw [List.all_eq_false]; exact ⟨x,List.mem_iff_getElem?.2 ⟨j,by rw [List.getElem?_take,if_pos hj]; exact hx⟩,by simp [hp]⟩
theorem gt0 (n:Nat):decide ((0:Int)<(n:Int))=decide (0<n):=by rw [Bool.eq_iff_iff]; simp
def sumL:List BlockD→Nat
  | []=>0
  | b::l=>b.ops.length+sumL l
theorem fold_tot (B:Nat):∀ (l:List BlockD) (n:Nat),(∀ x∈l,x.ops.length≤140737488351232)→n+l.length*140737488351232≤9223372036854775807→l.foldl (fun n b=>IntKind.i64.wrap (n+(b.ops.length:Int))) (n:Int)=((n+sumL l:Nat):Int)
  | [],n,_,_=>rfl
  | b::l,n,h,hn=>by
    have hb:=h b List.mem_cons_self
    have hn':n+(l.length+1)*140737488351232≤9223372036854775807:=by simpa using hn
    rw [List.foldl_cons,IntWalk.i64_in _ (by omega),show ((n:Int)+(b.ops.length:Int))=((n+b.ops.length:Nat):Int) by omega,fold_tot B l (n+b.ops.length) (fun x hx=>h x (List.mem_cons_of_mem _ hx)) (by omega)]
    simp only [sumL]; omega
theorem sum_mem:∀ {l:List BlockD} {x:BlockD},x∈l→x.ops.length≤sumL l
  | b::l,x,h=>by
    rcases List.mem_cons.1 h with rfl | h
    · simp only [sumL]; omega
    · have:=sum_mem h; simp only [sumL]; omega
theorem ops_small {l:List BlockD} (h:∀ x∈l,x.ops.length≤140737488351232) (hl:l.length≤400) (ht:totW l≤6000):∀ x∈l,x.ops.length≤6000:=fun x hx=>by
  have e:totW l=((sumL l:Nat):Int):=by
    unfold totW
    have:=fold_tot 0 l 0 h (by omega)
    simpa using this
  have:=sum_mem hx
  omega
theorem chkB_no {a b o t:Bool} (h:(((a||b)||(!o))||(!t))=true):(!(a||b)&&o&&t)=false:=by revert h; cases a <;> cases b <;> cases o <;> cases t <;> simp
theorem chkB_yes {a b o t:Bool} (h:(((a||b)||(!o))||(!t))=false):(!(a||b)&&o&&t)=true:=by revert h; cases a <;> cases b <;> cases o <;> cases t <;> simp
def retB (b:BlockD):Bool:=b.ops.all (fun o=>!(o.kind != 21&&o.kind != 20))&&(b.term.kind==4&&b.term.a==0)
theorem retB_no {b:BlockD} {k:Nat} {o:OpD} (hx:b.ops[k]?=some o) (h:(o.kind != 21&&o.kind != 20)=true):false=retB b:=by
  unfold retB; rw [← all_no hx (by rw [h]; rfl)]; rfl
theorem retB_yes {b:BlockD} {k:Nat} (h:Upto b.ops (fun _ o=>!(o.kind != 21&&o.kind != 20)) k) (hk:b.ops.length≤k):(b.term.kind==4&&b.term.a==0)=retB b:=by
  unfold retB; rw [← h.all hk]; simp
def isTailD (c:CodeD) (t:TermD):Bool:=if ((t.kind != 3)||decide (0≤t.b1))||decide ((0:Int)<(t.args0.length:Int)) then false else match c.blocks[t.b0.toNat]? with | some b=>retB b | none=>false
def tailT (t:TermD):TermD:={ kind:=6,a:=0,n:=t.n,args:=t.args,b0:=-1,args0:=[],b1:=-1,args1:=[] }
def tailY (b:BlockD):BlockD:={ params:=b.params,ops:=b.ops,term:=tailT b.term }
def tailB (c:CodeD) (b:BlockD):BlockD:=if isTailD c b.term then tailY b else b
def tailD (c:CodeD):CodeD:={ params:=c.params,blocks:=c.blocks.map (tailB c),contexts:=c.contexts,objects:=c.objects }
theorem check_parts {c:CodeD} {t:Int} (h:R.check c t=0):c.blocks.length≤400∧t≤6000∧∀ b∈c.blocks,R.term c b=true:=by
  unfold R.check at h
  split at h
  · simp at h
  split at h
  · simp at h
  split at h
  · rename_i h1 h2 h3
    simp only [Bool.or_eq_true,decide_eq_true_eq,not_or,Nat.not_lt] at h1
    refine ⟨by omega,by omega,fun b hb=>?_⟩
    have:=List.all_eq_true.1 h3 b hb
    simp only [Bool.and_eq_true] at this
    exact this.2
  · simp at h
theorem check_in {c:CodeD} {t:Int} (h:R.check c t=0) {b:BlockD} {k:Nat} (hb:c.blocks[k]?=some b) (h3:b.term.kind=3):0≤b.term.b0∧b.term.b0<(c.blocks.length:Int):=by
  have ht:=(check_parts h).2.2 b (List.mem_iff_getElem?.2 ⟨k,hb⟩)
  unfold R.term at ht
  simp only [h3] at ht
  split at ht
  · simp at ht
  split at ht
  · simp at ht
  simp only [Int.reduceBEq,Bool.false_eq_true,↓reduceIte,Bool.and_eq_true] at ht
  have h1:=ht.1
  unfold R.edge at h1
  split at h1
  · simp at h1
  · rename_i q
    simp only [Bool.or_eq_true,decide_eq_true_eq,not_or] at q
    omega
end Go.Proofs.Ytlkcidmmpeebeaa
