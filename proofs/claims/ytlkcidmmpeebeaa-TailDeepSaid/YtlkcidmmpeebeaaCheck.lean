set_option linter.unusedVariables false
set_option linter.unusedSimpArgs false
/- Plain data of the intermediate code,the two checks of a function's code as Lean functions,and that they agree. No program in sight. -/
namespace Go.Proofs.Ytlkcidmmpeebeaa
structure OpD where
  (kind dst a b n ctx var piece sk sv sa:Int)
structure TermD where
  (kind a n:Int)
  args:List Int
  b0:Int
  args0:List Int
  b1:Int
  args1:List Int
structure BlockD where
  params:Int
  ops:List OpD
  term:TermD
structure CodeD where
  params:Int
  blocks:List BlockD
  contexts:List (Int × Int × Int)
  objects:List (Int × Int × Int)

/-! The document's check. -/
namespace R
def defines (k:Int):Bool:=decide (1≤k)&&decide (k≤15)
def usesA (k:Int):Bool:=(decide (2≤k)&&decide (k≤16))||k==18
def usesB (k:Int):Bool:=(decide (3≤k)&&decide (k≤14))||k==16
def has (l:List Int) (x:Int):Bool:=l.any (fun y=>x==y)
def plain (o:OpD):Bool :=
  let k:=o.kind
  if (!defines k&&o.dst != 0)||(!usesA k&&o.a != 0)||(!usesB k&&o.b != 0) then false else
  let n:=k==1||k==15||k==16||k==17||k==19||k==20
  if (!n&&o.n != 0)||(k != 19&&k != 20&&k != 21&&o.ctx != 0) then false else
  k==21||(o.var==0&&o.piece==0&&(o.sk==0&&o.sv==0&&o.sa==0))
def source (c:CodeD) (o:OpD) (all:List Int):Bool :=
  if o.sk==0 then o.sv==0&&o.sa==0 else if o.sk==1 then o.sv==0 else if o.sk==2 then has all o.sv else if o.sk==3 then decide (0≤o.sv)&&decide (o.sv<c.params) else false
def upto (n:Int):List Int:=(List.range n.toNat).map (fun i:Nat=>(i:Int))
def values (b:BlockD):List Int:=upto b.params++(b.ops.filter (fun o=>defines o.kind)).map (·.dst)
/-- the rest of an operation's test -/
def tail (c:CodeD) (all:List Int) (o:OpD):Bool :=
  if o.kind==15||o.kind==16||o.kind==17 then decide (0≤o.n)&&decide (o.n<c.objects.length)
  else if o.kind==19||o.kind==20 then decide (0≤o.n)&&decide (o.n≤9999)&&decide (0≤o.ctx)&&decide (o.ctx<c.contexts.length)
  else if o.kind==21 then decide (0≤o.ctx)&&decide (o.ctx<c.contexts.length)&&decide (0≤o.var)&&decide (o.var<24)&&decide (0≤o.piece)&&decide (o.piece<4)&&source c o all
  else true
def head (known:List Int) (o:OpD):Bool :=
  !(decide (o.kind<1)||decide (21<o.kind)||!plain o||(usesA o.kind&&!has known o.a)||(usesB o.kind&&!has known o.b))
def opsFrom (c:CodeD) (params:Int) (all:List Int):List Int→List OpD→Bool
  | _,[]=>true
  | known,o::os =>
    head known o&&(!defines o.kind||!(decide (o.dst<params)||decide (9999<o.dst)||has known o.dst))&&tail c all o&&opsFrom c params all (if defines o.kind then known++[o.dst] else known) os
def ops (c:CodeD) (b:BlockD):Bool:=opsFrom c b.params (values b) (upto b.params) b.ops
def none_ (blk:Int) (args:List Int):Bool:=blk==-1&&args.length==0
def paramsAt (c:CodeD) (i:Int):Int:=((c.blocks[i.toNat]?).map (·.params)).getD 0
def edge (c:CodeD) (blk:Int) (args all:List Int) (more:Int):Bool :=
  if decide (blk<1)||decide ((c.blocks.length:Int)≤blk)||((args.length:Int)+more != paramsAt c blk) then false else args.all (has all)
def term (c:CodeD) (b:BlockD):Bool :=
  let t:=b.term
  let all:=values b
  let calls:=t.kind==3||t.kind==6
  let a:=t.kind==2||t.kind==4||t.kind==5
  if (a&&!has all t.a)||(!a&&t.a != 0)||(!calls&&(t.n != 0||decide (0<t.args.length)))||(calls&&(decide (t.n<0)||decide (8≤t.n)||decide (4<t.args.length))) then false else
  if !t.args.all (has all) then false else
  if t.kind==1 then edge c t.b0 t.args0 all 0&&none_ t.b1 t.args1
  else if t.kind==2 then edge c t.b0 t.args0 all 0&&edge c t.b1 t.args1 all 0
  else if t.kind==3 then edge c t.b0 t.args0 all 1&&(none_ t.b1 t.args1||edge c t.b1 t.args1 all 1)
  else if t.kind==4||t.kind==5||t.kind==6 then none_ t.b0 t.args0&&none_ t.b1 t.args1
  else false
/-- one context,the i-th -/
def ctx1 (i:Nat) (x:Int × Int × Int):Bool :=
  !(decide (x.2.2<0)||decide (8≤x.2.2)||(i==0&&(x.1 != -1||x.2.1 != -1))||(decide (0<i)&&(decide (x.1<0)||decide ((i:Int)≤x.1)||decide (x.2.1<0)||decide (9999<x.2.1))))
/-- what holds of every element of a list,by its place -/
def allAt {α:Type} (l:List α) (p:Nat→α→Bool):Bool:=(List.range l.length).all (fun i=>match l[i]? with | some x=>p i x | none=>true)
def ctxs (l:List (Int × Int × Int)):Bool:=allAt l ctx1
def obj1 (n:Nat) (x:Int × Int × Int):Bool:=!(decide (x.1<0)||decide ((n:Int)≤x.1)||decide (x.2.1<0)||decide (24≤x.2.1)||decide (x.2.2<1)||decide (8<x.2.2))
def objs (n:Nat) (l:List (Int × Int × Int)):Bool:=allAt l (fun i x=>obj1 n x&&(l.take i).all (fun y=>!(y.1==x.1&&y.2.1==x.2.1)))
def heads (c:CodeD):Bool :=
  !(decide (c.params<0)||decide (4<c.params)||c.blocks.length==0||paramsAt c 0 != c.params||c.contexts.length==0)&&ctxs c.contexts&&objs c.contexts.length c.objects
/-- 0: OK,4: ErrForm,5: ErrLimit; tot: how many operations,as the programs count them -/
def check (c:CodeD) (tot:Int):Int :=
  if decide (400<c.blocks.length)||decide (6000<tot)||decide (64<c.contexts.length)||decide (64<c.objects.length) then 5
  else if !heads c then 4
  else if c.blocks.all (fun b=>!(decide (b.params<0)||decide (999<b.params))&&ops c b&&term c b) then 0 else 4
end R

/-! The program's check. -/
namespace P
def within (n most:Int):Bool:=decide (0≤n)&&decide (n≤most)
def fDst (k:Int):Bool:=R.defines k
def fA (k:Int):Bool:=k==2||(decide (3≤k)&&decide (k≤14))||k==15||k==16||k==18
def fB (k:Int):Bool:=(decide (3≤k)&&decide (k≤14))||k==16
def fN (k:Int):Bool:=k==1||k==15||k==16||k==17||k==19||k==20
def fCtx (k:Int):Bool:=k==19||k==20||k==21
def fBind (k:Int):Bool:=k==21
def known (k:Int):Bool:=decide (1≤k)&&decide (k≤21)
def clean (o:OpD):Bool :=
  known o.kind&&!((!fDst o.kind&&o.dst != 0)||(!fA o.kind&&o.a != 0)||(!fB o.kind&&o.b != 0)||(!fN o.kind&&o.n != 0)||(!fCtx o.kind&&o.ctx != 0)||(!fBind o.kind&&o.var != 0)||(!fBind o.kind&&o.piece != 0)||(!fBind o.kind&&!(o.sk==0&&o.sv==0&&o.sa==0)))
/-- the operation that defines a value,as the map has it -/
def definedAt (ops:List OpD) (v:Int):Option Nat:=ops.findIdx? (fun o=>fDst o.kind&&o.dst==v)
def has (params:Int) (ops:List OpD) (v:Int) (n:Nat):Bool :=
  within v (params-1)||(match definedAt ops v with | some i=>decide (i<n) | none=>false)
def rightOp (c:CodeD) (b:BlockD) (o:OpD) (i:Nat):Bool :=
  if (fA o.kind&&!has b.params b.ops o.a i)||(fB o.kind&&!has b.params b.ops o.b i)||(fCtx o.kind&&!within o.ctx (c.contexts.length-1)) then false
  else if o.kind==15||o.kind==16||o.kind==17 then within o.n (c.objects.length-1)
  else if o.kind==19||o.kind==20 then within o.n 9999
  else true
def rightBind (c:CodeD) (b:BlockD) (o:OpD) (n:Nat):Bool :=
  if !within o.var 23||!within o.piece 3 then false
  else if o.sk==0 then o.sv==0&&o.sa==0 else if o.sk==1 then o.sv==0 else if o.sk==2 then has b.params b.ops o.sv n else if o.sk==3 then within o.sv (c.params-1) else false
def absent (blk:Int) (args:List Int):Bool:=blk==-1&&args.length==0
def rightEdge (c:CodeD) (blk:Int) (args:List Int) (kind:Int):Bool :=
  if decide (blk<1)||decide ((c.blocks.length:Int)≤blk) then false
  else (if kind==3 then (args.length:Int)+1 else args.length)==R.paramsAt c blk
def edges (t:TermD):Option Nat :=
  if t.kind==1 then some 1 else if t.kind==2 then some 2 else if t.kind==3 then (if !absent t.b1 t.args1 then some 2 else some 1) else if t.kind==4||t.kind==5||t.kind==6 then some 0 else none
def rightTerm (c:CodeD) (b:BlockD) (n:Nat):Bool :=
  let t:=b.term
  let h:=fun v=>has b.params b.ops v n
  if !t.args.all h||!t.args0.all h||!t.args1.all h then false else
  match edges t with
  | none=>false
  | some e =>
    if (if t.kind==2||t.kind==4||t.kind==5 then !h t.a else t.a != 0) then false else
    if (if t.kind==3||t.kind==6 then !within t.n 7||decide (4<t.args.length) else t.n != 0||t.args.length != 0) then false else
    !((decide (0<e)&&!rightEdge c t.b0 t.args0 t.kind)||(decide (e≤0)&&!absent t.b0 t.args0))&&!((decide (1<e)&&!rightEdge c t.b1 t.args1 t.kind)||(decide (e≤1)&&!absent t.b1 t.args1))
/-- the first loop: no value is defined twice,each in its range -/
def defs (params:Int):List Int→List OpD→Bool
  | _,[]=>true
  | seen,o::os=>if fDst o.kind then !(seen.contains o.dst||decide (o.dst<params)||decide (9999<o.dst))&&defs params (o.dst::seen) os else defs params seen os
def rightBlock (c:CodeD) (b:BlockD):Bool :=
  defs b.params [] b.ops&&(List.range b.ops.length).all (fun i=>match b.ops[i]? with
    | some o=>clean o&&rightOp c b o i&&(o.kind != 21||rightBind c b o b.ops.length)
    | none=>true)&&rightTerm c b b.ops.length
def rightHead (c:CodeD):Bool:=within c.params 4&&decide (0<c.blocks.length)&&R.paramsAt c 0==c.params
def ctx1 (i:Nat) (x:Int × Int × Int):Bool:=within x.2.2 7&&!(decide (0<i)&&(!within x.1 (i-1)||!within x.2.1 9999))
def rightContexts (l:List (Int × Int × Int)):Bool :=
  match l[0]? with
  | none=>false
  | some x=>if x.1 != -1||x.2.1 != -1 then false else R.allAt l ctx1
def obj1 (n:Nat) (x:Int × Int × Int):Bool:=!(!within x.1 ((n:Int)-1)||!within x.2.1 23||decide (x.2.2<1)||decide (8<x.2.2))
def rightObjects (n:Nat):List (Int × Int)→List (Int × Int × Int)→Bool
  | _,[]=>true
  | seen,x::os=>obj1 n x&&!seen.contains (x.1,x.2.1)&&rightObjects n ((x.1,x.2.1)::seen) os
def check (c:CodeD) (tot:Int):Int :=
  if decide (400<c.blocks.length)||decide (6000<tot)||decide (64<c.contexts.length)||decide (64<c.objects.length) then 5
  else if !rightHead c||!rightContexts c.contexts||!rightObjects c.contexts.length [] c.objects then 4
  else if !c.blocks.all (fun b=>within b.params 999) then 4
  else if c.blocks.all (fun b=>rightBlock c b) then 0 else 4
end P

theorem has_iff (l:List Int) (x:Int):R.has l x=true↔x∈l:=by
  unfold R.has; simp [List.any_eq_true]
theorem has_append (l m:List Int) (x:Int):R.has (l++m) x=(R.has l x||R.has m x):=by unfold R.has; simp
theorem has_upto (n v:Int):R.has (R.upto n) v=P.within v (n-1):=by
  rw [Bool.eq_iff_iff,has_iff]
  unfold R.upto P.within
  simp only [List.mem_map,List.mem_range,Bool.and_eq_true,decide_eq_true_eq]
  constructor
  · rintro ⟨i,hi,rfl⟩; omega
  · rintro ⟨h1,h2⟩; exact ⟨v.toNat,by omega,by omega⟩
/-- the values that the first i operations define -/
def dsts (ops:List OpD):List Int:=(ops.filter (fun o=>R.defines o.kind)).map (·.dst)
theorem mem_dsts (ops:List OpD) (v:Int):v∈dsts ops↔∃ o∈ops,R.defines o.kind=true∧o.dst=v:=by
  unfold dsts; simp only [List.mem_map,List.mem_filter]
  constructor
  · rintro ⟨o,⟨h1,h2⟩,h3⟩; exact ⟨o,h1,h2,h3⟩
  · rintro ⟨o,h1,h2,h3⟩; exact ⟨o,⟨h1,h2⟩,h3⟩
theorem has_at (params:Int) (ops:List OpD) (v:Int) (i:Nat):P.has params ops v i=R.has (R.upto params++dsts (ops.take i)) v:=by
  rw [has_append,has_upto]
  unfold P.has
  congr 1
  rw [Bool.eq_iff_iff,has_iff,mem_dsts]
  unfold P.definedAt
  cases h:ops.findIdx? (fun o=>P.fDst o.kind&&o.dst==v) with
  | none =>
    rw [List.findIdx?_eq_none_iff] at h
    simp only [Bool.false_eq_true,false_iff]
    rintro ⟨o,ho,h1,h2⟩
    have:=h o (List.mem_of_mem_take ho)
    simp [P.fDst,h1,h2] at this
  | some j =>
    rw [List.findIdx?_eq_some_iff_getElem] at h
    obtain ⟨hj,hp,hmin⟩:=h
    simp only [decide_eq_true_eq]
    constructor
    · intro hji
      refine ⟨ops[j],?_,?_,?_⟩
      · rw [List.mem_take_iff_getElem]; exact ⟨j,by omega,rfl⟩
      · simp [P.fDst] at hp; exact hp.1
      · simp at hp; exact hp.2
    · rintro ⟨o,ho,h1,h2⟩
      rw [List.mem_take_iff_getElem] at ho
      obtain ⟨k,hk,rfl⟩:=ho
      rcases Nat.lt_or_ge k j with hkj | hkj
      · have:=hmin k hkj
        simp [P.fDst,h1,h2] at this
      · omega

def rightOpK (c:CodeD) (K:List Int) (o:OpD):Bool :=
  if (P.fA o.kind&&!R.has K o.a)||(P.fB o.kind&&!R.has K o.b)||(P.fCtx o.kind&&!P.within o.ctx (c.contexts.length-1)) then false
  else if o.kind==15||o.kind==16||o.kind==17 then P.within o.n (c.objects.length-1)
  else if o.kind==19||o.kind==20 then P.within o.n 9999
  else true
def rightBindK (c:CodeD) (all:List Int) (o:OpD):Bool :=
  if !P.within o.var 23||!P.within o.piece 3 then false
  else if o.sk==0 then o.sv==0&&o.sa==0 else if o.sk==1 then o.sv==0 else if o.sk==2 then R.has all o.sv else if o.sk==3 then P.within o.sv (c.params-1) else false
theorem within_lt' (n m:Int):P.within n (m-1)=(decide (0≤n)&&decide (n<m)):=by
  unfold P.within; congr 1; rw [Bool.eq_iff_iff]; simp; omega
theorem source_eq (c:CodeD) (o:OpD) (all:List Int):(decide (0≤o.var)&&decide (o.var<24)&&decide (0≤o.piece)&&decide (o.piece<4)&&R.source c o all)=rightBindK c all o:=by
  unfold rightBindK R.source
  have e1:P.within o.var 23=(decide (0≤o.var)&&decide (o.var<24)):=within_lt' o.var 24
  have e2:P.within o.piece 3=(decide (0≤o.piece)&&decide (o.piece<4)):=within_lt' o.piece 4
  rw [e1,e2,within_lt']
  cases decide (0≤o.var) <;> cases decide (o.var<24) <;> cases decide (0≤o.piece) <;> cases decide (o.piece<4) <;> simp

/-- one operation: the document's test and the program's -/
theorem op_eq (c:CodeD) (K all:List Int) (o:OpD):(R.head K o&&R.tail c all o)=(P.clean o&&rightOpK c K o&&(o.kind != 21||rightBindK c all o)):=by
  by_cases h1:1≤o.kind∧o.kind≤21
  · obtain ⟨kind,dst,a,b,n,ctx,var,piece,sk,sv,sa⟩:=o
    simp only at h1
    have hk:kind=1∨kind=2∨kind=3∨kind=4∨kind=5∨kind=6∨kind=7∨kind=8∨kind=9∨kind=10∨kind=11∨kind=12∨kind=13∨kind=14∨kind=15∨kind=16∨kind=17∨kind=18∨kind=19∨kind=20∨kind=21:=by omega
    rcases hk with rfl | rfl | rfl | rfl | rfl | rfl | rfl | rfl | rfl | rfl | rfl | rfl | rfl | rfl | rfl | rfl | rfl | rfl | rfl | rfl | rfl
    all_goals (rw [Bool.eq_iff_iff]; simp [R.head,R.plain,R.defines,R.usesA,R.usesB,R.tail,P.clean,P.known,P.fDst,P.fA,P.fB,P.fN,P.fCtx,P.fBind,rightOpK,← source_eq,P.within]; try grind)
  · have e1:R.head K o=false:=by
      unfold R.head
      have:(decide (o.kind<1)||decide (21<o.kind))=true:=by simp; omega
      simp [this]
    have e2:P.clean o=false:=by
      unfold P.clean P.known
      have:(decide (1≤o.kind)&&decide (o.kind≤21))=false:=by rw [Bool.and_eq_false_iff]; simp; omega
      simp [this]
    rw [e1,e2]; rfl

theorem dsts_snoc (os:List OpD) (o:OpD):dsts (os++[o])=if R.defines o.kind then dsts os++[o.dst] else dsts os:=by
  unfold dsts
  rw [List.filter_append]
  by_cases h:R.defines o.kind=true
  · simp [h]
  · simp [h]
theorem range_succ_all (n:Nat) (p:Nat→Bool):(List.range (n+1)).all p=(p 0&&(List.range n).all (fun i=>p (i+1))):=by
  rw [List.range_succ_eq_map]; simp [List.all_map,Function.comp_def]
/-- all operations of a block,those behind pre -/
theorem ops_from (c:CodeD) (params:Int) (all:List Int):∀ (os pre:List OpD),
    R.opsFrom c params all (R.upto params++dsts pre) os=(P.defs params (dsts pre).reverse os&&(List.range os.length).all (fun i=>match os[i]? with
      | some o=>P.clean o&&rightOpK c (R.upto params++dsts (pre++os.take i)) o&&(o.kind != 21||rightBindK c all o)
      | none=>true)):=by
  intro os
  induction os with
  | nil=>intro pre; simp [R.opsFrom,P.defs]
  | cons o os ih =>
    intro pre
    have e1:(if R.defines o.kind then R.upto params++dsts pre++[o.dst] else R.upto params++dsts pre)=R.upto params++dsts (pre++[o]):=by
      rw [dsts_snoc]; split <;> simp
    have e2:(decide (o.dst<params)||decide (9999<o.dst)||R.has (R.upto params++dsts pre) o.dst)=((dsts pre).reverse.contains o.dst||decide (o.dst<params)||decide (9999<o.dst)):=by
      rw [has_append,has_upto,Bool.eq_iff_iff]
      have:=has_iff (dsts pre) o.dst
      simp only [Bool.or_eq_true,decide_eq_true_eq,this,P.within,Bool.and_eq_true,List.contains_iff_mem,List.mem_reverse]
      constructor
      · rintro ((h | h) | h | h)
        · exact .inl (.inr h)
        · exact .inr h
        · exact .inl (.inr (by omega))
        · exact .inl (.inl h)
      · rintro ((h | h) | h)
        · exact .inr (.inr h)
        · exact .inl (.inl h)
        · exact .inl (.inr h)
    have e3:=op_eq c (R.upto params++dsts pre) all o
    rw [R.opsFrom,e1,ih (pre++[o]),e2,List.length_cons,range_succ_all]
    simp only [List.getElem?_cons_zero,List.getElem?_cons_succ,List.take_succ_cons,List.take_zero,List.append_nil,List.append_assoc,List.singleton_append,← e3,P.defs,P.fDst]
    rw [dsts_snoc]
    by_cases hd:R.defines o.kind=true
    · simp only [hd,Bool.not_true,Bool.false_or,if_true,List.reverse_append,List.reverse_cons,List.reverse_nil,List.nil_append,List.singleton_append]
      generalize R.head (R.upto params++dsts pre) o=A
      generalize R.tail c all o=B
      cases A <;> cases B <;> simp [Bool.and_assoc]
    · simp only [hd,Bool.not_false,Bool.true_or,Bool.and_true,if_false,Bool.false_eq_true]
      generalize R.head (R.upto params++dsts pre) o=A
      generalize R.tail c all o=B
      cases A <;> cases B <;> simp

theorem dsts_take_len (ops:List OpD):dsts (ops.take ops.length)=dsts ops:=by rw [List.take_length]
theorem values_eq (b:BlockD):R.values b=R.upto b.params++dsts b.ops:=rfl
theorem ops_eq (c:CodeD) (b:BlockD):R.ops c b=(P.defs b.params [] b.ops&&(List.range b.ops.length).all (fun i=>match b.ops[i]? with
    | some o=>P.clean o&&P.rightOp c b o i&&(o.kind != 21||P.rightBind c b o b.ops.length)
    | none=>true)):=by
  have h:=ops_from c b.params (R.values b) b.ops []
  have e0:R.upto b.params++dsts []=R.upto b.params:=by simp [dsts]
  rw [e0] at h
  unfold R.ops
  rw [h]
  congr 1
  apply congrArg
  funext i
  cases hi:b.ops[i]? with
  | none=>rfl
  | some o =>
    have e1:rightOpK c (R.upto b.params++dsts ([]++b.ops.take i)) o=P.rightOp c b o i:=by
      unfold rightOpK P.rightOp
      rw [List.nil_append,← has_at,← has_at]
    have e2:rightBindK c (R.values b) o=P.rightBind c b o b.ops.length:=by
      unfold rightBindK P.rightBind
      rw [values_eq,← dsts_take_len,← has_at]
    simp only [e1,e2]

theorem all_nil_of (l:List Int) (p:Int→Bool) (h:(l.length==0)=true):l.all p=true:=by
  have:l=[]:=List.length_eq_zero_iff.1 (by simpa using h)
  rw [this]; rfl
theorem edge_eq (c:CodeD) (blk:Int) (args all:List Int) (kind:Int):R.edge c blk args all (if kind==3 then 1 else 0)=(P.rightEdge c blk args kind&&args.all (R.has all)):=by
  unfold R.edge P.rightEdge
  by_cases h:(decide (blk<1)||decide ((c.blocks.length:Int)≤blk))=true
  · simp only [h,Bool.true_or,if_true,Bool.false_and]
  · simp only [h,Bool.false_or,if_false,Bool.false_eq_true]
    by_cases hk:(kind==3)=true
    · simp only [hk,if_true]
      by_cases e:(args.length:Int)+1=R.paramsAt c blk
      · simp [e]
      · simp [e]
    · simp only [hk,if_false,Bool.false_eq_true,Int.add_zero]
      by_cases e:(args.length:Int)=R.paramsAt c blk
      · simp [e]
      · simp [e]
theorem term_eq (c:CodeD) (b:BlockD):R.term c b=P.rightTerm c b b.ops.length:=by
  have hh:(fun v=>P.has b.params b.ops v b.ops.length)=R.has (R.values b):=by
    funext v; rw [has_at,dsts_take_len,values_eq]
  have hha:P.has b.params b.ops b.term.a b.ops.length=R.has (R.values b) b.term.a:=by rw [has_at,dsts_take_len,values_eq]
  unfold R.term P.rightTerm
  simp only [hh,hha]
  have ea0:(b.term.kind==3)=true→R.edge c b.term.b0 b.term.args0 (R.values b) 1=(P.rightEdge c b.term.b0 b.term.args0 b.term.kind&&b.term.args0.all (R.has (R.values b))):=fun h=>by
    have:=edge_eq c b.term.b0 b.term.args0 (R.values b) b.term.kind; rw [if_pos h] at this; exact this
  have ea1:(b.term.kind==3)=true→R.edge c b.term.b1 b.term.args1 (R.values b) 1=(P.rightEdge c b.term.b1 b.term.args1 b.term.kind&&b.term.args1.all (R.has (R.values b))):=fun h=>by
    have:=edge_eq c b.term.b1 b.term.args1 (R.values b) b.term.kind; rw [if_pos h] at this; exact this
  have eb0:¬ (b.term.kind==3)=true→R.edge c b.term.b0 b.term.args0 (R.values b) 0=(P.rightEdge c b.term.b0 b.term.args0 b.term.kind&&b.term.args0.all (R.has (R.values b))):=fun h=>by
    have:=edge_eq c b.term.b0 b.term.args0 (R.values b) b.term.kind; rw [if_neg h] at this; exact this
  have eb1:¬ (b.term.kind==3)=true→R.edge c b.term.b1 b.term.args1 (R.values b) 0=(P.rightEdge c b.term.b1 b.term.args1 b.term.kind&&b.term.args1.all (R.has (R.values b))):=fun h=>by
    have:=edge_eq c b.term.b1 b.term.args1 (R.values b) b.term.kind; rw [if_neg h] at this; exact this
  have nn0:R.none_ b.term.b0 b.term.args0=true→b.term.args0.all (R.has (R.values b))=true:=fun h=>by
    unfold R.none_ at h; simp only [Bool.and_eq_true] at h; exact all_nil_of _ _ h.2
  have nn1:R.none_ b.term.b1 b.term.args1=true→b.term.args1.all (R.has (R.values b))=true:=fun h=>by
    unfold R.none_ at h; simp only [Bool.and_eq_true] at h; exact all_nil_of _ _ h.2
  have na0:P.absent b.term.b0 b.term.args0=R.none_ b.term.b0 b.term.args0:=rfl
  have na1:P.absent b.term.b1 b.term.args1=R.none_ b.term.b1 b.term.args1:=rfl
  have w7:P.within b.term.n 7=!(decide (b.term.n<0)||decide (8≤b.term.n)):=by
    unfold P.within; rw [Bool.eq_iff_iff]; simp; omega
  have l0:decide (0<b.term.args.length)=(b.term.args.length != 0):=by rw [Bool.eq_iff_iff]; simp only [decide_eq_true_eq,bne_iff_ne]; omega
  unfold P.edges
  rw [na1,w7,l0]
  simp only [na0]
  generalize P.rightEdge c b.term.b0 b.term.args0 b.term.kind=E0 at *
  generalize P.rightEdge c b.term.b1 b.term.args1 b.term.kind=E1 at *
  generalize R.none_ b.term.b0 b.term.args0=N0 at *
  generalize R.none_ b.term.b1 b.term.args1=N1 at *
  generalize b.term.args0.all (R.has (R.values b))=A0 at *
  generalize b.term.args1.all (R.has (R.values b))=A1 at *
  generalize b.term.args.all (R.has (R.values b))=A at *
  generalize R.has (R.values b) b.term.a=HA at *
  generalize (b.term.a != 0)=ZA at *
  generalize (b.term.n != 0)=ZN at *
  generalize (b.term.args.length != 0)=ZL at *
  generalize (decide (b.term.n<0)||decide (8≤b.term.n))=WN at *
  generalize decide (4<b.term.args.length)=W4 at *
  generalize R.edge c b.term.b0 b.term.args0 (R.values b) 0=X0 at *
  generalize R.edge c b.term.b1 b.term.args1 (R.values b) 0=X1 at *
  generalize R.edge c b.term.b0 b.term.args0 (R.values b) 1=Y0 at *
  generalize R.edge c b.term.b1 b.term.args1 (R.values b) 1=Y1 at *
  generalize b.term.kind=k at *
  clear na0 na1 w7 l0 hh hha
  by_cases h1:k=1
  · subst h1
    have e:=eb0 (by decide)
    subst e
    clear ea0 ea1 eb0 eb1
    simp
    grind
  by_cases h2:k=2
  · subst h2
    have e:=eb0 (by decide)
    have e':=eb1 (by decide)
    subst e e'
    clear ea0 ea1 eb0 eb1
    simp
    grind
  by_cases h3:k=3
  · subst h3
    have e:=ea0 (by decide)
    have e':=ea1 (by decide)
    subst e e'
    clear ea0 ea1 eb0 eb1
    simp
    grind
  by_cases h4:k=4
  · subst h4
    clear ea0 ea1 eb0 eb1
    simp
    grind
  by_cases h5:k=5
  · subst h5
    clear ea0 ea1 eb0 eb1
    simp
    grind
  by_cases h6:k=6
  · subst h6
    clear ea0 ea1 eb0 eb1
    simp
    grind
  clear ea0 ea1 eb0 eb1
  simp [h1,h2,h3,h4,h5,h6]

theorem block_eq (c:CodeD) (b:BlockD):(R.ops c b&&R.term c b)=P.rightBlock c b:=by
  rw [ops_eq,term_eq]; rfl
theorem allAt_iff {α:Type} (l:List α) (p:Nat→α→Bool):R.allAt l p=true↔∀ i x,l[i]?=some x→p i x=true:=by
  unfold R.allAt
  rw [List.all_eq_true]
  constructor
  · intro h i x hx
    have:=h i (List.mem_range.2 (List.getElem?_eq_some_iff.1 hx).1)
    rw [hx] at this; exact this
  · intro h i _
    cases hx:l[i]? with
    | none=>rfl
    | some x=>exact h i x hx
theorem ctxs_eq (l:List (Int × Int × Int)):(decide (0<l.length)&&R.ctxs l)=P.rightContexts l:=by
  unfold P.rightContexts
  cases h0:l[0]? with
  | none =>
    have:l.length=0:=by have:=List.getElem?_eq_none_iff.1 h0; omega
    simp [this]
  | some x =>
    have hl:0<l.length:=(List.getElem?_eq_some_iff.1 h0).1
    simp only [hl,decide_true,Bool.true_and]
    by_cases hx:(x.1 != -1||x.2.1 != -1)=true
    · rw [if_pos hx,Bool.eq_false_iff]
      unfold R.ctxs
      intro h
      have:=(allAt_iff l R.ctx1).1 h 0 x h0
      unfold R.ctx1 at this
      rw [hx] at this
      simp at this
    · rw [if_neg hx,Bool.eq_iff_iff]
      unfold R.ctxs
      rw [allAt_iff,allAt_iff]
      have key:∀ i y,l[i]?=some y→R.ctx1 i y=P.ctx1 i y:=by
        intro i y hy
        unfold R.ctx1 P.ctx1 P.within
        rcases Nat.eq_zero_or_pos i with hi | hi
        · subst hi
          rw [h0] at hy; injection hy with hy; subst hy
          simp only [Bool.not_eq_true] at hx
          rw [Bool.eq_iff_iff]; simp [hx]; omega
        · have e1:(i==0)=false:=by simp; omega
          have e2:decide (0<i)=true:=by simp; omega
          rw [Bool.eq_iff_iff]; simp [e1,e2]; omega
      constructor
      · intro h i y hy; rw [← key i y hy]; exact h i y hy
      · intro h i y hy; rw [key i y hy]; exact h i y hy
theorem obj1_eq (n:Nat) (x:Int × Int × Int):R.obj1 n x=P.obj1 n x:=by
  unfold R.obj1 P.obj1 P.within
  rw [Bool.eq_iff_iff]; simp; omega
theorem objs_from (n:Nat):∀ (os pre:List (Int × Int × Int)),
    R.allAt os (fun i x=>R.obj1 n x&&((pre++os.take i).all (fun y=>!(y.1==x.1&&y.2.1==x.2.1))))=P.rightObjects n (pre.map (fun y=>(y.1,y.2.1))).reverse os:=by
  intro os
  induction os with
  | nil=>intro pre; rfl
  | cons x os ih =>
    intro pre
    have ih:=ih (pre++[x])
    unfold R.allAt at ih ⊢
    rw [List.length_cons,range_succ_all]
    simp only [List.getElem?_cons_zero,List.getElem?_cons_succ,List.take_succ_cons,List.take_zero,List.append_nil]
    rw [P.rightObjects,← obj1_eq]
    have e1:(pre.all fun y=>!(y.1==x.1&&y.2.1==x.2.1))=!(pre.map (fun y=>(y.1,y.2.1))).reverse.contains (x.1,x.2.1):=by
      rw [Bool.eq_iff_iff]
      simp only [List.all_eq_true,Bool.not_eq_true',List.contains_eq_mem,List.mem_reverse,List.mem_map,decide_eq_false_iff_not,not_exists,not_and,Bool.and_eq_false_iff,beq_eq_false_iff_ne]
      constructor
      · rintro h y hy e
        injection e with e1 e2
        rcases h y hy with h | h
        · exact h e1
        · exact h e2
      · intro h y hy
        have:=h y hy
        by_cases e:y.1=x.1
        · right; intro e'; exact this (by rw [e,e'])
        · left; exact e
    rw [e1]
    congr 1
    simp only [List.append_assoc,List.singleton_append,List.map_append,List.map_cons,List.map_nil,List.reverse_append,List.reverse_cons,List.reverse_nil,List.nil_append] at ih
    exact ih
theorem objs_eq (n:Nat) (l:List (Int × Int × Int)):R.objs n l=P.rightObjects n [] l:=objs_from n l []
theorem heads_eq (c:CodeD):R.heads c=(P.rightHead c&&P.rightContexts c.contexts&&P.rightObjects c.contexts.length [] c.objects):=by
  rw [← objs_eq,← ctxs_eq]
  unfold R.heads P.rightHead P.within
  generalize R.objs c.contexts.length c.objects=O
  generalize R.ctxs c.contexts=X
  generalize R.paramsAt c 0=p0
  rw [Bool.eq_iff_iff]
  cases O <;> cases X <;> simp <;> (constructor <;> (intro h; (repeat' constructor) <;> (first | omega | grind)))
theorem check_eq (c:CodeD) (tot:Int):R.check c tot=P.check c tot:=by
  unfold R.check P.check
  rw [heads_eq]
  have e:(c.blocks.all fun b=>!(decide (b.params<0)||decide (999<b.params))&&R.ops c b&&R.term c b)=((c.blocks.all fun b=>P.within b.params 999)&&c.blocks.all fun b=>P.rightBlock c b):=by
    rw [Bool.eq_iff_iff]
    simp only [List.all_eq_true,Bool.and_eq_true,← block_eq]
    constructor
    · intro h
      refine ⟨fun b hb=>?_,fun b hb=>⟨(h b hb).1.2,(h b hb).2⟩⟩
      have:=(h b hb).1.1
      unfold P.within; simp at this ⊢; omega
    · intro h b hb
      refine ⟨⟨?_,(h.2 b hb).1⟩,(h.2 b hb).2⟩
      have:=h.1 b hb
      unfold P.within at this; simp at this ⊢; omega
  rw [e]
  generalize P.rightHead c=a1
  generalize P.rightContexts c.contexts=a2
  generalize P.rightObjects c.contexts.length [] c.objects=a3
  generalize (c.blocks.all fun b=>P.within b.params 999)=a4
  generalize (c.blocks.all fun b=>P.rightBlock c b)=a5
  cases a1 <;> cases a2 <;> cases a3 <;> cases a4 <;> cases a5 <;> simp
end Go.Proofs.Ytlkcidmmpeebeaa
