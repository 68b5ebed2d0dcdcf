/- Proved: small facts of this program for the walk by tables. -/
import Derived.Test.YtlkcidmmpeebeaaSx
import Derived.Test.YtlkcidmmpeebeaaSmall
set_option linter.unusedVariables false
set_option linter.unusedSimpArgs false
namespace Go.Proofs.Ytlkcidmmpeebeaa
open Go.RowKit
theorem mixed:Try.prog.follows .mixedOrders=true:=by kernel_rfl
/-- a comparison as the walk has it -/
def binS (op:BinOp) (t:TypeId) (x y:Operand) (vx vy:Value):Sem Next:=do
  let r ← (do eqGuard op t x y vx vy; binOp op t vx vy)
  pure (.value r)
theorem src_eq (i j:Nat) (a b c:Int) (w:World):(binS .eql 72 (.tmp i) (.tmp j) (.agg #[.int .i64 a,.int .i64 b,.int .i64 c]) (.agg #[.int .i64 0,.int .i64 0,.int .i64 0])).run Try.prog w=.ok (.value (.bool (a==0&&(b==0&&c==0)))) w:=by
  unfold binS
  cases h1:(a==0) <;> cases h2:(b==0) <;> cases h3:(c==0) <;> simp [go_sem,eqGuard,Try.underlying72,h1,h2,h3]

theorem ix_int {b off size len:Nat} {i:Int} (h0:0≤i) (h:i<(len:Int)):0≤i∧i<(len:Int)∧(⟨b,off,none⟩:Addr).add (i.toNat*size)=⟨b,off+i.toNat*size,none⟩:=by
  obtain ⟨k,rfl⟩:=Int.eq_ofNat_of_zero_le h0
  have:=SX.ix_ok (b:=b) (off:=off) (size:=size) (k:=k) (len:=len) (by omega)
  rw [Int.toNat_natCast] at this ⊢
  exact this

/-! slices that read as lists: their shape and their elements -/
def Shape (A:Option Addr) (n cap:Nat):Prop:=(n≤cap∧n≤140737488351232)∧cap≤9223372036854775807∧(A=none→cap=0)
theorem IntsAt.shape {w:World} {v:Value} {xs:List Int} (h:IntsAt w v xs):∃ A cap,v=.slice A xs.length cap∧Shape A xs.length cap:=by
  obtain ⟨A,cap,h1,h2,h3,_⟩:=h; exact ⟨A,cap,h1,h2,h3⟩
theorem RecsAt.shape {w:World} {v:Value} {xs:List (Int × Int × Int)} (h:RecsAt w v xs):∃ A cap,v=.slice A xs.length cap∧Shape A xs.length cap:=by
  obtain ⟨A,cap,h1,h2,h3,_⟩:=h; exact ⟨A,cap,h1,h2,h3⟩
theorem OpsAt.shape {w:World} {v:Value} {xs:List OpD} (h:OpsAt w v xs):∃ A cap,v=.slice A xs.length cap∧Shape A xs.length cap:=by
  obtain ⟨A,cap,h1,h2,h3,_⟩:=h; exact ⟨A,cap,h1,h2,h3⟩
theorem BlocksAt.shape {w:World} {v:Value} {xs:List BlockD} (h:BlocksAt w v xs):∃ A cap,v=.slice A xs.length cap∧Shape A xs.length cap:=by
  obtain ⟨A,cap,h1,h2,h3,_⟩:=h; exact ⟨A,cap,h1,h2,h3⟩
theorem IntsAt.elem {w:World} {A:Option Addr} {n cap:Nat} {xs:List Int} (h:IntsAt w (.slice A n cap) xs) {k:Nat} {x:Int} (hx:xs[k]?=some x):∃ b off,A=some ⟨b,off,none⟩∧I64 x∧w.cell? ⟨b,off+k*1,none⟩=some (.int .i64 x):=by
  obtain ⟨A',cap',h1,_,_,h⟩:=h
  injection h1 with h1 _ _; subst h1
  obtain ⟨b,off,h1,h2,h3⟩:=h k x hx
  exact ⟨b,off,h1,h2,by rw [Nat.mul_one]; exact h3⟩
theorem RecsAt.elem {w:World} {A:Option Addr} {n cap:Nat} {xs:List (Int × Int × Int)} (h:RecsAt w (.slice A n cap) xs) {k:Nat} {o:Int × Int × Int} (hx:xs[k]?=some o):∃ b off,A=some ⟨b,off,none⟩∧(I64 o.1∧I64 o.2.1∧I64 o.2.2)∧w.cell? ⟨b,off+k*3,none⟩=some (.int .i64 o.1)∧w.cell? ⟨b,off+k*3+1,none⟩=some (.int .i64 o.2.1)∧w.cell? ⟨b,off+k*3+2,none⟩=some (.int .i64 o.2.2):=by
  obtain ⟨A',cap',h1,_,_,h⟩:=h
  injection h1 with h1 _ _; subst h1
  exact h k o hx
theorem OpsAt.elem {w:World} {A:Option Addr} {n cap:Nat} {xs:List OpD} (h:OpsAt w (.slice A n cap) xs) {k:Nat} {o:OpD} (hx:xs[k]?=some o):∃ b off,A=some ⟨b,off,none⟩∧OpI o∧w.cell? ⟨b,off+k*11,none⟩=some (.int .i64 o.kind)∧w.cell? ⟨b,off+k*11+1,none⟩=some (.int .i64 o.dst)∧w.cell? ⟨b,off+k*11+2,none⟩=some (.int .i64 o.a)∧w.cell? ⟨b,off+k*11+3,none⟩=some (.int .i64 o.b)∧w.cell? ⟨b,off+k*11+4,none⟩=some (.int .i64 o.n)∧w.cell? ⟨b,off+k*11+5,none⟩=some (.int .i64 o.ctx)∧w.cell? ⟨b,off+k*11+6,none⟩=some (.int .i64 o.var)∧w.cell? ⟨b,off+k*11+7,none⟩=some (.int .i64 o.piece)∧w.cell? ⟨b,off+k*11+8,none⟩=some (.int .i64 o.sk)∧w.cell? ⟨b,off+k*11+9,none⟩=some (.int .i64 o.sv)∧w.cell? ⟨b,off+k*11+10,none⟩=some (.int .i64 o.sa):=by
  obtain ⟨A',cap',h1,_,_,h⟩:=h
  injection h1 with h1 _ _; subst h1
  exact h k o hx
theorem BlocksAt.elem {w:World} {A:Option Addr} {n cap:Nat} {xs:List BlockD} (h:BlocksAt w (.slice A n cap) xs) {k:Nat} {o:BlockD} (hx:xs[k]?=some o):∃ b off,A=some ⟨b,off,none⟩∧∃ A1 c1 A2 c2 A3 c3 A4 c4,(Shape A1 o.ops.length c1∧Shape A2 o.term.args.length c2∧Shape A3 o.term.args0.length c3∧Shape A4 o.term.args1.length c4)∧BlkAt w (.slice A1 o.ops.length c1) (.slice A2 o.term.args.length c2) (.slice A3 o.term.args0.length c3) (.slice A4 o.term.args1.length c4) o ∧
    w.cell? ⟨b,off+k*10,none⟩=some (.int .i64 o.params)∧w.cell? ⟨b,off+k*10+1,none⟩=some (.slice A1 o.ops.length c1)∧w.cell? ⟨b,off+k*10+2,none⟩=some (.int .i64 o.term.kind)∧w.cell? ⟨b,off+k*10+3,none⟩=some (.int .i64 o.term.a)∧w.cell? ⟨b,off+k*10+4,none⟩=some (.int .i64 o.term.n)∧w.cell? ⟨b,off+k*10+5,none⟩=some (.slice A2 o.term.args.length c2)∧w.cell? ⟨b,off+k*10+6,none⟩=some (.int .i64 o.term.b0)∧w.cell? ⟨b,off+k*10+7,none⟩=some (.slice A3 o.term.args0.length c3)∧w.cell? ⟨b,off+k*10+8,none⟩=some (.int .i64 o.term.b1)∧w.cell? ⟨b,off+k*10+9,none⟩=some (.slice A4 o.term.args1.length c4):=by
  obtain ⟨A',cap',h1,_,_,h⟩:=h
  injection h1 with h1 _ _; subst h1
  obtain ⟨b,off,u1,u2,u3,u4,hA,hb,hh⟩:=h k o hx
  obtain ⟨A1,c1,rfl,s1⟩:=hb.2.1.shape
  obtain ⟨A2,c2,rfl,s2⟩:=hb.2.2.1.shape
  obtain ⟨A3,c3,rfl,s3⟩:=hb.2.2.2.1.shape
  obtain ⟨A4,c4,rfl,s4⟩:=hb.2.2.2.2.shape
  exact ⟨b,off,hA,A1,c1,A2,c2,A3,c3,A4,c4,⟨s1,s2,s3,s4⟩,hb,hh⟩

/-! a map from ints to ints -/
def MapI (w:World) (b:Nat) (D:List (Int × Int)):Prop :=
  ∃ es clock,w.heap[b]?=some (.map es clock)∧es.toList.map (fun e=>(e.key,e.val))=D.map (fun p=>(Value.int .i64 p.1,Value.int .i64 p.2))
def findD (D:List (Int × Int)) (x:Int):Option Int:=(D.find? (fun p=>x==p.1)).map (·.2)
theorem MapI.below {w w':World} {b:Nat} {D:List (Int × Int)} (h:MapI w b D) (hb:Below w.heap.size w w'):MapI w' b D:=by
  obtain ⟨es,cl,h1,h2⟩:=h
  exact ⟨es,cl,(hb.block b (Array.getElem?_eq_some_iff.1 h1).1).trans h1,h2⟩
theorem findNow_int (x:Int):∀ (es:List MapEntry) (D:List (Int × Int)) (i:Nat),es.map (fun e=>(e.key,e.val))=D.map (fun p=>(Value.int .i64 p.1,Value.int .i64 p.2)) →
    ∃ r,Instr.findNow (.int .i64) (.int .i64 x) es i=some r∧r.map (·.2)=(findD D x).map (Value.int .i64)
  | [],[],i,_=>⟨none,rfl,rfl⟩
  | [],p::D,i,h=>by simp at h
  | e::es,[],i,h=>by simp at h
  | e::es,p::D,i,h=>by
    simp only [List.map_cons,List.cons.injEq,Prod.mk.injEq] at h
    obtain ⟨⟨h1,h2⟩,h3⟩:=h
    unfold Instr.findNow Instr.sameNow
    simp only [h1,if_true]
    cases hx:(x==p.1) with
    | true=>exact ⟨some (i,e.val),rfl,by simp [findD,List.find?_cons,hx,h2]⟩
    | false =>
      obtain ⟨r,hr,hm⟩:=findNow_int x es D (i+1) h3
      exact ⟨r,hr,by rw [hm]; simp [findD,List.find?_cons,hx]⟩
theorem lookI_run {w:World} {b:Nat} {D:List (Int × Int)} (h:MapI w b D) (x:Int):(Instr.lookup 139 (.map (some b)) (.int .i64 x) true).run Try.prog w=.ok (.tuple #[.int .i64 ((findD D x).getD 0),.bool (findD D x).isSome]) w:=by
  obtain ⟨es,cl,h1,h2⟩:=h
  obtain ⟨r,hr,hm⟩:=findNow_int x es.toList D 0 h2
  unfold Instr.lookup
  have hu:(underlying 139).run Try.prog w=.ok (.map 3 3) w:=by kernel_rfl
  have hu3:(underlying 3).run Try.prog w=.ok (.int .i64) w:=by kernel_rfl
  have hz:(zeroValue 3).run Try.prog w=.ok (.int .i64 0) w:=by kernel_rfl
  have hg:(getObj b).run Try.prog w=.ok (.map es cl) w:=by simp [getObj,Sem.run,h1]
  have hc:∀ e,(Instr.checkKey e 10000 3 (.int .i64 x)).run Try.prog w=.ok () w:=fun e=>by kernel_rfl
  simp only [Sem.run_bind,hu,Result.andThen_ok,hg,hc,Instr.findKey,hu3,hr,Sem.run_pure]
  cases r with
  | none =>
    cases hf:findD D x with
    | none=>simp [hz,Result.andThen]
    | some y=>rw [hf] at hm; simp at hm
  | some r =>
    obtain ⟨i,v⟩:=r
    cases hf:findD D x with
    | none=>rw [hf] at hm; simp at hm
    | some y=>rw [hf] at hm; simp at hm; subst hm; simp
def lookS (t:TypeId) (m k:Value) (ok:Bool):Sem Next:=do let r ← Instr.lookup t m k ok; pure (.value r)
theorem lookS_run {w:World} {b:Nat} {D:List (Int × Int)} (h:MapI w b D) (x:Int):(lookS 139 (.map (some b)) (.int .i64 x) true).run Try.prog w=.ok (.value (.tuple #[.int .i64 ((findD D x).getD 0),.bool (findD D x).isSome])) w:=by
  unfold lookS
  rw [Sem.run_bind,lookI_run h]; rfl
def hasD (params:Int) (D:List (Int × Int)) (v n:Int):Bool:=P.within v (params-1)||((findD D v).isSome&&decide ((findD D v).getD 0<n))

def andI (a b:Int):Int:=IntKind.i64.wrap ((BitVec.ofInt 64 a &&& BitVec.ofInt 64 b).toNat)
def ixS (t:TypeId) (x i:Value):Sem Next:=do let r ← Instr.indexAt t x i; pure (.value r)
def ldS (t:TypeId) (p:Value):Sem Next:=do let r ← Instr.loadAt t p; pure (.value r)
theorem src_ne (i j:Nat) (a b c:Int) (w:World):(binS .neq 72 (.tmp i) (.tmp j) (.agg #[.int .i64 a,.int .i64 b,.int .i64 c]) (.agg #[.int .i64 0,.int .i64 0,.int .i64 0])).run Try.prog w=.ok (.value (.bool (!(a==0&&(b==0&&c==0))))) w:=by
  unfold binS
  cases h1:(a==0) <;> cases h2:(b==0) <;> cases h3:(c==0) <;> simp [go_sem,eqGuard,Try.underlying72,h1,h2,h3]
theorem fields_cases (k:Int) (p:Int→Prop) (h1:k=1→p 9) (h2:k=2→p 3) (h3:3≤k→k≤14→p 7) (h4:k=15→p 11) (h5:k=16→p 14) (h6:k=17→p 8) (h7:k=18→p 2) (h8:k=19∨k=20→p 24) (h9:k=21→p 48) (h10:k<1∨21<k→p 0):p (fieldsN k):=by
  unfold fieldsN
  repeat' split
  all_goals first | (apply h1; omega) | (apply h2; omega) | (apply h3 <;> omega) | (apply h4; omega) | (apply h5; omega) | (apply h6; omega) | (apply h7; omega) | (apply h8; omega) | (apply h9; omega) | (apply h10; omega)
theorem f_zero (k:Int):(fieldsN k==0)=!P.known k:=by
  refine fields_cases k (fun f=>(f==0)=!P.known k) ?_ ?_ ?_ ?_ ?_ ?_ ?_ ?_ ?_ ?_ <;> intros <;> simp [P.known] <;> omega
theorem f_dst (k:Int):(andI (fieldsN k) 1==0)=!P.fDst k:=by
  refine fields_cases k (fun f=>(andI f 1==0)=!P.fDst k) ?_ ?_ ?_ ?_ ?_ ?_ ?_ ?_ ?_ ?_ <;> intros <;> simp [P.fDst,R.defines,andI,IntKind.wrap_i64] <;> omega
theorem f_a (k:Int):(andI (fieldsN k) 2==0)=!P.fA k:=by
  refine fields_cases k (fun f=>(andI f 2==0)=!P.fA k) ?_ ?_ ?_ ?_ ?_ ?_ ?_ ?_ ?_ ?_ <;> intros <;> simp [P.fA,andI,IntKind.wrap_i64] <;> omega
theorem f_b (k:Int):(andI (fieldsN k) 4==0)=!P.fB k:=by
  refine fields_cases k (fun f=>(andI f 4==0)=!P.fB k) ?_ ?_ ?_ ?_ ?_ ?_ ?_ ?_ ?_ ?_ <;> intros <;> simp [P.fB,andI,IntKind.wrap_i64] <;> omega
theorem f_n (k:Int):(andI (fieldsN k) 8==0)=!P.fN k:=by
  refine fields_cases k (fun f=>(andI f 8==0)=!P.fN k) ?_ ?_ ?_ ?_ ?_ ?_ ?_ ?_ ?_ ?_ <;> intros <;> simp [P.fN,andI,IntKind.wrap_i64] <;> omega
theorem f_ctx (k:Int):(andI (fieldsN k) 16==0)=!P.fCtx k:=by
  refine fields_cases k (fun f=>(andI f 16==0)=!P.fCtx k) ?_ ?_ ?_ ?_ ?_ ?_ ?_ ?_ ?_ ?_ <;> intros <;> simp [P.fCtx,andI,IntKind.wrap_i64] <;> omega
theorem f_bind (k:Int):(andI (fieldsN k) 32==0)=!P.fBind k:=by
  refine fields_cases k (fun f=>(andI f 32==0)=!P.fBind k) ?_ ?_ ?_ ?_ ?_ ?_ ?_ ?_ ?_ ?_ <;> intros <;> simp [P.fBind,andI,IntKind.wrap_i64] <;> omega
theorem bne_of {a b:Int} {x:Bool} (h:(a==b)=!x):(a != b)=x:=by
  show (!(a==b))=x
  rw [h]; simp

/-! loops that ask every element of a list -/
def Upto {α:Type} (xs:List α) (p:Nat→α→Bool) (k:Nat):Prop:=∀ j x,j<k→xs[j]?=some x→p j x=true
theorem Upto.zero {α:Type} {xs:List α} {p:Nat→α→Bool}:Upto xs p 0:=fun j _ h=>absurd h (Nat.not_lt_zero j)
theorem Upto.step {α:Type} {xs:List α} {p:Nat→α→Bool} {k:Nat} {x:α} (h:Upto xs p k) (hx:xs[k]?=some x) (hp:p k x=true):Upto xs p (k+1):=fun j y hj hy=>by
  rcases Nat.lt_or_ge j k with hlt | hge
  · exact h j y hlt hy
  · obtain rfl:j=k:=by omega
    rw [hx] at hy; injection hy with hy; subst hy; exact hp
theorem Upto.all {α:Type} {xs:List α} {p:α→Bool} {k:Nat} (h:Upto xs (fun _=>p) k) (hk:xs.length≤k):true=xs.all p:=by
  symm; rw [List.all_eq_true]; intro x hx
  obtain ⟨j,hj⟩:=List.mem_iff_getElem?.1 hx
  exact h j x (by have:=(List.getElem?_eq_some_iff.1 hj).1; omega) hj
theorem all_no {α:Type} {xs:List α} {p:α→Bool} {k:Nat} {x:α} (hx:xs[k]?=some x) (hp:p x=false):false=xs.all p:=by
  symm; rw [List.all_eq_false]; exact ⟨x,List.mem_of_getElem? hx,by simp [hp]⟩
theorem Upto.allAt {α:Type} {xs:List α} {p:Nat→α→Bool} {k:Nat} (h:Upto xs p k) (hk:xs.length≤k):true=R.allAt xs p:=by
  symm; rw [allAt_iff]; intro j x hx
  exact h j x (by have:=(List.getElem?_eq_some_iff.1 hx).1; omega) hx
theorem allAt_no {α:Type} {xs:List α} {p:Nat→α→Bool} {k:Nat} {x:α} (hx:xs[k]?=some x) (hp:p k x=false):false=R.allAt xs p:=by
  symm; rw [Bool.eq_false_iff]; intro h
  rw [allAt_iff] at h
  rw [h k x hx] at hp; cases hp
theorem params_at {c:CodeD} {i:Int} {x:BlockD} (hx:c.blocks[i.toNat]?=some x):R.paramsAt c i=x.params:=by unfold R.paramsAt; rw [hx]; rfl
theorem lt_of_dec {k n:Nat} (h:decide ((k:Int)<(n:Int))=true):k<n:=by simpa using h
theorem le_of_dec {k n:Nat} (h:decide ((k:Int)<(n:Int))=false):n≤k:=by simpa using h

/-- how many operations,as the programs count them -/
def totW (l:List BlockD):Int:=l.foldl (fun n b=>IntKind.i64.wrap (n+(b.ops.length:Int))) 0
theorem totW_step {l:List BlockD} {k:Nat} {x:BlockD} (hx:l[k]?=some x):totW (l.take (k+1))=IntKind.i64.wrap (totW (l.take k)+(x.ops.length:Int)):=by
  unfold totW
  obtain ⟨hk,rfl⟩:=List.getElem?_eq_some_iff.1 hx
  rw [List.take_succ_eq_append_getElem hk,List.foldl_append]; rfl
theorem totW_all {l:List BlockD} {k:Nat} (h:l.length≤k):totW (l.take k)=totW l:=by rw [List.take_of_length_le h]
end Go.Proofs.Ytlkcidmmpeebeaa
