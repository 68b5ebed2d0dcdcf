/- Proved: the program's two kinds of maps: what a look-up and a store do. -/
import Derived.Test.YtlkcidmmpeebeaaScA
set_option linter.unusedVariables false
set_option linter.unusedSimpArgs false
namespace Go.Proofs.Ytlkcidmmpeebeaa
open Go.RowKit

theorem but_setBlk {w:World} {n:Nat} (ob:Obj):SX.But n w (SX.setBlk w n ob):=⟨rfl,rfl,rfl,by simp [SX.setBlk],fun j hj=>by simp [SX.setBlk,Array.getElem?_setIfInBounds,hj.symm]⟩

theorem MapI.new {w:World} {n:Nat} (hn:w.heap.size=n):MapI (w.alloc (.map #[] 0)) n []:=⟨#[],0,by rw [← hn]; show (w.heap.push _)[w.heap.size]?=_; simp,rfl⟩
theorem MapI.but {w w':World} {n b:Nat} {D:List (Int × Int)} (h:MapI w b D) (hb:SX.But n w w') (hne:b≠n):MapI w' b D:=by
  obtain ⟨es,cl,h1,h2⟩:=h
  exact ⟨es,cl,(hb.block b hne).trans h1,h2⟩
def updS (t:TypeId) (m k v:Value):Sem Next:=do Instr.mapUpdate t m k v; pure .skip
theorem updI_run {w:World} {b:Nat} {D:List (Int × Int)} (h:MapI w b D) (x y:Int) (hx:findD D x=none):∃ w',(updS 139 (.map (some b)) (.int .i64 x) (.int .i64 y)).run Try.prog w=.ok .skip w'∧SX.But b w w'∧MapI w' b (D++[(x,y)]):=by
  obtain ⟨es,cl,h1,h2⟩:=h
  obtain ⟨r,hr,hm⟩:=findNow_int x es.toList D 0 h2
  rw [hx] at hm
  have hrn:r=none:=by simpa using hm
  subst hrn
  have hu:(underlying 139).run Try.prog w=.ok (.map 3 3) w:=by kernel_rfl
  have hu3:(underlying 3).run Try.prog w=.ok (.int .i64) w:=by kernel_rfl
  have hg:(getObj b).run Try.prog w=.ok (.map es cl) w:=by simp [getObj,Sem.run,h1]
  have hc:∀ e,(Instr.checkKey e 10000 3 (.int .i64 x)).run Try.prog w=.ok () w:=fun e=>by kernel_rfl
  have hs:∀ ob,(setObj b ob).run Try.prog w=.ok () (SX.setBlk w b ob):=fun ob=>by simp [setObj,Sem.run,h1,SX.setBlk]
  refine ⟨_,?_,but_setBlk (.map (es.push { key:=.int .i64 x,val:=.int .i64 y,born:=cl }) (cl+1)),?_⟩
  · unfold updS Instr.mapUpdate
    simp only [Sem.run_bind,hu,Result.andThen_ok,hg,hc,Instr.findKey,hu3,hr,Sem.run_pure,hs]
  · exact ⟨es.push { key:=.int .i64 x,val:=.int .i64 y,born:=cl },cl+1,by simp [SX.setBlk,(Array.getElem?_eq_some_iff.1 h1).1],by simp [h2]⟩

/-! a set of pairs of ints -/
def key3 (x y:Int):Value:=.agg #[.int .i64 x,.int .i64 y,.int .i64 0]
def MapK (w:World) (b:Nat) (D:List (Int × Int)):Prop :=
  ∃ es clock,w.heap[b]?=some (.map es clock)∧es.toList.map (fun e=>(e.key,e.val))=D.map (fun p=>(key3 p.1 p.2,Value.bool true))
theorem MapK.below {w w':World} {b:Nat} {D:List (Int × Int)} (h:MapK w b D) (hb:Below w.heap.size w w'):MapK w' b D:=by
  obtain ⟨es,cl,h1,h2⟩:=h
  exact ⟨es,cl,(hb.block b (Array.getElem?_eq_some_iff.1 h1).1).trans h1,h2⟩
theorem MapK.but {w w':World} {n b:Nat} {D:List (Int × Int)} (h:MapK w b D) (hb:SX.But n w w') (hne:b≠n):MapK w' b D:=by
  obtain ⟨es,cl,h1,h2⟩:=h
  exact ⟨es,cl,(hb.block b hne).trans h1,h2⟩
theorem MapK.new {w:World} {n:Nat} (hn:w.heap.size=n):MapK (w.alloc (.map #[] 0)) n []:=⟨#[],0,by rw [← hn]; show (w.heap.push _)[w.heap.size]?=_; simp,rfl⟩
theorem eq181_run (x y x' y':Int) (w:World):(Op.equal 181 (key3 x y) (key3 x' y')).run Try.prog w=.ok (x==x'&&y==y') w:=by
  unfold Op.equal key3
  rw [show Op.maxDepth=10000 from rfl]
  cases h1:(x==x') <;> cases h2:(y==y') <;> simp [go_sem,Try.underlying181,h1,h2]
theorem asking_run (x y:Int) (w:World):∀ (es:List MapEntry) (D:List (Int × Int)) (i:Nat),es.map (fun e=>(e.key,e.val))=D.map (fun p=>(key3 p.1 p.2,Value.bool true)) →
    ∃ r,(Instr.findAsking 181 (key3 x y) es i).run Try.prog w=.ok r w∧r.map (·.2)=(if D.contains (x,y) then some (Value.bool true) else none)
  | [],[],i,_=>⟨none,rfl,rfl⟩
  | [],p::D,i,h=>by simp at h
  | e::es,[],i,h=>by simp at h
  | e::es,p::D,i,h=>by
    simp only [List.map_cons,List.cons.injEq,Prod.mk.injEq] at h
    obtain ⟨⟨h1,h2⟩,h3⟩:=h
    unfold Instr.findAsking
    simp only [Sem.run_bind,h1,eq181_run,Result.andThen_ok]
    have hcon:(p::D).contains (x,y)=((x==p.1&&y==p.2)||D.contains (x,y)):=by
      rw [List.contains_cons]; rfl
    cases hx:(x==p.1&&y==p.2) with
    | true=>exact ⟨some (i,e.val),rfl,by rw [hcon,hx]; simp [h2]⟩
    | false =>
      obtain ⟨r,hr,hm⟩:=asking_run x y w es D (i+1) h3
      exact ⟨r,hr,by rw [hm,hcon,hx]; simp⟩
theorem findNow_struct (fs:Array Field) (k:Value) (es:List MapEntry) (i:Nat):Instr.findNow (.struct fs) k es i=match es with | []=>some none | _::_=>none:=by
  cases es with
  | nil=>rfl
  | cons e es=>simp [Instr.findNow,Instr.sameNow]
theorem findK_run {w:World} {es:List MapEntry} {D:List (Int × Int)} (x y:Int) (h:es.map (fun e=>(e.key,e.val))=D.map (fun p=>(key3 p.1 p.2,Value.bool true))) :
    ∃ r,(Instr.findKey 181 (key3 x y) es).run Try.prog w=.ok r w∧r.map (·.2)=(if D.contains (x,y) then some (Value.bool true) else none):=by
  unfold Instr.findKey
  have hu:∃ fs,(underlying 181).run Try.prog w=.ok (.struct fs) w:=⟨(match Try.prog.underlying 181 with | some (.struct fs)=>fs | _=>#[]),by kernel_rfl⟩
  obtain ⟨fs,hu⟩:=hu
  simp only [Sem.run_bind,hu,Result.andThen_ok,findNow_struct]
  cases es with
  | nil =>
    cases D with
    | nil=>exact ⟨none,rfl,rfl⟩
    | cons p D=>simp at h
  | cons e es=>exact asking_run x y w (e::es) D 0 h
theorem lookK_run {w:World} {b:Nat} {D:List (Int × Int)} (h:MapK w b D) (x y:Int):(lookS 179 (.map (some b)) (.agg #[.int .i64 x,.int .i64 y,.int .i64 0]) false).run Try.prog w=.ok (.value (.bool (D.contains (x,y)))) w:=by
  obtain ⟨es,cl,h1,h2⟩:=h
  obtain ⟨r,hr,hm⟩:=findK_run (w:=w) x y h2
  unfold lookS Instr.lookup
  have hu:(underlying 179).run Try.prog w=.ok (.map 181 4) w:=by kernel_rfl
  have hz:(zeroValue 4).run Try.prog w=.ok (.bool false) w:=by kernel_rfl
  have hg:(getObj b).run Try.prog w=.ok (.map es cl) w:=by simp [getObj,Sem.run,h1]
  have hc:∀ e,(Instr.checkKey e 10000 181 (.agg #[.int .i64 x,.int .i64 y,.int .i64 0])).run Try.prog w=.ok () w:=fun e=>by kernel_rfl
  unfold key3 at hr
  simp only [Sem.run_bind,hu,Result.andThen_ok,hg,hc,hr,Sem.run_pure]
  cases hcon:D.contains (x,y) with
  | true =>
    rw [hcon] at hm
    obtain ⟨p,rfl,hp⟩:=Option.map_eq_some_iff.1 hm
    obtain ⟨i,v⟩:=p
    simp at hp; subst hp; simp
  | false =>
    rw [hcon] at hm
    obtain rfl:r=none:=by simpa using hm
    simp [hz,Result.andThen]
theorem updK_run {w:World} {b:Nat} {D:List (Int × Int)} (h:MapK w b D) (x y:Int) (hx:D.contains (x,y)=false):∃ w',(updS 179 (.map (some b)) (.agg #[.int .i64 x,.int .i64 y,.int .i64 0]) (.bool true)).run Try.prog w=.ok .skip w'∧SX.But b w w'∧MapK w' b (D++[(x,y)]):=by
  obtain ⟨es,cl,h1,h2⟩:=h
  obtain ⟨r,hr,hm⟩:=findK_run (w:=w) x y h2
  rw [hx] at hm
  have hrn:r=none:=by simpa using hm
  subst hrn
  have hu:(underlying 179).run Try.prog w=.ok (.map 181 4) w:=by kernel_rfl
  have hg:(getObj b).run Try.prog w=.ok (.map es cl) w:=by simp [getObj,Sem.run,h1]
  have hc:∀ e,(Instr.checkKey e 10000 181 (.agg #[.int .i64 x,.int .i64 y,.int .i64 0])).run Try.prog w=.ok () w:=fun e=>by kernel_rfl
  have hs:∀ ob,(setObj b ob).run Try.prog w=.ok () (SX.setBlk w b ob):=fun ob=>by simp [setObj,Sem.run,h1,SX.setBlk]
  unfold key3 at hr
  refine ⟨_,?_,but_setBlk (.map (es.push { key:=.agg #[.int .i64 x,.int .i64 y,.int .i64 0],val:=.bool true,born:=cl }) (cl+1)),?_⟩
  · unfold updS Instr.mapUpdate
    simp only [Sem.run_bind,hu,Result.andThen_ok,hg,hc,hr,Sem.run_pure,hs]
  · exact ⟨es.push { key:=.agg #[.int .i64 x,.int .i64 y,.int .i64 0],val:=.bool true,born:=cl },cl+1,by simp [SX.setBlk,(Array.getElem?_eq_some_iff.1 h1).1],by simp [h2,key3]⟩

theorem MapI.lt {w:World} {b:Nat} {D:List (Int × Int)} (h:MapI w b D):b<w.heap.size:=by obtain ⟨_,_,h1,_⟩:=h; exact (Array.getElem?_eq_some_iff.1 h1).1
theorem MapK.lt {w:World} {b:Nat} {D:List (Int × Int)} (h:MapK w b D):b<w.heap.size:=by obtain ⟨_,_,h1,_⟩:=h; exact (Array.getElem?_eq_some_iff.1 h1).1
theorem tmap_step {α β:Type} {l:List α} {f:α→β} {k:Nat} {x:α} (hx:l[k]?=some x):(l.take (k+1)).map f=(l.take k).map f++[f x]:=by
  obtain ⟨hk,rfl⟩:=List.getElem?_eq_some_iff.1 hx
  rw [List.take_succ_eq_append_getElem hk,List.map_append]; rfl
theorem contains_all (l:List (Int × Int × Int)) (x:Int × Int × Int):(l.map (fun y=>(y.1,y.2.1))).contains (x.1,x.2.1)=!l.all (fun y=>!(y.1==x.1&&y.2.1==x.2.1)):=by
  induction l with
  | nil=>rfl
  | cons y l ih =>
    rw [List.map_cons,List.contains_cons,ih,List.all_cons]
    have e:((x.1,x.2.1)==(y.1,y.2.1))=(y.1==x.1&&y.2.1==x.2.1):=by
      rw [Bool.eq_iff_iff]; simp only [beq_iff_eq,Prod.mk.injEq,Bool.and_eq_true]; constructor <;> rintro ⟨h1,h2⟩ <;> exact ⟨h1.symm,h2.symm⟩
    rw [e]
    cases (y.1==x.1&&y.2.1==x.2.1) <;> simp
def objAt (n:Nat) (l:List (Int × Int × Int)) (i:Nat) (x:Int × Int × Int):Bool:=R.obj1 n x&&(l.take i).all (fun y=>!(y.1==x.1&&y.2.1==x.2.1))
theorem objAt_eq (n:Nat) (l:List (Int × Int × Int)) (k:Nat) (x:Int × Int × Int) :
    ((((!P.within x.1 ((n:Int)-1)||!P.within x.2.1 23)||decide (x.2.2<1))||decide (8<x.2.2))||((l.take k).map (fun y=>(y.1,y.2.1))).contains (x.1,x.2.1))=!objAt n l k x:=by
  unfold objAt
  rw [contains_all,obj1_eq]
  unfold P.obj1
  cases (((!P.within x.1 ((n:Int)-1)||!P.within x.2.1 23)||decide (x.2.2<1))||decide (8<x.2.2)) <;> simp
end Go.Proofs.Ytlkcidmmpeebeaa
