/- Proved: regions on plain data in the round of a range over a function,and beside deferred calls. Program-independent. -/
import Derived.Test.YtlkcidmmpeebeaaPcD
import Derived.RangeFuncNested
import Derived.RangeFuncBound
import Derived.RangeFuncCalls
import Derived.RangeFuncLeaves
import Derived.OwnWalkIn
import Derived.OrdersIn
import Derived.Sort.LoopGhostIn
import Derived.LoopNIn
set_option linter.unusedVariables false
set_option linter.unusedSimpArgs false
namespace Go.PX
open Go.RowKit Go.SX

section
variable {P:Program} {ro:Option Nat} {n:Nat} {ds:List Deferred}
variable {E:Env} {N:Nat} {R T:List Ent} {H:Heap} {nx:Nat} {a:Act} {w:World}
end
end Go.PX

/- Proved: a state nested in a state; a range over a function whose rounds are walked on plain data. Program-independent. -/
namespace Go.PX
open Go.RowKit Go.SX

theorem IR.cells {Z Z':Nat→Prop} {w w':World} (hz:∀ b,Z b→Z' b) (hw:∀ p v,w.cell? p=some v→w'.cell? p=some v) {v:Value} {x:PV} (h:IR Z w v x):IR Z' w' v x:=by
  induction h with
  | sc v h=>exact .sc v h
  | imm A cap sz rows U h1 h2 h3 h4 ih =>
    refine .imm A cap sz rows U h1 h2 (fun k row hr=>?_) ih
    obtain ⟨q1,q2,b,off,q3,q4,q5⟩:=h3 k row hr
    exact ⟨q1,q2,b,off,q3,hz b q4,fun i hi=>hw _ _ (q5 i hi)⟩
theorem VR.cells {σ:Nm} {Z:Nat→Prop} {w w':World} (hw:∀ p v,w.cell? p=some v→w'.cell? p=some v) {v:Value} {x:PV} (h:VR σ Z w v x):VR σ Z w' v x:=by
  induction h with
  | sc v h=>exact .sc v h
  | ptr id off b c h=>exact .ptr id off b c h
  | rptr id sz k i b c h=>exact .rptr id sz k i b c h
  | own id sz len b c h=>exact .own id sz len b c h
  | own0 id sz=>exact .own0 id sz
  | imm v sz rows h=>exact .imm v sz rows (h.cells (fun _ q=>q) hw)
  | iptr b off i row U ho hzb hc h=>exact .iptr b off i row U ho hzb (fun j hj=>hw _ _ (hc j hj)) fun j x hx=>(h j x hx).cells (fun _ q=>q) hw
  | agg l xs hl ho h ih=>exact .agg l xs hl ho ih
  | tup l xs hl h ih=>exact .tup l xs hl ih
  | map id b c h=>exact .map id b c h
  | any v h=>exact .any v h
  | fn f l1 l2 x1 x2 hl1 hl2 h1 h2 ih1 ih2=>exact .fn f l1 l2 x1 x2 hl1 hl2 ih1 ih2

theorem turn_heap {W W':World} {row:Option Nat} (hg:W.grownBy W' row) (hr:∀ r,row=some r→∃ o:Obj,W.heap[r]?=some o∧o.isCells=false) {b:Nat} {C:Array Value} {e:TypeId} {s:Nat × Nat} (h:W.heap[b]?=some (.cells C e s)):W'.heap[b]?=some (.cells C e s):=by
  refine (hg.block b (Array.getElem?_eq_some_iff.1 h).1 fun e'=>?_).trans h
  obtain ⟨o,h1,h2⟩:=hr b e'.symm
  rw [h] at h1; injection h1 with h1; subst h1; cases h2
theorem cell_heap {W:World} {p:Addr} {v:Value} (h:W.cell? p=some v):∃ C e s,W.heap[p.block]?=some (.cells C e s):=by
  unfold World.cell? at h
  cases ho:W.heap[p.block]? with
  | none=>rw [ho] at h; cases h
  | some o=>rw [ho] at h; cases o <;> first | exact ⟨_,_,_,rfl⟩ | cases h
theorem turn_cell {W W':World} {row:Option Nat} (hg:W.grownBy W' row) (hr:∀ r,row=some r→∃ o:Obj,W.heap[r]?=some o∧o.isCells=false) (p:Addr) (v:Value) (h:W.cell? p=some v):W'.cell? p=some v:=by
  obtain ⟨C,e,s,hc⟩:=cell_heap h
  rw [World.cell?_of_block ((turn_heap hg hr hc).trans hc.symm)]; exact h

def allU (H:Heap):Upd:=H.map fun x=>(x.1,none)
theorem ulook_allU:∀ {H:Heap} {id:Nat} {o:PO},hlook H id=some o→ulook (allU H) id≠none
  | [],id,o,h=>by cases h
  | x::H,id,o,h=>by
    simp only [hlook] at h
    simp only [allU,List.map_cons,ulook]
    cases hb:Nat.beq x.1 id with
    | true=>simp
    | false=>rw [hb] at h; exact ulook_allU (H:=H) h
/-- the state as it stands,as the beginning of a walk -/
def Env.nest (E:Env) (H:Heap) (nx:Nat) (σ:Nm) (Z:Nat→Prop) (w:World):Env:={ w0:=w,Wr:=WrOf σ H (allU H),Z0:=Z,σ0:=σ,lo:=nx,top:=E.top }

section
variable {P:Program} {E:Env} {N:Nat} {κ κ':List (Nat × Bool)} {R R':List Ent} {H H':Heap} {nx nx':Nat} {σ σ':Nm} {Z Z':Nat→Prop} {a a':Act} {w w':World}
theorem nest_wr {b:Nat}:(E.nest H nx σ Z w).Wr b→∃ id o c,hlook H id=some o∧σ id=some (b,c):=fun ⟨id,o,c,_,h1,h2⟩=>⟨id,o,c,h1,h2⟩
theorem Rel.nest (h:Rel E N κ R H nx σ Z a w):Rel (E.nest H nx σ Z w) N κ R H nx σ Z a w :=
  ⟨h.rs,h.hr,h.fr,Nat.le_refl _,Ext.refl _,fun _ q _=>q,fun id o _ c h1 h2=>.inr ⟨id,o,c,ulook_allU h1,h1,h2⟩,Chg.refl _ _,fun _ q=>.inl q,fun _ q=>q⟩
theorem Rel.nestOk (h:Rel E N κ R H nx σ Z a w) (ht:E.top=100000):EnvOk (E.nest H nx σ Z w) H (allU H) nx 100000 :=
  ⟨rfl,ht,rfl,fun id h1 h2=>(h.fr id h1 (by rw [ht]; exact h2)).2,fun id h1 h2=>(h.fr id h1 (by rw [ht]; exact h2)).1⟩
theorem Rel.unnest (h:Rel E N κ R H nx σ Z a w) {N':Nat} (k:Rel (E.nest H nx σ Z w) N' κ' R' H' nx' σ' Z' a' w'):Rel E N' κ' R' H' nx' σ' Z' a' w':=by
  have hs:=h.chg.size
  refine ⟨k.rs,k.hr,k.fr,Nat.le_trans h.lo k.lo,h.ext.trans k.ext,fun id h0 hn=>?_,fun id o b c h1 h2=>?_,?_,fun b hb=>?_,fun b hb=>k.z0 b (h.z0 b hb)⟩
  · exact k.dom id (h.dom id h0 hn) fun ⟨q1,q2⟩=>hn ⟨Nat.le_trans h.lo q1,q2⟩
  · rcases k.own id o b c h1 h2 with q | q
    · exact .inl (Nat.le_trans hs q)
    · obtain ⟨i,o',c',q1,q2⟩:=nest_wr q
      exact h.own i o' b c' q1 q2
  · refine (h.chg.trans k.chg).mono fun b hb q=>?_
    rcases q with q | q
    · exact q
    · obtain ⟨i,o',c',q1,q2⟩:=nest_wr q
      rcases h.own i o' b c' q1 q2 with q | q
      · omega
      · exact q
  · rcases k.zold b hb with q | q | q
    · exact h.zold b q
    · exact .inr (.inl (Nat.le_trans hs q))
    · obtain ⟨i,o',c',q1,q2⟩:=nest_wr q
      exact .inr (h.own i o' b c' q1 q2)
/-- what the slots held still holds -/
theorem Rel.back (h:Rel E N [] R H nx σ Z a w) {N':Nat} (k:Rel (E.nest H nx σ Z w) N' κ' R' H' nx' σ' Z' a' w'):Rel (E.nest H nx σ Z w) N [] R H' nx' σ' Z' a w' :=
  ⟨⟨h.rs.defers,h.rs.size,fun t e he=>⟨fun hp=>by
    obtain ⟨v,h1,h2⟩:=(h.rs.at_ t e he).1 hp
    exact ⟨v,h1,h2.mono k.ext k.z0 k.chg fun b hz q=>by obtain ⟨i,o',c',q1,q2⟩:=nest_wr q; exact h.hr.off i o' b c' q1 q2 hz⟩,(h.rs.at_ t e he).2⟩⟩,k.hr,k.fr,k.lo,k.ext,k.dom,k.own,k.chg,k.zold,k.z0⟩

def isMp:PO→Bool
  | .mp _ | .rmap _ _ | .rit _ _ _ _=>true
  | _=>false
def mapsOld (E:Env) (H:Heap):Prop:=∀ id o,hlook H id=some o→isMp o=true→∃ b c,E.σ0 id=some (b,c)∧b<E.w0.heap.size
theorem RS.cells (h:RS σ Z w N κ R a) (hw:∀ p v,w.cell? p=some v→w'.cell? p=some v):RS σ Z w' N κ R a :=
  ⟨h.defers,h.size,fun t e he=>⟨fun hp=>by obtain ⟨v,h1,h2⟩:=(h.at_ t e he).1 hp; exact ⟨v,h1,h2.cells hw⟩,(h.at_ t e he).2⟩⟩
theorem Rel.turn (h:Rel E N κ R H nx σ Z a w) {row:Option Nat} (hg:w.grownBy w' row) (hr:∀ r,row=some r→E.w0.heap.size≤r∧∃ o:Obj,w.heap[r]?=some o∧o.isCells=false) (hm:mapsOld E H):Rel E N κ R H nx σ Z a w':=by
  have hr':=fun r e=>(hr r e).2
  have hc:=turn_cell hg hr'
  refine ⟨h.rs.cells hc,⟨fun id o ho=>?_,h.hr.inj,h.hr.off,fun b q=>Nat.lt_of_lt_of_le (h.hr.zlt b q) hg.size⟩,h.fr,h.lo,h.ext,h.dom,h.own,⟨hg.os.trans h.chg.os,hg.tape.trans h.chg.tape,hg.output.trans h.chg.output,Nat.le_trans h.chg.size hg.size,fun b hb hn=>?_⟩,h.zold,h.z0⟩
  · have q:=h.hr.at_ id o ho
    cases o with
    | box e xs =>
      obtain ⟨b,c,C,h1,h2,h3,h4⟩:=q
      exact ⟨b,c,C,h1,turn_heap hg hr' h2,h3,h4.1,fun i u x hu hx=>(h4.2 i u x hu hx).cells hc⟩
    | row e sz pu rows =>
      obtain ⟨h1,h2,h3⟩:=q
      refine ⟨h1,h2,fun b c hb=>?_⟩
      obtain ⟨C,q1,q2,q3,q4,q5⟩:=h3 b c hb
      exact ⟨C,turn_heap hg hr' q1,q2,q3,q4,⟨q5.1.1,fun i u x hu hx=>(q5.1.2 i u x hu hx).cells hc⟩,fun hp=>⟨(q5.2 hp).1,fun i u x hu hx=>((q5.2 hp).2 i u x hu hx).cells (fun _ q=>q) hc⟩⟩
    | mp D =>
      obtain ⟨h0,b,c,es,cl,h1,h2,h3⟩:=q
      refine ⟨h0,b,c,es,cl,h1,?_,h3⟩
      refine (hg.block b (Array.getElem?_eq_some_iff.1 h2).1 fun e=>?_).trans h2
      obtain ⟨b',c',e1,e2⟩:=hm id _ ho rfl
      have:=h.ext id _ e1
      rw [h1] at this; injection this with this; injection this with t1 t2; subst t1
      have:=(hr b e.symm).1; omega
    | rmap es cl =>
      obtain ⟨b,c,h1,h2⟩:=q
      refine ⟨b,c,h1,(hg.block b (Array.getElem?_eq_some_iff.1 h2).1 fun e=>?_).trans h2⟩
      obtain ⟨b',c',e1,e2⟩:=hm id _ ho rfl
      have:=h.ext id _ e1
      rw [h1] at this; injection this with this; injection this with t1 t2; subst t1
      have:=(hr b e.symm).1; omega
    | rit m s x c0 =>
      obtain ⟨b,c,bm,cm,h1,h3,h2⟩:=q
      refine ⟨b,c,bm,cm,h1,h3,(hg.block b (Array.getElem?_eq_some_iff.1 h2).1 fun e=>?_).trans h2⟩
      obtain ⟨b',c',e1,e2⟩:=hm id _ ho rfl
      have:=h.ext id _ e1
      rw [h1] at this; injection this with this; injection this with t1 t2; subst t1
      have:=(hr b e.symm).1; omega
    | ty v x=>exact ⟨q.1,q.2.1,q.2.2.cells hc⟩
  · rw [hg.block b (Nat.lt_of_lt_of_le hb h.chg.size) fun e=>?_]
    · exact h.chg.block b hb hn
    · have:=(hr b e.symm).1; omega
theorem Sat.turn (h:Sat E N R H nx a w) {row:Option Nat} (hg:w.grownBy w' row) (hr:∀ r,row=some r→E.w0.heap.size≤r∧∃ o:Obj,w.heap[r]?=some o∧o.isCells=false) (hm:mapsOld E H):Sat E N R H nx a w':=by
  obtain ⟨σ,Z,q⟩:=h
  exact ⟨σ,Z,q.turn hg hr hm⟩
/-- objects that aren't of the table stay -/
theorem nest_def (h:Rel E N κ R H nx σ Z a w) {N':Nat} (k:Rel (E.nest H nx σ Z w) N' κ' R' H' nx' σ' Z' a' w') {D:Nat} {x:Option (List Deferred)} (hD:w.heap[D]?=some (.deferred x)):w'.heap[D]?=some (.deferred x) :=
  (k.chg.block D (Array.getElem?_eq_some_iff.1 hD).1 fun q=>by
    obtain ⟨i,o',c',q1,q2⟩:=nest_wr q
    have q3:=h.hr.at_ i o' q1
    cases o' with
    | box e xs =>
      obtain ⟨b,c,C,h1,h2,_⟩:=q3
      rw [q2] at h1; injection h1 with h1; injection h1 with t1 t2; subst t1
      rw [hD] at h2; cases h2
    | row e sz pu rows =>
      obtain ⟨C,h2,_⟩:=q3.2.2 D c' q2
      rw [hD] at h2; cases h2
    | mp M =>
      obtain ⟨_,b,c,es,cl,h1,h2,_⟩:=q3
      rw [q2] at h1; injection h1 with h1; injection h1 with t1 t2; subst t1
      rw [hD] at h2; cases h2
    | rmap es cl =>
      obtain ⟨b,c,h1,h2⟩:=q3
      rw [q2] at h1; injection h1 with h1; injection h1 with t1 t2; subst t1
      rw [hD] at h2; cases h2
    | rit m s x c0 =>
      obtain ⟨b,c,bm,cm,h1,_,h2⟩:=q3
      rw [q2] at h1; injection h1 with h1; injection h1 with t1 t2; subst t1
      rw [hD] at h2; cases h2
    | ty v x=>have:=q3.1; rw [q2] at this; cases this).trans hD
/-- a state,and what it leads to: E3 begins here -/
def Nested (E E3:Env) (w:World):Prop:=E3.w0=w∧E3.top=E.top∧∀ N' R' H' nx' a' w',Sat E3 N' R' H' nx' a' w'→Sat E N' R' H' nx' a' w'∧∀ (D:Nat) (x:Option (List Deferred)),w.heap[D]?=some (Obj.deferred x)→w'.heap[D]?=some (Obj.deferred x)
theorem Sat.nest (h:Sat E N R H nx a w) (ht:E.top=100000):∃ E3,Nested E E3 w∧EnvOk E3 H (allU H) nx 100000∧Sat E3 N R H nx a w:=by
  obtain ⟨σ,Z,hr⟩:=h
  refine ⟨E.nest H nx σ Z w,⟨rfl,rfl,fun N' R' H' nx' a' w' ⟨σ',Z',k⟩=>⟨⟨σ',Z',hr.unnest k⟩,fun D x hD=>nest_def hr k hD⟩⟩,hr.nestOk ht,⟨σ,Z,hr.nest⟩⟩

/-! a range over a function -/
end
end Go.PX

/- Proved: a cut in a walk on plain data: ways that meet go on as one. Program-independent. -/
namespace Go.PX
open Go.RowKit Go.SX
theorem seq_cut {P:Program} {Q:Exit→Act→World→Prop} {x y:Code} {a:Act} {w:World} {E:Env} {N nx:Nat} {T:List Ent} {H:Heap} (hx:x.wp P (Exit.then (fun a w=>Sat E N T H nx a w) Q) a w) (hy:∀ a w,Sat E N T H nx a w→y.wp P Q a w):(Code.seq x y).wp P Q a w :=
  wp_seq (wp_mono hx fun e a w q=>by cases e <;> first | exact hy a w q | exact q)
end Go.PX

/- Proved: regions that draw their order,and loops,on plain data,beside deferred calls. Program-independent. -/
namespace Go.PX
open Go.RowKit Go.SX
section
variable {P:Program} {E:Env} {l:List Oper} {κ:List (Nat × Bool)} {N:Nat} {is:List Info} {bef:List (List Nat)} {R:List Ent} {h:Nat→Option PO} {nx nx':Nat} {Q:Exit→Act→World→Prop}

end
section
variable {P:Program} {E:Env} {N:Nat} {R T:List Ent} {H H0 H':Heap} {U:Upd} {lo top nx:Nat} {a:Act} {w:World} {Q:Exit→Act→World→Prop} {l:List Oper} {id:Nat} {rest:Code} {ro:Option Nat} {n:Nat} {dfs:List Deferred}
end
end Go.PX

/- Proved: objects of the table told otherwise; a name in a row written as a raw value with a ghost beside it; a range over a function with a further fact that its rounds keep. Program-independent. -/
namespace Go.PX
open Go.RowKit Go.SX
section
variable {P:Program} {E:Env} {N:Nat} {κ:List (Nat × Bool)} {R:List Ent} {H H':Heap} {nx nx':Nat} {σ:Nm} {Z:Nat→Prop} {a:Act} {w:World}
/-- the table told otherwise -/
theorem Rel.reH (hr:Rel E N κ R H nx σ Z a w) (hle:nx≤nx') (htop:nx'≤E.top) (h:∀ i o,hlook H' i=some o→OR σ Z w i o) (hk:∀ i o,hlook H' i=some o→(∃ o',hlook H i=some o')∨(nx≤i∧i<nx')):Rel E N κ R H' nx' σ Z a w:=by
  have hn:∀ {i b c},nx≤i→i<nx'→σ i=some (b,c)→False:=fun {i b c} h1 h2 q=>by
    have:=(hr.fr i h1 (Nat.lt_of_lt_of_le h2 htop)).1
    rw [q] at this; cases this
  refine ⟨hr.rs,⟨h,fun i i' o o' b c c' q1 q2 q3 q4=>?_,fun i o b c q1 q2=>?_,hr.hr.zlt⟩,fun i q1 q2=>⟨(hr.fr i (Nat.le_trans hle q1) q2).1,?_⟩,Nat.le_trans hr.lo hle,hr.ext,hr.dom,fun i o b c q1 q2=>?_,hr.chg,hr.zold,hr.z0⟩
  · rcases hk i o q1 with ⟨_,r1⟩ | ⟨r1,r2⟩
    · rcases hk i' o' q2 with ⟨_,r3⟩ | ⟨r3,r4⟩
      · exact hr.hr.inj i i' _ _ b c c' r1 r3 q3 q4
      · exact (hn r3 r4 q4).elim
    · exact (hn r1 r2 q3).elim
  · rcases hk i o q1 with ⟨_,r1⟩ | ⟨r1,r2⟩
    · exact hr.hr.off i _ b c r1 q2
    · exact (hn r1 r2 q2).elim
  · cases q:hlook H' i with
    | none=>rfl
    | some o =>
      rcases hk i o q with ⟨_,r1⟩ | ⟨r1,r2⟩
      · rw [(hr.fr i (Nat.le_trans hle q1) q2).2] at r1; cases r1
      · omega
  · rcases hk i o q1 with ⟨_,r1⟩ | ⟨r1,r2⟩
    · exact hr.own i _ b c r1 q2
    · exact (hn r1 r2 q2).elim

/-- what the rounds of a range keep: a fact X beside what isn't named,and the rows that are new since the range began -/
def KpX (Wr:Nat→Prop) (X:World→Prop) (w:World) (A B:World):Prop:=((Chg Wr w A∧X A)→(Chg Wr w B∧X B))∧(A.heap.size≤B.heap.size∧∀ b C e s,w.heap.size≤b→A.heap[b]?=some (.cells C e s)→B.heap[b]?=some (.cells C e s))
theorem KpX.refl {Wr:Nat→Prop} {X:World→Prop} {w A:World}:KpX Wr X w A A:=⟨fun q=>q,Nat.le_refl _,fun _ _ _ _ _ q=>q⟩
end
end Go.PX

/- Proved: contracts whose answer holds something that is only known to exist. Program-independent. -/
namespace Go.PX
open Go.RowKit Go.SX
section
variable {P:Program} {E:Env} {N:Nat} {R:List Ent} {H:Heap} {nx:Nat} {a:Act} {w:World}
/-- a contract: some u that is good tells what the call changes -/
def ConX {α:Type} (P:Program) (f:FuncId) (args:List PV) (H:Heap) (nx nx':Nat) (r:PV) (UU:α→Upd) (good:α→Prop):Prop :=
  ∀ (w:World) (σ:Nm) (Z:Nat→Prop) (vs:List Value),HR σ Z w H→VRs σ Z w vs args→(∀ id,nx≤id→id<nx'→σ id=none) →
    Calls P f vs.toArray w (fun e w'=>∃ u,good u∧∃ v σ' Z',e=.returned v∧VR σ' Z' w' v r∧Eff σ Z w H (UU u) σ' Z' w')
def ConPostX {α:Type} (E:Env) (H:Heap) (r:PV) (UU:α→Upd) (good:α→Prop):Ending→World→Prop:=fun e w'=>∃ u,good u∧ConPost E H r (UU u) e w'
theorem ulook_keys:∀ {U U':Upd},U.map (·.1)=U'.map (·.1)→∀ id,ulook U id≠none→ulook U' id≠none
  | [],[],_,id,h=>h
  | [],y::U',e,id,h=>by cases e
  | x::U,[],e,id,h=>by cases e
  | x::U,y::U',e,id,h=>by
    simp only [List.map_cons,List.cons.injEq] at e
    obtain ⟨x1,x2⟩:=x
    obtain ⟨y1,y2⟩:=y
    obtain ⟨e1,e2⟩:=e
    simp only at e1; subst e1
    simp only [ulook] at h ⊢
    cases hb:Nat.beq x1 id with
    | true=>simp
    | false=>rw [hb] at h; exact ulook_keys e2 id h
theorem EnvOk.keys {U U':Upd} {lo top:Nat} (h:EnvOk E H U lo top) (e:U.map (·.1)=U'.map (·.1)):EnvOk E H U' lo top :=
  ⟨h.elo,h.etop,by
    rw [h.wr]; funext b
    refine propext ⟨fun ⟨id,o,c,q1,q2,q3⟩=>⟨id,o,c,ulook_keys e id q1,q2,q3⟩,fun ⟨id,o,c,q1,q2,q3⟩=>⟨id,o,c,ulook_keys e.symm id q1,q2,q3⟩⟩,h.hfr,h.es0⟩
end
end Go.PX
