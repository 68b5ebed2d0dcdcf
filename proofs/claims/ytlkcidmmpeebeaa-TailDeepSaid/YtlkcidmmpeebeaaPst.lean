/- Proved: boxes that no name of the table stands for (what lies deeper in a stack),opened and shut; a pointer written as a raw value with a ghost beside it; a call whose answer is only known to exist. Program-independent. -/
import Derived.Test.YtlkcidmmpeebeaaPcP
import Derived.Test.YtlkcidmmpeebeaaCkD
set_option linter.unusedVariables false
set_option linter.unusedSimpArgs false
namespace Go.PX
open Go.RowKit Go.SX
section
variable {P:Program} {E:Env} {N:Nat} {κ:List (Nat × Bool)} {R:List Ent} {H H':Heap} {nx nx':Nat} {σ σ':Nm} {Z Z':Nat→Prop} {a a':Act} {w w':World} {e:TypeId} {ls:List (Nat × List PV)}
/-- the state told with other names,the names at hand -/
theorem canonN {H0:Heap} {U:Upd} {lo top:Nat} (ρ:List (Nat × Nat)) (R':List Ent) (H':Heap) (nx':Nat) (hr:Rel E N [] R H nx σ Z a w) (hE:EnvOk E H0 U lo top) (hR:renR ρ R'=R) (hH:(okH ρ H H').map (·.1)=(okH ρ H H').map (·.2)) (hc:canonB ρ lo top nx' R' H'=true) :
  ∃ σ',Rel E N [] R' H' nx' σ' Z a w∧∀ id∈keysH H',σ' id=σ (rn ρ id):=by
 classical
 unfold canonB at hc
 simp only [Bool.and_eq_true] at hc
 obtain ⟨⟨⟨⟨c1,c2⟩,c3⟩,c4⟩,c5⟩:=hc
 have c4:=Nat.le_of_ble_eq_true c4
 have hat:∀ {id:Nat} {o:PO},hlook H' id=some o→hlook H (rn ρ id)=some (renO ρ o):=okH_spec (allEq_of_map hH)
 have hk5:∀ id∈keysH H',(lo≤id∧id<top∧id<nx')∨(¬ (lo≤id∧id<top)∧rn ρ id=id):=fun id hid=>by
  have:=List.all_eq_true.1 c5 id hid
  cases hb:(Nat.ble lo id&&Nat.blt id top) with
  | true =>
   rw [hb] at this
   simp only [Bool.and_eq_true,Nat.blt_eq,cond_true] at hb this
   exact .inl ⟨Nat.le_of_ble_eq_true hb.1,hb.2,this⟩
  | false =>
   rw [hb] at this
   simp only [cond_false,Nat.beq_eq] at this
   refine .inr ⟨fun ⟨q1,q2⟩=>?_,this⟩
   have e1:Nat.ble lo id=true:=by rw [Nat.ble_eq]; exact q1
   have e2:Nat.blt id top=true:=by simpa using q2
   rw [e1,e2] at hb; cases hb
 let σ':Nm:=fun id=>if lo≤id∧id<top then (if id∈keysH H' then σ (rn ρ id) else none) else σ id
 have hS:∀ id∈keysH H',σ' id=σ (rn ρ id):=fun id hid=>by
  show (if _ then _ else _)=_
  rcases hk5 id hid with ⟨q1,q2,_⟩ | ⟨q1,q2⟩
  ·rw [if_pos ⟨q1,q2⟩,if_pos hid]
  ·rw [if_neg q1,q2]
 have hS':∀ id,(keysH H').any (Nat.beq id)=true→σ' id=σ (rn ρ id):=fun id h=>hS id (mem_any h)
 refine ⟨σ',⟨⟨hr.rs.defers,hr.rs.size,fun t e he=>?_⟩,⟨fun id o ho=>?_,fun id id' o o' b c c' h1 h2 h3 h4=>?_,fun id o b c h1 h2=>?_,hr.hr.zlt⟩,fun id h1 h2=>?_,by rw [hE.elo]; exact c4,fun id x hx=>?_,fun id h0 hn=>?_,fun id o b c h1 h2=>?_,hr.chg,hr.zold,hr.z0⟩,hS⟩
 ·have hl:=look_renR (ρ:=ρ) he
  rw [hR] at hl
  have:=hr.rs.at_ t _ hl
  refine ⟨fun hp=>?_,this.2⟩
  obtain ⟨v,q1,q2⟩:=this.1 hp
  exact ⟨v,q1,q2.ren hS' e.v rfl (idsR_spec c1 he)⟩
 ·exact OR.ren hS' (hS id (hlook_key ho)) (hr.hr.at_ _ _ (hat ho)) (idsH_spec c2 ho)
 ·have k1:=hlook_key h1
  have k2:=hlook_key h2
  rw [hS id k1] at h3
  rw [hS id' k2] at h4
  exact apart_inj c3 id k1 id' k2 (hr.hr.inj _ _ _ _ b c c' (hat h1) (hat h2) h3 h4)
 ·rw [hS id (hlook_key h1)] at h2
  exact hr.hr.off _ _ b c (hat h1) h2
 ·rw [hE.etop] at h2
  have hnk:id ∉ keysH H':=fun hid=>by
   rcases hk5 id hid with ⟨_,_,q⟩ | ⟨q,_⟩
   ·omega
   ·exact q ⟨Nat.le_trans c4 h1,h2⟩
  refine ⟨?_,?_⟩
  ·show (if _ then _ else _)=_
   rw [if_pos ⟨Nat.le_trans c4 h1,h2⟩,if_neg hnk]
  ·cases ho:hlook H' id with
   | none=>rfl
   | some o=>exact absurd (hlook_key ho) hnk
 ·show (if _ then _ else _)=_
  rw [if_neg (fun q=>by rw [hE.es0 id q.1 q.2] at hx; cases hx)]
  exact hr.ext id x hx
 ·show (if _ then _ else _)=_
  rw [hE.elo,hE.etop] at hn
  rw [if_neg hn]
  exact hr.dom id h0 (by rw [hE.elo,hE.etop]; exact hn)
 ·rw [hS id (hlook_key h1)] at h2
  exact hr.own _ _ b c (hat h1) h2
theorem wpl_callN {ops:Array Oper} {Q:Exit→Act→World→Prop} {rest:List Oper} {o:Oper} {g:FuncId} {args:Array Operand} {ty:Array TypeId} (vs:List Value) (ho:o.op=.call { callee:=.value (.func g),args,argTypes:=ty }) (hgd:o.guard=none) (hg:callB P g=true) (hvs:args.toList.map a.eval=vs) {Post:Ending→World→Prop} (hc:Calls P g vs.toArray w Post)
  (hk:∀ e w',Post e w'→∃ v,e=.returned v∧wpList P ops Q rest (a.put o.dst v) w'):wpList P ops Q (o::rest) a w:=by
 subst hvs
 refine wpList_plain hgd fun K hK=>?_
 unfold Oper.wp
 have hrun:(execOp a.eval o).run P w=.ok (.enter g (args.toList.map a.eval).toArray) w:=by
  have:args.map a.eval=(args.toList.map a.eval).toArray:=by apply Array.ext'; simp
  rw [← this]
  simp [execOp,ho,resolve,Act.eval,Deferred.ofValue,invoke,run_callFunc hg]
 rw [hrun]
 simp only [Oper.upon]
 refine hc.mono fun e w' h=>?_
 obtain ⟨v,rfl,h2⟩:=hk e w' h
 exact hK _ _ h2
theorem rel_putN {o:Oper} {t:Nat} {x:PV} {u:Value} (h:Rel E N [] R H nx σ Z a w) (ho:o.dst=some t) (ht:Nat.blt t N=true) (hv:VR σ Z w u x):Rel E N [] (⟨t,[],x⟩::R) H nx σ Z (a.put o.dst u) w :=
 ⟨h.rs.put (o:=o) (p:=[]) (x:=some x) (by unfold dstOk; rw [ho]; exact ht) (by unfold setR; rw [ho]) (fun _ y e=>by injection e with e; subst e; exact hv) (fun q=>by cases q),h.hr,h.fr,h.lo,h.ext,h.dom,h.own,h.chg,h.zold,h.z0⟩

/-- boxes without names: their block and their cells -/
structure LS (E:Env) (H:Heap) (σ:Nm) (Z:Nat→Prop) (w:World) (e:TypeId) (ls:List (Nat × List PV)):Prop where
 box:∀ x∈ls,OR (fun _=>some (x.1,0)) Z w 0 (.box e x.2)
 pu:∀ x∈ls,∀ y∈x.2,idsIn [] y=true
 old:∀ x∈ls,E.w0.heap.size≤x.1∨E.Wr x.1
 off:∀ x∈ls,¬ Z x.1
 sep:∀ x∈ls,∀ id o c,hlook H id=some o→σ id≠some (x.1,c)
 nd:(ls.map (·.1)).Nodup
theorem LS.lt (h:LS E H σ Z w e ls) {x:Nat × List PV} (hx:x∈ls):x.1<w.heap.size:=(h.box x hx).lt rfl
theorem LS.step {N':Nat} {κ':List (Nat × Bool)} {R':List Ent} (h:LS E H σ Z w e ls) (hoff:∀ id o b c,hlook H id=some o→σ id=some (b,c)→¬ Z b) (k:Rel (E.nest H nx σ Z w) N' κ' R' H' nx' σ' Z' a' w'):LS E H' σ' Z' w' e ls:=by
 have hn:∀ x∈ls,¬ (E.nest H nx σ Z w).Wr x.1:=fun x hx q=>by
  obtain ⟨i,o',c',q1,q2⟩:=nest_wr q
  exact h.sep x hx i o' c' q1 q2
 refine ⟨fun x hx=>?_,h.pu,h.old,fun x hx hz=>?_,fun x hx id o c h1 h2=>?_,h.nd⟩
 ·refine OR.mono (Ext.refl _) k.z0 k.chg (fun b hz q=>?_) rfl (fun b c q=>?_) (h.box x hx)
  ·obtain ⟨i,o',c',q1,q2⟩:=nest_wr q
   exact hoff i o' b c' q1 q2 hz
  ·injection q with q; injection q with q _; subst q; exact hn x hx
 ·rcases k.zold _ hz with q | q | q
  ·exact h.off x hx q
  ·have:=h.lt hx; change w.heap.size≤x.1 at q; omega
  ·exact hn x hx q
 ·rcases k.own id o x.1 c h1 h2 with q | q
  ·have:=h.lt hx; change w.heap.size≤x.1 at q; omega
  ·exact hn x hx q
/-- a state,and boxes beside its table -/
def SatL (E:Env) (N:Nat) (R:List Ent) (H:Heap) (nx:Nat) (a:Act) (w:World) (e:TypeId) (ls:List (Nat × List PV)):Prop:=∃ σ Z,Rel E N [] R H nx σ Z a w∧LS E H σ Z w e ls
theorem SatL.nil (h:Sat E N R H nx a w):SatL E N R H nx a w e []:=by
 obtain ⟨σ,Z,hr⟩:=h
 exact ⟨σ,Z,hr,nofun,nofun,nofun,nofun,nofun,List.nodup_nil⟩
theorem SatL.sat (h:SatL E N R H nx a w e ls):Sat E N R H nx a w:=by
 obtain ⟨σ,Z,hr,_⟩:=h
 exact ⟨σ,Z,hr⟩
theorem SatL.nest (h:SatL E N R H nx a w e ls) (ht:E.top=100000):∃ E3:Env,EnvOk E3 H (allU H) nx 100000∧Sat E3 N R H nx a w∧∀ N' R' H' nx' a' w',Sat E3 N' R' H' nx' a' w'→SatL E N' R' H' nx' a' w' e ls:=by
 obtain ⟨σ,Z,hr,hl⟩:=h
 exact ⟨E.nest H nx σ Z w,hr.nestOk ht,⟨σ,Z,hr.nest⟩,fun N' R' H' nx' a' w' ⟨σ',Z',k⟩=>⟨σ',Z',hr.unnest k,hl.step hr.hr.off k⟩⟩
theorem SatL.sl (h:SatL E N R H nx a w e ls) (ts:List Nat) {T:List Ent} (hk:keepR R ts=some T):SatL E N T H nx a w e ls:=by
 obtain ⟨σ,Z,hr,hl⟩:=h
 exact ⟨σ,Z,hr.rs' (hr.rs.keep hk),hl⟩
theorem SatL.canon {H0:Heap} {U:Upd} {lo top:Nat} (ρ:List (Nat × Nat)) (R':List Ent) (H':Heap) (nx':Nat) (h:SatL E N R H nx a w e ls) (hE:EnvOk E H0 U lo top) (hR:renR ρ R'=R) (hH:(okH ρ H H').map (·.1)=(okH ρ H H').map (·.2)) (hc:canonB ρ lo top nx' R' H'=true):SatL E N R' H' nx' a w e ls:=by
 obtain ⟨σ,Z,hr,hl⟩:=h
 obtain ⟨σ',h1,h2⟩:=canonN ρ R' H' nx' hr hE hR hH hc
 have hat:∀ {id:Nat} {o:PO},hlook H' id=some o→hlook H (rn ρ id)=some (renO ρ o):=okH_spec (allEq_of_map hH)
 exact ⟨σ',Z,h1,hl.box,hl.pu,hl.old,hl.off,fun x hx id o c q1 q2=>by
  rw [h2 id (hlook_key q1)] at q2
  exact hl.sep x hx _ _ c (hat q1) q2,hl.nd⟩
theorem vrs_pure {xs:List PV} {l:List Value} (hp:∀ y∈xs,idsIn [] y=true) (h:VRs σ Z w l xs):VRs σ' Z w l xs :=
 ⟨h.1,fun i u x hu hx=>(h.2 i u x hu hx).restrict (S:=[]) (fun _ q=>by simp at q) (hp x (List.mem_of_getElem? hx))⟩
/-- the first box gets a name -/
theorem SatL.opn {x:Nat × List PV} (h:SatL E N R H nx a w e (x::ls)) (ht:nx+2≤E.top):SatL E N R ((nx,.box e x.2)::(nx+1,.ty (.pointer (some ⟨x.1,0,none⟩)) (.ptr nx 0))::H) (nx+2) a w e ls:=by
 obtain ⟨σ,Z,hr,hl⟩:=h
 have f0:=hr.fr nx (Nat.le_refl _) (by omega)
 have f1:=hr.fr (nx+1) (by omega) (by omega)
 have hx:=List.mem_cons_self (a:=x) (l:=ls)
 obtain ⟨τ,hτ⟩:∃ τ:Nm,τ=upd σ nx x.1 0:=⟨_,rfl⟩
 have t0:τ nx=some (x.1,0):=by rw [hτ]; exact upd_self ..
 have t1:∀ id,id≠nx→τ id=σ id:=fun id q=>by rw [hτ]; simp [upd,q]
 have hext:Ext σ τ:=hτ ▸ upd_ext f0.1
 have lk:∀ {id:Nat} {o:PO},hlook ((nx,.box e x.2)::(nx+1,.ty (.pointer (some ⟨x.1,0,none⟩)) (.ptr nx 0))::H) id=some o→(id=nx∧o=.box e x.2)∨(id=nx+1∧o=.ty (.pointer (some ⟨x.1,0,none⟩)) (.ptr nx 0))∨(id≠nx∧id≠nx+1∧hlook H id=some o):=fun {id o} q=>by
  simp only [hlook] at q
  cases hb:Nat.beq nx id with
  | true=>rw [hb] at q; simp only [cond_true,Option.some.injEq] at q; exact .inl ⟨(Nat.eq_of_beq_eq_true hb).symm,q.symm⟩
  | false =>
   rw [hb] at q
   simp only [cond_false] at q
   cases hb2:Nat.beq (nx+1) id with
   | true=>rw [hb2] at q; simp only [cond_true,Option.some.injEq] at q; exact .inr (.inl ⟨(Nat.eq_of_beq_eq_true hb2).symm,q.symm⟩)
   | false=>rw [hb2] at q; exact .inr (.inr ⟨(by rintro rfl; rw [f0.2] at q; cases q),(by rintro rfl; rw [f1.2] at q; cases q),q⟩)
 refine ⟨τ,Z,⟨hr.rs.mono hext (fun _ q=>q) (Chg.refl (fun _=>False) w) (fun _ _ q=>q),⟨fun id o q=>?_,fun id id' o o' b c c' q1 q2 q3 q4=>?_,fun id o b c q1 q2=>?_,hr.hr.zlt⟩,fun id q1 q2=>⟨(t1 id (by omega)).trans (hr.fr id (by omega) q2).1,?_⟩,Nat.le_trans hr.lo (by omega),hr.ext.trans hext,fun id q1 q2=>(t1 id (by rintro rfl; exact q2 ⟨hr.lo,by omega⟩)).trans (hr.dom id q1 q2),fun id o b c q1 q2=>?_,hr.chg,hr.zold,hr.z0⟩,fun y hy=>hl.box y (List.mem_cons_of_mem _ hy),fun y hy=>hl.pu y (List.mem_cons_of_mem _ hy),fun y hy=>hl.old y (List.mem_cons_of_mem _ hy),fun y hy=>hl.off y (List.mem_cons_of_mem _ hy),fun y hy id o c q1 q2=>?_,(List.nodup_cons.1 hl.nd).2⟩
 ·rcases lk q with ⟨rfl,rfl⟩ | ⟨rfl,rfl⟩ | ⟨h1,h2,h3⟩
  ·obtain ⟨b,c,C,q1,q2,q3,q4⟩:=hl.box x hx
   injection q1 with q1; injection q1 with q1 q5; subst q1; subst q5
   exact ⟨_,_,C,t0,q2,q3,vrs_pure (hl.pu x hx) q4⟩
  ·exact ⟨(t1 _ (by omega)).trans f1.1,rfl,.ptr _ _ _ _ t0⟩
  ·exact (hr.hr.at_ id o h3).mono hext (fun _ q=>q) (Chg.refl (fun _=>False) w) (fun _ _ q=>q) (t1 id h1) (fun _ _ _ q=>q)
 ·rcases lk q1 with ⟨rfl,rfl⟩ | ⟨rfl,rfl⟩ | ⟨h1,h2,h3⟩
  ·rcases lk q2 with ⟨rfl,rfl⟩ | ⟨rfl,rfl⟩ | ⟨h1',h2',h3'⟩
   ·rfl
   ·rw [t1 _ (by omega),f1.1] at q4; cases q4
   ·rw [t0] at q3; injection q3 with q3; injection q3 with q3 _; subst q3
    rw [t1 _ h1'] at q4; exact (hl.sep x hx _ _ _ h3' q4).elim
  ·rw [t1 _ (by omega),f1.1] at q3; cases q3
  ·rcases lk q2 with ⟨rfl,rfl⟩ | ⟨rfl,rfl⟩ | ⟨h1',h2',h3'⟩
   ·rw [t0] at q4; injection q4 with q4; injection q4 with q4 _; subst q4
    rw [t1 _ h1] at q3; exact (hl.sep x hx _ _ _ h3 q3).elim
   ·rw [t1 _ (by omega),f1.1] at q4; cases q4
   ·rw [t1 _ h1] at q3; rw [t1 _ h1'] at q4; exact hr.hr.inj _ _ _ _ _ _ _ h3 h3' q3 q4
 ·rcases lk q1 with ⟨rfl,rfl⟩ | ⟨rfl,rfl⟩ | ⟨h1,h2,h3⟩
  ·rw [t0] at q2; injection q2 with q2; injection q2 with q2 _; subst q2; exact hl.off x hx
  ·rw [t1 _ (by omega),f1.1] at q2; cases q2
  ·rw [t1 _ h1] at q2; exact hr.hr.off _ _ _ _ h3 q2
 ·cases q:hlook ((nx,.box e x.2)::(nx+1,.ty (.pointer (some ⟨x.1,0,none⟩)) (.ptr nx 0))::H) id with
  | none=>rfl
  | some o =>
   rcases lk q with ⟨rfl,_⟩ | ⟨rfl,_⟩ | ⟨_,_,h3⟩
   ·omega
   ·omega
   ·rw [(hr.fr id (by omega) q2).2] at h3; cases h3
 ·rcases lk q1 with ⟨rfl,rfl⟩ | ⟨rfl,rfl⟩ | ⟨h1,h2,h3⟩
  ·rw [t0] at q2; injection q2 with q2; injection q2 with q2 _; subst q2; exact hl.old x hx
  ·rw [t1 _ (by omega),f1.1] at q2; cases q2
  ·rw [t1 _ h1] at q2; exact hr.own _ _ _ _ h3 q2
 ·rcases lk q1 with ⟨rfl,rfl⟩ | ⟨rfl,rfl⟩ | ⟨h1,h2,h3⟩
  ·rw [t0] at q2; injection q2 with q2; injection q2 with q2 _
   exact (List.nodup_cons.1 hl.nd).1 (by show x.1∈_; rw [q2]; exact List.mem_map_of_mem hy)
  ·rw [t1 _ (by omega),f1.1] at q2; cases q2
  ·rw [t1 _ h1] at q2; exact hl.sep y (List.mem_cons_of_mem _ hy) _ _ _ h3 q2
/-- a box loses its name -/
theorem SatL.shut {A g:Nat} {xs:List PV} {v:Value} (h:SatL E N R H nx a w e ls) (hA:hlook H A=some (.box e xs)) (hg:hlook H g=some (.ty v (.ptr A 0))) (hp:xs.all (idsIn [])=true) (ids:List Nat) (hAi:ids.all (fun i=>!Nat.beq i A)=true):∃ b,v=.pointer (some ⟨b,0,none⟩)∧SatL E N R (PX.restr H ids) nx a w e ((b,xs)::ls):=by
 obtain ⟨σ,Z,hr,hl⟩:=h
 obtain ⟨b,c,C,q1,q2,q3,q4⟩:=hr.hr.at_ A _ hA
 have hv:=(hr.hr.at_ g _ hg).2.2
 cases hv with
 | ptr _ _ b' c' hb =>
  rw [q1] at hb; injection hb with hb; injection hb with hb _; subst hb
  have hp':∀ y∈xs,idsIn [] y=true:=fun y hy=>List.all_eq_true.1 hp y hy
  refine ⟨b,rfl,σ,Z,hr.restr ids,fun x hx=>?_,fun x hx=>?_,fun x hx=>?_,fun x hx=>?_,fun x hx id o c' r1 r2=>?_,?_⟩
  ·rcases List.mem_cons.1 hx with rfl | hx
   ·exact ⟨b,0,C,rfl,q2,q3,vrs_pure hp' q4⟩
   ·exact hl.box x hx
  ·rcases List.mem_cons.1 hx with rfl | hx
   ·exact hp'
   ·exact hl.pu x hx
  ·rcases List.mem_cons.1 hx with rfl | hx
   ·exact hr.own A _ b c hA q1
   ·exact hl.old x hx
  ·rcases List.mem_cons.1 hx with rfl | hx
   ·exact hr.hr.off A _ b c hA q1
   ·exact hl.off x hx
  ·obtain ⟨r3,r4⟩:=hlook_restr r1
   rcases List.mem_cons.1 hx with rfl | hx
   ·have:=hr.hr.inj A id _ _ b c c' hA r3 q1 r2
    subst this
    have:=List.all_eq_true.1 hAi A r4
    simp at this
   ·exact hl.sep x hx id o c' r3 r2
  ·rw [List.map_cons,List.nodup_cons]
   refine ⟨fun q=>?_,hl.nd⟩
   obtain ⟨x,hx,e⟩:=List.mem_map.1 q
   exact hl.sep x hx A _ c hA (by rw [e]; exact q1)
/-- the pointer in a slot is written as the value that it is; a ghost tells how it reads -/
theorem Sat.ptrN {t A:Nat} (hS:Sat E N R H nx a w) (hl:look R t=some ⟨t,[],.ptr A 0⟩) (htop:nx+1≤E.top):∃ v,Sat E N (⟨t,[],.sc v⟩::R) ((nx,.ty v (.ptr A 0))::H) (nx+1) a w:=by
 obtain ⟨σ,Z,hr⟩:=hS
 obtain ⟨v,h1,h2⟩:=(hr.rs.at_ t _ hl).1 rfl
 have f0:=hr.fr nx (Nat.le_refl _) (by omega)
 have hv:scOk v=true:=by cases h2; rfl
 refine ⟨v,σ,Z,?_⟩
 have hr1:Rel E N [] (⟨t,[],.sc v⟩::R) H nx σ Z a w:=hr.rs' ⟨hr.rs.defers,hr.rs.size,fun t' e' he=>by
  simp only [look] at he
  cases hb:Nat.beq t t' with
  | true =>
   rw [hb] at he
   simp only [cond_true,Option.some.injEq] at he; subst he
   obtain rfl:=Nat.eq_of_beq_eq_true hb
   exact ⟨fun _=>⟨v,h1,.sc v hv⟩,fun q=>by cases q⟩
  | false=>rw [hb] at he; exact hr.rs.at_ t' e' he⟩
 exact hr1.reH (by omega) htop (fun i o q=>by
  simp only [hlook] at q
  cases hb:Nat.beq nx i with
  | true=>rw [hb] at q; simp only [cond_true,Option.some.injEq] at q; subst q; obtain rfl:=(Nat.eq_of_beq_eq_true hb); exact ⟨f0.1,rfl,h2⟩
  | false=>rw [hb] at q; exact hr.hr.at_ i o q) (fun i o q=>by
  simp only [hlook] at q
  cases hb:Nat.beq nx i with
  | true=>obtain rfl:=(Nat.eq_of_beq_eq_true hb); exact .inr ⟨by omega,by omega⟩
  | false=>rw [hb] at q; exact .inl ⟨o,q⟩)
theorem keys_of:∀ {U:Upd} {id:Nat},ulook U id≠none→id∈U.map (·.1)
 | [],id,h=>absurd rfl h
 | x::U,id,h=>by
  simp only [ulook] at h
  cases hb:Nat.beq x.1 id with
  | true=>obtain rfl:=Nat.eq_of_beq_eq_true hb; simp
  | false=>rw [hb] at h; exact List.mem_cons_of_mem _ (keys_of (U:=U) h)
/-- behind a call -/
theorem rel_called {ids:List Nat} {U:Upd} {o:Oper} {t:Nat} {r:PV} {v:Value} (hr:Rel E N [] R H nx σ Z a w) (he:Eff σ Z w (PX.restr H ids) U σ' Z' w') (hk:(U.map (·.1)).all (fun id=>(ids.any (Nat.beq id)&&(hlook H id).isSome)||(Nat.ble nx id&&Nat.blt id nx'))=true) (hle:nx≤nx') (htop:nx'≤E.top) (ho:o.dst=some t) (ht:Nat.blt t N=true) (hv:VR σ' Z' w' v r) :
  Rel E N [] (⟨t,[],r⟩::R) (happ U H) nx' σ' Z' (a.put o.dst v) w':=by
 have hk':∀ id,ulook U id≠none→(id∈ids∧hlook H id≠none)∨(nx≤id∧id<nx'):=fun id h=>by
  have:=List.all_eq_true.1 hk id (keys_of h)
  simp only [Bool.or_eq_true,Bool.and_eq_true,List.any_eq_true,Nat.beq_eq] at this
  rcases this with ⟨⟨i,h1,h2⟩,h3⟩ | ⟨h1,h2⟩
  ·exact .inl ⟨h2 ▸ h1,fun q=>by rw [q] at h3; cases h3⟩
  ·exact .inr ⟨Nat.le_of_ble_eq_true h1,by simpa using h2⟩
 have he':=he.restr fun id h1 h2=>by
  rcases hk' id h1 with q | q
  ·exact q.1
  ·exact absurd (hr.fr id q.1 (by omega)).2 h2
 have hm:=hr.mem.step he' hle htop fun id h1=>(hk' id h1).imp (fun q=>q.2) fun q=>q
 exact rel_putN ⟨hr.rs.eff hr.hr he',hm.hr,hm.fr,hm.lo,hm.ext,hm.dom,hm.own,hm.chg,hm.zold,hm.z0⟩ ho ht hv
/-- the call of a contract whose answer holds something that is only known to exist -/
theorem wpl_callX {α:Type} {ops:Array Oper} {Q:Exit→Act→World→Prop} {rest:List Oper} {o:Oper} {g:FuncId} {gargs:Array Operand} {ty:Array TypeId} {args:List PV} {r:PV} {UU:α→Upd} {good:α→Prop} {lo tp:Nat} (ids:List Nat) (t:Nat) (vs:List Value) (ho:o.op=.call { callee:=.value (.func g),args:=gargs,argTypes:=ty }) (hgd:o.guard=none) (hdst:o.dst=some t) (ht:Nat.blt t N=true) (hg:callB P g=true) (hvs:gargs.toList.map a.eval=vs)
  (hc:ConX P g args (PX.restr H ids) lo tp r UU good) (nx':Nat) (hlo:nx≤lo) (hle:nx≤nx') (htop:nx'≤E.top) (htp:tp≤E.top) (hr:Rel E N [] R H nx σ Z a w) (hv:VRs σ Z w vs args)
  (hk:∀ u,((UU u).map (·.1)).all (fun id=>(ids.any (Nat.beq id)&&(hlook H id).isSome)||(Nat.ble nx id&&Nat.blt id nx'))=true)
  (k:∀ u a' w' σ' Z',good u→Rel E N [] (⟨t,[],r⟩::R) (happ (UU u) H) nx' σ' Z' a' w'→wpList P ops Q rest a' w'):wpList P ops Q (o::rest) a w:=by
 refine wpl_callN vs ho hgd hg hvs (hc w σ Z vs (hr.hr.restr ids) hv fun id h1 h2=>(hr.fr id (by omega) (by omega)).1) ?_
 rintro e w' ⟨u,hu,v,σ',Z',rfl,hv',he⟩
 exact ⟨v,rfl,k u _ _ σ' Z' hu (rel_called hr he (hk u) hle htop hdst ht hv')⟩
/-- a contract whose answer holds something that is only known to exist: its walk -/
theorem con_introX {α:Type} {f:FuncId} {fn:Func} {c:Code} {lo top:Nat} {r:PV} {UU:α→Upd} {good:α→Prop} (U:Upd) (args:List PV) (N:Nat) (hf:P.funcs[f]?=some fn) (hb:fn.body=some c) (hN:fn.ntmps=N) (hle:Nat.ble args.length N=true)
  (hH:(keysH H).all (fun id=>(Nat.blt id lo||Nat.ble top id)&&(ulook U id).isSome)=true)
  (h:∀ (E:Env) (a:Act),EnvOk E H U lo top→Sat E N (initT 0 args) H lo a E.w0→c.wp P (bodyPost P fn (ConPostX E H r UU good)) a E.w0):ConX P f args H lo top r UU good:=by
 intro w σ Z vs hh hv hfr
 have hkey:∀ id o,hlook H id=some o→(id<lo∨top≤id)∧ulook U id≠none:=fun id o ho=>by
  have h1:=List.all_eq_true.1 hH id (hlook_key ho)
  simp only [Bool.and_eq_true,Bool.or_eq_true,Nat.blt_eq] at h1
  refine ⟨?_,fun e=>by rw [e] at h1; simp at h1⟩
  rcases h1.1 with q | q
  ·exact .inl q
  ·exact .inr (Nat.le_of_ble_eq_true q)
 have hnone:∀ id,lo≤id→id<top→hlook H id=none:=fun id h1 h2=>by
  cases ho:hlook H id with
  | none=>rfl
  | some o=>rcases (hkey id o ho).1 with q | q <;> omega
 let E:Env:={ w0:=w,Wr:=WrOf σ H U,Z0:=Z,σ0:=σ,lo,top }
 refine calls_of_wp hf hb ?_
 have:=h E { tmps:=vs.toArray++Array.replicate (fn.ntmps-vs.toArray.size) undef,defers:=[] } ⟨rfl,rfl,rfl,hnone,hfr⟩
  ⟨σ,Z,⟨rfl,?_,fun t e he=>?_⟩,hh,fun id h1 h2=>⟨hfr id h1 h2,hnone id h1 h2⟩,Nat.le_refl _,Ext.refl σ,fun id h0 _=>h0,fun id o b c h1 h2=>.inr ⟨id,o,c,(hkey id o h1).2,h1,h2⟩,Chg.refl _ _,fun b hb=>.inl hb,fun b hb=>hb⟩
 ·exact this
 ·have:=Nat.le_of_ble_eq_true hle
  have hl:=hv.1
  simp [hN]; omega
 ·obtain ⟨h1,_,h3⟩:=look_initT args 0 t e he
  simp only [Nat.sub_zero] at h3
  obtain ⟨u,hu,hvu⟩:=hv.get h3
  have hl:=(List.getElem?_eq_some_iff.1 hu).1
  refine ⟨fun _=>⟨u,?_,hvu⟩,fun q=>by rw [h1] at q; cases q⟩
  rw [Array.getElem?_append_left (by simpa using hl)]
  simpa using hu
theorem ret_sX {α:Type} {fn:Func} {lo top:Nat} {H0:Heap} {r:PV} {U:Upd} {UU:α→Upd} {good:α→Prop} {x:Exit} (u:α) (hg:good u) (hk:U.map (·.1)=(UU u).map (·.1)) (hS:Sat E N R H nx a w) (hE:EnvOk E H0 U lo top) (hr:retP P R H fn.results.toList=some r) (hU:(okU H (UU u)).map (·.1)=(okU H (UU u)).map (·.2)) (hi:(idsIn (keysH H0++keysU (UU u)) r&&idsU (keysH H0++keysU (UU u)) (UU u))=true) (he:x=.ret∨x=.normal):bodyPost P fn (ConPostX E H0 r UU good) x a w:=by
 have h:=ret_s (fn:=fn) (e:=x) hS (hE.keys hk) hr hU hi he
 rcases he with rfl | rfl
 ·obtain ⟨h1,v,h2,h3⟩:=h; exact ⟨h1,v,h2,u,hg,h3⟩
 ·obtain ⟨h1,v,h2,h3⟩:=h; exact ⟨h1,v,h2,u,hg,h3⟩
end
end Go.PX
