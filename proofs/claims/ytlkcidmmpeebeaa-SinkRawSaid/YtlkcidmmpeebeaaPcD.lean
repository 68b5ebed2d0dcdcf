/- Proved: a contract over named objects that makes no new names holds at whatever free names. -/
import Derived.Test.YtlkcidmmpeebeaaPv2
import Derived.RangeFuncNested
import Derived.RangeFuncBound
import Derived.RangeFuncCalls
import Derived.RangeFuncLeaves
import Derived.OwnWalkIn
set_option linter.unusedVariables false
set_option linter.unusedSimpArgs false
namespace Go.PX
open Go.RowKit Go.SX
theorem key_of_look:∀ {H:Heap} {id:Nat} {o:PO},hlook H id=some o→(keysH H).any (Nat.beq id)=true∧∃ x∈H,x.2=o
  | [],_,_,h=>by cases h
  | x::H,id,o,h=>by
    simp only [hlook] at h
    simp only [keysH,List.any_cons,Bool.or_eq_true]
    cases hb:Nat.beq x.1 id with
    | true =>
      rw [hb] at h; simp only [cond_true,Option.some.injEq] at h
      exact ⟨.inl (by rw [Nat.eq_of_beq_eq_true hb]; exact Nat.beq_refl _),x,List.mem_cons_self ..,h⟩
    | false =>
      rw [hb] at h; simp only [cond_false] at h
      obtain ⟨h1,y,hy,h2⟩:=key_of_look h
      exact ⟨.inr h1,y,List.mem_cons_of_mem _ hy,h2⟩
theorem look_of_key:∀ {H:Heap} {id:Nat},(keysH H).any (Nat.beq id)=true→hlook H id≠none
  | [],_,h=>by cases h
  | x::H,id,h=>by
    simp only [keysH,List.any_cons,Bool.or_eq_true] at h
    simp only [hlook]
    cases hb:Nat.beq x.1 id with
    | true=>simp
    | false =>
      simp only [cond_false]
      rcases h with h | h
      · rw [Nat.eq_of_beq_eq_true h,Nat.beq_refl] at hb; cases hb
      · exact look_of_key h
theorem con_anyH {P:Program} {f:FuncId} {args:List PV} {H:Heap} {lo top lo' top':Nat} {r:PV} {U:Upd} (h:Con P f args H lo top r U)
    (hlo:(keysH H).all (fun id=>Nat.blt id lo||Nat.ble top id)=true) (hk:∀ id o,ulook U id=some (some o)→(keysH H).any (Nat.beq id)=true∧idsO (keysH H) o=true)
    (ha:idsInL (keysH H) args=true) (ho:H.all (fun x=>idsO (keysH H) x.2)=true) (hr:idsIn (keysH H) r=true):Con P f args H lo' top' r U:=by
  intro w σ Z vs hH hv hfr
  obtain ⟨σ1,e1⟩:∃ σ1:Nm,∀ id,σ1 id=bif (keysH H).any (Nat.beq id) then σ id else none:=⟨_,fun _=>rfl⟩
  have e2:∀ id,(keysH H).any (Nat.beq id)=true→σ1 id=σ id:=fun id q=>by rw [e1,q]; rfl
  have e3:∀ id x,σ1 id=some x→σ id=some x:=fun id x q=>by
    rw [e1] at q
    cases hb:(keysH H).any (Nat.beq id) with
    | true=>rwa [hb] at q
    | false=>rw [hb] at q; cases q
  have hS:∀ id,(keysH H).any (Nat.beq id)=true→∀ x,σ id=some x→σ1 id=some x:=fun id q x hx=>by rw [e2 id q]; exact hx
  have h0:HR σ1 Z w H:=by
    refine ⟨fun id o q=>?_,fun id id' o o' b c c' q q' k k'=>hH.inj id id' o o' b c c' q q' (e3 _ _ k) (e3 _ _ k'),fun id o b c q k=>hH.off id o b c q (e3 _ _ k),hH.zlt⟩
    obtain ⟨k1,x,hx,rfl⟩:=key_of_look q
    exact OR.restrict hS (e2 id k1) (hH.at_ id _ q) (List.all_eq_true.1 ho x hx)
  refine (h w σ1 Z vs h0 (hv.restrict hS ha) (fun id q q'=>?_)).mono fun e w' ⟨v,σ',Z',he,h1,h2⟩=>?_
  · rw [e1]
    cases hb:(keysH H).any (Nat.beq id) with
    | false=>rfl
    | true =>
      obtain ⟨j,hj,hjb⟩:=List.any_eq_true.1 hb
      have:=List.all_eq_true.1 hlo j hj
      rw [← Nat.eq_of_beq_eq_true hjb] at this
      simp only [Bool.or_eq_true,Nat.blt_eq,Nat.ble_eq] at this
      omega
  have e4:∀ id,(keysH H).any (Nat.beq id)=true→σ' id=σ id:=fun id q=>by
    cases hs:σ1 id with
    | none=>rw [h2.dom id hs (.inr (look_of_key q)),← e2 id q,hs]
    | some x=>rw [h2.ext id x hs,← e2 id q,hs]
  have hS':∀ id,(keysH H).any (Nat.beq id)=true→∀ x,σ' id=some x→σ id=some x:=fun id q x hx=>by rw [← e4 id q]; exact hx
  refine ⟨v,σ,Z',he,h1.restrict hS' hr,Ext.refl σ,fun id q _=>q,h2.zmono,fun b q=>?_,h2.chg.mono fun b _ ⟨id,o,c,q,q1,q2⟩=>⟨id,o,c,q,q1,e3 _ _ q2⟩,fun id o q=>?_,fun id o b c q k=>?_,fun id id' o o' b c c' q q' k k'=>?_⟩
  · rcases h2.znew b q with q | q | ⟨id,o,c,q,q1,q2⟩
    · exact .inl q
    · exact .inr (.inl q)
    · exact .inr (.inr ⟨id,o,c,q,q1,e3 _ _ q2⟩)
  · obtain ⟨k1,k2⟩:=hk id o q
    exact OR.restrict hS' (e4 id k1).symm (h2.objs id o q) k2
  · obtain ⟨k1,_⟩:=hk id o q
    obtain ⟨a1,a2⟩:=h2.off id o b c q (by rw [e4 id k1]; exact k)
    refine ⟨a1,a2.imp (fun q=>q) fun ⟨i,o',c',p1,p2,p3⟩=>⟨i,o',c',p1,p2,e3 _ _ p3⟩⟩
  · exact h2.inj id id' o o' b c c' q q' (by rw [e4 id (hk id o q).1]; exact k) (by rw [e4 id' (hk id' o' q').1]; exact k')
end Go.PX

/- Proved: a contract over named objects holds under other names. Program-independent. -/
namespace Go.PX
open Go.RowKit Go.SX
def okU2 (ρ:List (Nat × Nat)) (U:Upd):Upd→List (Option (Option PO) × Option (Option PO))
  | []=>[]
  | x::U'=>(ulook U (rn ρ x.1),some (x.2.map (renO ρ)))::okU2 ρ U U'
theorem okU2_spec {ρ:List (Nat × Nat)} {U:Upd}:∀ {U':Upd},AllEq (okU2 ρ U U')→∀ {id:Nat} {q:Option PO},ulook U' id=some q→ulook U (rn ρ id)=some (q.map (renO ρ))∧id∈U'.map (·.1)
  | [],_,id,q,h=>by simp [ulook] at h
  | x::U',he,id,q,h=>by
    simp only [okU2,AllEq] at he
    simp only [ulook] at h
    cases hb:Nat.beq x.1 id with
    | true=>rw [hb] at h; simp only [cond_true,Option.some.injEq] at h; subst h; obtain rfl:=Nat.eq_of_beq_eq_true hb; exact ⟨he.1,by simp⟩
    | false=>rw [hb] at h; obtain ⟨h1,h2⟩:=okU2_spec he.2 h; exact ⟨h1,List.mem_cons_of_mem _ h2⟩
def asB (ρ ρi:List (Nat × Nat)) (H H':Heap) (U U':Upd) (lo top lo' top':Nat):Bool :=
  (keysH H').all (fun id=>(keysH H).any (Nat.beq (rn ρ id))&&Nat.beq (rn ρi (rn ρ id)) id) &&
  (keysH H).all (fun id=>Nat.beq (rn ρ (rn ρi id)) id&&(Nat.blt id lo||Nat.ble top id)&&((ulook U id).isNone||(ulook U' (rn ρi id)).isSome)) &&
  (U'.map (·.1)).all (fun id=>Nat.beq (rn ρi (rn ρ id)) id&&((keysH H').any (Nat.beq id)||Nat.ble lo' id&&Nat.blt id top'))
theorem hlook_of {H:Heap} {id:Nat} (h:id∈keysH H):∃ o,hlook H id=some o:=by
  cases hq:hlook H id with
  | none=>exact absurd hq (keysH_mem h)
  | some o=>exact ⟨o,rfl⟩
theorem con_as {P:Program} {f:FuncId} {args args':List PV} {H H':Heap} {lo top lo' top':Nat} {r r':PV} {U U':Upd} (ρ ρi:List (Nat × Nat)) (h:Con P f args H lo top r U) (ha:renL ρi args=args') (hH:(okH ρi H' H).map (·.1)=(okH ρi H' H).map (·.2)) (hr:ren ρ r'=r)
    (hU:(okU2 ρ U U').map (·.1)=(okU2 ρ U U').map (·.2)) (hi:(idsInL (keysH H) args&&idsH (keysH H) H&&idsIn (keysH H'++keysU U') r'&&idsU (keysH H'++keysU U') U')=true) (hb:asB ρ ρi H H' U U' lo top lo' top'=true):Con P f args' H' lo' top' r' U':=by
  classical
  intro w σ' Z vs hH' hv hfr
  subst ha hr
  simp only [Bool.and_eq_true] at hi
  obtain ⟨⟨⟨i1,i2⟩,i3⟩,i4⟩:=hi
  unfold asB at hb
  simp only [Bool.and_eq_true,List.all_eq_true,Nat.beq_eq,Bool.or_eq_true,Nat.blt_eq,Nat.ble_eq,List.any_eq_true] at hb
  obtain ⟨⟨b1,b2⟩,b3⟩:=hb
  have hat:∀ {id:Nat} {o:PO},hlook H id=some o→hlook H' (rn ρi id)=some (renO ρi o):=okH_spec (allEq_of_map hH)
  have hup:∀ {id:Nat} {q:Option PO},ulook U' id=some q→ulook U (rn ρ id)=some (q.map (renO ρ))∧id∈U'.map (·.1):=okU2_spec (allEq_of_map hU)
  have k1:∀ id∈keysH H',rn ρ id∈keysH H∧rn ρi (rn ρ id)=id:=fun id hid=>by
    obtain ⟨⟨x,q1,q2⟩,q3⟩:=b1 id hid
    exact ⟨q2 ▸ q1,q3⟩
  obtain ⟨σ,hσ⟩:∃ σ:Nm,σ=fun id=>if id∈keysH H then σ' (rn ρi id) else none:=⟨_,rfl⟩
  have s1:∀ id∈keysH H,σ id=σ' (rn ρi id):=fun id hid=>by rw [hσ]; exact if_pos hid
  have s2:∀ id,id ∉ keysH H→σ id=none:=fun id hid=>by rw [hσ]; exact if_neg hid
  have s3:∀ id x,σ id=some x→id∈keysH H∧σ' (rn ρi id)=some x:=fun id x q=>by
    by_cases hid:id∈keysH H
    · exact ⟨hid,by rw [← s1 id hid]; exact q⟩
    · rw [s2 id hid] at q; cases q
  have hS:∀ id,(keysH H).any (Nat.beq id)=true→σ id=σ' (rn ρi id):=fun id q=>s1 id (mem_any q)
  have h0:HR σ Z w H:=by
    refine ⟨fun id o q=>?_,fun id id' o o' b c c' q q' p p'=>?_,fun id o b c q p=>hH'.off _ _ b c (hat q) (s3 id _ p).2,hH'.zlt⟩
    · exact OR.ren hS (s1 id (hlook_key q)) (hH'.at_ _ _ (hat q)) (idsH_spec i2 q)
    · have e:=hH'.inj _ _ _ _ b c c' (hat q) (hat q') (s3 id _ p).2 (s3 id' _ p').2
      have e1:=(b2 id (hlook_key q)).1.1
      have e2:=(b2 id' (hlook_key q')).1.1
      rw [← e1,e,e2]
  refine (h w σ Z vs h0 (hv.ren hS i1) (fun id q q'=>?_)).mono fun e w' ⟨v,σ1,Z',he,h1,h2⟩=>?_
  · by_cases hid:id∈keysH H
    · rcases (b2 id hid).1.2 with q2 | q2 <;> omega
    · exact s2 id hid
  obtain ⟨σ2,hσ2⟩:∃ σ2:Nm,σ2=fun id=>if id∈U'.map (·.1)∧id ∉ keysH H' then σ1 (rn ρ id) else σ' id:=⟨_,rfl⟩
  have t0:∀ id∈U'.map (·.1),id ∉ keysH H'→σ' id=none∧σ2 id=σ1 (rn ρ id):=fun id hid hn=>by
    refine ⟨?_,by rw [hσ2]; exact if_pos ⟨hid,hn⟩⟩
    rcases (b3 id hid).2 with ⟨x,q1,q2⟩ | ⟨q1,q2⟩
    · exact absurd (q2 ▸ q1) hn
    · exact hfr id q1 q2
  have t1:∀ id,id∈keysH H'→σ2 id=σ' id∧σ1 (rn ρ id)=σ' id:=fun id hid=>by
    refine ⟨by rw [hσ2]; exact if_neg fun q=>q.2 hid,?_⟩
    obtain ⟨q1,q2⟩:=k1 id hid
    have q3:=s1 _ q1
    rw [q2] at q3
    cases hs:σ (rn ρ id) with
    | none=>rw [h2.dom _ hs (.inr (keysH_mem q1)),← q3,hs]
    | some x=>rw [h2.ext _ x hs,← q3,hs]
  have t2:∀ id,(id∈keysH H'∨id∈U'.map (·.1))→σ2 id=σ1 (rn ρ id)∧rn ρi (rn ρ id)=id:=fun id hid=>by
    by_cases hk:id∈keysH H'
    · obtain ⟨q1,q2⟩:=t1 id hk; exact ⟨q1.trans q2.symm,(k1 id hk).2⟩
    · rcases hid with hid | hid
      · exact absurd hid hk
      · exact ⟨(t0 id hid hk).2,(b3 id hid).1⟩
  have hS2:∀ id,(keysH H'++keysU U').any (Nat.beq id)=true→σ2 id=σ1 (rn ρ id):=fun id q=>by
    rcases List.mem_append.1 (mem_any q) with q | q
    · exact (t2 id (.inl q)).1
    · exact (t2 id (.inr (List.mem_filter.1 q).1)).1
  have back:∀ i o' b c',ulook U i≠none→hlook H i=some o'→σ i=some (b,c')→∃ i o c,ulook U' i≠none∧hlook H' i=some o∧σ' i=some (b,c):=fun i o' b c' p1 p2 p3=>by
    have hk:=hlook_key p2
    refine ⟨rn ρi i,_,c',fun q=>?_,hat p2,(s3 i _ p3).2⟩
    rcases (b2 i hk).2 with p | p
    · cases hu:ulook U i with
      | none=>exact p1 hu
      | some z=>rw [hu] at p; cases p
    · rw [q] at p; cases p
  refine ⟨v,σ2,Z',he,h1.ren hS2 r' rfl i3,fun id x hx=>?_,fun id q hq=>?_,h2.zmono,fun b q=>?_,h2.chg.mono fun b _ ⟨i,o',c',p1,p2,p3⟩=>back i o' b c' p1 p2 p3,fun id o q=>?_,fun id o b c q k=>?_,fun id id' o o' b c c' q q' k k'=>?_⟩
  · rw [hσ2]
    show (if _ then _ else _)=_
    rw [if_neg fun q=>by rw [(t0 id q.1 q.2).1] at hx; cases hx]; exact hx
  · rw [hσ2]
    show (if _ then _ else _)=_
    split
    · rename_i q1
      rcases hq with hq | hq
      · exfalso
        obtain ⟨⟨x,y⟩,hm,rfl⟩:=List.mem_map.1 q1.1
        have:∀ {U:Upd} {z:Nat × Option PO},z∈U→ulook U z.1≠none:=fun {U z} hz=>by
          clear hq hm q1
          induction U with
          | nil=>cases hz
          | cons u U ih =>
            simp only [ulook]
            cases hb:Nat.beq u.1 z.1 with
            | true=>simp
            | false =>
              rcases List.mem_cons.1 hz with rfl | hz
              · simp at hb
              · exact ih hz
        exact this hm hq
      · exfalso
        cases hz:hlook H' id with
        | none=>exact hq hz
        | some o=>exact q1.2 (hlook_key hz)
    · exact q
  · rcases h2.znew b q with q | q | ⟨i,o',c',p1,p2,p3⟩
    · exact .inl q
    · exact .inr (.inl q)
    · exact .inr (.inr (back i o' b c' p1 p2 p3))
  · obtain ⟨u1,u2⟩:=hup q
    exact OR.ren hS2 (t2 id (.inr u2)).1 (h2.objs _ _ u1) (idsU_spec i4 q)
  · obtain ⟨u1,u2⟩:=hup q
    rw [(t2 id (.inr u2)).1] at k
    obtain ⟨a1,a2⟩:=h2.off _ _ b c u1 k
    refine ⟨a1,a2.imp (fun q=>q) fun ⟨i,o',c',p1,p2,p3⟩=>back i o' b c' p1 p2 p3⟩
  · obtain ⟨u1,u2⟩:=hup q
    obtain ⟨u1',u2'⟩:=hup q'
    obtain ⟨k3,k4⟩:=t2 id (.inr u2)
    obtain ⟨k3',k4'⟩:=t2 id' (.inr u2')
    rw [k3] at k
    rw [k3'] at k'
    have:=h2.inj _ _ _ _ b c c' u1 u1' k k'
    rw [← k4,this,k4']
end Go.PX

/- Proved: regions on plain data in the round of a range over a function,and beside deferred calls. Program-independent. -/
namespace Go.PX
open Go.RowKit Go.SX

abbrev FW (ro:Option Nat):Fence:={ Fence.wide with round:=ro }
def noDefer:Op→Bool
  | .defer _=>false
  | _=>true
theorem noDefer_ne {o:Op} (h:noDefer o=true):∀ c,o≠.defer c:=fun c e=>by subst e; cases h
def Act.with_ (a:Act) (ds:List Deferred):Act:={ a with defers:=ds }
theorem with_put {a:Act} {ds:List Deferred} {d:Option Tmp} {v:Value}:(Act.with_ a ds).put d v=Act.with_ (a.put d v) ds:=by cases d <;> rfl
theorem with_eval {a:Act} {ds:List Deferred}:(Act.with_ a ds).eval=a.eval:=by funext x; cases x <;> rfl

section
variable {P:Program} {ro:Option Nat} {n:Nat} {ds:List Deferred}
theorem callsIn_fw {f:FuncId} {args:Array Value} {w:World} {R:Ending→World→Prop} (h:Calls P f args w R):CallsIn (FW ro) n P f args w R:=by
  have h1:CallsIn Fence.wide n P f args w R:=callsIn_wide.2 h
  exact h1
theorem rowsIn_fw {row:String} {args:Array Value} {w:World} {R:Value→World→Prop} (h:Rows P row args w R):RowsIn (FW ro) n P row args w R:=by
  have h1:RowsIn Fence.wide n P row args w R:=fun c cs _=>let ⟨v,w',r,s⟩:=h c cs; ⟨v,w',r,stepsIn_wide.2 s⟩
  exact h1
theorem oper_fw {o:Oper} {a:Act} {w:World} {K:Act→World→Prop} {Q:Exit→Act→World→Prop} (hd:noDefer o.op=true) (ha:a.defers=[]) (h:o.wp P a w (fun a' w'=>a'.defers=[]∧K (Act.with_ a' ds) w') (fun _ _ _=>False)):o.wpIn (FW ro) n P (Act.with_ a ds) w K Q:=by
  refine ⟨fun _ _=>trivial,?_⟩
  rw [Oper.semAt_plain (FW ro) _ o (noDefer_ne hd),with_eval]
  unfold Oper.wp at h
  have hdep:(FW ro).depth.isSome=true→1≤n:=fun q=>by cases q
  cases hr:(execOp a.eval o).run P w with
  | halt e w' =>
    rw [hr] at h
    cases e <;> simp only [Oper.upon] at h
  | ok x w' =>
    rw [hr] at h
    cases x with
    | value v=>simp only [Oper.upon] at h; simp only [Oper.uponIn]; rw [with_put]; exact h.2
    | skip=>simp only [Oper.upon] at h; simp only [Oper.uponIn]; rw [with_put]; exact h.2
    | defer d =>
      simp only [Oper.upon] at h
      exfalso
      have:=h.1
      revert this
      cases o.dst <;> simp [Act.put]
    | enter f args =>
      simp only [Oper.upon] at h
      refine ⟨hdep,callsIn_fw (h.mono ?_)⟩
      intro e w'' q
      cases e with
      | returned v=>show K _ _; rw [with_put]; exact q.2
      | panicked c=>exact q.elim
      | outgrown=>obtain ⟨_,_,q⟩:=q; exact q.elim
    | row r args =>
      simp only [Oper.upon] at h
      exact ⟨hdep,rowsIn_fw (h.mono fun v w'' q=>by rw [with_put]; exact q.2)⟩
    | _=>simp only [Oper.upon] at h

theorem seq_fw {ops:Array Oper} {E:Env} {N:Nat} {κ:List (Nat × Bool)} {Q:Exit→Act→World→Prop} {rest:List Oper}:∀ (l:List Oper) (dr:List Dir) {R:List Ent} {H:Heap} {nx:Nat} {acc:Acc} {σ:Nm} {Z:Nat→Prop} {a:Act} {w:World},l.all (fun o=>noDefer o.op)=true→seqRun P ops κ N l dr R H nx=some acc→acc.nx≤E.top→AllOb acc.obs→AllEq acc.eqs→Rel E N κ R H nx σ Z a w →
    (∀ a' w' σ' Z',Rel E N κ acc.R acc.H acc.nx σ' Z' a' w'→wpListIn (FW ro) n P ops Q rest (Act.with_ a' ds) w')→wpListIn (FW ro) n P ops Q (l++rest) (Act.with_ a ds) w
  | [],[],R,H,nx,acc,σ,Z,a,w,_,h,_,_,_,hrel,k=>by
    simp only [seqRun,Option.some.injEq] at h; subst h
    exact k a w σ Z hrel
  | [],d::dr,R,H,nx,acc,σ,Z,a,w,_,h,_,_,_,_,_=>by simp [seqRun] at h
  | o::l,[],R,H,nx,acc,σ,Z,a,w,_,h,_,_,_,_,_=>by simp [seqRun] at h
  | o::l,d::dr,R,H,nx,acc,σ,Z,a,w,hnd,h,htop,hob,heq,hrel,k=>by
    simp only [List.all_cons,Bool.and_eq_true] at hnd
    simp only [seqRun] at h
    split at h
    · cases h
    · rename_i p bs hp
      split at h
      · cases h
      · rename_i out hs
        cases hb:(dstOk N o&&(p.isEmpty||out.U.isEmpty)&&Nat.ble nx out.nx) with
        | false=>rw [hb] at h; cases h
        | true =>
          rw [hb] at h
          simp only [cond_true] at h
          simp only [Bool.and_eq_true,Bool.or_eq_true] at hb
          split at h
          · cases h
          · rename_i R' hR'
            split at h
            · cases h
            · rename_i acc' hacc
              simp only [Option.some.injEq] at h; subst h
              obtain ⟨ob1,ob2⟩:=allOb_append hob
              obtain ⟨e1,e2⟩:=allEq_append heq
              obtain ⟨e2,e3⟩:=allEq_append e2
              have hw:=path_spec hrel.rs hp e1
              simp only [List.cons_append,wpListIn]
              rw [show Region.wanted o (yielded ops (Act.with_ a ds).tmps)=Region.wanted o (yielded ops a.tmps) from rfl,hw]
              cases hpv:pv κ p with
              | true =>
                simp only [if_true]
                exact oper_fw hnd.1 hrel.rs.defers (hrel.exec hs (Nat.le_trans (seq_nle hacc) htop) hb.1.1 hR' hpv (obsIf_spec ob1 hpv) e2 fun a' w' σ' Z' hr=>⟨hr.rs.defers,seq_fw l dr hnd.2 hacc htop ob2 e3 hr k⟩)
              | false =>
                simp only [Bool.false_eq_true,if_false]
                have hU:out.U=[]:=by
                  rcases hb.1.2 with q | q
                  · have:p=[]:=by cases p <;> simp at q ⊢
                    subst this; cases hpv
                  · cases hq:out.U <;> rw [hq] at q <;> simp at q ⊢
                rw [hU] at hacc
                refine ⟨fun _ _=>trivial,?_⟩
                rw [with_put]
                exact seq_fw l dr hnd.2 hacc htop ob2 e3 ((hrel.skip hb.1.1 hR' hpv).nx_mono (Nat.le_of_ble_eq_true hb.2)) k

variable {E:Env} {N:Nat} {R T:List Ent} {H:Heap} {nx:Nat} {a:Act} {w:World}
theorem region_w {id:Nat} {Q:Exit→Act→World→Prop} {l:List Oper} {H':Heap} {nx':Nat} {obs:List Ob} (κ:List (Nat × Bool)) (dr:List Dir) (ts hs:List Nat) (hS:Sat E N R H nx a w) (h0:R.all (fun e=>e.p.isEmpty)=true) (h:regRun P l κ N dr ts hs R H nx=some (T,H',nx',obs)) (he:regA P l κ N dr R H nx=regB P l κ N dr R H nx) (hnd:l.all (fun o=>noDefer o.op)=true) (htop:nx'≤E.top) (hob:AllOb obs)
    (k:∀ a' w',Sat E N T H' nx' a' w'→Q .normal (Act.with_ a' ds) w'):(Code.region id l.toArray false).wpIn (FW ro) n P Q (Act.with_ a ds) w:=by
  obtain ⟨σ,Z,hr⟩:=hS
  unfold regRun at h
  unfold regA regB at he
  cases hs':seqRun P l.toArray κ N l dr R H nx with
  | none=>rw [hs'] at h; cases h
  | some acc =>
    rw [hs'] at h he
    simp only at h he
    cases hk:keepR acc.R ts with
    | none=>rw [hk] at h; cases h
    | some T' =>
      rw [hk] at h
      simp only [Option.some.injEq,Prod.mk.injEq] at h
      obtain ⟨rfl,rfl,rfl,rfl⟩:=h
      have:=seq_fw (ro:=ro) (n:=n) (ds:=ds) (Q:=Q) (rest:=[]) l dr hnd hs' htop hob (allEq_of_map he) (hr.rs' (hr.rs.kap h0)) (fun a' w' σ' Z' hr'=>k a' w' ⟨σ',Z',(hr'.rs' (hr'.rs.keep hk)).restr hs⟩)
      rw [List.append_nil] at this
      exact wpIn_region_lit this
theorem cond_w {Q:Exit→Act→World→Prop} {c:Operand} {x y:Code} (b:Bool) (hS:Sat E N R H nx a w) (hb:opd R [] c=some (.sc (.bool b))) (ht:b=true→x.wpIn (FW ro) n P Q (Act.with_ a ds) w) (hf:b=false→y.wpIn (FW ro) n P Q (Act.with_ a ds) w):(Code.cond c x y).wpIn (FW ro) n P Q (Act.with_ a ds) w:=by
  obtain ⟨σ,Z,hr⟩:=hS
  have hv:=hr.rs.opd (p:=[]) rfl hb
  generalize hav:a.eval c=vc at hv
  cases hv
  exact wpIn_cond_split (by rw [with_eval]; exact hav) ht hf
end
end Go.PX
