/- Proved: a contract over named objects that makes no new names holds at whatever free names. -/
import Derived.Test.YtlkcidmmpeebeaaPv2
set_option linter.unusedVariables false
set_option linter.unusedSimpArgs false
namespace Go.PX
open Go.RowKit Go.SX
end Go.PX

/- Proved: a contract over named objects holds under other names. Program-independent. -/
namespace Go.PX
open Go.RowKit Go.SX
def okU2 (ρ:List (Nat × Nat)) (U:Upd):Upd→List (Option (Option PO) × Option (Option PO))
  | []=>[]
  | x::U'=>(ulook U (rn ρ x.1),some (x.2.map (renO ρ)))::okU2 ρ U U'
theorem okU2_spec {ρ:List (Nat × Nat)} {U:Upd}:∀ {U':Upd},AllEq (okU2 ρ U U')→∀ {id:Nat} {q:Option PO},ulook U' id=some q→ulook U (rn ρ id)=some (q.map (renO ρ))∧id∈U'.map (·.1)
  | [],_,id,q,h=>by simp [ulook] at h
  | x::U',he,id,q,h=>by
    simp only [okU2,AllEq] at he
    simp only [ulook] at h
    cases hb:Nat.beq x.1 id with
    | true=>rw [hb] at h; simp only [cond_true,Option.some.injEq] at h; subst h; obtain rfl:=Nat.eq_of_beq_eq_true hb; exact ⟨he.1,by simp⟩
    | false=>rw [hb] at h; obtain ⟨h1,h2⟩:=okU2_spec he.2 h; exact ⟨h1,List.mem_cons_of_mem _ h2⟩
def asB (ρ ρi:List (Nat × Nat)) (H H':Heap) (U U':Upd) (lo top lo' top':Nat):Bool :=
  (keysH H').all (fun id=>(keysH H).any (Nat.beq (rn ρ id))&&Nat.beq (rn ρi (rn ρ id)) id) &&
  (keysH H).all (fun id=>Nat.beq (rn ρ (rn ρi id)) id&&(Nat.blt id lo||Nat.ble top id)&&((ulook U id).isNone||(ulook U' (rn ρi id)).isSome)) &&
  (U'.map (·.1)).all (fun id=>Nat.beq (rn ρi (rn ρ id)) id&&((keysH H').any (Nat.beq id)||Nat.ble lo' id&&Nat.blt id top'))
theorem con_as {P:Program} {f:FuncId} {args args':List PV} {H H':Heap} {lo top lo' top':Nat} {r r':PV} {U U':Upd} (ρ ρi:List (Nat × Nat)) (h:Con P f args H lo top r U) (ha:renL ρi args=args') (hH:(okH ρi H' H).map (·.1)=(okH ρi H' H).map (·.2)) (hr:ren ρ r'=r)
    (hU:(okU2 ρ U U').map (·.1)=(okU2 ρ U U').map (·.2)) (hi:(idsInL (keysH H) args&&idsH (keysH H) H&&idsIn (keysH H'++keysU U') r'&&idsU (keysH H'++keysU U') U')=true) (hb:asB ρ ρi H H' U U' lo top lo' top'=true):Con P f args' H' lo' top' r' U':=by
  classical
  intro w σ' Z vs hH' hv hfr
  subst ha hr
  simp only [Bool.and_eq_true] at hi
  obtain ⟨⟨⟨i1,i2⟩,i3⟩,i4⟩:=hi
  unfold asB at hb
  simp only [Bool.and_eq_true,List.all_eq_true,Nat.beq_eq,Bool.or_eq_true,Nat.blt_eq,Nat.ble_eq,List.any_eq_true] at hb
  obtain ⟨⟨b1,b2⟩,b3⟩:=hb
  have hat:∀ {id:Nat} {o:PO},hlook H id=some o→hlook H' (rn ρi id)=some (renO ρi o):=okH_spec (allEq_of_map hH)
  have hup:∀ {id:Nat} {q:Option PO},ulook U' id=some q→ulook U (rn ρ id)=some (q.map (renO ρ))∧id∈U'.map (·.1):=okU2_spec (allEq_of_map hU)
  have k1:∀ id∈keysH H',rn ρ id∈keysH H∧rn ρi (rn ρ id)=id:=fun id hid=>by
    obtain ⟨⟨x,q1,q2⟩,q3⟩:=b1 id hid
    exact ⟨q2 ▸ q1,q3⟩
  obtain ⟨σ,hσ⟩:∃ σ:Nm,σ=fun id=>if id∈keysH H then σ' (rn ρi id) else none:=⟨_,rfl⟩
  have s1:∀ id∈keysH H,σ id=σ' (rn ρi id):=fun id hid=>by rw [hσ]; exact if_pos hid
  have s2:∀ id,id ∉ keysH H→σ id=none:=fun id hid=>by rw [hσ]; exact if_neg hid
  have s3:∀ id x,σ id=some x→id∈keysH H∧σ' (rn ρi id)=some x:=fun id x q=>by
    by_cases hid:id∈keysH H
    · exact ⟨hid,by rw [← s1 id hid]; exact q⟩
    · rw [s2 id hid] at q; cases q
  have hS:∀ id,(keysH H).any (Nat.beq id)=true→σ id=σ' (rn ρi id):=fun id q=>s1 id (mem_any q)
  have h0:HR σ Z w H:=by
    refine ⟨fun id o q=>?_,fun id id' o o' b c c' q q' p p'=>?_,fun id o b c q p=>hH'.off _ _ b c (hat q) (s3 id _ p).2,hH'.zlt⟩
    · exact OR.ren hS (s1 id (hlook_key q)) (hH'.at_ _ _ (hat q)) (idsH_spec i2 q)
    · have e:=hH'.inj _ _ _ _ b c c' (hat q) (hat q') (s3 id _ p).2 (s3 id' _ p').2
      have e1:=(b2 id (hlook_key q)).1.1
      have e2:=(b2 id' (hlook_key q')).1.1
      rw [← e1,e,e2]
  refine (h w σ Z vs h0 (hv.ren hS i1) (fun id q q'=>?_)).mono fun e w' ⟨v,σ1,Z',he,h1,h2⟩=>?_
  · by_cases hid:id∈keysH H
    · rcases (b2 id hid).1.2 with q2 | q2 <;> omega
    · exact s2 id hid
  obtain ⟨σ2,hσ2⟩:∃ σ2:Nm,σ2=fun id=>if id∈U'.map (·.1)∧id ∉ keysH H' then σ1 (rn ρ id) else σ' id:=⟨_,rfl⟩
  have t0:∀ id∈U'.map (·.1),id ∉ keysH H'→σ' id=none∧σ2 id=σ1 (rn ρ id):=fun id hid hn=>by
    refine ⟨?_,by rw [hσ2]; exact if_pos ⟨hid,hn⟩⟩
    rcases (b3 id hid).2 with ⟨x,q1,q2⟩ | ⟨q1,q2⟩
    · exact absurd (q2 ▸ q1) hn
    · exact hfr id q1 q2
  have t1:∀ id,id∈keysH H'→σ2 id=σ' id∧σ1 (rn ρ id)=σ' id:=fun id hid=>by
    refine ⟨by rw [hσ2]; exact if_neg fun q=>q.2 hid,?_⟩
    obtain ⟨q1,q2⟩:=k1 id hid
    have q3:=s1 _ q1
    rw [q2] at q3
    cases hs:σ (rn ρ id) with
    | none=>rw [h2.dom _ hs (.inr (keysH_mem q1)),← q3,hs]
    | some x=>rw [h2.ext _ x hs,← q3,hs]
  have t2:∀ id,(id∈keysH H'∨id∈U'.map (·.1))→σ2 id=σ1 (rn ρ id)∧rn ρi (rn ρ id)=id:=fun id hid=>by
    by_cases hk:id∈keysH H'
    · obtain ⟨q1,q2⟩:=t1 id hk; exact ⟨q1.trans q2.symm,(k1 id hk).2⟩
    · rcases hid with hid | hid
      · exact absurd hid hk
      · exact ⟨(t0 id hid hk).2,(b3 id hid).1⟩
  have hS2:∀ id,(keysH H'++keysU U').any (Nat.beq id)=true→σ2 id=σ1 (rn ρ id):=fun id q=>by
    rcases List.mem_append.1 (mem_any q) with q | q
    · exact (t2 id (.inl q)).1
    · exact (t2 id (.inr (List.mem_filter.1 q).1)).1
  have back:∀ i o' b c',ulook U i≠none→hlook H i=some o'→σ i=some (b,c')→∃ i o c,ulook U' i≠none∧hlook H' i=some o∧σ' i=some (b,c):=fun i o' b c' p1 p2 p3=>by
    have hk:=hlook_key p2
    refine ⟨rn ρi i,_,c',fun q=>?_,hat p2,(s3 i _ p3).2⟩
    rcases (b2 i hk).2 with p | p
    · cases hu:ulook U i with
      | none=>exact p1 hu
      | some z=>rw [hu] at p; cases p
    · rw [q] at p; cases p
  refine ⟨v,σ2,Z',he,h1.ren hS2 r' rfl i3,fun id x hx=>?_,fun id q hq=>?_,h2.zmono,fun b q=>?_,h2.chg.mono fun b _ ⟨i,o',c',p1,p2,p3⟩=>back i o' b c' p1 p2 p3,fun id o q=>?_,fun id o b c q k=>?_,fun id id' o o' b c c' q q' k k'=>?_⟩
  · rw [hσ2]
    show (if _ then _ else _)=_
    rw [if_neg fun q=>by rw [(t0 id q.1 q.2).1] at hx; cases hx]; exact hx
  · rw [hσ2]
    show (if _ then _ else _)=_
    split
    · rename_i q1
      rcases hq with hq | hq
      · exfalso
        obtain ⟨⟨x,y⟩,hm,rfl⟩:=List.mem_map.1 q1.1
        have:∀ {U:Upd} {z:Nat × Option PO},z∈U→ulook U z.1≠none:=fun {U z} hz=>by
          clear hq hm q1
          induction U with
          | nil=>cases hz
          | cons u U ih =>
            simp only [ulook]
            cases hb:Nat.beq u.1 z.1 with
            | true=>simp
            | false =>
              rcases List.mem_cons.1 hz with rfl | hz
              · simp at hb
              · exact ih hz
        exact this hm hq
      · exfalso
        cases hz:hlook H' id with
        | none=>exact hq hz
        | some o=>exact q1.2 (hlook_key hz)
    · exact q
  · rcases h2.znew b q with q | q | ⟨i,o',c',p1,p2,p3⟩
    · exact .inl q
    · exact .inr (.inl q)
    · exact .inr (.inr (back i o' b c' p1 p2 p3))
  · obtain ⟨u1,u2⟩:=hup q
    exact OR.ren hS2 (t2 id (.inr u2)).1 (h2.objs _ _ u1) (idsU_spec i4 q)
  · obtain ⟨u1,u2⟩:=hup q
    rw [(t2 id (.inr u2)).1] at k
    obtain ⟨a1,a2⟩:=h2.off _ _ b c u1 k
    refine ⟨a1,a2.imp (fun q=>q) fun ⟨i,o',c',p1,p2,p3⟩=>back i o' b c' p1 p2 p3⟩
  · obtain ⟨u1,u2⟩:=hup q
    obtain ⟨u1',u2'⟩:=hup q'
    obtain ⟨k3,k4⟩:=t2 id (.inr u2)
    obtain ⟨k3',k4'⟩:=t2 id' (.inr u2')
    rw [k3] at k
    rw [k3'] at k'
    have:=h2.inj _ _ _ _ b c c' u1 u1' k k'
    rw [← k4,this,k4']
end Go.PX

/- Proved: a cut in a walk on plain data: ways that meet go on as one. Program-independent. -/
namespace Go.PX
open Go.RowKit Go.SX
theorem seq_cut {P:Program} {Q:Exit→Act→World→Prop} {x y:Code} {a:Act} {w:World} {E:Env} {N nx:Nat} {T:List Ent} {H:Heap} (hx:x.wp P (Exit.then (fun a w=>Sat E N T H nx a w) Q) a w) (hy:∀ a w,Sat E N T H nx a w→y.wp P Q a w):(Code.seq x y).wp P Q a w :=
 wp_seq (wp_mono hx fun e a w q=>by cases e <;> first | exact hy a w q | exact q)
end Go.PX
