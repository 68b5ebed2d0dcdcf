/- Proved: one join of merge on blocks whose slices are memory of their own: the walk of merge.join,opened and closed. -/
import Derived.Test.YtlkcidmmpeebeaaMgR
import Derived.Test.YtlkcidmmpeebeaaPMgG
import Derived.Test.YtlkcidmmpeebeaaPcP
set_option linter.unusedVariables false
set_option linter.unusedSimpArgs false
namespace Go.Proofs.Ytlkcidmmpeebeaa
open Go.RowKit Go.PX
/-- the code in a variable,its blocks a row of memory -/
def hpM (c:CodeD) (ys:List VB) (He:Heap):Heap:=(1,.box 26 [.sc (.int .i64 c.params),.own 2 10 ys.length,.imm 3 (c.contexts.map encR),.imm 3 (c.objects.map encR)])::(2,.row 62 10 true (ys.map encV))::He
theorem hpM1 {c:CodeD} {ys:List VB} {He:Heap}:hlook (hpM c ys He) 1=some (.box 26 [.sc (.int .i64 c.params),.own 2 10 ys.length,.imm 3 (c.contexts.map encR),.imm 3 (c.objects.map encR)]):=rfl
theorem hpM2 {c:CodeD} {ys:List VB} {He:Heap}:hlook (hpM c ys He) 2=some (.row 62 10 true (ys.map encV)):=rfl
theorem hpM3 {c c':CodeD} {ys ys':List VB} {He:Heap} {id:Nat} (h1:id≠1) (h2:id≠2):hlook (hpM c ys He) id=hlook (hpM c' ys' He) id:=by
  simp only [hpM,hlook]
  have e1:Nat.beq 1 id=false:=by cases hb:Nat.beq 1 id with
    | true=>exact absurd (Nat.eq_of_beq_eq_true hb).symm h1
    | false=>rfl
  have e2:Nat.beq 2 id=false:=by cases hb:Nat.beq 2 id with
    | true=>exact absurd (Nat.eq_of_beq_eq_true hb).symm h2
    | false=>rfl
  rw [e1,e2]
  rfl
def sigJ (σ:Nm) (yk yt:VB):Nm
  | 1=>σ 1
  | 2=>σ 2
  | 3=>capOf yk.ops
  | 4=>capOf yt.args
  | 5=>capOf yt.a0
  | 6=>capOf yt.a1
  | _=>none
def zJ (Z:Nat→Prop) (yk yt:VB) (b:Nat):Prop:=Z b∨blkOf (fldV yk 1)=some b∨blkOf (fldV yk 2)=some b∨blkOf (fldV yk 3)=some b∨blkOf (fldV yt 0)=some b
theorem cap_blk {v:Value} {b c:Nat} (h:capOf v=some (b,c)):blkOf v=some b:=by unfold blkOf; rw [h]; rfl
theorem sigJ_cases {σ:Nm} {yk yt:VB} {id b c:Nat} (h:sigJ σ yk yt id=some (b,c)):(id=1∧σ 1=some (b,c))∨(id=2∧σ 2=some (b,c))∨(id=3∧blkOf (fldV yk 0)=some b)∨(id=4∧blkOf (fldV yt 1)=some b)∨(id=5∧blkOf (fldV yt 2)=some b)∨(id=6∧blkOf (fldV yt 3)=some b):=by
  match id,h with
  | 1,h=>exact .inl ⟨rfl,h⟩
  | 2,h=>exact .inr (.inl ⟨rfl,h⟩)
  | 3,h=>exact .inr (.inr (.inl ⟨rfl,cap_blk h⟩))
  | 4,h=>exact .inr (.inr (.inr (.inl ⟨rfl,cap_blk h⟩)))
  | 5,h=>exact .inr (.inr (.inr (.inr (.inl ⟨rfl,cap_blk h⟩))))
  | 6,h=>exact .inr (.inr (.inr (.inr (.inr ⟨rfl,cap_blk h⟩))))
  | 0,h=>cases h
  | _+7,h=>cases h
theorem blk_cap {v:Value} {b:Nat} (h:blkOf v=some b):∃ c,capOf v=some (b,c):=by
  unfold blkOf at h
  cases e:capOf v with
  | none=>rw [e] at h; cases h
  | some p=>obtain ⟨b',c⟩:=p; rw [e] at h; injection h with h; exact ⟨c,by rw [← h]⟩
def og (it i:Nat):Nat:=if i<it then i else i+1
theorem og_ne (it i:Nat):og it i≠it:=by unfold og; split <;> omega
theorem og_inj {it i j:Nat} (h:og it i=og it j):i=j:=by unfold og at h; split at h <;> split at h <;> omega
theorem og_get {α:Type} (l:List α) (it i:Nat):(l.eraseIdx it)[i]?=l[og it i]?:=by
  rw [List.getElem?_eraseIdx]; unfold og; split <;> rfl
def jnB (c:CodeD) (ip it:Nat) (y x:BlockD):CodeD:=remD { c with blocks:=c.blocks.set ip (joinM y x) } ((it:Nat):Int)
theorem jnB_blocks (c:CodeD) (ip it:Nat) (y x:BlockD):(jnB c ip it y x).blocks=((c.blocks.set ip (joinM y x)).eraseIdx it).map (decB ((it:Nat):Int)):=by
  show remK _ _ _=_
  unfold remK
  rw [List.take_of_length_le (by simp),Int.toNat_natCast]
def jnY (ys:List VB) (ip it:Nat) (y x:BlockD) (u:Value) (yt:VB):List VB:=((ys.set ip (mkV (joinM y x) u yt.args yt.a0 yt.a1)).eraseIdx it).map (decV ((it:Nat):Int))
def hpJ (y x:BlockD) (ys:List VB) (yk yt:VB) (p0:Int) (cx ob:List (Int × Int × Int)):Heap :=
  [(1,.box 26 [.sc (.int .i64 p0),.own 2 10 ys.length,.imm 3 (cx.map encR),.imm 3 (ob.map encR)]),(2,.row 62 10 true (ys.map encV)),(3,.row 74 11 true (y.ops.map encO)),(4,.row 3 1 true (x.term.args.map encI)),(5,.row 3 1 true (x.term.args0.map encI)),(6,.row 3 1 true (x.term.args1.map encI)),
   (7,.ty yk.ops (.own 3 11 y.ops.length)),(8,.ty yk.args (.imm 1 (y.term.args.map encI))),(9,.ty yk.a0 (.imm 1 (y.term.args0.map encI))),(10,.ty yk.a1 (.imm 1 (y.term.args1.map encI))),(11,.ty yt.ops (.imm 11 (x.ops.map encO))),
   (12,.ty yt.args (.own 4 1 x.term.args.length)),(13,.ty yt.a0 (.own 5 1 x.term.args0.length)),(14,.ty yt.a1 (.own 6 1 x.term.args1.length))]
theorem hlook_in:∀ {H:Heap} {id:Nat} {o:PO},hlook H id=some o→(id,o)∈H
  | x::H,id,o,h=>by
    simp only [hlook] at h
    cases hb:Nat.beq x.1 id with
    | true =>
      rw [hb] at h
      simp only [cond_true,Option.some.injEq] at h
      obtain rfl:=Nat.eq_of_beq_eq_true hb
      subst h; exact List.mem_cons_self
    | false=>rw [hb] at h; exact List.mem_cons_of_mem _ (hlook_in h)
section
variable {E:Env} {nx:Nat} {σ:Nm} {Z:Nat→Prop} {w:World} {c:CodeD} {ys:List VB} {He:Heap}
/-- the blocks opened for a join -/
theorem open_join (hH:HR σ Z w (hpM c ys He)) (hd:DS E (hpM c ys He) σ Z w ys c.blocks) {ip it:Nat} {y x:BlockD} {yk yt:VB} (hne:ip≠it) (hy:c.blocks[ip]?=some y) (hx:c.blocks[it]?=some x) (hyk:ys[ip]?=some yk) (hyt:ys[it]?=some yt)
    (hl:∀ j,j<4→(fldR y j).length≤1000000000∧(fldR x j).length≤1000000000):HR (sigJ σ yk yt) (zJ Z yk yt) w (hpJ y x ys yk yt c.params c.contexts c.objects):=by
  obtain ⟨_,rk⟩:=hd.deep.at_ ip yk y hyk hy
  obtain ⟨_,rt⟩:=hd.deep.at_ it yt x hyt hx
  have hDk:∀ j b,j<4→blkOf (fldV yk j)=some b→DB ys b:=fun j b h1 h2=>⟨ip,yk,j,hyk,h1,h2⟩
  have hDt:∀ j b,j<4→blkOf (fldV yt j)=some b→DB ys b:=fun j b h1 h2=>⟨it,yt,j,hyt,h1,h2⟩
  have hzz:∀ b,Z b→zJ Z yk yt b:=fun b h=>.inl h
  have hr1:=hH.at_ 1 _ hpM1
  have hr2:=hH.at_ 2 _ hpM2
  have ho:∀ (id j:Nat) (d:BlockD) (v:VB),RowIs w (fldV v j) (fldE j) (fldS j) (fldR d j)→(fldR d j).length≤1000000000→sigJ σ yk yt id=capOf (fldV v j)→OR (sigJ σ yk yt) (zJ Z yk yt) w id (.row (fldE j) (fldS j) true (fldR d j))∧VR (sigJ σ yk yt) (zJ Z yk yt) w (fldV v j) (.own id (fldS j) (fldR d j).length):=fun id j d v h1 h2 h3=>h1.obj (fld_ok d j) (fld_sc d j) h2 h3
  have hi:∀ (j:Nat) (d:BlockD) (v:VB),RowIs w (fldV v j) (fldE j) (fldS j) (fldR d j)→(fldR d j).length≤1000000000→(∀ b,blkOf (fldV v j)=some b→zJ Z yk yt b)→VR (sigJ σ yk yt) (zJ Z yk yt) w (fldV v j) (.imm (fldS j) (fldR d j)):=fun j d v h1 h2 h3=>(h1.imm (fld_ok d j) (fld_sc d j) h2 h3).vr
  have hS12:∀ id,[1,2].any (Nat.beq id)=true→∀ q,σ id=some q→sigJ σ yk yt id=some q:=fun id h q hq=>by
    simp only [List.any_cons,List.any_nil,Bool.or_false,Bool.or_eq_true,Nat.beq_eq] at h
    rcases h with rfl | rfl <;> exact hq
  have hchg:Chg (fun _=>False) w w:=Chg.refl _ _
  have dj:∀ {k k' j j':Nat} {u u':VB} {b:Nat},ys[k]?=some u→ys[k']?=some u'→j<4→j'<4→blkOf (fldV u j)=some b→blkOf (fldV u' j')=some b→k=k'∧j=j':=fun h1 h2 h3 h4 h5 h6=>hd.deep.inj _ _ _ _ _ _ _ h1 h2 h3 h4 h5 h6
  have o3:=ho 3 0 y yk (rk 0 (by omega)) (hl 0 (by omega)).1 rfl
  have o4:=ho 4 1 x yt (rt 1 (by omega)) (hl 1 (by omega)).2 rfl
  have o5:=ho 5 2 x yt (rt 2 (by omega)) (hl 2 (by omega)).2 rfl
  have o6:=ho 6 3 x yt (rt 3 (by omega)) (hl 3 (by omega)).2 rfl
  have i8:=hi 1 y yk (rk 1 (by omega)) (hl 1 (by omega)).1 fun b h=>.inr (.inl h)
  have i9:=hi 2 y yk (rk 2 (by omega)) (hl 2 (by omega)).1 fun b h=>.inr (.inr (.inl h))
  have i10:=hi 3 y yk (rk 3 (by omega)) (hl 3 (by omega)).1 fun b h=>.inr (.inr (.inr (.inl h)))
  have i11:=hi 0 x yt (rt 0 (by omega)) (hl 0 (by omega)).2 fun b h=>.inr (.inr (.inr (.inr h)))
  have hlen:∀ (l:List OpD),(l.map encO).length=l.length:=fun l=>by simp
  have hlenI:∀ (l:List Int),(l.map encI).length=l.length:=fun l=>by simp
  refine ⟨fun id o ho'=>?_,fun id id' o o' b c1 c2 h1 h2 h3 h4=>?_,fun id o b c1 h1 h2=>?_,fun b hb=>?_⟩
  · have hin:=hlook_in ho'
    clear ho'
    unfold hpJ at hin
    simp only [List.mem_cons,Prod.mk.injEq,List.not_mem_nil,or_false] at hin
    rcases hin with ⟨rfl,rfl⟩ | ⟨rfl,rfl⟩ | ⟨rfl,rfl⟩ | ⟨rfl,rfl⟩ | ⟨rfl,rfl⟩ | ⟨rfl,rfl⟩ | ⟨rfl,rfl⟩ | ⟨rfl,rfl⟩ | ⟨rfl,rfl⟩ | ⟨rfl,rfl⟩ | ⟨rfl,rfl⟩ | ⟨rfl,rfl⟩ | ⟨rfl,rfl⟩ | ⟨rfl,rfl⟩
    · have h1:=hr1.restrict (S:=[1,2]) hS12 rfl rfl
      exact h1.mono (Ext.refl _) hzz hchg (fun _ _ q=>q) rfl (fun _ _ _ q=>q)
    · have h1:=hr2.restrict (S:=[1,2]) hS12 rfl rfl
      exact h1.mono (Ext.refl _) hzz hchg (fun _ _ q=>q) rfl (fun _ _ _ q=>q)
    · exact o3.1
    · exact o4.1
    · exact o5.1
    · exact o6.1
    · exact ⟨rfl,rfl,by have:=o3.2; rwa [show (fldR y 0).length=y.ops.length from hlen _] at this⟩
    · exact ⟨rfl,rfl,i8⟩
    · exact ⟨rfl,rfl,i9⟩
    · exact ⟨rfl,rfl,i10⟩
    · exact ⟨rfl,rfl,i11⟩
    · exact ⟨rfl,rfl,by have:=o4.2; rwa [show (fldR x 1).length=x.term.args.length from hlenI _] at this⟩
    · exact ⟨rfl,rfl,by have:=o5.2; rwa [show (fldR x 2).length=x.term.args0.length from hlenI _] at this⟩
    · exact ⟨rfl,rfl,by have:=o6.2; rwa [show (fldR x 3).length=x.term.args1.length from hlenI _] at this⟩
  · have t1:∀ b q,σ 1=some (b,q)→¬ DB ys b:=fun b q h k=>(hd.sep b k).2.2 1 _ q hpM1 h
    have t2:∀ b q,σ 2=some (b,q)→¬ DB ys b:=fun b q h k=>(hd.sep b k).2.2 2 _ q hpM2 h
    have t12:∀ b q q',σ 1=some (b,q)→σ 2=some (b,q')→False:=fun b q q' h k=>by
      have:=hH.inj 1 2 _ _ b q q' hpM1 hpM2 h k
      cases this
    rcases sigJ_cases h3 with ⟨rfl,p⟩ | ⟨rfl,p⟩ | ⟨rfl,p⟩ | ⟨rfl,p⟩ | ⟨rfl,p⟩ | ⟨rfl,p⟩ <;>
    rcases sigJ_cases h4 with ⟨rfl,q⟩ | ⟨rfl,q⟩ | ⟨rfl,q⟩ | ⟨rfl,q⟩ | ⟨rfl,q⟩ | ⟨rfl,q⟩ <;>
    first
    | rfl
    | exact (t12 _ _ _ p q).elim
    | exact (t12 _ _ _ q p).elim
    | exact (t1 _ _ p (hDk _ _ (by omega) q)).elim
    | exact (t1 _ _ p (hDt _ _ (by omega) q)).elim
    | exact (t2 _ _ p (hDk _ _ (by omega) q)).elim
    | exact (t2 _ _ p (hDt _ _ (by omega) q)).elim
    | exact (t1 _ _ q (hDk _ _ (by omega) p)).elim
    | exact (t1 _ _ q (hDt _ _ (by omega) p)).elim
    | exact (t2 _ _ q (hDk _ _ (by omega) p)).elim
    | exact (t2 _ _ q (hDt _ _ (by omega) p)).elim
    | (have:=dj hyk hyt (by omega) (by omega) p q; omega)
    | (have:=dj hyt hyk (by omega) (by omega) p q; omega)
    | (have:=dj hyt hyt (by omega) (by omega) p q; omega)
  · have hnz:∀ b,DB ys b→¬ Z b:=fun b h=>(hd.sep b h).2.1
    have t1:∀ b q,σ 1=some (b,q)→¬ DB ys b:=fun b q h k=>(hd.sep b k).2.2 1 _ q hpM1 h
    have t2:∀ b q,σ 2=some (b,q)→¬ DB ys b:=fun b q h k=>(hd.sep b k).2.2 2 _ q hpM2 h
    intro hz
    rcases sigJ_cases h2 with ⟨rfl,p⟩ | ⟨rfl,p⟩ | ⟨rfl,p⟩ | ⟨rfl,p⟩ | ⟨rfl,p⟩ | ⟨rfl,p⟩ <;>
    rcases hz with q | q | q | q | q <;>
    first
    | exact hH.off 1 _ b _ hpM1 p q
    | exact hH.off 2 _ b _ hpM2 p q
    | exact hnz _ (hDk _ _ (by omega) p) q
    | exact hnz _ (hDt _ _ (by omega) p) q
    | exact t1 _ _ p (hDk _ _ (by omega) q)
    | exact t1 _ _ p (hDt _ _ (by omega) q)
    | exact t2 _ _ p (hDk _ _ (by omega) q)
    | exact t2 _ _ p (hDt _ _ (by omega) q)
    | (have:=dj hyk hyk (by omega) (by omega) p q; omega)
    | (have:=dj hyk hyt (by omega) (by omega) p q; omega)
    | (have:=dj hyt hyk (by omega) (by omega) p q; omega)
    | (have:=dj hyt hyt (by omega) (by omega) p q; omega)
  · rcases hb with h | h | h | h | h
    · exact hH.zlt b h
    · exact hd.deep.lt (hDk 1 b (by omega) h)
    · exact hd.deep.lt (hDk 2 b (by omega) h)
    · exact hd.deep.lt (hDk 3 b (by omega) h)
    · exact hd.deep.lt (hDt 0 b (by omega) h)
/-- a join leaves the code joined,its blocks' slices memory of their own -/
theorem join_step (hm:Mem E (hpM c ys He) nx σ Z w) (hnx:3≤nx) (hd:DS E (hpM c ys He) σ Z w ys c.blocks) {b1 k1:Nat} (hb1:σ 1=some (b1,k1)) {ip it:Nat} {y x:BlockD} (hne:ip≠it) (h1t:1≤it) (hy:c.blocks[ip]?=some y) (hx:c.blocks[it]?=some x)
    (hb0:y.term.b0=((it:Nat):Int)) (hM:MBlk x) (hMy:MBlk y) (hpx:x.params=(y.term.args0.length:Int)) (hsum:y.ops.length+x.ops.length≤6000) (htop:-1≤topD y∧topD y≤9999) (hlen:c.blocks.length≤400) (hed:∀ (k:Nat) (z:BlockD),c.blocks[k]?=some z→z.term.b0<400∧z.term.b1<400) :
    Calls Try.prog 76 #[.pointer (some ⟨b1,0,none⟩),.int .i64 ((ip:Nat):Int)] w (fun e w'=>∃ ys' Z' v M,e=.returned v∧v=.tuple #[]∧(∀ b,Z b→Z' b)∧Chg M w w'∧(∀ b,Z b→¬ M b)∧Mem E (hpM (jnB c ip it y x) ys' He) nx σ Z' w'∧DS E (hpM (jnB c ip it y x) ys' He) σ Z' w' ys' (jnB c ip it y x).blocks):=by
  obtain ⟨yk,hyk⟩:=hd.deep.get hy
  obtain ⟨yt,hyt⟩:=hd.deep.get hx
  obtain ⟨ek,rk⟩:=hd.deep.at_ ip yk y hyk hy
  obtain ⟨et,rt⟩:=hd.deep.at_ it yt x hyt hx
  have hly:=hMy.len
  have hlx:=hM.len
  have hH5:=open_join hm.hr hd hne hy hx hyk hyt (fun j hj=>by
    match j,hj with
    | 0,_=>exact ⟨by simp [fldR]; omega,by simp [fldR]; omega⟩
    | 1,_=>exact ⟨by simp [fldR]; omega,by simp [fldR]; omega⟩
    | 2,_=>exact ⟨by simp [fldR]; omega,by simp [fldR]; omega⟩
    | 3,_=>exact ⟨by simp [fldR]; omega,by simp [fldR]; omega⟩)
  have hedy:∀ (k:Nat) (z:VB),ys[k]?=some z→z.b0<400∧z.b1<400:=fun k z hz=>by
    obtain ⟨d,hd'⟩:=hd.deep.get' hz
    have:=(hd.deep.at_ k z d hz hd').1
    rw [this]; exact hed k d hd'
  have hc:=con_f76 y x ys ip it yk.ops yk.args yk.a0 yk.a1 yt.ops yt.args yt.a0 yt.a1 c.params c.contexts c.objects (by rw [hyk,← ek]) (by rw [hyt,← et]) hne h1t hb0 hM hpx hMy.params hsum hly.2.1 htop (by rw [hd.deep.len]; exact hlen) hedy
  refine (hc w (sigJ σ yk yt) (zJ Z yk yt) [.pointer (some ⟨b1,0,none⟩),.int .i64 ((ip:Nat):Int)] hH5 (.cons (.ptr 1 0 b1 k1 hb1) (.cons (.sc _ rfl) .nil)) (fun id h1 h2=>?_)).mono ?_
  · match id,h1 with
    | id+15,_=>rfl
  rintro e w' ⟨u,_,v,σ',Z',rfl,hv,he⟩
  have hv':v=.tuple #[]:=by
    cases hv with
    | tup l xs hl h=>obtain rfl:l=[]:=List.length_eq_zero_iff.1 hl; rfl
  obtain ⟨M,hMdef⟩:∃ M:Nat→Prop,M=fun b=>∃ id o c',(id=1∨id=2∨id=3∨id=4∨id=5∨id=6)∧hlook (hpJ y x ys yk yt c.params c.contexts c.objects) id=some o∧sigJ σ yk yt id=some (b,c'):=⟨_,rfl⟩
  have hMof:∀ {b:Nat} {i:Nat} {o:PO} {c':Nat},hlook (hpJ y x ys yk yt c.params c.contexts c.objects) i=some o→sigJ σ yk yt i=some (b,c')→M b:=fun {b i o c'} h1 h2=>by
    rw [hMdef]
    refine ⟨i,o,c',?_,h1,h2⟩
    rcases sigJ_cases h2 with ⟨rfl,_⟩ | ⟨rfl,_⟩ | ⟨rfl,_⟩ | ⟨rfl,_⟩ | ⟨rfl,_⟩ | ⟨rfl,_⟩ <;> simp
  have hMcases:∀ {b:Nat},M b→(∃ q,σ 1=some (b,q))∨(∃ q,σ 2=some (b,q))∨∃ k u j,(k=ip∧j=0∨k=it∧1≤j)∧j<4∧ys[k]?=some u∧blkOf (fldV u j)=some b:=fun {b} h=>by
    rw [hMdef] at h
    obtain ⟨id,o,c',_,_,h⟩:=h
    rcases sigJ_cases h with ⟨rfl,p⟩ | ⟨rfl,p⟩ | ⟨rfl,p⟩ | ⟨rfl,p⟩ | ⟨rfl,p⟩ | ⟨rfl,p⟩
    · exact .inl ⟨_,p⟩
    · exact .inr (.inl ⟨_,p⟩)
    · exact .inr (.inr ⟨ip,yk,0,.inl ⟨rfl,rfl⟩,by omega,hyk,p⟩)
    · exact .inr (.inr ⟨it,yt,1,.inr ⟨rfl,by omega⟩,by omega,hyt,p⟩)
    · exact .inr (.inr ⟨it,yt,2,.inr ⟨rfl,by omega⟩,by omega,hyt,p⟩)
    · exact .inr (.inr ⟨it,yt,3,.inr ⟨rfl,by omega⟩,by omega,hyt,p⟩)
  have hchg:Chg M w w':=he.chg.mono fun b _ ⟨i,o,c',_,h2,h3⟩=>hMof h2 h3
  have hZM:∀ b,Z b→¬ M b:=fun b hz h=>by
    rcases hMcases h with ⟨q,p⟩ | ⟨q,p⟩ | ⟨k,u,j,_,hj,hu,p⟩
    · exact hm.hr.off 1 _ b q hpM1 p hz
    · exact hm.hr.off 2 _ b q hpM2 p hz
    · exact (hd.sep b ⟨k,u,j,hu,hj,p⟩).2.1 hz
  have hMown:∀ b,M b→E.w0.heap.size≤b∨E.Wr b:=fun b h=>by
    rcases hMcases h with ⟨q,p⟩ | ⟨q,p⟩ | ⟨k,u,j,_,hj,hu,p⟩
    · exact hm.own 1 _ b q hpM1 p
    · exact hm.own 2 _ b q hpM2 p
    · exact .inl (hd.sep b ⟨k,u,j,hu,hj,p⟩).1
  have hMlt:∀ b,M b→b<w.heap.size:=fun b h=>by
    rcases hMcases h with ⟨q,p⟩ | ⟨q,p⟩ | ⟨k,u,j,_,hj,hu,p⟩
    · exact (hm.hr.at_ 1 _ hpM1).lt p
    · exact (hm.hr.at_ 2 _ hpM2).lt p
    · exact hd.deep.lt ⟨k,u,j,hu,hj,p⟩
  have hzn:∀ b,Z' b→zJ Z yk yt b∨(w.heap.size≤b∧b<w'.heap.size)∨M b:=fun b h=>by
    rcases he.znew b h with q | q | ⟨i,o,c',_,h2,h3⟩
    · exact .inl q
    · exact .inr (.inl q)
    · exact .inr (.inr (hMof h2 h3))
  have hzj:∀ b,zJ Z yk yt b→Z b∨∃ k u j,(k=ip∧1≤j∨k=it∧j=0)∧j<4∧ys[k]?=some u∧blkOf (fldV u j)=some b:=fun b h=>by
    rcases h with h | h | h | h | h
    · exact .inl h
    · exact .inr ⟨ip,yk,1,.inl ⟨rfl,by omega⟩,by omega,hyk,h⟩
    · exact .inr ⟨ip,yk,2,.inl ⟨rfl,by omega⟩,by omega,hyk,h⟩
    · exact .inr ⟨ip,yk,3,.inl ⟨rfl,by omega⟩,by omega,hyk,h⟩
    · exact .inr ⟨it,yt,0,.inr ⟨rfl,rfl⟩,by omega,hyt,h⟩
  have s1:σ' 1=σ 1:=by rw [hb1]; exact he.ext 1 _ hb1
  have s2:σ' 2=σ 2:=by
    obtain ⟨x2,hx2⟩:∃ q,σ 2=some q:=by
      cases h:σ 2 with
      | none=>exact absurd h ((hm.hr.at_ 2 _ hpM2).2.1.2 (by intro q; rw [List.map_eq_nil_iff] at q; rw [q] at hyk; simp at hyk))
      | some q=>exact ⟨q,rfl⟩
    rw [hx2]; exact he.ext 2 _ hx2
  have hS12:∀ id,[1,2].any (Nat.beq id)=true→∀ q,σ' id=some q→σ id=some q:=fun id h q hq=>by
    simp only [List.any_cons,List.any_nil,Bool.or_false,Bool.or_eq_true,Nat.beq_eq] at h
    rcases h with rfl | rfl
    · rw [← s1]; exact hq
    · rw [← s2]; exact hq
  have hzz:∀ b,Z b→Z' b:=fun b h=>he.zmono b (.inl h)
  have hylen:(jnY ys ip it y x u yt).length=((ys.set ip (mkV (joinM y x) u yt.args yt.a0 yt.a1)).eraseIdx it).length:=by unfold jnY; rw [List.length_map]
  have o1:OR σ Z' w' 1 (.box 26 [.sc (.int .i64 c.params),.own 2 10 (jnY ys ip it y x u yt).length,.imm 3 (c.contexts.map encR),.imm 3 (c.objects.map encR)]):=by
    rw [hylen]
    exact (he.objs 1 _ rfl).restrict (S:=[1,2]) hS12 s1.symm rfl
  have o2:OR σ Z' w' 2 (.row 62 10 true ((jnY ys ip it y x u yt).map encV)):=(he.objs 2 _ rfl).restrict (S:=[1,2]) hS12 s2.symm rfl
  have hkeep:∀ id,id≠1→id≠2→∀ o b q,hlook (hpM c ys He) id=some o→σ id=some (b,q)→¬ M b:=fun id n1 n2 o b q h1 h2 h=>by
    rcases hMcases h with ⟨q',p⟩ | ⟨q',p⟩ | ⟨k,u',j,_,hj,hu,p⟩
    · exact n1 (hm.hr.inj id 1 _ _ b q q' h1 hpM1 h2 p)
    · exact n2 (hm.hr.inj id 2 _ _ b q q' h1 hpM2 h2 p)
    · exact (hd.sep b ⟨k,u',j,hu,hj,p⟩).2.2 id o q h1 h2
  have hlk:∀ {id:Nat} {o:PO},hlook (hpM (jnB c ip it y x) (jnY ys ip it y x u yt) He) id=some o→∃ o',hlook (hpM c ys He) id=some o':=fun {id o} h=>by
    by_cases n1:id=1
    · subst n1; exact ⟨_,hpM1⟩
    · by_cases n2:id=2
      · subst n2; exact ⟨_,hpM2⟩
      · rw [hpM3 (c':=c) (ys':=ys) n1 n2] at h; exact ⟨_,h⟩
  have hoff1:∀ b q,σ 1=some (b,q)→¬ Z' b:=fun b q h=>(he.off 1 _ b q rfl (s1.trans h)).1
  have hoff2:∀ b q,σ 2=some (b,q)→¬ Z' b:=fun b q h=>(he.off 2 _ b q rfl (s2.trans h)).1
  have hoffX:∀ id,id≠1→id≠2→∀ o b q,hlook (hpM c ys He) id=some o→σ id=some (b,q)→¬ Z' b:=fun id n1 n2 o b q h1 h2 hz=>by
    have hlt:=(hm.hr.at_ id o h1).lt h2
    rcases hzn b hz with h | h | h
    · rcases hzj b h with h | ⟨k,u',j,_,hj,hu,p⟩
      · exact hm.hr.off id o b q h1 h2 h
      · exact (hd.sep b ⟨k,u',j,hu,hj,p⟩).2.2 id o q h1 h2
    · omega
    · exact hkeep id n1 n2 o b q h1 h2 h
  have hr':HR σ Z' w' (hpM (jnB c ip it y x) (jnY ys ip it y x u yt) He):=by
    refine ⟨fun id o h=>?_,fun id id' o o' b q q' h1 h2 h3 h4=>?_,fun id o b q h1 h2=>?_,fun b hz=>?_⟩
    · by_cases n1:id=1
      · subst n1; rw [hpM1] at h; injection h with h; subst h; exact o1
      · by_cases n2:id=2
        · subst n2; rw [hpM2] at h; injection h with h; subst h; exact o2
        · rw [hpM3 (c':=c) (ys':=ys) n1 n2] at h
          exact (hm.hr.at_ id o h).mono (Ext.refl _) hzz hchg hZM rfl fun b q hb=>hkeep id n1 n2 o b q h hb
    · obtain ⟨p1,p2⟩:=hlk h1
      obtain ⟨p3,p4⟩:=hlk h2
      exact hm.hr.inj id id' _ _ b q q' p2 p4 h3 h4
    · by_cases n1:id=1
      · subst n1; exact hoff1 b q h2
      · by_cases n2:id=2
        · subst n2; exact hoff2 b q h2
        · obtain ⟨o',h1⟩:=hlk h1
          exact hoffX id n1 n2 o' b q h1 h2
    · rcases hzn b hz with h | h | h
      · have:=hH5.zlt b h
        have:=hchg.size; omega
      · exact h.2
      · have:=hMlt b h
        have:=hchg.size; omega
  have hmem:Mem E (hpM (jnB c ip it y x) (jnY ys ip it y x u yt) He) nx σ Z' w':=by
    refine ⟨hr',fun id h1 h2=>⟨(hm.fr id h1 h2).1,?_⟩,hm.lo,hm.ext,hm.dom,fun id o b q h1 h2=>?_,?_,fun b hz=>?_,fun b h=>hzz b (hm.z0 b h)⟩
    · rw [hpM3 (c':=c) (ys':=ys) (by omega) (by omega)]; exact (hm.fr id h1 h2).2
    · obtain ⟨o',h1⟩:=hlk h1
      exact hm.own id o' b q h1 h2
    · refine (hm.chg.trans hchg).mono fun b hb h=>?_
      rcases h with h | h
      · exact h
      · rcases hMown b h with h | h
        · omega
        · exact h
    · rcases hzn b hz with h | h | h
      · rcases hzj b h with h | ⟨k,u',j,_,hj,hu,p⟩
        · exact hm.zold b h
        · exact .inr (.inl (hd.sep b ⟨k,u',j,hu,hj,p⟩).1)
      · have:=hm.chg.size
        exact .inr (.inl (by omega))
      · exact .inr (hMown b h)
  refine ⟨jnY ys ip it y x u yt,Z',v,M,rfl,hv',hzz,hchg,hZM,hmem,?_⟩
  -- the blocks
  have hold:∀ k u' j b,k≠ip→k≠it→j<4→ys[k]?=some u'→blkOf (fldV u' j)=some b→¬ M b∧¬ Z' b:=fun k u' j b n1 n2 hj hu hb=>by
    have hD:DB ys b:=⟨k,u',j,hu,hj,hb⟩
    have hnM:¬ M b:=fun h=>by
      rcases hMcases h with ⟨q,p⟩ | ⟨q,p⟩ | ⟨k',u2,j',hk',hj',hu',p⟩
      · exact (hd.sep b hD).2.2 1 _ q hpM1 p
      · exact (hd.sep b hD).2.2 2 _ q hpM2 p
      · have:=hd.deep.inj _ _ _ _ _ _ _ hu hu' hj hj' hb p
        omega
    refine ⟨hnM,fun hz=>?_⟩
    rcases hzn b hz with h | h | h
    · rcases hzj b h with h | ⟨k',u2,j',hk',hj',hu',p⟩
      · exact (hd.sep b hD).2.1 h
      · have:=hd.deep.inj _ _ _ _ _ _ _ hu hu' hj hj' hb p
        omega
    · have:=hd.deep.lt hD; omega
    · exact hnM h
  -- the joined block's slices,by the table of the call
  have hops:(y.ops++x.ops.map (renMO (nmJ y x)))=(joinM y x).ops:=rfl
  have v15:VR σ' Z' w' u (.own 40 11 ((joinM y x).ops.map encO).length):=(he.objs 41 _ rfl).2.2
  have r0:=RowIs.of (he.objs 40 _ rfl) v15 rfl (sc_ops _)
  have hvm:∀ {v:Value} {p:PV},VR (sigJ σ yk yt) (zJ Z yk yt) w v p→VR σ' Z' w' v p:=fun {v p} h=>h.mono he.ext he.zmono he.chg fun b hz=>eff_free hH5 hz
  have g12:=(hH5.at_ 12 _ rfl).2.2
  have g13:=(hH5.at_ 13 _ rfl).2.2
  have g14:=(hH5.at_ 14 _ rfl).2.2
  have r1:=RowIs.of (he.objs 4 _ rfl) (hvm g12) (by simp) (sc_ints _)
  have r2:=RowIs.of (he.objs 5 _ rfl) (hvm g13) (by simp) (sc_ints _)
  have r3:=RowIs.of (he.objs 6 _ rfl) (hvm g14) (by simp) (sc_ints _)
  -- what a block of the joined code is
  have hget:∀ {i:Nat} {z:VB},(jnY ys ip it y x u yt)[i]?=some z→(og it i=ip∧z=decV ((it:Nat):Int) (mkV (joinM y x) u yt.args yt.a0 yt.a1))∨(og it i≠ip∧∃ z0,ys[og it i]?=some z0∧z=decV ((it:Nat):Int) z0):=fun {i z} h=>by
    unfold jnY at h
    rw [List.getElem?_map,og_get] at h
    obtain ⟨z0,h0,rfl⟩:=Option.map_eq_some_iff.1 h
    by_cases e:og it i=ip
    · rw [e,set_get (List.getElem?_eq_some_iff.1 hyk).1] at h0
      injection h0 with h0; subst h0
      exact .inl ⟨e,rfl⟩
    · rw [List.getElem?_set_ne (Ne.symm e)] at h0
      exact .inr ⟨e,z0,h0,rfl⟩
  have hgetB:∀ {i:Nat} {d:BlockD},(jnB c ip it y x).blocks[i]?=some d→(og it i=ip∧d=decB ((it:Nat):Int) (joinM y x))∨(og it i≠ip∧∃ d0,c.blocks[og it i]?=some d0∧d=decB ((it:Nat):Int) d0):=fun {i d} h=>by
    rw [jnB_blocks,List.getElem?_map,og_get] at h
    obtain ⟨z0,h0,rfl⟩:=Option.map_eq_some_iff.1 h
    by_cases e:og it i=ip
    · rw [e,set_get (List.getElem?_eq_some_iff.1 hy).1] at h0
      injection h0 with h0; subst h0
      exact .inl ⟨e,rfl⟩
    · rw [List.getElem?_set_ne (Ne.symm e)] at h0
      exact .inr ⟨e,z0,h0,rfl⟩
  have hfd:∀ (z:VB) (j:Nat),fldV (decV ((it:Nat):Int) z) j=fldV z j:=fun z j=>by
    match j with
    | 0=>rfl
    | 1=>rfl
    | 2=>rfl
    | _+3=>rfl
  have hfr:∀ (d:BlockD) (j:Nat),fldR (decB ((it:Nat):Int) d) j=fldR d j:=fun d j=>by
    match j with
    | 0=>rfl
    | 1=>rfl
    | 2=>rfl
    | _+3=>rfl
  -- where a slice of the joined block lies
  have hnew:∀ j b,j<4→blkOf (fldV (mkV (joinM y x) u yt.args yt.a0 yt.a1) j)=some b→(j=0∧(∃ q,σ' 40=some (b,q))∧(w.heap.size≤b∨M b))∨(1≤j∧blkOf (fldV yt j)=some b∧∃ q,σ' (3+j)=some (b,q)):=fun j b hj hb=>by
    match j,hj with
    | 0,_ =>
      obtain ⟨q,hq⟩:=r0.2 b hb
      refine .inl ⟨rfl,⟨q,hq⟩,?_⟩
      rcases (he.off 40 _ b q rfl hq).2 with h | ⟨i,o,c',_,h2,h3⟩
      · exact .inl h
      · exact .inr (hMof h2 h3)
    | 1,_=>exact .inr ⟨by omega,hb,r1.2 b hb⟩
    | 2,_=>exact .inr ⟨by omega,hb,r2.2 b hb⟩
    | 3,_=>exact .inr ⟨by omega,hb,r3.2 b hb⟩
  have hnz:∀ j b,j<4→blkOf (fldV (mkV (joinM y x) u yt.args yt.a0 yt.a1) j)=some b→¬ Z' b∧(w.heap.size≤b∨M b)∧(∀ q,σ 1≠some (b,q))∧∀ q,σ 2≠some (b,q):=fun j b hj hb=>by
    rcases hnew j b hj hb with ⟨rfl,⟨q,hq⟩,h⟩ | ⟨h1,h2,q,hq⟩
    · obtain ⟨p1,p2⟩:=he.off 40 _ b q rfl hq
      refine ⟨p1,h,fun q' e=>?_,fun q' e=>?_⟩
      · have:=he.inj 40 1 _ _ b q q' rfl rfl hq (s1.trans e); cases this
      · have:=he.inj 40 2 _ _ b q q' rfl rfl hq (s2.trans e); cases this
    · have hD:DB ys b:=⟨it,yt,j,hyt,hj,h2⟩
      have hs:=(hd.sep b hD).2.2
      match j,hj,h1 with
      | 1,_,_=>exact ⟨(he.off 4 _ b q rfl hq).1,.inr (by obtain ⟨p2,e4⟩:=blk_cap (v:=yt.args) h2; exact hMof (i:=4) rfl e4),fun q' e=>hs 1 _ q' hpM1 e,fun q' e=>hs 2 _ q' hpM2 e⟩
      | 2,_,_=>exact ⟨(he.off 5 _ b q rfl hq).1,.inr (by obtain ⟨p2,e4⟩:=blk_cap (v:=yt.a0) h2; exact hMof (i:=5) rfl e4),fun q' e=>hs 1 _ q' hpM1 e,fun q' e=>hs 2 _ q' hpM2 e⟩
      | 3,_,_=>exact ⟨(he.off 6 _ b q rfl hq).1,.inr (by obtain ⟨p2,e4⟩:=blk_cap (v:=yt.a1) h2; exact hMof (i:=6) rfl e4),fun q' e=>hs 1 _ q' hpM1 e,fun q' e=>hs 2 _ q' hpM2 e⟩
  have hmix:∀ k u' j b j',k≠ip→k≠it→j<4→ys[k]?=some u'→blkOf (fldV u' j)=some b→j'<4→blkOf (fldV (mkV (joinM y x) u yt.args yt.a0 yt.a1) j')=some b→False:=fun k u' j b j' n1 n2 hj hu hb hj' hb'=>by
    rcases (hnz j' b hj' hb').2.1 with h | h
    · have:=hd.deep.lt ⟨k,u',j,hu,hj,hb⟩; omega
    · exact (hold k u' j b n1 n2 hj hu hb).1 h
  refine ⟨⟨?_,fun i z d hz hd'=>?_,fun i i' j j' z z' b hz hz' hj hj' hb hb'=>?_⟩,fun b hb=>?_⟩
  · rw [jnB_blocks]; unfold jnY
    rw [List.length_map,List.length_map,List.length_eraseIdx_of_lt (by rw [List.length_set]; exact (List.getElem?_eq_some_iff.1 hyt).1),List.length_eraseIdx_of_lt (by rw [List.length_set]; exact (List.getElem?_eq_some_iff.1 hx).1),List.length_set,List.length_set,hd.deep.len]
  · rcases hget hz with ⟨e1,rfl⟩ | ⟨e1,z0,h0,rfl⟩
    · rcases hgetB hd' with ⟨_,rfl⟩ | ⟨e2,_⟩
      · refine ⟨rfl,fun j hj=>?_⟩
        rw [hfd,hfr]
        match j,hj with
        | 0,_=>exact r0.1
        | 1,_=>exact r1.1
        | 2,_=>exact r2.1
        | 3,_=>exact r3.1
      · exact absurd e1 e2
    · rcases hgetB hd' with ⟨e2,_⟩ | ⟨_,d0,h1,rfl⟩
      · exact absurd e2 e1
      · obtain ⟨q1,q2⟩:=hd.deep.at_ _ z0 d0 h0 h1
        refine ⟨?_,fun j hj=>?_⟩
        · rw [q1]; rfl
        · rw [hfd,hfr]
          exact (q2 j hj).keep fun b hb=>hchg.block b ((q2 j hj).lt hb) (hold _ z0 j b e1 (og_ne it i) hj h0 hb).1
  · rcases hget hz with ⟨e1,rfl⟩ | ⟨e1,z0,h0,rfl⟩ <;> rcases hget hz' with ⟨e2,rfl⟩ | ⟨e2,z0',h0',rfl⟩ <;> rw [hfd] at hb hb'
    · refine ⟨og_inj (e1.trans e2.symm),?_⟩
      rcases hnew j b hj hb with ⟨rfl,⟨q,hq⟩,_⟩ | ⟨p1,p2,q,hq⟩ <;> rcases hnew j' b hj' hb' with ⟨rfl,⟨q',hq'⟩,_⟩ | ⟨p1',p2',q',hq'⟩
      · rfl
      · match j',hj',p1' with
        | 1,_,_=>have:=he.inj 40 4 _ _ b q q' rfl rfl hq hq'; omega
        | 2,_,_=>have:=he.inj 40 5 _ _ b q q' rfl rfl hq hq'; omega
        | 3,_,_=>have:=he.inj 40 6 _ _ b q q' rfl rfl hq hq'; omega
      · match j,hj,p1 with
        | 1,_,_=>have:=he.inj 40 4 _ _ b q' q rfl rfl hq' hq; omega
        | 2,_,_=>have:=he.inj 40 5 _ _ b q' q rfl rfl hq' hq; omega
        | 3,_,_=>have:=he.inj 40 6 _ _ b q' q rfl rfl hq' hq; omega
      · exact (hd.deep.inj _ _ _ _ _ _ _ hyt hyt hj hj' p2 p2').2
    · exact (hmix _ _ _ b j e2 (og_ne it i') hj' h0' hb' hj hb).elim
    · exact (hmix _ _ _ b j' e1 (og_ne it i) hj h0 hb hj' hb').elim
    · obtain ⟨p1,p2⟩:=hd.deep.inj _ _ _ _ _ _ _ h0 h0' hj hj' hb hb'
      exact ⟨og_inj p1,p2⟩
  · obtain ⟨i,z,j,hz,hj,hb⟩:=hb
    rcases hget hz with ⟨e1,rfl⟩ | ⟨e1,z0,h0,rfl⟩ <;> rw [hfd] at hb
    · obtain ⟨p1,p2,p3,p4⟩:=hnz j b hj hb
      have p5:E.w0.heap.size≤b:=by
        rcases hnew j b hj hb with ⟨rfl,_,h | h⟩ | ⟨_,h2,_⟩
        · have:=hm.chg.size; omega
        · rcases hMcases h with ⟨q,p⟩ | ⟨q,p⟩ | ⟨k,u',j',_,hj',hu,p⟩
          · exact (p3 q p).elim
          · exact (p4 q p).elim
          · exact (hd.sep b ⟨k,u',j',hu,hj',p⟩).1
        · exact (hd.sep b ⟨it,yt,j,hyt,hj,h2⟩).1
      refine ⟨p5,p1,fun id o q h1 h2=>?_⟩
      by_cases n1:id=1
      · subst n1; exact p3 q h2
      · by_cases n2:id=2
        · subst n2; exact p4 q h2
        · obtain ⟨o',h1⟩:=hlk h1
          rcases p2 with h | h
          · have:=(hm.hr.at_ id o' h1).lt h2; omega
          · exact hkeep id n1 n2 o' b q h1 h2 h
    · have hD:DB ys b:=⟨_,z0,j,h0,hj,hb⟩
      obtain ⟨p1,p2⟩:=hold _ z0 j b e1 (og_ne it i) hj h0 hb
      refine ⟨(hd.sep b hD).1,p2,fun id o q h1 h2=>?_⟩
      obtain ⟨o',h1⟩:=hlk h1
      exact (hd.sep b hD).2.2 id o' q h1 h2
end
end Go.Proofs.Ytlkcidmmpeebeaa

/- Proved: a block whose slices have just been copied joins the blocks whose slices are memory of their own. -/
namespace Go.Proofs.Ytlkcidmmpeebeaa
open Go.RowKit Go.PX
section
variable {E:Env} {N N':Nat} {κ κ':List (Nat × Bool)} {R R':List Ent} {H H9:Heap} {nx nx9:Nat} {σ σ':Nm} {Z Z':Nat→Prop} {a a':Act} {w w':World} {ys:List VB} {bs:List BlockD}
theorem DS.cut (h:DS E H σ Z w ys bs) (n top:Nat):DS E H (cutN n top σ) Z w ys bs :=
  ⟨h.deep,fun b hb=>⟨(h.sep b hb).1,(h.sep b hb).2.1,fun id o c h1 h2=>(h.sep b hb).2.2 id o c h1 (by unfold cutN at h2; split at h2; cases h2; exact h2)⟩⟩
theorem DS.nil:DS E H σ Z w [] []:=⟨⟨rfl,fun k y d h=>by simp at h,fun k k' j j' y y' b h=>by simp at h⟩,fun b ⟨k,y,j,h,_⟩=>by simp at h⟩
theorem DS.fewer {H':Heap} (h:DS E H σ Z w ys bs) (hk:∀ i o,hlook H' i=some o→∃ o',hlook H i=some o'):DS E H' σ Z w ys bs :=
  ⟨h.deep,fun b hb=>⟨(h.sep b hb).1,(h.sep b hb).2.1,fun id o c h1 h2=>by
    obtain ⟨o',h1⟩:=hk id o h1
    exact (h.sep b hb).2.2 id o' c h1 h2⟩⟩
theorem look_of_any {i:Nat}:∀ {H:Heap},(keysH H).any (Nat.beq i)=true→∃ o,hlook H i=some o
  | [],h=>by cases h
  | x::H,h=>by
    simp only [keysH,List.any_cons,Bool.or_eq_true] at h
    simp only [hlook]
    cases hb:Nat.beq x.1 i with
    | true=>exact ⟨_,rfl⟩
    | false =>
      rcases h with h | h
      · rw [Nat.eq_of_beq_eq_true h] at hb; simp at hb
      · exact look_of_any h
theorem key_sub {H H':Heap} (h:(keysH H).all (fun i=>(keysH H').any (Nat.beq i))=true) {i:Nat} {o:PO} (hi:hlook H i=some o):∃ o',hlook H' i=some o' :=
  look_of_any (List.all_eq_true.1 h i (hlook_key hi))
theorem ds_snoc (hr:Rel E N κ R H nx σ Z a w) (hds:DS E H σ Z w ys bs) (k:Rel (E.nest H nx σ Z w) N' κ' R' H9 nx9 σ' Z' a' w') (hk:∀ i o,hlook H i=some o→∃ o',hlook H9 i=some o') {y:BlockD} (v:Nat→Value) (ro go nn:Nat→Nat) (hnn:∀ j,j<4→nn j=(fldR y j).length)
    (hro:∀ j,j<4→hlook H9 (ro j)=some (.row (fldE j) (fldS j) true (fldR y j))∧hlook H9 (go j)=some (.ty (v j) (.own (ro j) (fldS j) (nn j)))∧hlook H (ro j)=none) (hri:∀ j j',j<4→j'<4→ro j=ro j'→j=j') {H':Heap} (hH':∀ i o,hlook H' i=some o→(∃ o',hlook H9 i=some o')∧∀ j,j<4→i≠ro j) :
    DS E H' σ' Z' w' (ys++[mkV y (v 0) (v 1) (v 2) (v 3)]) (bs++[y]):=by
  have hs:=hds.step k
  have hrow:∀ j,j<4→RowIs w' (v j) (fldE j) (fldS j) (fldR y j)∧∀ b,blkOf (v j)=some b→∃ c,σ' (ro j)=some (b,c):=fun j hj=>by
    obtain ⟨h1,h2,_⟩:=hro j hj
    exact RowIs.of (k.hr.at_ _ _ h1) (k.hr.at_ _ _ h2).2.2 (hnn j hj) (fld_sc y j)
  have hnb:∀ j b,j<4→blkOf (v j)=some b→w.heap.size≤b∧¬ Z' b∧∃ c,σ' (ro j)=some (b,c):=fun j b hj hb=>by
    obtain ⟨h1,_,h3⟩:=hro j hj
    obtain ⟨c,hc⟩:=(hrow j hj).2 b hb
    refine ⟨?_,k.hr.off _ _ b c h1 hc,c,hc⟩
    rcases k.own _ _ b c h1 hc with q | q
    · exact q
    · obtain ⟨i,o',c',q1,q2⟩:=nest_wr q
      have q3:=k.ext i _ q2
      obtain ⟨o'',q4⟩:=hk i o' q1
      have:=k.hr.inj _ _ _ _ b c c' h1 q4 hc q3
      rw [this,q1] at h3; cases h3
  have hf:∀ j,j<4→fldV (mkV y (v 0) (v 1) (v 2) (v 3)) j=v j:=fun j hj=>by
    match j,hj with
    | 0,_=>rfl
    | 1,_=>rfl
    | 2,_=>rfl
    | 3,_=>rfl
  have hget:∀ {i:Nat} {z:VB},(ys++[mkV y (v 0) (v 1) (v 2) (v 3)])[i]?=some z→(ys[i]?=some z)∨(i=ys.length∧z=mkV y (v 0) (v 1) (v 2) (v 3)):=fun {i z} h=>by
    rcases Nat.lt_or_ge i ys.length with hi | hi
    · rw [List.getElem?_append_left hi] at h; exact .inl h
    · rw [List.getElem?_append_right hi] at h
      obtain ⟨d,hd⟩:∃ d,d=i-ys.length:=⟨_,rfl⟩
      rw [← hd] at h
      match d,h with
      | 0,h =>
        simp only [List.getElem?_cons_zero,Option.some.injEq] at h
        exact .inr ⟨by omega,h.symm⟩
      | d+1,h=>simp at h
  refine ⟨⟨by simp [hds.deep.len],fun i z d hz hd=>?_,fun i i' j j' z z' b hz hz' hj hj' hb hb'=>?_⟩,fun b hb=>?_⟩
  · rcases hget hz with hz | ⟨rfl,rfl⟩
    · have hi:=(List.getElem?_eq_some_iff.1 hz).1
      rw [List.getElem?_append_left (by rw [← hds.deep.len]; exact hi)] at hd
      exact hs.deep.at_ i z d hz hd
    · rw [hds.deep.len,List.getElem?_append_right (Nat.le_refl _),Nat.sub_self] at hd
      simp only [List.getElem?_cons_zero,Option.some.injEq] at hd
      subst hd
      exact ⟨rfl,fun j hj=>by rw [hf j hj]; exact (hrow j hj).1⟩
  · rcases hget hz with hz | ⟨rfl,rfl⟩ <;> rcases hget hz' with hz' | ⟨rfl,rfl⟩
    · exact hds.deep.inj _ _ _ _ _ _ _ hz hz' hj hj' hb hb'
    · rw [hf j' hj'] at hb'
      have h1:=hds.deep.lt ⟨_,_,_,hz,hj,hb⟩
      have h2:=(hnb j' b hj' hb').1; omega
    · rw [hf j hj] at hb
      have h1:=hds.deep.lt ⟨_,_,_,hz',hj',hb'⟩
      have h2:=(hnb j b hj hb).1; omega
    · rw [hf j hj] at hb
      rw [hf j' hj'] at hb'
      obtain ⟨_,_,c,hc⟩:=hnb j b hj hb
      obtain ⟨_,_,c',hc'⟩:=hnb j' b hj' hb'
      exact ⟨rfl,hri j j' hj hj' (k.hr.inj _ _ _ _ b c c' (hro j hj).1 (hro j' hj').1 hc hc')⟩
  · obtain ⟨i,z,j,hz,hj,hb⟩:=hb
    rcases hget hz with hz | ⟨rfl,rfl⟩
    · obtain ⟨q1,q2,q3⟩:=hs.sep b ⟨i,z,j,hz,hj,hb⟩
      exact ⟨q1,q2,fun id o c h1 h2=>by
        obtain ⟨⟨o',h3⟩,_⟩:=hH' id o h1
        exact q3 id o' c h3 h2⟩
    · rw [hf j hj] at hb
      obtain ⟨q1,q2,c,hc⟩:=hnb j b hj hb
      have:=hr.chg.size
      refine ⟨by omega,q2,fun id o c' h1 h2=>?_⟩
      obtain ⟨⟨o',h3⟩,h4⟩:=hH' id o h1
      exact h4 j hj (k.hr.inj _ _ _ _ b c' c h3 (hro j hj).1 h2 hc)
end
end Go.Proofs.Ytlkcidmmpeebeaa

/- Proved: what merge.Merge's loop needs: names told otherwise with the blocks at hand,a call of joinable,what a step does to the code. -/
namespace Go.Proofs.Ytlkcidmmpeebeaa
open Go.RowKit Go.PX
open Go.SX (AllEq allEq_of_map)
section
variable {P:Program} {E:Env} {N:Nat} {κ:List (Nat × Bool)} {R R':List Ent} {H H':Heap} {nx nx':Nat} {σ:Nm} {Z:Nat→Prop} {a:Act} {w w':World} {ys:List VB} {bs:List BlockD}
theorem rel_grow (h:Rel E N κ R H nx σ Z a w) (hc:Chg (fun _=>False) w w'):Rel E N κ R H nx σ Z a w' :=
  ⟨h.rs.mono (Ext.refl _) (fun _ q=>q) hc (fun _ _ q=>q),⟨fun id o ho=>(h.hr.at_ id o ho).mono (Ext.refl _) (fun _ q=>q) hc (fun _ _ q=>q) rfl (fun _ _ _ q=>q),h.hr.inj,h.hr.off,fun b q=>Nat.lt_of_lt_of_le (h.hr.zlt b q) hc.size⟩,h.fr,h.lo,h.ext,h.dom,h.own,(h.chg.trans hc).mono fun b _ q=>q.elim (fun q=>q) False.elim,h.zold,h.z0⟩
theorem ds_grow (h:DS E H σ Z w ys bs) (hc:Chg (fun _=>False) w w'):DS E H σ Z w' ys bs :=
  ⟨h.deep.keep fun b hb=>hc.block b (h.deep.lt hb) fun q=>q,h.sep⟩
theorem step_ds {ops:Array Oper} {Q:Exit→Act→World→Prop} {rest:List Oper} (l:List Oper) (ds:List Dir) {R':List Ent} {H':Heap} {nx':Nat} {obs:List Ob} {eqs:List (Bool × Bool)} (hs:seqRun P ops [] N l ds R H nx=some ⟨R',H',nx',obs,eqs⟩) (he:AllEq eqs) (hob:AllOb obs) (htop:nx'≤E.top) (hr:Rel E N [] R H nx σ Z a w) (hd:DS E H σ Z w ys bs)
    (k:∀ a' w' σ' Z',Rel E N [] R' H' nx' σ' Z' a' w'→DS E H' σ' Z' w' ys bs→wpList P ops Q rest a' w'):wpList P ops Q (l++rest) a w :=
  seq_sound (E:=E.nest H nx σ Z w) l ds hs htop hob he hr.nest fun a' w' σ' Z' (h:Rel (E.nest H nx σ Z w) N [] R' H' nx' σ' Z' a' w')=>k a' w' σ' Z' (hr.unnest h) (hd.step h)
theorem wpl_call {ops:Array Oper} {Q:Exit→Act→World→Prop} {rest:List Oper} {o:Oper} {g:FuncId} {args:Array Operand} {ty:Array TypeId} (vs:List Value) (ho:o.op=.call { callee:=.value (.func g),args,argTypes:=ty }) (hgd:o.guard=none) (hg:callB P g=true) (hvs:args.toList.map a.eval=vs) {Post:Ending→World→Prop} (hc:Calls P g vs.toArray w Post)
    (hk:∀ e w',Post e w'→∃ v,e=.returned v∧wpList P ops Q rest (a.put o.dst v) w'):wpList P ops Q (o::rest) a w:=by
  subst hvs
  refine wpList_plain hgd fun K hK=>?_
  unfold Oper.wp
  have hrun:(execOp a.eval o).run P w=.ok (.enter g (args.toList.map a.eval).toArray) w:=by
    have:args.map a.eval=(args.toList.map a.eval).toArray:=by apply Array.ext'; simp
    rw [← this]
    simp [execOp,ho,resolve,Act.eval,Deferred.ofValue,invoke,run_callFunc hg]
  rw [hrun]
  simp only [Oper.upon]
  refine hc.mono fun e w' h=>?_
  obtain ⟨v,rfl,h2⟩:=hk e w' h
  exact hK _ _ h2
/-- the state told with other names,the names at hand -/
theorem canonR {H0:Heap} {U:Upd} {lo top:Nat} (ρ:List (Nat × Nat)) (R':List Ent) (H':Heap) (nx':Nat) (hr:Rel E N [] R H nx σ Z a w) (hE:EnvOk E H0 U lo top) (hR:renR ρ R'=R) (hH:(okH ρ H H').map (·.1)=(okH ρ H H').map (·.2)) (hc:canonB ρ lo top nx' R' H'=true) :
    ∃ σ',Rel E N [] R' H' nx' σ' Z a w∧∀ id∈keysH H',σ' id=σ (rn ρ id):=by
  classical
  unfold canonB at hc
  simp only [Bool.and_eq_true] at hc
  obtain ⟨⟨⟨⟨c1,c2⟩,c3⟩,c4⟩,c5⟩:=hc
  have c4:=Nat.le_of_ble_eq_true c4
  have hat:∀ {id:Nat} {o:PO},hlook H' id=some o→hlook H (rn ρ id)=some (renO ρ o):=okH_spec (allEq_of_map hH)
  have hk5:∀ id∈keysH H',(lo≤id∧id<top∧id<nx')∨(¬ (lo≤id∧id<top)∧rn ρ id=id):=fun id hid=>by
    have:=List.all_eq_true.1 c5 id hid
    cases hb:(Nat.ble lo id&&Nat.blt id top) with
    | true =>
      rw [hb] at this
      simp only [Bool.and_eq_true,Nat.blt_eq,cond_true] at hb this
      exact .inl ⟨Nat.le_of_ble_eq_true hb.1,hb.2,this⟩
    | false =>
      rw [hb] at this
      simp only [cond_false,Nat.beq_eq] at this
      refine .inr ⟨fun ⟨q1,q2⟩=>?_,this⟩
      have e1:Nat.ble lo id=true:=by rw [Nat.ble_eq]; exact q1
      have e2:Nat.blt id top=true:=by simpa using q2
      rw [e1,e2] at hb; cases hb
  let σ':Nm:=fun id=>if lo≤id∧id<top then (if id∈keysH H' then σ (rn ρ id) else none) else σ id
  have hS:∀ id∈keysH H',σ' id=σ (rn ρ id):=fun id hid=>by
    show (if _ then _ else _)=_
    rcases hk5 id hid with ⟨q1,q2,_⟩ | ⟨q1,q2⟩
    · rw [if_pos ⟨q1,q2⟩,if_pos hid]
    · rw [if_neg q1,q2]
  have hS':∀ id,(keysH H').any (Nat.beq id)=true→σ' id=σ (rn ρ id):=fun id h=>hS id (mem_any h)
  refine ⟨σ',⟨⟨hr.rs.defers,hr.rs.size,fun t e he=>?_⟩,⟨fun id o ho=>?_,fun id id' o o' b c c' h1 h2 h3 h4=>?_,fun id o b c h1 h2=>?_,hr.hr.zlt⟩,fun id h1 h2=>?_,by rw [hE.elo]; exact c4,fun id x hx=>?_,fun id h0 hn=>?_,fun id o b c h1 h2=>?_,hr.chg,hr.zold,hr.z0⟩,hS⟩
  · have hl:=look_renR (ρ:=ρ) he
    rw [hR] at hl
    have:=hr.rs.at_ t _ hl
    refine ⟨fun hp=>?_,this.2⟩
    obtain ⟨v,q1,q2⟩:=this.1 hp
    exact ⟨v,q1,q2.ren hS' e.v rfl (idsR_spec c1 he)⟩
  · exact OR.ren hS' (hS id (hlook_key ho)) (hr.hr.at_ _ _ (hat ho)) (idsH_spec c2 ho)
  · have k1:=hlook_key h1
    have k2:=hlook_key h2
    rw [hS id k1] at h3
    rw [hS id' k2] at h4
    exact apart_inj c3 id k1 id' k2 (hr.hr.inj _ _ _ _ b c c' (hat h1) (hat h2) h3 h4)
  · rw [hS id (hlook_key h1)] at h2
    exact hr.hr.off _ _ b c (hat h1) h2
  · rw [hE.etop] at h2
    have hnk:id ∉ keysH H':=fun hid=>by
      rcases hk5 id hid with ⟨_,_,q⟩ | ⟨q,_⟩
      · omega
      · exact q ⟨Nat.le_trans c4 h1,h2⟩
    refine ⟨?_,?_⟩
    · show (if _ then _ else _)=_
      rw [if_pos ⟨Nat.le_trans c4 h1,h2⟩,if_neg hnk]
    · cases ho:hlook H' id with
      | none=>rfl
      | some o=>exact absurd (hlook_key ho) hnk
  · show (if _ then _ else _)=_
    rw [if_neg (fun q=>by rw [hE.es0 id q.1 q.2] at hx; cases hx)]
    exact hr.ext id x hx
  · show (if _ then _ else _)=_
    rw [hE.elo,hE.etop] at hn
    rw [if_neg hn]
    exact hr.dom id h0 (by rw [hE.elo,hE.etop]; exact hn)
  · rw [hS id (hlook_key h1)] at h2
    exact hr.own _ _ b c (hat h1) h2
theorem canon_ds {H0:Heap} {U:Upd} {lo top:Nat} (ρ:List (Nat × Nat)) (R':List Ent) (H':Heap) (nx':Nat) (hr:Rel E N [] R H nx σ Z a w) (hd:DS E H σ Z w ys bs) (hE:EnvOk E H0 U lo top) (hR:renR ρ R'=R) (hH:(okH ρ H H').map (·.1)=(okH ρ H H').map (·.2)) (hc:canonB ρ lo top nx' R' H'=true) :
    ∃ σ',Rel E N [] R' H' nx' σ' Z a w∧DS E H' σ' Z w ys bs:=by
  obtain ⟨σ',h1,h2⟩:=canonR ρ R' H' nx' hr hE hR hH hc
  have hat:∀ {id:Nat} {o:PO},hlook H' id=some o→hlook H (rn ρ id)=some (renO ρ o):=okH_spec (allEq_of_map hH)
  exact ⟨σ',h1,hd.deep,fun b hb=>⟨(hd.sep b hb).1,(hd.sep b hb).2.1,fun id o c q1 q2=>by
    rw [h2 id (hlook_key q1)] at q2
    exact (hd.sep b hb).2.2 _ _ c (hat q1) q2⟩⟩
/-- a contract that was handed nothing and leaves one row behind,at a name of here -/
theorem eff_atrow {σ':Nm} {Z':Nat→Prop} {m n e sz:Nat} {rows:List (List PV)} (he:Eff (fun _=>none) Z w [] [(m,some (.row e sz true rows))] σ' Z' w') (hn:σ n=none) (hnH:hlook H n=none) :
    Eff σ Z w H [(n,some (.row e sz true rows))] (fun id=>if id=n then σ' m else σ id) Z' w':=by
  obtain ⟨τ,hτ⟩:∃ τ:Nm,τ=fun id=>if id=n then σ' m else σ id:=⟨_,rfl⟩
  rw [← hτ]
  have t1:τ n=σ' m:=by rw [hτ]; simp
  have t2:∀ id,id≠n→τ id=σ id:=fun id h=>by rw [hτ]; simp [h]
  have ul:∀ id o,ulook [(n,some (PO.row e sz true rows))] id=some (some o)→id=n∧o=.row e sz true rows:=fun id o h=>by
    simp only [ulook] at h
    cases hb:Nat.beq n id with
    | true=>rw [hb] at h; simp at h; exact ⟨(Nat.eq_of_beq_eq_true hb).symm,h.symm⟩
    | false=>rw [hb] at h; cases h
  have um:ulook [(m,some (PO.row e sz true rows))] m=some (some (.row e sz true rows)):=by simp [ulook]
  refine ⟨fun id x hx=>?_,fun id h0 h=>?_,he.zmono,fun b hb=>?_,he.chg.mono fun b _ ⟨_,_,_,_,_,h⟩=>(by cases h),fun id o h=>?_,fun id o b c h h'=>?_,fun id id' o o' b c c' h h' _ _=>by rw [(ul id o h).1,(ul id' o' h').1]⟩
  · rw [t2 id (by rintro rfl; rw [hn] at hx; cases hx)]; exact hx
  · by_cases e':id=n
    · subst e'
      rcases h with h | h
      · simp [ulook] at h
      · exact absurd hnH h
    · rw [t2 id e']; exact h0
  · rcases he.znew b hb with q | q | ⟨_,_,_,_,_,h⟩
    · exact .inl q
    · exact .inr (.inl q)
    · cases h
  · obtain ⟨rfl,rfl⟩:=ul id o h
    obtain ⟨h1,h2,h3⟩:=he.objs m _ um
    refine ⟨h1,⟨h2.1,fun q=>by rw [t1]; exact h2.2 q⟩,fun b c hb=>?_⟩
    rw [t1] at hb
    obtain ⟨C,q1,q2,q3,q4,q5⟩:=h3 b c hb
    exact ⟨C,q1,q2,q3,q4,(q5.2 rfl).vrs,fun _=>q5.2 rfl⟩
  · obtain ⟨rfl,rfl⟩:=ul id o h
    rw [t1] at h'
    obtain ⟨q1,q2⟩:=he.off m _ b c um h'
    refine ⟨q1,?_⟩
    rcases q2 with q2 | ⟨_,_,_,_,_,h⟩
    · exact .inl q2
    · cases h
theorem mok_fld {d:CodeD} (hM:MOk d):∀ (k:Nat) (b:BlockD),d.blocks[k]?=some b→∀ j,j<4→(fldR b j).length≤1000000000:=fun k b hb j hj=>by
  have h1:=(hM.blk k b hb).len
  have h2:=sumO_mem (List.mem_of_getElem? hb)
  have h3:=hM.sum
  match j,hj with
  | 0,_=>simp [fldR]; omega
  | 1,_=>simp [fldR]; omega
  | 2,_=>simp [fldR]; omega
  | 3,_=>simp [fldR]; omega
/-- the code with its blocks read as data that nobody writes -/
theorem deep_code {d:CodeD} {He:Heap} (hH:HR σ Z w (hpM d ys He)) (hd:Deep w ys d.blocks) (hM:MOk d) {v:Value} (hv:VR σ Z w v (.agg [.sc (.int .i64 d.params),.own 2 10 ys.length,.imm 3 (d.contexts.map encR),.imm 3 (d.objects.map encR)])) {Z':Nat→Prop} (hz:∀ b,Z b→Z' b) (hDB:∀ b,DB ys b→Z' b) (h2:∀ b c,σ 2=some (b,c)→Z' b) (τ:Nm):VR τ Z' w v (codeP d):=by
  cases hv with
  | agg l xs hl' ho h =>
    match l,hl' with
    | [u0,u1,u2,u3],_ =>
      have h0:=h 0 u0 _ rfl rfl
      have h1:=h 1 u1 _ rfl rfl
      have h2':=h 2 u2 _ rfl rfl
      have h3:=h 3 u3 _ rfl rfl
      have i1:IR Z' w u1 (.imm 10 (d.blocks.map encB)):=deep_imm hH hd hpM2 hDB h2 (mok_fld hM) (by rw [← hd.len]; exact h1)
      have im:∀ {u:Value} {sz:Nat} {rows:List (List PV)},VR σ Z w u (.imm sz rows)→VR τ Z' w u (.imm sz rows):=fun {u sz rows} h=>by
        cases h with
        | imm _ _ _ h=>exact (h.mono hz (Chg.refl (fun _=>False) w) (fun _ _ q=>q)).vr
      have k0:VR τ Z' w u0 (.sc (.int .i64 d.params)):=by cases h0; exact .sc _ rfl
      refine .agg [u0,u1,u2,u3] _ rfl rfl fun i u x hu hx=>?_
      match i,hu,hx with
      | 0,hu,hx=>cases hu; cases hx; exact k0
      | 1,hu,hx=>cases hu; cases hx; exact i1.vr
      | 2,hu,hx=>cases hu; cases hx; exact im h2'
      | 3,hu,hx=>cases hu; cases hx; exact im h3
      | i+4,hu,hx=>simp at hu
theorem joinable_call {d:CodeD} {He:Heap} (hH:HR σ Z w (hpM d ys He)) (hd:Deep w ys d.blocks) (hM:MOk d) {v:Value} (hv:VR σ Z w v (.agg [.sc (.int .i64 d.params),.own 2 10 ys.length,.imm 3 (d.contexts.map encR),.imm 3 (d.objects.map encR)])) :
    Calls Try.prog 75 #[v] w (fun e w'=>e=.returned (.tuple #[.int .i64 (((oneI d).getD 0:Nat):Int),.bool (oneI d).isSome])∧Chg (fun _=>False) w w'):=by
  refine (con_f75 d (jok_of hM) hM.edge w (fun _=>none) (fun b=>Z b∨DB ys b∨∃ c,σ 2=some (b,c)) [v] { at_:=fun id o h=>(nomatch h),inj:=fun _ _ _ _ _ _ _ h=>(nomatch h),off:=fun _ _ _ _ h=>(nomatch h),zlt:=fun b hb=>?_ } (.cons (deep_code hH hd hM hv (fun _ q=>.inl q) (fun _ q=>.inr (.inl q)) (fun b c q=>.inr (.inr ⟨c,q⟩)) _) .nil) (fun _ _ _=>rfl)).mono ?_
  · rcases hb with h | h | ⟨c,h⟩
    · exact hH.zlt b h
    · exact hd.lt h
    · exact (hH.at_ 2 _ hpM2).lt h
  · rintro e w' ⟨u,σ',Z',rfl,hu,he⟩
    obtain rfl:=toV_spec hu rfl
    exact ⟨rfl,he.chg.mono fun b _ ⟨_,_,_,_,h,_⟩=>nomatch h⟩
theorem rel_put {o:Oper} {t:Nat} {x:PV} {u:Value} (h:Rel E N [] R H nx σ Z a w) (ho:o.dst=some t) (ht:Nat.blt t N=true) (hv:VR σ Z w u x):Rel E N [] (⟨t,[],x⟩::R) H nx σ Z (a.put o.dst u) w :=
  ⟨h.rs.put (o:=o) (p:=[]) (x:=some x) (by unfold dstOk; rw [ho]; exact ht) (by unfold setR; rw [ho]) (fun _ y e=>by injection e with e; subst e; exact hv) (fun q=>by cases q),h.hr,h.fr,h.lo,h.ext,h.dom,h.own,h.chg,h.zold,h.z0⟩
theorem rel_slots {T:List Ent} (h:Rel E N [] R H nx σ Z a w) (ts:List Nat) (hk:keepR R ts=some T):Rel E N [] T H nx σ Z a w:=h.rs' (h.rs.keep hk)
/-- behind merge.copied -/
theorem enter_copied {t e sz:Nat} {x:PV} {u:Value} {σ1:Nm} {Z1:Nat→Prop} {rows:List (List PV)} (hr:Rel E N [] R H 3 σ Z a w) (htop:4≤E.top) (hv:VR σ1 Z1 w' u x) (hx:idsIn [3] x=true) (he:Eff (fun _=>none) Z w [] [(3,some (.row e sz true rows))] σ1 Z1 w') (hdeep:Deep w' ys bs) (hsep:∀ b,DB ys b→w.heap.size≤b∧¬ Z1 b∧∀ q,σ1 3≠some (b,q)) (ht:Nat.blt t N=true) :
    ∃ τ,(∀ o:Oper,o.dst=some t→Rel E N [] (⟨t,[],x⟩::R) (happ [(3,some (.row e sz true rows))] H) 4 τ Z1 (a.put o.dst u) w')∧DS E (happ [(3,some (.row e sz true rows))] H) τ Z1 w' ys bs:=by
  obtain ⟨f1,f2⟩:=hr.fr 3 (Nat.le_refl _) (by omega)
  have he2:=eff_atrow (σ:=σ) (H:=H) (n:=3) he f1 f2
  have hul:∀ id,ulook [(3,some (PO.row e sz true rows))] id≠none→id=3:=fun id h=>by
    simp only [ulook] at h
    cases hb:Nat.beq 3 id with
    | true=>exact (Nat.eq_of_beq_eq_true hb).symm
    | false=>rw [hb] at h; exact absurd rfl h
  have hm:=hr.mem.step he2 (by omega:3≤4) htop fun id h=>.inr (by have:=hul id h; omega)
  have hr1:Rel E N [] R (happ [(3,some (.row e sz true rows))] H) 4 _ Z1 a w':=⟨hr.rs.eff hr.hr he2,hm.hr,hm.fr,hm.lo,hm.ext,hm.dom,hm.own,hm.chg,hm.zold,hm.z0⟩
  refine ⟨_,fun o ho=>rel_put hr1 ho ht (hv.restrict (S:=[3]) (fun id h q hq=>?_) hx),hdeep,fun b hb=>?_⟩
  · simp only [List.any_cons,List.any_nil,Bool.or_false,Nat.beq_eq] at h
    subst h
    simpa using hq
  · obtain ⟨q1,q2,q3⟩:=hsep b hb
    have:=hr.chg.size
    refine ⟨by omega,q2,fun id o' c h1 h2=>?_⟩
    by_cases hid:id=3
    · subst hid
      exact q3 c (by simpa using h2)
    · rw [if_neg hid] at h2
      rw [hlook_happ] at h1
      have hu:ulook [(3,some (PO.row e sz true rows))] id=none:=by
        cases h:ulook [(3,some (PO.row e sz true rows))] id with
        | none=>rfl
        | some z=>exact absurd (hul id (by rw [h]; simp)) hid
      rw [hu] at h1
      have:=(hr.hr.at_ id o' h1).lt h2
      omega
/-- behind the last join: the code is handed out,its blocks written no more -/
theorem leave_deep {d:CodeD} {v:Value} {He:Heap} {σ8:Nm} (hr:Rel E N [] R (hpM d ys He) nx σ Z a w) (hds:DS E (hpM d ys He) σ Z w ys d.blocks) (hM:MOk d) (h1:∀ id o,ulook [(2,some (PO.row 62 10 true (ys.map encV)))] id=some (some o)→σ8 id=σ id)
    (h2:VR σ8 Z w v (.agg [.sc (.int .i64 d.params),.own 2 10 ys.length,.imm 3 (d.contexts.map encR),.imm 3 (d.objects.map encR)])) (h3:Eff E.σ0 E.Z0 E.w0 [] [(2,some (.row 62 10 true (ys.map encV)))] σ8 Z w):ConPost E [] (codeP d) [] (.returned v) w:=by
  have e2:=h1 2 _ rfl
  have h2':VR σ Z w v (.agg [.sc (.int .i64 d.params),.own 2 10 ys.length,.imm 3 (d.contexts.map encR),.imm 3 (d.objects.map encR)]):=h2.restrict (S:=[2]) (fun id h q hq=>by
    simp only [List.any_cons,List.any_nil,Bool.or_false,Nat.beq_eq] at h
    subst h
    rw [← e2]; exact hq) rfl
  refine ⟨v,E.σ0,fun b=>Z b∨DB ys b∨∃ c,σ 2=some (b,c),rfl,deep_code hr.hr hds.deep hM h2' (fun _ q=>.inl q) (fun _ q=>.inr (.inl q)) (fun b c q=>.inr (.inr ⟨c,q⟩)) _,Ext.refl _,fun _ h _=>h,fun b q=>.inl (h3.zmono b q),fun b hb=>?_,h3.chg.mono fun b _ ⟨_,_,_,_,h,_⟩=>(nomatch h),fun id o h=>(nomatch h),fun id o b c h=>(nomatch h),fun id id' o o' b c c' h=>(nomatch h)⟩
  rcases hb with h | h | ⟨c,h⟩
  · rcases h3.znew b h with q | q | ⟨_,_,_,_,q,_⟩
    · exact .inl q
    · exact .inr (.inl q)
    · exact nomatch q
  · exact .inr (.inl ⟨(hds.sep b h).1,hds.deep.lt h⟩)
  · refine .inr (.inl ⟨?_,(hr.hr.at_ 2 _ hpM2).lt h⟩)
    rcases (h3.off 2 _ b c rfl (by rw [e2]; exact h)).2 with q | ⟨_,_,_,_,q,_⟩
    · exact q
    · exact nomatch q
end
/-! no edge leads to the first block -/
def NZ (d:CodeD):Prop:=∀ (k:Nat) (y:BlockD),d.blocks[k]?=some y→y.term.b0≠0∧y.term.b1≠0
theorem edge_nz {c:CodeD} {blk more:Int} {args all:List Int} (h:R.edge c blk args all more=true):blk≠0:=by
  rintro rfl
  simp [R.edge] at h
theorem none_nz {blk:Int} {args:List Int} (h:R.none_ blk args=true):blk≠0:=by
  have:=(none_ok h).1; omega
theorem term_nz {c:CodeD} {b:BlockD} (h:R.term c b=true):b.term.b0≠0∧b.term.b1≠0:=by
  unfold R.term at h
  simp only [] at h
  split at h
  · cases h
  split at h
  · cases h
  split at h
  · rw [Bool.and_eq_true] at h; exact ⟨edge_nz h.1,none_nz h.2⟩
  · split at h
    · rw [Bool.and_eq_true] at h; exact ⟨edge_nz h.1,edge_nz h.2⟩
    · split at h
      · rw [Bool.and_eq_true,Bool.or_eq_true] at h; exact ⟨edge_nz h.1,h.2.elim none_nz edge_nz⟩
      · split at h
        · rw [Bool.and_eq_true] at h; exact ⟨none_nz h.1,none_nz h.2⟩
        · cases h
theorem nz_one {c d:CodeD} (hM:MOk c) (hN:NZ c) (h:oneD c=some d):NZ d:=by
  obtain ⟨k,y,x,hy,hx,hk1,hne,hcnt,hok,rfl⟩:=one_inv h
  obtain ⟨hj0,_,_⟩:=hM.jump k y hy hk1
  have ht:=(hN k y hy).1
  have hS:∀ (i:Nat) (z:BlockD),(c.blocks.set k (joinD y x))[i]?=some z→(z.term.b0≠0∧z.term.b1≠0)∧z.term.b0<400∧z.term.b1<400:=fun i z hz=>by
    have hl:=hM.len
    rcases List.mem_or_eq_of_mem_set (List.mem_of_getElem? hz) with h | rfl
    · obtain ⟨j,hj⟩:=List.getElem?_of_mem h
      have:=hM.edge j z hj
      exact ⟨hN j z hj,by omega,by omega⟩
    · have:=hM.edge _ x hx
      have e0:(joinD y x).term.b0=x.term.b0:=rfl
      have e1:(joinD y x).term.b1=x.term.b1:=rfl
      rw [e0,e1]
      exact ⟨hN _ x hx,by omega,by omega⟩
  have hdec:∀ v:Int,v≠0→v<400→decE y.term.b0 v≠0:=fun v h0 h1=>by
    by_cases q:y.term.b0<v
    · rw [decE_hi q hj0 (by omega)]; omega
    · rw [decE_lo q]; exact h0
  intro i z' hi
  obtain ⟨i0,z,h0,rfl,_⟩:=rem_get hi
  obtain ⟨⟨q1,q2⟩,q3,q4⟩:=hS i0 z h0
  exact ⟨hdec _ q1 q3,hdec _ q2 q4⟩
/-- a step of the program's on plain data -/
theorem step_some {d:CodeD} (hM:MOk d) (hs:(oneI d).isSome=true):∃ (ip it:Nat) (y x:BlockD),oneI d=some ip∧d.blocks[ip]?=some y∧d.blocks[it]?=some x∧y.term.b0=((it:Nat):Int)∧ip≠it∧x.params=(y.term.args0.length:Int)∧oneD d=some (jnB d ip it y x):=by
  obtain ⟨ip,ho⟩:=Option.isSome_iff_exists.1 hs
  have ho':=ho
  unfold oneI at ho'
  have q:=List.find?_some ho'
  cases hy:d.blocks[ip]? with
  | none=>rw [hy] at q; cases q
  | some y =>
    rw [hy] at q
    simp only [Bool.not_eq_true'] at q
    have qt:stayT d ip y=false:=by
      unfold stayD at q
      rw [Bool.or_eq_false_iff] at q
      exact q.1
    have k1:y.term.kind=1:=by
      unfold stayT at qt
      simp only [Bool.or_eq_false_iff,bne_eq_false_iff_eq] at qt
      exact qt.1.1
    have hne:y.term.b0≠((ip:Nat):Int):=by
      unfold stayT at qt
      simp only [Bool.or_eq_false_iff,beq_eq_false_iff_ne] at qt
      exact qt.1.2
    obtain ⟨h0,_,hp⟩:=hM.jump ip y hy k1
    obtain ⟨x,hx⟩:=get_of_lt (l:=d.blocks) (k:=y.term.b0.toNat) (by have:=(hM.edge ip y hy).1; omega)
    have e:y.term.b0=((y.term.b0.toNat:Nat):Int):=by omega
    refine ⟨ip,y.term.b0.toNat,y,x,ho,hy,hx,e,fun h=>hne (by omega),hp x hx,?_⟩
    rw [← stepM_eq hM]
    unfold stepM
    rw [ho]
    simp only [hy,hx]
    unfold jnB
    rw [← e]
theorem step_none {d:CodeD} (hM:MOk d) (hs:(oneI d).isSome=false):oneD d=none:=by
  rw [oneD_I]
  cases h:oneI d with
  | none=>rfl
  | some k=>rw [h] at hs; cases hs
end Go.Proofs.Ytlkcidmmpeebeaa
