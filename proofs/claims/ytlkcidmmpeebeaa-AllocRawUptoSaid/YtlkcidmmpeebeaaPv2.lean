/- Proved: small changes of a state on plain data; what a check that is passed bounds. -/
import Derived.Test.YtlkcidmmpeebeaaPu
set_option linter.unusedVariables false
set_option linter.unusedSimpArgs false
namespace Go.PX
open Go.RowKit Go.SX
theorem ones_set {xs:List PV} (h:ones xs=true) {y:PV} (hy:y.one=true):∀ j,ones (xs.set j y)=true:=by
  induction xs with
  | nil=>intro j; rfl
  | cons x xs ih =>
    intro j
    simp only [ones,Bool.and_eq_true] at h
    cases j with
    | zero=>simp [ones,hy,h.2]
    | succ j=>simp [ones,h.1,ih h.2 j]
section
variable {E:Env} {N:Nat} {κ:List (Nat × Bool)} {R:List Ent} {H:Heap} {nx:Nat} {a:Act} {w:World}
/-- a cell of a struct,read otherwise -/
theorem recell {id j:Nat} {eb:TypeId} {xs:List PV} {x:PV} (y:PV) (hS:Sat E N R H nx a w) (hl:hlook H id=some (.box eb xs)) (hj:xs[j]?=some x) (ho:y.one=true) (h:∀ σ Z (w:World) v,VR σ Z w v x→VR σ Z w v y):Sat E N R ((id,.box eb (xs.set j y))::hdel H id) nx a w:=by
  obtain ⟨σ,Z,hr⟩:=hS
  have hlk:∀ {i:Nat} {o:PO},hlook ((id,PO.box eb (xs.set j y))::hdel H id) i=some o→(i=id∧o=.box eb (xs.set j y))∨(i≠id∧hlook H i=some o):=fun {i o} q=>by
    simp only [hlook] at q
    cases hb:Nat.beq id i with
    | true=>rw [hb] at q; simp only [cond_true,Option.some.injEq] at q; exact .inl ⟨(Nat.eq_of_beq_eq_true hb).symm,q.symm⟩
    | false =>
      rw [hb] at q
      simp only [cond_false] at q
      rw [hlook_hdel] at q
      have hne:i≠id:=by rintro rfl; simp at hb
      rw [if_neg hne] at q
      exact .inr ⟨hne,q⟩
  have hold:∀ {i:Nat} {o:PO},hlook ((id,PO.box eb (xs.set j y))::hdel H id) i=some o→∃ o',hlook H i=some o':=fun {i o} q=>by
    rcases hlk q with ⟨rfl,_⟩ | ⟨_,q⟩
    · exact ⟨_,hl⟩
    · exact ⟨_,q⟩
  refine ⟨σ,Z,hr.rs,⟨fun i o q=>?_,fun i i' o o' b c c' q1 q2 q3 q4=>?_,fun i o b c q1 q2=>?_,hr.hr.zlt⟩,fun i q1 q2=>⟨(hr.fr i q1 q2).1,?_⟩,hr.lo,hr.ext,hr.dom,fun i o b c q1 q2=>?_,hr.chg,hr.zold,hr.z0⟩
  · rcases hlk q with ⟨rfl,rfl⟩ | ⟨_,q⟩
    · obtain ⟨b,c,C,r1,r2,r3,r4⟩:=hr.hr.at_ _ _ hl
      refine ⟨b,c,C,r1,r2,ones_set r3 ho j,?_⟩
      obtain ⟨u,hu,hv⟩:=r4.get hj
      have:=VRs.set r4 (i:=j) (h σ Z w u hv)
      obtain ⟨hlt,rfl⟩:=List.getElem?_eq_some_iff.1 hu
      rw [List.set_getElem_self] at this
      exact this
    · exact hr.hr.at_ i o q
  · obtain ⟨_,r1⟩:=hold q1
    obtain ⟨_,r2⟩:=hold q2
    exact hr.hr.inj i i' _ _ b c c' r1 r2 q3 q4
  · obtain ⟨_,r1⟩:=hold q1
    exact hr.hr.off i _ b c r1 q2
  · cases q:hlook ((id,PO.box eb (xs.set j y))::hdel H id) i with
    | none=>rfl
    | some o =>
      obtain ⟨_,r1⟩:=hold q
      rw [(hr.fr i q1 q2).2] at r1; cases r1
  · obtain ⟨_,r1⟩:=hold q1
    exact hr.own i _ b c r1 q2
/-- a row that isn't there yet -/
theorem newrow (e sz:Nat) (hS:Sat E N R H nx a w) (htop:nx<E.top):Sat E N R ((nx,.row e sz true [])::H) (nx+1) a w:=by
  obtain ⟨σ,Z,hr⟩:=hS
  have hn:=hr.fr nx (Nat.le_refl _) htop
  have hlk:∀ {i:Nat} {o:PO},hlook ((nx,PO.row e sz true [])::H) i=some o→(i=nx∧o=.row e sz true [])∨hlook H i=some o:=fun {i o} q=>by
    simp only [hlook] at q
    cases hb:Nat.beq nx i with
    | true=>rw [hb] at q; simp only [cond_true,Option.some.injEq] at q; exact .inl ⟨(Nat.eq_of_beq_eq_true hb).symm,q.symm⟩
    | false=>rw [hb] at q; exact .inr q
  refine ⟨σ,Z,hr.rs,⟨fun i o q=>?_,fun i i' o o' b c c' q1 q2 q3 q4=>?_,fun i o b c q1 q2=>?_,hr.hr.zlt⟩,fun i q1 q2=>⟨(hr.fr i (by omega) q2).1,?_⟩,Nat.le_succ_of_le hr.lo,hr.ext,hr.dom,fun i o b c q1 q2=>?_,hr.chg,hr.zold,hr.z0⟩
  · rcases hlk q with ⟨rfl,rfl⟩ | q
    · exact ⟨fun r hr=>by simp at hr,⟨by simp,fun q=>absurd rfl q⟩,fun b c q=>by rw [hn.1] at q; cases q⟩
    · exact hr.hr.at_ i o q
  · rcases hlk q1 with ⟨rfl,rfl⟩ | q1
    · rw [hn.1] at q3; cases q3
    · rcases hlk q2 with ⟨rfl,rfl⟩ | q2
      · rw [hn.1] at q4; cases q4
      · exact hr.hr.inj i i' _ _ b c c' q1 q2 q3 q4
  · rcases hlk q1 with ⟨rfl,rfl⟩ | q1
    · rw [hn.1] at q2; cases q2
    · exact hr.hr.off i _ b c q1 q2
  · simp only [hlook]
    rw [nbeq (by omega)]
    exact (hr.fr i (by omega) q2).2
  · rcases hlk q1 with ⟨rfl,rfl⟩ | q1
    · rw [hn.1] at q2; cases q2
    · exact hr.own i _ b c q1 q2
theorem slots {T:List Ent} (ts:List Nat) (hS:Sat E N R H nx a w) (hk:keepR R ts=some T):Sat E N T H nx a w:=by
  obtain ⟨σ,Z,hr⟩:=hS
  exact ⟨σ,Z,hr.rs' (hr.rs.keep hk)⟩
/-- a slot,read otherwise -/
theorem reslot {t:Nat} {x:PV} (y:PV) (hS:Sat E N R H nx a w) (hl:look R t=some ⟨t,[],x⟩) (h:∀ σ Z (w:World) v,VR σ Z w v x→VR σ Z w v y):Sat E N (⟨t,[],y⟩::R) H nx a w:=by
  obtain ⟨σ,Z,hr⟩:=hS
  refine ⟨σ,Z,hr.rs' ⟨hr.rs.defers,hr.rs.size,fun t' e he=>?_⟩⟩
  simp only [look] at he
  cases hb:Nat.beq t t' with
  | true =>
    rw [hb] at he
    simp only [cond_true,Option.some.injEq] at he; subst he
    obtain rfl:=Nat.eq_of_beq_eq_true hb
    obtain ⟨v,q1,q2⟩:=(hr.rs.at_ t _ hl).1 rfl
    exact ⟨fun _=>⟨v,q1,h σ Z w v q2⟩,fun q=>by cases q⟩
  | false=>rw [hb] at he; exact hr.rs.at_ t' e he
end
theorem nil_own (id sz:Nat):∀ σ Z (w:World) v,VR σ Z w v (.sc (.slice none 0 0))→VR σ Z w v (.own id sz 0):=fun σ Z w v h=>by
  obtain rfl:=h.sc_inv; exact .own0 id sz
theorem nil_imm (sz:Nat):∀ σ Z (w:World) v,VR σ Z w v (.sc (.slice none 0 0))→VR σ Z w v (.imm sz []):=fun σ Z w v h=>by
  obtain rfl:=h.sc_inv
  exact .imm _ sz [] (.imm none 0 sz [] (fun _ _=>undef) ⟨Nat.le_refl _,by simp⟩ ⟨by omega,fun _=>rfl⟩ (fun k row h=>by simp at h) (fun k row i x h=>by simp at h))
end Go.PX
namespace Go.Proofs.Ytlkcidmmpeebeaa
open Go.RowKit Go.PX
theorem fold_mono:∀ (l:List BlockD) (n:Int),0≤n→n+l.length*140737488351232≤9223372036854775807→(∀ b∈l,b.ops.length≤140737488351232)→n≤l.foldl (fun n b=>IntKind.i64.wrap (n+(b.ops.length:Int))) n∧∀ b∈l,(b.ops.length:Int)≤l.foldl (fun n b=>IntKind.i64.wrap (n+(b.ops.length:Int))) n
  | [],n,_,_,_=>⟨Int.le_refl _,fun b hb=>by cases hb⟩
  | x::l,n,h0,hn,hb=>by
    have hx:=hb x (by simp)
    simp only [List.length_cons] at hn
    have e:IntKind.i64.wrap (n+(x.ops.length:Int))=n+x.ops.length:=by
      have:=SX.wrap_ok (z:=n+(x.ops.length:Int)) (by omega)
      injection this
    simp only [List.foldl_cons,e]
    obtain ⟨h1,h2⟩:=fold_mono l (n+x.ops.length) (by omega) (by omega) (fun b hb'=>hb b (by simp [hb']))
    refine ⟨by omega,fun b hb'=>?_⟩
    rcases List.mem_cons.1 hb' with rfl | hb'
    · omega
    · exact h2 b hb'
theorem edge_len {c:CodeD} {blk more:Int} {args all:List Int} (hm:0≤more) (hp:∀ b∈c.blocks,b.params≤999) (h:R.edge c blk args all more=true):args.length≤999:=by
  unfold R.edge at h
  split at h
  · cases h
  · rename_i q
    simp only [Bool.or_eq_true,decide_eq_true_eq,not_or,bne_iff_ne,ne_eq,Classical.not_not] at q
    have:R.paramsAt c blk≤999:=by
      unfold R.paramsAt
      cases hb:c.blocks[blk.toNat]? with
      | none=>simp
      | some b=>simpa using hp b (List.mem_of_getElem? hb)
    omega
theorem none_len {blk:Int} {args:List Int} (h:R.none_ blk args=true):args.length≤999:=by
  unfold R.none_ at h
  simp only [Bool.and_eq_true,beq_iff_eq] at h
  omega
theorem term_len {c:CodeD} {b:BlockD} (hp:∀ b∈c.blocks,b.params≤999) (h:R.term c b=true):b.term.args.length≤4∧b.term.args0.length≤999∧b.term.args1.length≤999:=by
  unfold R.term at h
  simp only at h
  split at h
  · cases h
  rename_i q0
  split at h
  · cases h
  have hargs:b.term.args.length≤4:=by
    simp only [Bool.or_eq_true,Bool.and_eq_true,not_or,not_and,decide_eq_true_eq,Bool.not_eq_true',Bool.or_eq_false_iff,beq_eq_false_iff_ne] at q0
    by_cases h3:b.term.kind=3
    · have:=(q0.2 (Or.inl (by simpa using h3))); omega
    · by_cases h6:b.term.kind=6
      · have:=(q0.2 (Or.inr (by simpa using h6))); omega
      · have:=(q0.1.2 ⟨h3,h6⟩); omega
  refine ⟨hargs,?_⟩
  split at h
  · simp only [Bool.and_eq_true] at h; exact ⟨edge_len (Int.le_refl _) hp h.1,none_len h.2⟩
  split at h
  · simp only [Bool.and_eq_true] at h; exact ⟨edge_len (Int.le_refl _) hp h.1,edge_len (Int.le_refl _) hp h.2⟩
  split at h
  · simp only [Bool.and_eq_true,Bool.or_eq_true] at h
    refine ⟨edge_len (by decide) hp h.1,?_⟩
    rcases h.2 with h | h
    · exact none_len h
    · exact edge_len (by decide) hp h
  split at h
  · simp only [Bool.and_eq_true] at h; exact ⟨none_len h.1,none_len h.2⟩
  · cases h
/-- what a check that is passed bounds -/
structure Fit (c:CodeD):Prop where
  blocks:c.blocks.length≤400
  ctx:c.contexts.length≤64
  obj:c.objects.length≤64
  ops:∀ b∈c.blocks,b.ops.length≤6000
  term:∀ b∈c.blocks,b.term.args.length≤4∧b.term.args0.length≤999∧b.term.args1.length≤999
theorem fit_of {c:CodeD} (hi:CodeI c) (h:R.check c (totW c.blocks)=0):Fit c:=by
  unfold R.check at h
  split at h
  · cases h
  rename_i q
  simp only [Bool.or_eq_true,decide_eq_true_eq,not_or,Nat.not_lt] at q
  split at h
  · cases h
  split at h
  · rename_i q2
    have hb:c.blocks.length≤400:=by omega
    have hall:=List.all_eq_true.1 q2
    have hp:∀ b∈c.blocks,b.params≤999:=fun b hb'=>by
      have:=hall b hb'
      simp only [Bool.and_eq_true,Bool.not_eq_true',Bool.or_eq_false_iff,decide_eq_false_iff_not] at this
      omega
    refine ⟨hb,by omega,by omega,fun b hb'=>?_,fun b hb'=>?_⟩
    · have:=(fold_mono c.blocks 0 (Int.le_refl _) (by omega) (fun b hb'=>(hi.2.1 b hb').2.2.2.2.2)).2 b hb'
      have h2:totW c.blocks≤6000:=by omega
      unfold totW at h2
      omega
    · have:=hall b hb'
      simp only [Bool.and_eq_true] at this
      exact term_len hp this.2
  · cases h
end Go.Proofs.Ytlkcidmmpeebeaa
namespace Go.PX
open Go.RowKit Go.SX
/-- a contract without names holds at whatever names -/
theorem con_any {P:Program} {f:FuncId} {args:List PV} {lo top lo' top':Nat} {r:PV} (h:Con P f args [] lo top r []) (hr:idsIn [] r=true:=by kernel_rfl) (ha:idsInL [] args=true:=by kernel_rfl):Con P f args [] lo' top' r []:=by
  intro w σ Z vs hH hv hfr
  have h0:HR (fun _=>none) Z w []:=⟨fun id o h=>by simp [hlook] at h,fun id id' o o' b c c' h=>by simp [hlook] at h,fun id o b c h=>by simp [hlook] at h,hH.zlt⟩
  have hv0:VRs (fun _=>none) Z w vs args:=hv.restrict (S:=[]) (fun id q=>by simp at q) ha
  refine (h w (fun _=>none) Z vs h0 hv0 (fun _ _ _=>rfl)).mono fun e w' ⟨v,σ',Z',he,h1,h2⟩=>?_
  refine ⟨v,σ,Z',he,h1.restrict (S:=[]) (fun id q=>by simp at q) hr,Ext.refl σ,fun id q _=>q,h2.zmono,fun b q=>?_,h2.chg.mono fun b _ ⟨id,o,c,q,_⟩=>absurd rfl q,fun id o q=>by simp [ulook] at q,fun id o b c q=>by simp [ulook] at q,fun id id' o o' b c c' q=>by simp [ulook] at q⟩
  rcases h2.znew b q with q | q | ⟨id,o,c,q,_⟩
  · exact .inl q
  · exact .inr (.inl q)
  · exact absurd rfl q
/-! regions,told by what they change -/
def lookV:List Ent→Nat→PV→PV
  | [],_,d=>d
  | e::R,t,d=>if e.t=t then e.v else lookV R t d
def tabD (R new:List Ent):List Nat→List Ent
  | []=>[]
  | t::ts=>⟨t,[],lookV new t (lookV R t (.sc .nilFunc))⟩::tabD R new ts
def lookO:Heap→Nat→PO→PO
  | [],_,d=>d
  | x::H,i,d=>if x.1=i then x.2 else lookO H i d
def heapD (H new:Heap):List Nat→Heap
  | []=>[]
  | i::hs=>(i,lookO new i (lookO H i (.mp [])))::heapD H new hs
section
variable {P:Program} {E:Env} {N:Nat} {R T:List Ent} {H H0 H':Heap} {U:Upd} {lo top nx:Nat} {a:Act} {w:World} {Q:Exit→Act→World→Prop} {l:List Oper} {id:Nat} {rest:Code}
theorem G (nw:List Ent) (nh:Heap) (nx':Nat) (obs:List Ob) (κ:List (Nat × Bool)) (dr:List Dir) (ts hs:List Nat) (hS:Sat E N R H nx a w) (hE:EnvOk E H0 U lo top) (hob:AllOb obs) (k:∀ a w,Sat E N T H' nx' a w→rest.wp P Q a w)
    (hT:tabD R nw ts=T:=by (simp only [Go.PX.tabD,Go.PX.lookV,Nat.reduceEqDiff,↓reduceIte]; rfl)) (hH:heapD H nh hs=H':=by (simp only [Go.PX.heapD,Go.PX.lookO,Nat.reduceEqDiff,↓reduceIte]; rfl))
    (h0:R.all (fun e=>e.p.isEmpty)=true:=by kernel_rfl) (h:regRun P l κ N dr ts hs R H nx=some (T,H',nx',obs):=by kernel_rfl) (he:regA P l κ N dr R H nx=regB P l κ N dr R H nx:=by kernel_rfl) (ht:Nat.ble nx' top=true:=by kernel_rfl):(Code.seq (Code.region id l.toArray false) rest).wp P Q a w :=
  wp_seq_k fun _ hK=>region_s κ dr ts hs hS h0 h he (hE.le (Nat.le_of_ble_eq_true ht)) hob fun a w q=>hK a w (k a w q)
theorem G0 (nw:List Ent) (nh:Heap) (nx':Nat) (obs:List Ob) (κ:List (Nat × Bool)) (dr:List Dir) (ts hs:List Nat) (hS:Sat E N R H nx a w) (hE:EnvOk E H0 U lo top) (hob:AllOb obs) (k:∀ a w,Sat E N T H' nx' a w→Q .normal a w)
    (hT:tabD R nw ts=T:=by (simp only [Go.PX.tabD,Go.PX.lookV,Nat.reduceEqDiff,↓reduceIte]; rfl)) (hH:heapD H nh hs=H':=by (simp only [Go.PX.heapD,Go.PX.lookO,Nat.reduceEqDiff,↓reduceIte]; rfl))
    (h0:R.all (fun e=>e.p.isEmpty)=true:=by kernel_rfl) (h:regRun P l κ N dr ts hs R H nx=some (T,H',nx',obs):=by kernel_rfl) (he:regA P l κ N dr R H nx=regB P l κ N dr R H nx:=by kernel_rfl) (ht:Nat.ble nx' top=true:=by kernel_rfl):(Code.region id l.toArray false).wp P Q a w :=
  region_s κ dr ts hs hS h0 h he (hE.le (Nat.le_of_ble_eq_true ht)) hob k
theorem D (nw:List Ent) (nh:Heap) (nx':Nat) (obs:List Ob) (κ:List (Nat × Bool)) (dr:List Dir) (ts hs:List Nat) (hS:Sat E N R H nx a w) (hm:P.follows .mixedOrders=true) (hE:EnvOk E H0 U lo top) (hob:AllOb obs) (k:∀ a w,Sat E N T H' nx' a w→rest.wp P Q a w)
    (hT:tabD R nw ts=T:=by (simp only [Go.PX.tabD,Go.PX.lookV,Nat.reduceEqDiff,↓reduceIte]; rfl)) (hH:heapD H nh hs=H':=by (simp only [Go.PX.heapD,Go.PX.lookO,Nat.reduceEqDiff,↓reduceIte]; rfl))
    (h0:R.all (fun e=>e.p.isEmpty)=true:=by kernel_rfl) (h:anyFin P l κ N dr ts hs R H nx=some (T,H',nx',obs):=by kernel_rfl) (he:anyA P l κ N dr R H nx=anyB P l κ N dr R H nx:=by kernel_rfl) (ht:Nat.ble nx' top=true:=by kernel_rfl):(Code.seq (Code.region id l.toArray true) rest).wp P Q a w :=
  wp_seq_k fun _ hK=>region_a κ dr ts hs hS h0 hm h he (hE.le (Nat.le_of_ble_eq_true ht)) hob fun a w q=>hK a w (k a w q)
theorem D0 (nw:List Ent) (nh:Heap) (nx':Nat) (obs:List Ob) (κ:List (Nat × Bool)) (dr:List Dir) (ts hs:List Nat) (hS:Sat E N R H nx a w) (hm:P.follows .mixedOrders=true) (hE:EnvOk E H0 U lo top) (hob:AllOb obs) (k:∀ a w,Sat E N T H' nx' a w→Q .normal a w)
    (hT:tabD R nw ts=T:=by (simp only [Go.PX.tabD,Go.PX.lookV,Nat.reduceEqDiff,↓reduceIte]; rfl)) (hH:heapD H nh hs=H':=by (simp only [Go.PX.heapD,Go.PX.lookO,Nat.reduceEqDiff,↓reduceIte]; rfl))
    (h0:R.all (fun e=>e.p.isEmpty)=true:=by kernel_rfl) (h:anyFin P l κ N dr ts hs R H nx=some (T,H',nx',obs):=by kernel_rfl) (he:anyA P l κ N dr R H nx=anyB P l κ N dr R H nx:=by kernel_rfl) (ht:Nat.ble nx' top=true:=by kernel_rfl):(Code.region id l.toArray true).wp P Q a w :=
  region_a κ dr ts hs hS h0 hm h he (hE.le (Nat.le_of_ble_eq_true ht)) hob k
end

theorem sl {E:Env} {N:Nat} {R T:List Ent} {H:Heap} {nx:Nat} {a:Act} {w:World} (ts:List Nat) (hS:Sat E N R H nx a w) (hT:tabD R [] ts=T:=by (simp only [Go.PX.tabD,Go.PX.lookV,Nat.reduceEqDiff,↓reduceIte]; rfl)) (h:keepR R ts=some T:=by kernel_rfl):Sat E N T H nx a w:=slots ts hS h
theorem fz {E:Env} {N:Nat} {R R':List Ent} {H H':Heap} {nx:Nat} {a:Act} {w:World} (id:Nat) (nw:List Ent) (nh:Heap) (ts hs:List Nat) (obs:List Ob) (hS:Sat E N R H nx a w) (hob:AllOb obs)
    (hT:tabD R nw ts=R':=by (simp only [Go.PX.tabD,Go.PX.lookV,Nat.reduceEqDiff,↓reduceIte]; rfl)) (hH:heapD H nh hs=H':=by (simp only [Go.PX.heapD,Go.PX.lookO,Nat.reduceEqDiff,↓reduceIte]; rfl)) (h:frzRun id R H=some (R',H',obs):=by kernel_rfl):Sat E N R' H' nx a w:=freeze id hS h hob
end Go.PX
