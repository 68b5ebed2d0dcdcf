/- Proved: small changes of a state on plain data; regions told by what they change; contracts at any names. Program-independent. -/
import Derived.Test.YtlkcidmmpeebeaaPt
set_option linter.unusedVariables false
set_option linter.unusedSimpArgs false
namespace Go.PX
open Go.RowKit Go.SX
def ZN (Z:Nat→Prop) (w w':World):Nat→Prop:=fun b=>Z b∨(w.heap.size≤b∧b<w'.heap.size)
theorem VRs.inv0 {σ:Nm} {Z:Nat→Prop} {w:World} {l:List Value} (h:VRs σ Z w l []):l=[]:=List.length_eq_zero_iff.1 (by simpa using h.1)
theorem VR.sc_inv {σ:Nm} {Z:Nat→Prop} {w:World} {v u:Value} (h:VR σ Z w v (.sc u)):v=u:=by cases h; rfl
theorem VR.imm_inv {σ:Nm} {Z:Nat→Prop} {w:World} {v:Value} {sz:Nat} {rows:List (List PV)} (h:VR σ Z w v (.imm sz rows)):IR Z w v (.imm sz rows):=by cases h; assumption
theorem VR.agg_inv {σ:Nm} {Z:Nat→Prop} {w:World} {v:Value} {xs:List PV} (h:VR σ Z w v (.agg xs)):∃ l,v=.agg l.toArray∧VRs σ Z w l xs:=by
  cases h with
  | agg l _ hl ho h=>exact ⟨l,rfl,hl,h⟩
theorem ones_set {xs:List PV} (h:ones xs=true) {y:PV} (hy:y.one=true):∀ j,ones (xs.set j y)=true:=by
  induction xs with
  | nil=>intro j; rfl
  | cons x xs ih =>
    intro j
    simp only [ones,Bool.and_eq_true] at h
    cases j with
    | zero=>simp [ones,hy,h.2]
    | succ j=>simp [ones,h.1,ih h.2 j]
section
variable {E:Env} {N:Nat} {κ:List (Nat × Bool)} {R:List Ent} {H:Heap} {nx:Nat} {a:Act} {w:World}
/-- a cell of a struct,read otherwise -/
theorem recell {id j:Nat} {eb:TypeId} {xs:List PV} {x:PV} (y:PV) (hS:Sat E N R H nx a w) (hl:hlook H id=some (.box eb xs)) (hj:xs[j]?=some x) (ho:y.one=true) (h:∀ σ Z (w:World) v,VR σ Z w v x→VR σ Z w v y):Sat E N R ((id,.box eb (xs.set j y))::hdel H id) nx a w:=by
  obtain ⟨σ,Z,hr⟩:=hS
  have hlk:∀ {i:Nat} {o:PO},hlook ((id,PO.box eb (xs.set j y))::hdel H id) i=some o→(i=id∧o=.box eb (xs.set j y))∨(i≠id∧hlook H i=some o):=fun {i o} q=>by
    simp only [hlook] at q
    cases hb:Nat.beq id i with
    | true=>rw [hb] at q; simp only [cond_true,Option.some.injEq] at q; exact .inl ⟨(Nat.eq_of_beq_eq_true hb).symm,q.symm⟩
    | false =>
      rw [hb] at q
      simp only [cond_false] at q
      rw [hlook_hdel] at q
      have hne:i≠id:=by rintro rfl; simp at hb
      rw [if_neg hne] at q
      exact .inr ⟨hne,q⟩
  have hold:∀ {i:Nat} {o:PO},hlook ((id,PO.box eb (xs.set j y))::hdel H id) i=some o→∃ o',hlook H i=some o':=fun {i o} q=>by
    rcases hlk q with ⟨rfl,_⟩ | ⟨_,q⟩
    · exact ⟨_,hl⟩
    · exact ⟨_,q⟩
  refine ⟨σ,Z,hr.rs,⟨fun i o q=>?_,fun i i' o o' b c c' q1 q2 q3 q4=>?_,fun i o b c q1 q2=>?_,hr.hr.zlt⟩,fun i q1 q2=>⟨(hr.fr i q1 q2).1,?_⟩,hr.lo,hr.ext,hr.dom,fun i o b c q1 q2=>?_,hr.chg,hr.zold,hr.z0⟩
  · rcases hlk q with ⟨rfl,rfl⟩ | ⟨_,q⟩
    · obtain ⟨b,c,C,r1,r2,r3,r4⟩:=hr.hr.at_ _ _ hl
      refine ⟨b,c,C,r1,r2,ones_set r3 ho j,?_⟩
      obtain ⟨u,hu,hv⟩:=r4.get hj
      have:=VRs.set r4 (i:=j) (h σ Z w u hv)
      obtain ⟨hlt,rfl⟩:=List.getElem?_eq_some_iff.1 hu
      rw [List.set_getElem_self] at this
      exact this
    · exact hr.hr.at_ i o q
  · obtain ⟨_,r1⟩:=hold q1
    obtain ⟨_,r2⟩:=hold q2
    exact hr.hr.inj i i' _ _ b c c' r1 r2 q3 q4
  · obtain ⟨_,r1⟩:=hold q1
    exact hr.hr.off i _ b c r1 q2
  · cases q:hlook ((id,PO.box eb (xs.set j y))::hdel H id) i with
    | none=>rfl
    | some o =>
      obtain ⟨_,r1⟩:=hold q
      rw [(hr.fr i q1 q2).2] at r1; cases r1
  · obtain ⟨_,r1⟩:=hold q1
    exact hr.own i _ b c r1 q2
/-- a row that isn't there yet -/
theorem newrow (e sz:Nat) (hS:Sat E N R H nx a w) (htop:nx<E.top):Sat E N R ((nx,.row e sz true [])::H) (nx+1) a w:=by
  obtain ⟨σ,Z,hr⟩:=hS
  have hn:=hr.fr nx (Nat.le_refl _) htop
  have hlk:∀ {i:Nat} {o:PO},hlook ((nx,PO.row e sz true [])::H) i=some o→(i=nx∧o=.row e sz true [])∨hlook H i=some o:=fun {i o} q=>by
    simp only [hlook] at q
    cases hb:Nat.beq nx i with
    | true=>rw [hb] at q; simp only [cond_true,Option.some.injEq] at q; exact .inl ⟨(Nat.eq_of_beq_eq_true hb).symm,q.symm⟩
    | false=>rw [hb] at q; exact .inr q
  refine ⟨σ,Z,hr.rs,⟨fun i o q=>?_,fun i i' o o' b c c' q1 q2 q3 q4=>?_,fun i o b c q1 q2=>?_,hr.hr.zlt⟩,fun i q1 q2=>⟨(hr.fr i (by omega) q2).1,?_⟩,Nat.le_succ_of_le hr.lo,hr.ext,hr.dom,fun i o b c q1 q2=>?_,hr.chg,hr.zold,hr.z0⟩
  · rcases hlk q with ⟨rfl,rfl⟩ | q
    · exact ⟨fun r hr=>by simp at hr,⟨by simp,fun q=>absurd rfl q⟩,fun b c q=>by rw [hn.1] at q; cases q⟩
    · exact hr.hr.at_ i o q
  · rcases hlk q1 with ⟨rfl,rfl⟩ | q1
    · rw [hn.1] at q3; cases q3
    · rcases hlk q2 with ⟨rfl,rfl⟩ | q2
      · rw [hn.1] at q4; cases q4
      · exact hr.hr.inj i i' _ _ b c c' q1 q2 q3 q4
  · rcases hlk q1 with ⟨rfl,rfl⟩ | q1
    · rw [hn.1] at q2; cases q2
    · exact hr.hr.off i _ b c q1 q2
  · simp only [hlook]
    rw [nbeq (by omega)]
    exact (hr.fr i (by omega) q2).2
  · rcases hlk q1 with ⟨rfl,rfl⟩ | q1
    · rw [hn.1] at q2; cases q2
    · exact hr.own i _ b c q1 q2
theorem slots {T:List Ent} (ts:List Nat) (hS:Sat E N R H nx a w) (hk:keepR R ts=some T):Sat E N T H nx a w:=by
  obtain ⟨σ,Z,hr⟩:=hS
  exact ⟨σ,Z,hr.rs' (hr.rs.keep hk)⟩
/-- a slot,read otherwise -/
theorem reslot {t:Nat} {x:PV} (y:PV) (hS:Sat E N R H nx a w) (hl:look R t=some ⟨t,[],x⟩) (h:∀ σ Z (w:World) v,VR σ Z w v x→VR σ Z w v y):Sat E N (⟨t,[],y⟩::R) H nx a w:=by
  obtain ⟨σ,Z,hr⟩:=hS
  refine ⟨σ,Z,hr.rs' ⟨hr.rs.defers,hr.rs.size,fun t' e he=>?_⟩⟩
  simp only [look] at he
  cases hb:Nat.beq t t' with
  | true =>
    rw [hb] at he
    simp only [cond_true,Option.some.injEq] at he; subst he
    obtain rfl:=Nat.eq_of_beq_eq_true hb
    obtain ⟨v,q1,q2⟩:=(hr.rs.at_ t _ hl).1 rfl
    exact ⟨fun _=>⟨v,q1,h σ Z w v q2⟩,fun q=>by cases q⟩
  | false=>rw [hb] at he; exact hr.rs.at_ t' e he
end
theorem nil_own (id sz:Nat):∀ σ Z (w:World) v,VR σ Z w v (.sc (.slice none 0 0))→VR σ Z w v (.own id sz 0):=fun σ Z w v h=>by
  obtain rfl:=h.sc_inv; exact .own0 id sz
theorem any_of {x:PV} (ho:x.one=true):∀ σ Z (w:World) v,VR σ Z w v x→VR σ Z w v .any:=fun σ Z w v h=>.any v (h.oneCell ho)
theorem nil_imm (sz:Nat):∀ σ Z (w:World) v,VR σ Z w v (.sc (.slice none 0 0))→VR σ Z w v (.imm sz []):=fun σ Z w v h=>by
  obtain rfl:=h.sc_inv
  exact .imm _ sz [] (.imm none 0 sz [] (fun _ _=>undef) ⟨Nat.le_refl _,by simp⟩ ⟨by omega,fun _=>rfl⟩ (fun k row h=>by simp at h) (fun k row i x h=>by simp at h))
end Go.PX
namespace Go.PX
open Go.RowKit Go.SX
/-- a contract without names holds at whatever names -/
theorem con_any {P:Program} {f:FuncId} {args:List PV} {lo top lo' top':Nat} {r:PV} (h:Con P f args [] lo top r []) (hr:idsIn [] r=true:=by kernel_rfl) (ha:idsInL [] args=true:=by kernel_rfl):Con P f args [] lo' top' r []:=by
  intro w σ Z vs hH hv hfr
  have h0:HR (fun _=>none) Z w []:=⟨fun id o h=>by simp [hlook] at h,fun id id' o o' b c c' h=>by simp [hlook] at h,fun id o b c h=>by simp [hlook] at h,hH.zlt⟩
  have hv0:VRs (fun _=>none) Z w vs args:=hv.restrict (S:=[]) (fun id q=>by simp at q) ha
  refine (h w (fun _=>none) Z vs h0 hv0 (fun _ _ _=>rfl)).mono fun e w' ⟨v,σ',Z',he,h1,h2⟩=>?_
  refine ⟨v,σ,Z',he,h1.restrict (S:=[]) (fun id q=>by simp at q) hr,Ext.refl σ,fun id q _=>q,h2.zmono,fun b q=>?_,h2.chg.mono fun b _ ⟨id,o,c,q,_⟩=>absurd rfl q,fun id o q=>by simp [ulook] at q,fun id o b c q=>by simp [ulook] at q,fun id id' o o' b c c' q=>by simp [ulook] at q⟩
  rcases h2.znew b q with q | q | ⟨id,o,c,q,_⟩
  · exact .inl q
  · exact .inr (.inl q)
  · exact absurd rfl q
/-! regions,told by what they change -/
def lookV:List Ent→Nat→PV→PV
  | [],_,d=>d
  | e::R,t,d=>if e.t=t then e.v else lookV R t d
def tabD (R new:List Ent):List Nat→List Ent
  | []=>[]
  | t::ts=>⟨t,[],lookV new t (lookV R t (.sc .nilFunc))⟩::tabD R new ts
def lookO:Heap→Nat→PO→PO
  | [],_,d=>d
  | x::H,i,d=>if x.1=i then x.2 else lookO H i d
def heapD (H new:Heap):List Nat→Heap
  | []=>[]
  | i::hs=>(i,lookO new i (lookO H i (.mp [])))::heapD H new hs
section
variable {P:Program} {E:Env} {N:Nat} {R T:List Ent} {H H0 H':Heap} {U:Upd} {lo top nx:Nat} {a:Act} {w:World} {Q:Exit→Act→World→Prop} {l:List Oper} {id:Nat} {rest:Code}
theorem G (nw:List Ent) (nh:Heap) (nx':Nat) (obs:List Ob) (κ:List (Nat × Bool)) (dr:List Dir) (ts hs:List Nat) (hS:Sat E N R H nx a w) (hE:EnvOk E H0 U lo top) (hob:AllOb obs) (k:∀ a w,Sat E N T H' nx' a w→rest.wp P Q a w)
    (hT:tabD R nw ts=T:=by (simp only [Go.PX.tabD,Go.PX.lookV,Nat.reduceEqDiff,↓reduceIte]; rfl)) (hH:heapD H nh hs=H':=by (simp only [Go.PX.heapD,Go.PX.lookO,Nat.reduceEqDiff,↓reduceIte]; rfl))
    (h0:R.all (fun e=>e.p.isEmpty)=true:=by kernel_rfl) (h:regRun P l κ N dr ts hs R H nx=some (T,H',nx',obs):=by kernel_rfl) (he:regA P l κ N dr R H nx=regB P l κ N dr R H nx:=by kernel_rfl) (ht:Nat.ble nx' top=true:=by kernel_rfl):(Code.seq (Code.region id l.toArray false) rest).wp P Q a w :=
  wp_seq_k fun _ hK=>region_s κ dr ts hs hS h0 h he (hE.le (Nat.le_of_ble_eq_true ht)) hob fun a w q=>hK a w (k a w q)
theorem G0 (nw:List Ent) (nh:Heap) (nx':Nat) (obs:List Ob) (κ:List (Nat × Bool)) (dr:List Dir) (ts hs:List Nat) (hS:Sat E N R H nx a w) (hE:EnvOk E H0 U lo top) (hob:AllOb obs) (k:∀ a w,Sat E N T H' nx' a w→Q .normal a w)
    (hT:tabD R nw ts=T:=by (simp only [Go.PX.tabD,Go.PX.lookV,Nat.reduceEqDiff,↓reduceIte]; rfl)) (hH:heapD H nh hs=H':=by (simp only [Go.PX.heapD,Go.PX.lookO,Nat.reduceEqDiff,↓reduceIte]; rfl))
    (h0:R.all (fun e=>e.p.isEmpty)=true:=by kernel_rfl) (h:regRun P l κ N dr ts hs R H nx=some (T,H',nx',obs):=by kernel_rfl) (he:regA P l κ N dr R H nx=regB P l κ N dr R H nx:=by kernel_rfl) (ht:Nat.ble nx' top=true:=by kernel_rfl):(Code.region id l.toArray false).wp P Q a w :=
  region_s κ dr ts hs hS h0 h he (hE.le (Nat.le_of_ble_eq_true ht)) hob k
theorem D (nw:List Ent) (nh:Heap) (nx':Nat) (obs:List Ob) (κ:List (Nat × Bool)) (dr:List Dir) (ts hs:List Nat) (hS:Sat E N R H nx a w) (hm:P.follows .mixedOrders=true) (hE:EnvOk E H0 U lo top) (hob:AllOb obs) (k:∀ a w,Sat E N T H' nx' a w→rest.wp P Q a w)
    (hT:tabD R nw ts=T:=by (simp only [Go.PX.tabD,Go.PX.lookV,Nat.reduceEqDiff,↓reduceIte]; rfl)) (hH:heapD H nh hs=H':=by (simp only [Go.PX.heapD,Go.PX.lookO,Nat.reduceEqDiff,↓reduceIte]; rfl))
    (h0:R.all (fun e=>e.p.isEmpty)=true:=by kernel_rfl) (h:anyFin P l κ N dr ts hs R H nx=some (T,H',nx',obs):=by kernel_rfl) (he:anyA P l κ N dr R H nx=anyB P l κ N dr R H nx:=by kernel_rfl) (ht:Nat.ble nx' top=true:=by kernel_rfl):(Code.seq (Code.region id l.toArray true) rest).wp P Q a w :=
  wp_seq_k fun _ hK=>region_a κ dr ts hs hS h0 hm h he (hE.le (Nat.le_of_ble_eq_true ht)) hob fun a w q=>hK a w (k a w q)
theorem D0 (nw:List Ent) (nh:Heap) (nx':Nat) (obs:List Ob) (κ:List (Nat × Bool)) (dr:List Dir) (ts hs:List Nat) (hS:Sat E N R H nx a w) (hm:P.follows .mixedOrders=true) (hE:EnvOk E H0 U lo top) (hob:AllOb obs) (k:∀ a w,Sat E N T H' nx' a w→Q .normal a w)
    (hT:tabD R nw ts=T:=by (simp only [Go.PX.tabD,Go.PX.lookV,Nat.reduceEqDiff,↓reduceIte]; rfl)) (hH:heapD H nh hs=H':=by (simp only [Go.PX.heapD,Go.PX.lookO,Nat.reduceEqDiff,↓reduceIte]; rfl))
    (h0:R.all (fun e=>e.p.isEmpty)=true:=by kernel_rfl) (h:anyFin P l κ N dr ts hs R H nx=some (T,H',nx',obs):=by kernel_rfl) (he:anyA P l κ N dr R H nx=anyB P l κ N dr R H nx:=by kernel_rfl) (ht:Nat.ble nx' top=true:=by kernel_rfl):(Code.region id l.toArray true).wp P Q a w :=
  region_a κ dr ts hs hS h0 hm h he (hE.le (Nat.le_of_ble_eq_true ht)) hob k
end

theorem sl {E:Env} {N:Nat} {R T:List Ent} {H:Heap} {nx:Nat} {a:Act} {w:World} (ts:List Nat) (hS:Sat E N R H nx a w) (hT:tabD R [] ts=T:=by (simp only [Go.PX.tabD,Go.PX.lookV,Nat.reduceEqDiff,↓reduceIte]; rfl)) (h:keepR R ts=some T:=by kernel_rfl):Sat E N T H nx a w:=slots ts hS h
theorem fz {E:Env} {N:Nat} {R R':List Ent} {H H':Heap} {nx:Nat} {a:Act} {w:World} (id:Nat) (nw:List Ent) (nh:Heap) (ts hs:List Nat) (obs:List Ob) (hS:Sat E N R H nx a w) (hob:AllOb obs)
    (hT:tabD R nw ts=R':=by (simp only [Go.PX.tabD,Go.PX.lookV,Nat.reduceEqDiff,↓reduceIte]; rfl)) (hH:heapD H nh hs=H':=by (simp only [Go.PX.heapD,Go.PX.lookO,Nat.reduceEqDiff,↓reduceIte]; rfl)) (h:frzRun id R H=some (R',H',obs):=by kernel_rfl):Sat E N R' H' nx a w:=freeze id hS h hob
end Go.PX

/- Proved: a contract over named objects that makes no new names holds at whatever free names. -/
namespace Go.PX
open Go.RowKit Go.SX
end Go.PX

/- Proved: a contract over named objects holds under other names. Program-independent. -/
namespace Go.PX
open Go.RowKit Go.SX
def okU2 (ρ:List (Nat × Nat)) (U:Upd):Upd→List (Option (Option PO) × Option (Option PO))
  | []=>[]
  | x::U'=>(ulook U (rn ρ x.1),some (x.2.map (renO ρ)))::okU2 ρ U U'
theorem okU2_spec {ρ:List (Nat × Nat)} {U:Upd}:∀ {U':Upd},AllEq (okU2 ρ U U')→∀ {id:Nat} {q:Option PO},ulook U' id=some q→ulook U (rn ρ id)=some (q.map (renO ρ))∧id∈U'.map (·.1)
  | [],_,id,q,h=>by simp [ulook] at h
  | x::U',he,id,q,h=>by
    simp only [okU2,AllEq] at he
    simp only [ulook] at h
    cases hb:Nat.beq x.1 id with
    | true=>rw [hb] at h; simp only [cond_true,Option.some.injEq] at h; subst h; obtain rfl:=Nat.eq_of_beq_eq_true hb; exact ⟨he.1,by simp⟩
    | false=>rw [hb] at h; obtain ⟨h1,h2⟩:=okU2_spec he.2 h; exact ⟨h1,List.mem_cons_of_mem _ h2⟩
def asB (ρ ρi:List (Nat × Nat)) (H H':Heap) (U U':Upd) (lo top lo' top':Nat):Bool :=
  (keysH H').all (fun id=>(keysH H).any (Nat.beq (rn ρ id))&&Nat.beq (rn ρi (rn ρ id)) id) &&
  (keysH H).all (fun id=>Nat.beq (rn ρ (rn ρi id)) id&&(Nat.blt id lo||Nat.ble top id)&&((ulook U id).isNone||(ulook U' (rn ρi id)).isSome)) &&
  (U'.map (·.1)).all (fun id=>Nat.beq (rn ρi (rn ρ id)) id&&((keysH H').any (Nat.beq id)||Nat.ble lo' id&&Nat.blt id top'))
theorem con_as {P:Program} {f:FuncId} {args args':List PV} {H H':Heap} {lo top lo' top':Nat} {r r':PV} {U U':Upd} (ρ ρi:List (Nat × Nat)) (h:Con P f args H lo top r U) (ha:renL ρi args=args') (hH:(okH ρi H' H).map (·.1)=(okH ρi H' H).map (·.2)) (hr:ren ρ r'=r)
    (hU:(okU2 ρ U U').map (·.1)=(okU2 ρ U U').map (·.2)) (hi:(idsInL (keysH H) args&&idsH (keysH H) H&&idsIn (keysH H'++keysU U') r'&&idsU (keysH H'++keysU U') U')=true) (hb:asB ρ ρi H H' U U' lo top lo' top'=true):Con P f args' H' lo' top' r' U':=by
  classical
  intro w σ' Z vs hH' hv hfr
  subst ha hr
  simp only [Bool.and_eq_true] at hi
  obtain ⟨⟨⟨i1,i2⟩,i3⟩,i4⟩:=hi
  unfold asB at hb
  simp only [Bool.and_eq_true,List.all_eq_true,Nat.beq_eq,Bool.or_eq_true,Nat.blt_eq,Nat.ble_eq,List.any_eq_true] at hb
  obtain ⟨⟨b1,b2⟩,b3⟩:=hb
  have hat:∀ {id:Nat} {o:PO},hlook H id=some o→hlook H' (rn ρi id)=some (renO ρi o):=okH_spec (allEq_of_map hH)
  have hup:∀ {id:Nat} {q:Option PO},ulook U' id=some q→ulook U (rn ρ id)=some (q.map (renO ρ))∧id∈U'.map (·.1):=okU2_spec (allEq_of_map hU)
  have k1:∀ id∈keysH H',rn ρ id∈keysH H∧rn ρi (rn ρ id)=id:=fun id hid=>by
    obtain ⟨⟨x,q1,q2⟩,q3⟩:=b1 id hid
    exact ⟨q2 ▸ q1,q3⟩
  obtain ⟨σ,hσ⟩:∃ σ:Nm,σ=fun id=>if id∈keysH H then σ' (rn ρi id) else none:=⟨_,rfl⟩
  have s1:∀ id∈keysH H,σ id=σ' (rn ρi id):=fun id hid=>by rw [hσ]; exact if_pos hid
  have s2:∀ id,id ∉ keysH H→σ id=none:=fun id hid=>by rw [hσ]; exact if_neg hid
  have s3:∀ id x,σ id=some x→id∈keysH H∧σ' (rn ρi id)=some x:=fun id x q=>by
    by_cases hid:id∈keysH H
    · exact ⟨hid,by rw [← s1 id hid]; exact q⟩
    · rw [s2 id hid] at q; cases q
  have hS:∀ id,(keysH H).any (Nat.beq id)=true→σ id=σ' (rn ρi id):=fun id q=>s1 id (mem_any q)
  have h0:HR σ Z w H:=by
    refine ⟨fun id o q=>?_,fun id id' o o' b c c' q q' p p'=>?_,fun id o b c q p=>hH'.off _ _ b c (hat q) (s3 id _ p).2,hH'.zlt⟩
    · exact OR.ren hS (s1 id (hlook_key q)) (hH'.at_ _ _ (hat q)) (idsH_spec i2 q)
    · have e:=hH'.inj _ _ _ _ b c c' (hat q) (hat q') (s3 id _ p).2 (s3 id' _ p').2
      have e1:=(b2 id (hlook_key q)).1.1
      have e2:=(b2 id' (hlook_key q')).1.1
      rw [← e1,e,e2]
  refine (h w σ Z vs h0 (hv.ren hS i1) (fun id q q'=>?_)).mono fun e w' ⟨v,σ1,Z',he,h1,h2⟩=>?_
  · by_cases hid:id∈keysH H
    · rcases (b2 id hid).1.2 with q2 | q2 <;> omega
    · exact s2 id hid
  obtain ⟨σ2,hσ2⟩:∃ σ2:Nm,σ2=fun id=>if id∈U'.map (·.1)∧id ∉ keysH H' then σ1 (rn ρ id) else σ' id:=⟨_,rfl⟩
  have t0:∀ id∈U'.map (·.1),id ∉ keysH H'→σ' id=none∧σ2 id=σ1 (rn ρ id):=fun id hid hn=>by
    refine ⟨?_,by rw [hσ2]; exact if_pos ⟨hid,hn⟩⟩
    rcases (b3 id hid).2 with ⟨x,q1,q2⟩ | ⟨q1,q2⟩
    · exact absurd (q2 ▸ q1) hn
    · exact hfr id q1 q2
  have t1:∀ id,id∈keysH H'→σ2 id=σ' id∧σ1 (rn ρ id)=σ' id:=fun id hid=>by
    refine ⟨by rw [hσ2]; exact if_neg fun q=>q.2 hid,?_⟩
    obtain ⟨q1,q2⟩:=k1 id hid
    have q3:=s1 _ q1
    rw [q2] at q3
    cases hs:σ (rn ρ id) with
    | none=>rw [h2.dom _ hs (.inr (keysH_mem q1)),← q3,hs]
    | some x=>rw [h2.ext _ x hs,← q3,hs]
  have t2:∀ id,(id∈keysH H'∨id∈U'.map (·.1))→σ2 id=σ1 (rn ρ id)∧rn ρi (rn ρ id)=id:=fun id hid=>by
    by_cases hk:id∈keysH H'
    · obtain ⟨q1,q2⟩:=t1 id hk; exact ⟨q1.trans q2.symm,(k1 id hk).2⟩
    · rcases hid with hid | hid
      · exact absurd hid hk
      · exact ⟨(t0 id hid hk).2,(b3 id hid).1⟩
  have hS2:∀ id,(keysH H'++keysU U').any (Nat.beq id)=true→σ2 id=σ1 (rn ρ id):=fun id q=>by
    rcases List.mem_append.1 (mem_any q) with q | q
    · exact (t2 id (.inl q)).1
    · exact (t2 id (.inr (List.mem_filter.1 q).1)).1
  have back:∀ i o' b c',ulook U i≠none→hlook H i=some o'→σ i=some (b,c')→∃ i o c,ulook U' i≠none∧hlook H' i=some o∧σ' i=some (b,c):=fun i o' b c' p1 p2 p3=>by
    have hk:=hlook_key p2
    refine ⟨rn ρi i,_,c',fun q=>?_,hat p2,(s3 i _ p3).2⟩
    rcases (b2 i hk).2 with p | p
    · cases hu:ulook U i with
      | none=>exact p1 hu
      | some z=>rw [hu] at p; cases p
    · rw [q] at p; cases p
  refine ⟨v,σ2,Z',he,h1.ren hS2 r' rfl i3,fun id x hx=>?_,fun id q hq=>?_,h2.zmono,fun b q=>?_,h2.chg.mono fun b _ ⟨i,o',c',p1,p2,p3⟩=>back i o' b c' p1 p2 p3,fun id o q=>?_,fun id o b c q k=>?_,fun id id' o o' b c c' q q' k k'=>?_⟩
  · rw [hσ2]
    show (if _ then _ else _)=_
    rw [if_neg fun q=>by rw [(t0 id q.1 q.2).1] at hx; cases hx]; exact hx
  · rw [hσ2]
    show (if _ then _ else _)=_
    split
    · rename_i q1
      rcases hq with hq | hq
      · exfalso
        obtain ⟨⟨x,y⟩,hm,rfl⟩:=List.mem_map.1 q1.1
        have:∀ {U:Upd} {z:Nat × Option PO},z∈U→ulook U z.1≠none:=fun {U z} hz=>by
          clear hq hm q1
          induction U with
          | nil=>cases hz
          | cons u U ih =>
            simp only [ulook]
            cases hb:Nat.beq u.1 z.1 with
            | true=>simp
            | false =>
              rcases List.mem_cons.1 hz with rfl | hz
              · simp at hb
              · exact ih hz
        exact this hm hq
      · exfalso
        cases hz:hlook H' id with
        | none=>exact hq hz
        | some o=>exact q1.2 (hlook_key hz)
    · exact q
  · rcases h2.znew b q with q | q | ⟨i,o',c',p1,p2,p3⟩
    · exact .inl q
    · exact .inr (.inl q)
    · exact .inr (.inr (back i o' b c' p1 p2 p3))
  · obtain ⟨u1,u2⟩:=hup q
    exact OR.ren hS2 (t2 id (.inr u2)).1 (h2.objs _ _ u1) (idsU_spec i4 q)
  · obtain ⟨u1,u2⟩:=hup q
    rw [(t2 id (.inr u2)).1] at k
    obtain ⟨a1,a2⟩:=h2.off _ _ b c u1 k
    refine ⟨a1,a2.imp (fun q=>q) fun ⟨i,o',c',p1,p2,p3⟩=>back i o' b c' p1 p2 p3⟩
  · obtain ⟨u1,u2⟩:=hup q
    obtain ⟨u1',u2'⟩:=hup q'
    obtain ⟨k3,k4⟩:=t2 id (.inr u2)
    obtain ⟨k3',k4'⟩:=t2 id' (.inr u2')
    rw [k3] at k
    rw [k3'] at k'
    have:=h2.inj _ _ _ _ b c c' u1 u1' k k'
    rw [← k4,this,k4']
end Go.PX

/- Proved: a struct that is written no more is read as memory that nobody writes; elements that may be missing. Program-independent. -/
namespace Go.PX
open Go.RowKit Go.SX
section
variable {E:Env} {N:Nat} {R T:List Ent} {H H':Heap} {nx:Nat} {a:Act} {w:World}
theorem fzb {id t off:Nat} {e:TypeId} {xs:List PV} (S ts:List Nat) (hS:Sat E N R H nx a w) (hl:look R t=some ⟨t,[],.ptr id off⟩) (hH:hlook H id=some (.box e xs)) (hp:pures xs=true) (hT:keepR R ts=some T) (hs:restr H S=H') (hid:S.any (Nat.beq id)=false):Sat E N (⟨t,[],.iptr xs off⟩::T) H' nx a w:=by
  obtain ⟨σ,Z,hr⟩:=hS
  obtain ⟨b,c,C,h1,h2,h3,h4⟩:=hr.hr.at_ id _ hH
  have hbl:b<w.heap.size:=(Array.getElem?_eq_some_iff.1 h2).1
  have hz:∀ x,Z x→(Z x∨x=b):=fun x h=>.inl h
  have hc:=Chg.refl (fun _=>False) w
  have hn:∀ x,Z x→¬ False:=fun _ _ h=>h
  have hir:IRs (fun x=>Z x∨x=b) w C xs:=(h4.crs.2 hp).mono hz hc (fun _ _ h=>h)
  subst hs
  refine ⟨σ,fun x=>Z x∨x=b,⟨hr.rs.defers,hr.rs.size,fun t' e' he=>?_⟩,⟨fun i o h=>?_,fun i i' o o' b1 c1 c2 q1 q2 q3 q4=>hr.hr.inj i i' o o' b1 c1 c2 (hlook_restr q1).1 (hlook_restr q2).1 q3 q4,fun i o b1 c1 q1 q2 q3=>?_,fun x h=>?_⟩,fun i q1 q2=>⟨(hr.fr i q1 q2).1,?_⟩,hr.lo,hr.ext,hr.dom,fun i o b1 c1 q1 q2=>hr.own i o b1 c1 (hlook_restr q1).1 q2,hr.chg,fun x h=>?_,fun x h=>.inl (hr.z0 x h)⟩
  · simp only [look] at he
    cases hb:Nat.beq t t' with
    | true =>
      rw [hb] at he; simp only [cond_true,Option.some.injEq] at he; subst he
      obtain rfl:=Nat.eq_of_beq_eq_true hb
      refine ⟨fun _=>?_,fun q=>by cases q⟩
      obtain ⟨u,q1,q2⟩:=(hr.rs.at_ t _ hl).1 rfl
      refine ⟨u,q1,?_⟩
      cases q2 with
      | ptr _ _ b' c' hb' =>
        rw [h1] at hb'; simp only [Option.some.injEq,Prod.mk.injEq] at hb'
        obtain ⟨rfl,rfl⟩:=hb'
        have:=VR.iptr (σ:=σ) (Z:=fun x=>Z x∨x=b) (w:=w) b 0 off xs (fun j=>C.getD j undef) h3 (.inr rfl) (fun j hj=>?_) fun j x hx=>?_
        · rwa [Nat.zero_add] at this
        · have hj':j<C.length:=by rw [h4.1]; exact hj
          rw [Nat.zero_add]
          simp [World.cell?,h2,hj',List.getD]
        · obtain ⟨u',hu,_⟩:=h4.get hx
          have:C.getD j undef=u':=by simp [List.getD,hu]
          rw [this]
          exact hir.2 j u' x hu hx
    | false =>
      rw [hb] at he
      obtain ⟨t2,q1,q2⟩:=keepR_spec hT t' e' he
      have:=(hr.rs.at_ t' _ q1).1 rfl
      refine ⟨fun _=>?_,fun q=>by rw [q2] at q; cases q⟩
      obtain ⟨v,r1,r2⟩:=this
      exact ⟨v,r1,r2.mono (Ext.refl _) hz hc (fun _ _ h=>h)⟩
  · exact (hr.hr.at_ i o (hlook_restr h).1).mono (Ext.refl _) hz hc (fun _ _ h=>h) rfl (fun _ _ _ h=>h)
  · obtain ⟨r1,r2⟩:=hlook_restr q1
    rcases q3 with q3 | q3
    · exact hr.hr.off i o b1 c1 r1 q2 q3
    · subst q3
      have:=hr.hr.inj i id _ _ b1 c1 c r1 hH q2 h1
      subst this
      rw [List.any_eq_false] at hid
      exact hid i r2 (by simp)
  · rcases h with h | rfl
    · exact hr.hr.zlt x h
    · exact hbl
  · cases q:hlook (restr H S) i with
    | none=>rfl
    | some o=>have:=(hlook_restr q).1; rw [(hr.fr i q1 q2).2] at this; cases this
  · rcases h with h | rfl
    · exact hr.zold x h
    · exact .inr (hr.own id _ x c hH h1)
/-- a slot that holds a value told exactly reads as the ghost tells -/
theorem reslot_g {t g:Nat} {v:Value} {x:PV} (hS:Sat E N R H nx a w) (hl:look R t=some ⟨t,[],.sc v⟩) (hg:hlook H g=some (.ty v x)):Sat E N (⟨t,[],x⟩::R) H nx a w:=by
  obtain ⟨σ,Z,hr⟩:=hS
  refine ⟨σ,Z,hr.rs' ⟨hr.rs.defers,hr.rs.size,fun t' e he=>?_⟩⟩
  simp only [look] at he
  cases hb:Nat.beq t t' with
  | true =>
    rw [hb] at he; simp only [cond_true,Option.some.injEq] at he; subst he
    obtain rfl:=Nat.eq_of_beq_eq_true hb
    refine ⟨fun hp=>?_,fun q=>by cases q⟩
    obtain ⟨u,q1,q2⟩:=(hr.rs.at_ t _ hl).1 rfl
    cases q2
    exact ⟨_,q1,(hr.hr.at_ g _ hg).2.2⟩
  | false=>rw [hb] at he; exact hr.rs.at_ t' e he
theorem seq_cutq {P:Program} {Q:Exit→Act→World→Prop} {x y:Code} (X:Prop) (hx:x.wp P (Exit.then (fun a w=>X∧Sat E N T H nx a w) Q) a w) (hy:X→∀ a w,Sat E N T H nx a w→y.wp P Q a w):(Code.seq x y).wp P Q a w :=
  SX.seq_cut (fun a w=>X∧Sat E N T H nx a w) hx fun a w ⟨h1,h2⟩=>hy h1 a w h2
end
end Go.PX
namespace Go.Proofs.Ytlkcidmmpeebeaa
open Go.RowKit Go.PX
/-- slices that lie in memory have bounded lengths -/
structure BlkL (b:BlockD):Prop where
  ops:b.ops.length≤140737488351232
  args:b.term.args.length≤140737488351232
  args0:b.term.args0.length≤140737488351232
  args1:b.term.args1.length≤140737488351232
structure CodeL (c:CodeD):Prop where
  blocks:c.blocks.length≤140737488351232
  ctx:c.contexts.length≤140737488351232
  obj:c.objects.length≤140737488351232
  blk:∀ b∈c.blocks,BlkL b
theorem ir_len {Z:Nat→Prop} {w:World} {v:Value} {sz:Nat} {rows:List (List PV)} (h:IR Z w v (.imm sz rows)):rows.length≤140737488351232:=by
  cases h with | imm _ _ _ _ _ h1=>exact h1.2
theorem codeL_of {σ:Nm} {Z:Nat→Prop} {w:World} {v:Value} {c:CodeD} (h:VR σ Z w v (codeP c)):CodeL c:=by
  obtain ⟨l,rfl,g⟩:=h.agg_inv
  obtain ⟨u0,l,rfl,_,g⟩:=g.inv
  obtain ⟨u1,l,rfl,h1,g⟩:=g.inv
  obtain ⟨u2,l,rfl,h2,g⟩:=g.inv
  obtain ⟨u3,l,rfl,h3,g⟩:=g.inv
  refine ⟨by simpa using ir_len h1.imm_inv,by simpa using ir_len h2.imm_inv,by simpa using ir_len h3.imm_inv,fun b hb=>?_⟩
  obtain ⟨k,hk⟩:=List.getElem?_of_mem hb
  have hi:=h1.imm_inv
  cases hi with
  | imm A cap _ _ U q1 q2 q3 q4 =>
    have hr:(c.blocks.map encB)[k]?=some (encB b):=PX.map_get hk
    have e:=fun i x hx=>q4 k _ i x hr hx
    exact ⟨by simpa using ir_len (e 1 _ rfl),by simpa using ir_len (e 5 _ rfl),by simpa using ir_len (e 7 _ rfl),by simpa using ir_len (e 9 _ rfl)⟩
theorem con_len {P:Program} {f:FuncId} {c:CodeD} {l:List PV} {H:Heap} {lo top:Nat} {r:PV} {U:Upd} (h:CodeL c→Con P f (codeP c::l) H lo top r U):Con P f (codeP c::l) H lo top r U:=fun w σ Z vs hH hv hfr=>by
  obtain ⟨u,l',rfl,h1,_⟩:=hv.inv
  exact h (codeL_of h1) w σ Z _ hH hv hfr
theorem get_if (l:List BlockD) (k:Nat):∃ x:BlockD,k<l.length→l[k]?=some x:=by
  by_cases h:k<l.length
  · exact ⟨l[k],fun _=>List.getElem?_eq_getElem h⟩
  · exact ⟨⟨0,[],⟨0,0,0,[],0,[],0,[]⟩⟩,fun q=>absurd q h⟩
theorem get_ifR (l:List (Int × Int × Int)) (k:Nat):∃ x:Int × Int × Int,k<l.length→l[k]?=some x:=by
  by_cases h:k<l.length
  · exact ⟨l[k],fun _=>List.getElem?_eq_getElem h⟩
  · exact ⟨(0,0,0),fun q=>absurd q h⟩
def iv (D:List (Int × Int)):List (Int × Value):=D.map fun p=>(p.1,.int .i64 p.2)
theorem len_eq0 {α:Type} (l:List α):(((l.length:Nat):Int)==0)=(l.length==0):=by rw [Bool.eq_iff_iff]; simp
end Go.Proofs.Ytlkcidmmpeebeaa

/- Proved: slices.Clone from its two walks (a nil slice,another one): the copy as a row of the table,the copy as memory that nobody writes. Program-independent. -/
namespace Go.PX
open Go.RowKit Go.SX
section
variable {P:Program} {f:FuncId} {sz:Nat} {e:TypeId} {rows:List (List PV)}
theorem hr_none {Z:Nat→Prop} {w:World} (hz:∀ b,Z b→b<w.heap.size):HR (fun _=>none) Z w [] :=
  ⟨fun id o h=>(nomatch h),fun id id' o o' b c c' h=>(nomatch h),fun id o b c h=>(nomatch h),hz⟩
theorem clone_own (hl:rows.length≤1000000000) (hro:rowsOk sz rows) (hsome:∀ ad n cp,Con P f [.sc (.slice (some ad) n cp)] [(1,.ty (.slice (some ad) n cp) (.imm sz rows))] 2 100000 (.own 3 sz rows.length) [(1,none),(3,some (.row e sz true rows))])
    (hnil:Con P f [.sc (.slice none 0 0)] [] 1 100000 (.sc (.slice none 0 0)) []) (lo:Nat):Con P f [.imm sz rows] [] lo (lo+1) (.own lo sz rows.length) [(lo,some (.row e sz true rows))]:=by
  intro w σ Z vs hH hv hfr
  obtain ⟨v,l,rfl,h1,h2⟩:=hv.inv
  obtain rfl:=h2.inv0
  have h1':=h1.imm_inv
  have hs1:σ lo=none:=hfr lo (Nat.le_refl _) (Nat.lt_succ_self _)
  have ul:∀ id o,ulook [(lo,some (PO.row e sz true rows))] id=some (some o)→id=lo∧o=.row e sz true rows:=fun id o h=>by
    simp only [ulook] at h
    cases hb:Nat.beq lo id with
    | true=>rw [hb] at h; simp at h; exact ⟨(Nat.eq_of_beq_eq_true hb).symm,h.symm⟩
    | false=>rw [hb] at h; cases h
  have ulo:ulook [(lo,some (PO.row e sz true rows))] lo=some (some (.row e sz true rows)):=by simp [ulook]
  have key:∀ (v':Value) (w':World) (Z':Nat→Prop) (q:Option (Nat × Nat)),(∀ b,Z b→Z' b)→(∀ b,Z' b→Z b∨(w.heap.size≤b∧b<w'.heap.size))→Chg (fun _=>False) w w' →
      (∀ τ:Nm,τ lo=q→OR τ Z' w' lo (.row e sz true rows)∧VR τ Z' w' v' (.own lo sz rows.length))→(∀ b c,q=some (b,c)→¬ Z' b∧w.heap.size≤b) →
      ∃ v σ' Z',Ending.returned v'=.returned v∧VR σ' Z' w' v (.own lo sz rows.length)∧Eff σ Z w [] [(lo,some (.row e sz true rows))] σ' Z' w':=fun v' w' Z' q hz hzn hc ho hb=>by
    obtain ⟨τ,hτ⟩:∃ τ:Nm,τ=fun id=>if id=lo then q else σ id:=⟨_,rfl⟩
    have t1:τ lo=q:=by rw [hτ]; simp
    have t2:∀ id,id≠lo→τ id=σ id:=fun id h=>by rw [hτ]; simp [h]
    obtain ⟨k1,k2⟩:=ho τ t1
    refine ⟨v',τ,Z',rfl,k2,fun id x hx=>?_,fun id h0 h=>?_,hz,fun b h=>(hzn b h).imp id .inl,hc.mono fun b _ h=>h.elim,fun id o h=>?_,fun id o b c h h'=>?_,fun id id' o o' b c c' h h' _ _=>by rw [(ul id o h).1,(ul id' o' h').1]⟩
    · rw [t2 id (by rintro rfl; rw [hs1] at hx; cases hx)]; exact hx
    · by_cases e':id=lo
      · subst e'
        rcases h with h | h
        · rw [ulo] at h; cases h
        · exact absurd rfl h
      · rw [t2 id e']; exact h0
    · obtain ⟨rfl,rfl⟩:=ul id o h; exact k1
    · obtain ⟨rfl,rfl⟩:=ul id o h
      rw [t1] at h'
      obtain ⟨p1,p2⟩:=hb b c h'
      exact ⟨p1,.inl p2⟩
  have hz0:=hr_none (Z:=Z) (w:=w) hH.zlt
  obtain ⟨A,n,cp,rfl,hn⟩:∃ A n cp,v=.slice A n cp∧(A=none→v=.slice none 0 0∧rows=[]):=by
    cases h1' with
    | imm A cap _ _ U q1 q2 q3 q4=>exact ⟨A,_,cap,rfl,fun h=>by
        have h0:=q2.2 h
        have:rows.length=0:=by omega
        subst h h0
        rw [this]
        exact ⟨rfl,List.length_eq_zero_iff.1 this⟩⟩
  cases A with
  | none =>
    obtain ⟨e1,e2⟩:=hn rfl
    rw [e1]
    refine (hnil w (fun _=>none) Z [.slice none 0 0] hz0 (.cons (.sc _ rfl) .nil) (fun _ _ _=>rfl)).mono ?_
    rintro en w' ⟨v',σ',Z',rfl,hv',he⟩
    obtain rfl:=hv'.sc_inv
    subst e2
    refine key _ w' Z' none he.zmono (fun b hb=>?_) (he.chg.mono fun b _ ⟨_,_,_,h,_⟩=>absurd rfl h) (fun τ ht=>⟨⟨hro,⟨by simp,fun q=>absurd rfl q⟩,fun b c hb=>by rw [ht] at hb; cases hb⟩,.own0 lo sz⟩) (fun b c h=>by cases h)
    rcases he.znew b hb with h | h | ⟨_,_,_,h,_⟩
    · exact .inl h
    · exact .inr h
    · exact absurd rfl h
  | some ad =>
    refine (hsome ad n cp w (fun _=>none) Z [.slice (some ad) n cp] ⟨fun id o h=>?_,fun id id' o o' b c c' _ _ h=>(by cases h),fun id o b c _ h=>(by cases h),hH.zlt⟩ (.cons (.sc _ rfl) .nil) (fun _ _ _=>rfl)).mono ?_
    · simp only [hlook] at h
      cases hb:Nat.beq 1 id with
      | false=>rw [hb] at h; cases h
      | true =>
        rw [hb] at h; simp only [cond_true,Option.some.injEq] at h; subst h
        exact ⟨rfl,rfl,h1'.vr⟩
    rintro en w' ⟨v',σ',Z',rfl,hv',he⟩
    refine key _ w' Z' (σ' 3) he.zmono (fun b hb=>?_) (he.chg.mono fun b _ ⟨_,_,_,_,_,h⟩=>(by cases h)) (fun τ ht=>?_) (fun b c h=>?_)
    · rcases he.znew b hb with q | q | ⟨_,_,_,_,_,h⟩
      · exact .inl q
      · exact .inr q
      · cases h
    · obtain ⟨r1,r2,r3⟩:=he.objs 3 _ rfl
      refine ⟨⟨r1,⟨r2.1,fun q=>by rw [ht]; exact r2.2 q⟩,fun b c hb=>?_⟩,?_⟩
      · rw [ht] at hb
        obtain ⟨C,q1,q2,q3,q4,q5⟩:=r3 b c hb
        exact ⟨C,q1,q2,q3,q4,(q5.2 rfl).vrs,fun _=>q5.2 rfl⟩
      · generalize rows.length=m at hv'
        cases hv' with
        | own _ _ _ b c hb=>exact .own lo sz _ b c (ht.trans hb)
        | own0=>exact .own0 lo sz
    · obtain ⟨q1,q2⟩:=he.off 3 _ b c rfl h
      refine ⟨q1,?_⟩
      rcases q2 with q2 | ⟨_,_,_,_,_,h⟩
      · exact q2
      · cases h
theorem clone_imm (h:Con P f [.imm sz rows] [] 1 2 (.own 1 sz rows.length) [(1,some (.row e sz true rows))]) (lo top:Nat):Con P f [.imm sz rows] [] lo top (.imm sz rows) []:=by
  intro w σ Z vs hH hv hfr
  refine (h w (fun _=>none) Z vs (hr_none hH.zlt) (hv.restrict (S:=[]) (fun id q=>by simp at q) rfl) (fun _ _ _=>rfl)).mono ?_
  rintro en w' ⟨v',σ',Z',rfl,hv',he⟩
  have ho:=he.objs 1 _ rfl
  have hzn:∀ b,Z' b→Z b∨(w.heap.size≤b∧b<w'.heap.size):=fun b hb=>by
    rcases he.znew b hb with q | q | ⟨_,_,_,_,h,_⟩
    · exact .inl q
    · exact .inr q
    · cases h
  have hc:Chg (fun _=>False) w w':=he.chg.mono fun b _ ⟨_,_,_,_,h,_⟩=>(by cases h)
  refine ⟨v',σ,fun b=>Z' b∨∃ c,σ' 1=some (b,c),rfl,?_,Ext.refl σ,fun _ h _=>h,fun b h=>.inl (he.zmono b h),fun b hb=>?_,hc.mono fun b _ h=>h.elim,fun id o q=>by simp [ulook] at q,fun id o b c q=>by simp [ulook] at q,fun id id' o o' b c c' q=>by simp [ulook] at q⟩
  · have hm:=ho.mono (Ext.refl σ') (Z':=fun b=>Z' b∨∃ c,σ' 1=some (b,c)) (fun b h=>.inl h) (Chg.refl (fun _=>False) w') (fun _ _ q=>q) rfl (fun _ _ _ q=>q)
    generalize hn:rows.length=m at hv'
    cases hv' with
    | own _ _ _ b c hb=>subst hn; exact .imm _ sz rows (row_imm hm hb (.inr ⟨c,hb⟩))
    | own0 =>
      obtain rfl:rows=[]:=List.length_eq_zero_iff.1 hn
      exact .imm _ sz [] (.imm none 0 sz [] (fun _ _=>undef) ⟨Nat.le_refl _,by simp⟩ ⟨by omega,fun _=>rfl⟩ (fun k row h=>by simp at h) (fun k row i x h=>by simp at h))
  · rcases hb with h | ⟨c,h⟩
    · exact (hzn b h).imp id .inl
    · refine .inr (.inl ⟨?_,ho.lt h⟩)
      rcases (he.off 1 _ b c rfl h).2 with q | ⟨_,_,_,_,h,_⟩
      · exact q
      · cases h
end
end Go.PX
