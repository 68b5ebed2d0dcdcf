/- Proved: blocks whose slices are memory of their own (Deep): how they are opened,closed,kept,and read as data that nobody writes. -/
import Derived.Test.YtlkcidmmpeebeaaMgN
import Derived.Test.YtlkcidmmpeebeaaUseR
import Derived.Test.YtlkcidmmpeebeaaPcP
set_option linter.unusedVariables false
set_option linter.unusedSimpArgs false
namespace Go.Proofs.Ytlkcidmmpeebeaa
open Go.RowKit Go.PX

def fldV (y:VB):Nat→Value
  | 0=>y.ops
  | 1=>y.args
  | 2=>y.a0
  | _=>y.a1
def fldR (d:BlockD):Nat→List (List PV)
  | 0=>d.ops.map encO
  | 1=>d.term.args.map encI
  | 2=>d.term.args0.map encI
  | _=>d.term.args1.map encI
def fldE:Nat→Nat
  | 0=>74
  | _=>3
def fldS:Nat→Nat
  | 0=>11
  | _=>1
def capOf:Value→Option (Nat × Nat)
  | .slice (some a) _ c=>some (a.block,c)
  | _=>none
def blkOf (v:Value):Option Nat:=(capOf v).map (·.1)
/-- a slice that is a whole row of memory -/
def RowIs (w:World) (v:Value) (e sz:Nat) (rows:List (List PV)):Prop :=
  (v=.slice none 0 0∧rows=[])∨∃ b c C,v=.slice (some ⟨b,0,none⟩) rows.length c∧w.heap[b]?=some (.cells (C:List Value).toArray e (0,0))∧C.length=c*sz∧rows.length≤c∧c≤9223372036854775807∧rows.flatten=(C.take (rows.length*sz)).map PV.sc
theorem RowIs.lt {w:World} {v:Value} {e sz:Nat} {rows:List (List PV)} (h:RowIs w v e sz rows) {b:Nat} (hb:blkOf v=some b):b<w.heap.size:=by
  rcases h with ⟨rfl,_⟩ | ⟨b',c,C,rfl,h2,_⟩
  · cases hb
  · simp only [blkOf,capOf,Option.map_some,Option.some.injEq] at hb; subst hb
    exact (Array.getElem?_eq_some_iff.1 h2).1
theorem RowIs.keep {w w':World} {v:Value} {e sz:Nat} {rows:List (List PV)} (h:RowIs w v e sz rows) (hw:∀ b,blkOf v=some b→w'.heap[b]?=w.heap[b]?):RowIs w' v e sz rows:=by
  rcases h with h | ⟨b,c,C,rfl,h2,h3⟩
  · exact .inl h
  · exact .inr ⟨b,c,C,rfl,(hw b rfl).trans h2,h3⟩
/-- all cells are plain values -/
def allSc:List PV→Bool
  | []=>true
  | .sc v::l=>scOk v&&allSc l
  | _::_=>false
theorem allSc_app:∀ {a b:List PV},allSc a=true→allSc b=true→allSc (a++b)=true
  | [],b,_,h=>h
  | x::a,b,h1,h2=>by
    cases x with
    | sc v=>simp only [allSc,Bool.and_eq_true,List.cons_append] at h1 ⊢; exact ⟨h1.1,allSc_app h1.2 h2⟩
    | _=>cases h1
theorem allSc_vals {σ:Nm} {Z:Nat→Prop} {w:World}:∀ {l:List Value} {xs:List PV},allSc xs=true→VRs σ Z w l xs→xs=l.map PV.sc
  | l,[],_,h=>by have:=h.1; simp at this; subst this; rfl
  | l,x::xs,ha,h=>by
    obtain ⟨u,l',rfl,h1,h2⟩:=h.inv
    cases x with
    | sc v =>
      simp only [allSc,Bool.and_eq_true] at ha
      cases h1
      rw [List.map_cons,← allSc_vals ha.2 h2]
    | _=>cases ha
theorem allSc_irs {Z:Nat→Prop} {w:World} {l:List Value} (ha:allSc (l.map PV.sc)=true):IRs Z w l (l.map PV.sc):=by
  refine ⟨by simp,fun i u x hu hx=>?_⟩
  rw [List.getElem?_map,hu] at hx
  simp only [Option.map_some,Option.some.injEq] at hx
  subst hx
  refine .sc u ?_
  clear w Z
  induction l generalizing i with
  | nil=>simp at hu
  | cons y l ih =>
    simp only [List.map_cons,allSc,Bool.and_eq_true] at ha
    cases i with
    | zero=>simp only [List.getElem?_cons_zero,Option.some.injEq] at hu; subst hu; exact ha.1
    | succ i=>exact ih ha.2 i (by simpa using hu)
theorem sc_ops (l:List OpD):allSc (l.map encO).flatten=true:=by
  induction l with
  | nil=>rfl
  | cons o l ih=>rw [List.map_cons,List.flatten_cons]; exact allSc_app rfl ih
theorem sc_ints (l:List Int):allSc (l.map encI).flatten=true:=by
  induction l with
  | nil=>rfl
  | cons o l ih=>rw [List.map_cons,List.flatten_cons]; exact allSc_app rfl ih
theorem fld_sc (d:BlockD) (j:Nat):allSc (fldR d j).flatten=true:=by
  match j with
  | 0=>exact sc_ops _
  | 1=>exact sc_ints _
  | 2=>exact sc_ints _
  | _+3=>exact sc_ints _
theorem fld_ok (d:BlockD) (j:Nat):rowsOk (fldS j) (fldR d j):=by
  have hI:∀ l:List Int,rowsOk 1 (l.map encI):=fun l r hr=>by
    obtain ⟨x,_,rfl⟩:=List.mem_map.1 hr; exact ⟨rfl,rfl⟩
  match j with
  | 0 =>
    intro r hr
    obtain ⟨x,_,rfl⟩:=List.mem_map.1 hr; exact ⟨rfl,rfl⟩
  | 1=>exact hI _
  | 2=>exact hI _
  | _+3=>exact hI _
/-- opened: the row as an object of the table -/
theorem RowIs.obj {w:World} {v:Value} {e sz:Nat} {rows:List (List PV)} (h:RowIs w v e sz rows) (ho:rowsOk sz rows) (hs:allSc rows.flatten=true) (hl:rows.length≤1000000000) {σ:Nm} {Z:Nat→Prop} {id:Nat} (hσ:σ id=capOf v):OR σ Z w id (.row e sz true rows)∧VR σ Z w v (.own id sz rows.length):=by
  rcases h with ⟨rfl,rfl⟩ | ⟨b,c,C,rfl,h2,h3,h4,h5,h6⟩
  · exact ⟨⟨ho,⟨hl,fun q=>absurd rfl q⟩,fun b c hb=>by rw [hσ] at hb; cases hb⟩,.own0 id sz⟩
  · refine ⟨⟨ho,⟨hl,fun _=>by rw [hσ]; simp [capOf]⟩,fun b' c' hb=>?_⟩,.own id sz _ b c hσ⟩
    rw [hσ] at hb
    simp only [capOf,Option.some.injEq,Prod.mk.injEq] at hb
    obtain ⟨rfl,rfl⟩:=hb
    refine ⟨C,h2,h3,h4,h5,?_⟩
    rw [h6] at hs ⊢
    have:=allSc_irs (Z:=Z) (w:=w) hs
    exact ⟨this.vrs,fun _=>this⟩
/-- closed again -/
theorem RowIs.of {w:World} {v:Value} {e sz n:Nat} {pu:Bool} {rows:List (List PV)} {σ:Nm} {Z:Nat→Prop} {id:Nat} (h:OR σ Z w id (.row e sz pu rows)) (hv:VR σ Z w v (.own id sz n)) (hn:n=rows.length) (hs:allSc rows.flatten=true):RowIs w v e sz rows∧∀ b,blkOf v=some b→∃ c,σ id=some (b,c):=by
  subst hn
  generalize hn:rows.length=n at hv
  cases hv with
  | own _ _ _ b c hb =>
    subst hn
    obtain ⟨C,h1,h2,h3,h4,h5⟩:=h.2.2 b c hb
    refine ⟨.inr ⟨b,c,C,rfl,h1,h2,h3,h4,allSc_vals hs h5.1⟩,fun b' hb'=>?_⟩
    simp only [blkOf,capOf,Option.map_some,Option.some.injEq] at hb'; subst hb'
    exact ⟨c,hb⟩
  | own0=>exact ⟨.inl ⟨rfl,List.length_eq_zero_iff.1 hn⟩,fun b hb=>by cases hb⟩
/-- read as a slice that nobody writes -/
theorem RowIs.imm {w:World} {v:Value} {e sz:Nat} {rows:List (List PV)} (h:RowIs w v e sz rows) (ho:rowsOk sz rows) (hs:allSc rows.flatten=true) (hl:rows.length≤1000000000) {Z:Nat→Prop} (hz:∀ b,blkOf v=some b→Z b):IR Z w v (.imm sz rows):=by
  obtain ⟨q1,q2⟩:=h.obj ho hs hl (σ:=fun _=>capOf v) (Z:=Z) (id:=0) rfl
  rcases h with ⟨rfl,rfl⟩ | ⟨b,c,C,rfl,_⟩
  · exact .imm none 0 sz [] (fun _ _=>undef) ⟨Nat.le_refl _,by simp⟩ ⟨by omega,fun _=>rfl⟩ (fun k row hr=>by simp at hr) (fun k row i x hr=>by simp at hr)
  · exact row_imm (id:=0) (c:=c) q1 rfl (hz b rfl)

structure Deep (w:World) (ys:List VB) (bs:List BlockD):Prop where
  len:ys.length=bs.length
  at_:∀ (k:Nat) (y:VB) (d:BlockD),ys[k]?=some y→bs[k]?=some d→y=mkV d y.ops y.args y.a0 y.a1∧∀ j,j<4→RowIs w (fldV y j) (fldE j) (fldS j) (fldR d j)
  inj:∀ (k k' j j':Nat) (y y':VB) (b:Nat),ys[k]?=some y→ys[k']?=some y'→j<4→j'<4→blkOf (fldV y j)=some b→blkOf (fldV y' j')=some b→k=k'∧j=j'
def DB (ys:List VB) (b:Nat):Prop:=∃ (k:Nat) (y:VB) (j:Nat),ys[k]?=some y∧j<4∧blkOf (fldV y j)=some b
theorem Deep.get {w:World} {ys:List VB} {bs:List BlockD} (h:Deep w ys bs) {k:Nat} {d:BlockD} (hd:bs[k]?=some d):∃ y,ys[k]?=some y:=by
  have:=(List.getElem?_eq_some_iff.1 hd).1
  exact ⟨ys[k]'(by rw [h.len]; exact this),List.getElem?_eq_getElem _⟩
theorem Deep.get' {w:World} {ys:List VB} {bs:List BlockD} (h:Deep w ys bs) {k:Nat} {y:VB} (hd:ys[k]?=some y):∃ d,bs[k]?=some d:=by
  have:=(List.getElem?_eq_some_iff.1 hd).1
  exact ⟨bs[k]'(by rw [← h.len]; exact this),List.getElem?_eq_getElem _⟩
theorem Deep.lt {w:World} {ys:List VB} {bs:List BlockD} (h:Deep w ys bs) {b:Nat} (hb:DB ys b):b<w.heap.size:=by
  obtain ⟨k,y,j,h1,h2,h3⟩:=hb
  obtain ⟨d,hd⟩:=h.get' h1
  exact ((h.at_ k y d h1 hd).2 j h2).lt h3
theorem Deep.keep {w w':World} {ys:List VB} {bs:List BlockD} (h:Deep w ys bs) (hw:∀ b,DB ys b→w'.heap[b]?=w.heap[b]?):Deep w' ys bs :=
  ⟨h.len,fun k y d h1 h2=>⟨(h.at_ k y d h1 h2).1,fun j hj=>((h.at_ k y d h1 h2).2 j hj).keep fun b hb=>hw b ⟨k,y,j,h1,hj,hb⟩⟩,h.inj⟩
/-- the blocks lie apart from the table -/
structure DS (E:Env) (H:Heap) (σ:Nm) (Z:Nat→Prop) (w:World) (ys:List VB) (bs:List BlockD):Prop where
  deep:Deep w ys bs
  sep:∀ b,DB ys b→E.w0.heap.size≤b∧¬ Z b∧∀ id o c,hlook H id=some o→σ id≠some (b,c)
section
variable {E:Env} {N N':Nat} {κ κ':List (Nat × Bool)} {R R':List Ent} {H H':Heap} {nx nx':Nat} {σ σ':Nm} {Z Z':Nat→Prop} {a a':Act} {w w':World} {ys:List VB} {bs:List BlockD}
/-- a walk over the table leaves the blocks as they are -/
theorem DS.step (h:DS E H σ Z w ys bs) (k:Rel (E.nest H nx σ Z w) N' κ' R' H' nx' σ' Z' a' w'):DS E H' σ' Z' w' ys bs:=by
  have hn:∀ b,DB ys b→¬ (E.nest H nx σ Z w).Wr b:=fun b hb q=>by
    obtain ⟨i,o',c',q1,q2⟩:=nest_wr q
    exact (h.sep b hb).2.2 i o' c' q1 q2
  refine ⟨h.deep.keep fun b hb=>k.chg.block b (h.deep.lt hb) (hn b hb),fun b hb=>⟨(h.sep b hb).1,fun hz=>?_,fun id o c h1 h2=>?_⟩⟩
  · rcases k.zold b hz with q | q | q
    · exact (h.sep b hb).2.1 q
    · have:=h.deep.lt hb; change w.heap.size≤b at q; omega
    · exact hn b hb q
  · rcases k.own id o b c h1 h2 with q | q
    · have:=h.deep.lt hb; change w.heap.size≤b at q; omega
    · exact hn b hb q
end
/-- the row of the blocks,and what lies behind it,read as data that nobody writes -/
theorem deep_imm {σ:Nm} {Z Z':Nat→Prop} {w:World} {H:Heap} (hH:HR σ Z w H) {ys:List VB} {bs:List BlockD} (hd:Deep w ys bs) {iB:Nat} {pu:Bool} (hB:hlook H iB=some (.row 62 10 pu (ys.map encV))) (hZ:∀ b,DB ys b→Z' b) (hZB:∀ b c,σ iB=some (b,c)→Z' b)
    (hl:∀ (k:Nat) (d:BlockD),bs[k]?=some d→∀ j,j<4→(fldR d j).length≤1000000000) {v:Value} (hv:VR σ Z w v (.own iB 10 bs.length)):IR Z' w v (.imm 10 (bs.map encB)):=by
  have hlen:(bs.map encB).length=bs.length:=by simp
  generalize hn:bs.length=n at hv
  cases hv with
  | own0 =>
    obtain rfl:bs=[]:=List.length_eq_zero_iff.1 hn
    exact .imm none 0 10 [] (fun _ _=>undef) ⟨Nat.le_refl _,by simp⟩ ⟨by omega,fun _=>rfl⟩ (fun k row hr=>by simp at hr) (fun k row i x hr=>by simp at hr)
  | own _ _ _ b c hb =>
    subst hn
    obtain ⟨h1,h2,h3⟩:=hH.at_ _ _ hB
    obtain ⟨C,q1,q2,q3,q4,q5⟩:=h3 b c hb
    rw [List.length_map,hd.len] at q3 h2
    have key:∀ (k:Nat) (row:List PV),(bs.map encB)[k]?=some row→∃ d y,bs[k]?=some d∧ys[k]?=some y∧row=encB d:=fun k row hr=>by
      rw [List.getElem?_map] at hr
      obtain ⟨d,hd',rfl⟩:=Option.map_eq_some_iff.1 hr
      obtain ⟨y,hy⟩:=hd.get hd'
      exact ⟨d,y,hd',hy,rfl⟩
    rw [← hlen]
    refine .imm _ c 10 (bs.map encB) (fun k i=>match ys[k]? with | some y=>((valV y)[i]?).getD undef | none=>undef) ⟨by rw [hlen]; exact q3,by rw [hlen]; omega⟩ ⟨q4,fun q=>by cases q⟩ (fun k row hr=>?_) (fun k row i x hr hx=>?_)
    · obtain ⟨d,y,e1,e2,rfl⟩:=key k row hr
      refine ⟨rfl,rfl,b,0,rfl,hZB b c hb,fun i hi=>?_⟩
      obtain ⟨r1,_⟩:=row_cells hH hB hb (PX.map_get e2)
      have hi':i<(valV y).length:=hi
      simp only [e2,List.getElem?_eq_getElem hi',Option.getD_some]
      have:=r1 i _ (List.getElem?_eq_getElem hi')
      rwa [show 0+k*10+i=k*10+i by omega]
    · obtain ⟨d,y,e1,e2,rfl⟩:=key k row hr
      obtain ⟨ey,hrow⟩:=hd.at_ k y d e2 e1
      have him:∀ j,j<4→IR Z' w (fldV y j) (.imm (fldS j) (fldR d j)):=fun j hj=>(hrow j hj).imm (fld_ok d j) (fld_sc d j) (hl k d e1 j hj) fun b' hb'=>hZ b' ⟨k,y,j,e2,hj,hb'⟩
      simp only [e2]
      have h0:=him 0 (by omega)
      have h1:=him 1 (by omega)
      have h2:=him 2 (by omega)
      have h3:=him 3 (by omega)
      match i,hx with
      | 0,hx=>simp only [encB,List.getElem?_cons_zero,Option.some.injEq] at hx; subst hx; rw [ey]; exact .sc _ rfl
      | 1,hx=>simp only [encB,List.getElem?_cons_zero,List.getElem?_cons_succ,Option.some.injEq] at hx; subst hx; exact h0
      | 2,hx=>simp only [encB,List.getElem?_cons_zero,List.getElem?_cons_succ,Option.some.injEq] at hx; subst hx; rw [ey]; exact .sc _ rfl
      | 3,hx=>simp only [encB,List.getElem?_cons_zero,List.getElem?_cons_succ,Option.some.injEq] at hx; subst hx; rw [ey]; exact .sc _ rfl
      | 4,hx=>simp only [encB,List.getElem?_cons_zero,List.getElem?_cons_succ,Option.some.injEq] at hx; subst hx; rw [ey]; exact .sc _ rfl
      | 5,hx=>simp only [encB,List.getElem?_cons_zero,List.getElem?_cons_succ,Option.some.injEq] at hx; subst hx; exact h1
      | 6,hx=>simp only [encB,List.getElem?_cons_zero,List.getElem?_cons_succ,Option.some.injEq] at hx; subst hx; rw [ey]; exact .sc _ rfl
      | 7,hx=>simp only [encB,List.getElem?_cons_zero,List.getElem?_cons_succ,Option.some.injEq] at hx; subst hx; exact h2
      | 8,hx=>simp only [encB,List.getElem?_cons_zero,List.getElem?_cons_succ,Option.some.injEq] at hx; subst hx; rw [ey]; exact .sc _ rfl
      | 9,hx=>simp only [encB,List.getElem?_cons_zero,List.getElem?_cons_succ,Option.some.injEq] at hx; subst hx; exact h3
      | i+10,hx=>simp [encB] at hx
end Go.Proofs.Ytlkcidmmpeebeaa
