/- Proved: values and memory as plain data,how they are read in a world,and what stays as it is when the world changes elsewhere. Program-independent. -/
import Derived.Test.YtlkcidmmpeebeaaSx
import Derived.Laws.Cells
import Derived.Laws.CopyRow
import Derived.Maps.AppendAt
set_option linter.unusedVariables false
set_option linter.unusedSimpArgs false
namespace Go.PX
open Go.RowKit Go.SX

/-- a value as plain data: sc: a value without addresses; ptr,rptr: a pointer into a block of the table; own: a slice that is a whole row of the table; imm: a slice that nobody writes,element by element; iptr: a pointer into an element of such a slice -/
inductive PV where
  | sc (v:Value)
  | ptr (id off:Nat)
  | rptr (id sz k i:Nat)
  | own (id sz len:Nat)
  | imm (sz:Nat) (rows:List (List PV))
  | iptr (row:List PV) (off:Nat)
  | agg (xs:List PV)
  | tup (xs:List PV)
  | map (id:Nat)
  | fn (f:FuncId) (first caps:List PV)
  | any
  deriving Inhabited

def scOk:Value→Bool
  | .agg _ | .tuple _=>false
  | _=>true
/-- a value of one cell -/
def PV.one:PV→Bool
  | .agg _ | .tup _=>false
  | _=>true
def ones:List PV→Bool
  | []=>true
  | x::l=>x.one&&ones l

/-- names of blocks: where the block lies,and its row's capacity -/
abbrev Nm:=Nat→Option (Nat × Nat)

/-- a value that holds no name: what is read of memory that nobody writes -/
inductive IR (Z:Nat→Prop) (w:World):Value→PV→Prop
  | sc (v:Value) (h:scOk v=true):IR Z w v (.sc v)
  | imm (A:Option Addr) (cap sz:Nat) (rows:List (List PV)) (U:Nat→Nat→Value) (h1:rows.length≤cap∧rows.length≤140737488351232) (h2:cap≤9223372036854775807∧(A=none→cap=0))
      (h3:∀ (k:Nat) (row:List PV),rows[k]?=some row→row.length=sz∧ones row=true∧∃ b off,A=some ⟨b,off,none⟩∧Z b∧∀ i,i<sz→w.cell? ⟨b,off+k*sz+i,none⟩=some (U k i))
      (h4:∀ (k:Nat) (row:List PV) (i:Nat) (x:PV),rows[k]?=some row→row[i]?=some x→IR Z w (U k i) x):IR Z w (.slice A rows.length cap) (.imm sz rows)

inductive VR (σ:Nm) (Z:Nat→Prop) (w:World):Value→PV→Prop
  | sc (v:Value) (h:scOk v=true):VR σ Z w v (.sc v)
  | ptr (id off b c:Nat) (h:σ id=some (b,c)):VR σ Z w (.pointer (some ⟨b,off,none⟩)) (.ptr id off)
  | rptr (id sz k i b c:Nat) (h:σ id=some (b,c)):VR σ Z w (.pointer (some ⟨b,k*sz+i,none⟩)) (.rptr id sz k i)
  | own (id sz len b c:Nat) (h:σ id=some (b,c)):VR σ Z w (.slice (some ⟨b,0,none⟩) len c) (.own id sz len)
  | own0 (id sz:Nat):VR σ Z w (.slice none 0 0) (.own id sz 0)
  | imm (v:Value) (sz:Nat) (rows:List (List PV)) (h:IR Z w v (.imm sz rows)):VR σ Z w v (.imm sz rows)
  | iptr (b off i:Nat) (row:List PV) (U:Nat→Value) (ho:ones row=true) (hz:Z b) (hc:∀ j,j<row.length→w.cell? ⟨b,off+j,none⟩=some (U j))
      (h:∀ (j:Nat) (x:PV),row[j]?=some x→IR Z w (U j) x):VR σ Z w (.pointer (some ⟨b,off+i,none⟩)) (.iptr row i)
  | agg (l:List Value) (xs:List PV) (hl:l.length=xs.length) (ho:ones xs=true) (h:∀ (i:Nat) (u:Value) (x:PV),l[i]?=some u→xs[i]?=some x→VR σ Z w u x):VR σ Z w (.agg l.toArray) (.agg xs)
  | tup (l:List Value) (xs:List PV) (hl:l.length=xs.length) (h:∀ (i:Nat) (u:Value) (x:PV),l[i]?=some u→xs[i]?=some x→VR σ Z w u x):VR σ Z w (.tuple l.toArray) (.tup xs)
  | map (id b c:Nat) (h:σ id=some (b,c)):VR σ Z w (.map (some b)) (.map id)
  | fn (f:FuncId) (l1 l2:List Value) (x1 x2:List PV) (hl1:l1.length=x1.length) (hl2:l2.length=x2.length) (h1:∀ (i:Nat) (u:Value) (x:PV),l1[i]?=some u→x1[i]?=some x→VR σ Z w u x) (h2:∀ (i:Nat) (u:Value) (x:PV),l2[i]?=some u→x2[i]?=some x→VR σ Z w u x) :
      VR σ Z w (.func (.func f) l1.toArray l2.toArray) (.fn f x1 x2)
  | any (v:Value) (h:v.oneCell'=true):VR σ Z w v .any

/-- what has changed: the blocks of M,and new ones -/
structure Chg (M:Nat→Prop) (w w':World):Prop where
  os:w'.os=w.os
  tape:w'.tape=w.tape
  output:w'.output=w.output
  size:w.heap.size≤w'.heap.size
  block:∀ b,b<w.heap.size→¬ M b→w'.heap[b]?=w.heap[b]?
theorem Chg.refl (M:Nat→Prop) (w:World):Chg M w w:=⟨rfl,rfl,rfl,Nat.le_refl _,fun _ _ _=>rfl⟩
theorem Chg.mono {M M':Nat→Prop} {w w':World} (h:Chg M w w') (hm:∀ b,b<w.heap.size→M b→M' b):Chg M' w w':=⟨h.os,h.tape,h.output,h.size,fun b hb hn=>h.block b hb fun q=>hn (hm b hb q)⟩
theorem Chg.trans {M M':Nat→Prop} {a b c:World} (h:Chg M a b) (k:Chg M' b c):Chg (fun x=>M x∨M' x) a c :=
  ⟨k.os.trans h.os,k.tape.trans h.tape,k.output.trans h.output,Nat.le_trans h.size k.size,fun x hx hn=>by
    rw [k.block x (Nat.lt_of_lt_of_le hx h.size) fun q=>hn (.inr q)]
    exact h.block x hx fun q=>hn (.inl q)⟩
theorem Chg.cell {M:Nat→Prop} {w w':World} (h:Chg M w w') {a:Addr} {v:Value} (hc:w.cell? a=some v) (hn:¬ M a.block):w'.cell? a=some v :=
  (World.cell?_of_block (w:=w) (h.block a.block (World.block_lt_of_cell? w a hc) hn)).trans hc
def Ext (σ σ':Nm):Prop:=∀ id x,σ id=some x→σ' id=some x
theorem Ext.refl (σ:Nm):Ext σ σ:=fun _ _ h=>h
theorem Ext.trans {a b c:Nm} (h:Ext a b) (k:Ext b c):Ext a c:=fun id x hx=>k id x (h id x hx)

theorem IR.mono {Z Z':Nat→Prop} {w w':World} {M:Nat→Prop} (hz:∀ b,Z b→Z' b) (hw:Chg M w w') (hd:∀ b,Z b→¬ M b) {v:Value} {x:PV} (h:IR Z w v x):IR Z' w' v x:=by
  induction h with
  | sc v h=>exact .sc v h
  | imm A cap sz rows U h1 h2 h3 h4 ih =>
    refine .imm A cap sz rows U h1 h2 (fun k row hr=>?_) ih
    obtain ⟨q1,q2,b,off,q3,q4,q5⟩:=h3 k row hr
    exact ⟨q1,q2,b,off,q3,hz b q4,fun i hi=>hw.cell (q5 i hi) (hd b q4)⟩
theorem IR.vr {σ:Nm} {Z:Nat→Prop} {w:World} {v:Value} {x:PV} (h:IR Z w v x):VR σ Z w v x:=by
  cases h with
  | sc v h=>exact .sc v h
  | imm A cap sz rows U h1 h2 h3 h4=>exact .imm _ sz rows (.imm A cap sz rows U h1 h2 h3 h4)
theorem VR.mono {σ σ':Nm} {Z Z':Nat→Prop} {w w':World} {M:Nat→Prop} (he:Ext σ σ') (hz:∀ b,Z b→Z' b) (hw:Chg M w w') (hd:∀ b,Z b→¬ M b) {v:Value} {x:PV} (h:VR σ Z w v x):VR σ' Z' w' v x:=by
  induction h with
  | sc v h=>exact .sc v h
  | ptr id off b c h=>exact .ptr id off b c (he _ _ h)
  | rptr id sz k i b c h=>exact .rptr id sz k i b c (he _ _ h)
  | own id sz len b c h=>exact .own id sz len b c (he _ _ h)
  | own0 id sz=>exact .own0 id sz
  | imm v sz rows h=>exact .imm v sz rows (h.mono hz hw hd)
  | iptr b off i row U ho hzb hc h=>exact .iptr b off i row U ho (hz b hzb) (fun j hj=>hw.cell (hc j hj) (hd b hzb)) fun j x hx=>(h j x hx).mono hz hw hd
  | agg l xs hl ho h ih=>exact .agg l xs hl ho ih
  | tup l xs hl h ih=>exact .tup l xs hl ih
  | map id b c h=>exact .map id b c (he _ _ h)
  | fn f l1 l2 x1 x2 hl1 hl2 h1 h2 ih1 ih2=>exact .fn f l1 l2 x1 x2 hl1 hl2 ih1 ih2
  | any v h=>exact .any v h

/-- values of cells,one by one -/
def VRs (σ:Nm) (Z:Nat→Prop) (w:World) (l:List Value) (xs:List PV):Prop:=l.length=xs.length∧∀ (i:Nat) (u:Value) (x:PV),l[i]?=some u→xs[i]?=some x→VR σ Z w u x
theorem VRs.mono {σ σ':Nm} {Z Z':Nat→Prop} {w w':World} {M:Nat→Prop} (he:Ext σ σ') (hz:∀ b,Z b→Z' b) (hw:Chg M w w') (hd:∀ b,Z b→¬ M b) {l:List Value} {xs:List PV} (h:VRs σ Z w l xs):VRs σ' Z' w' l xs :=
  ⟨h.1,fun i u x hu hx=>(h.2 i u x hu hx).mono he hz hw hd⟩
theorem VRs.nil {σ:Nm} {Z:Nat→Prop} {w:World}:VRs σ Z w [] []:=⟨rfl,fun i u x h=>by simp at h⟩
theorem VRs.cons {σ:Nm} {Z:Nat→Prop} {w:World} {u:Value} {x:PV} {l:List Value} {xs:List PV} (h:VR σ Z w u x) (h':VRs σ Z w l xs):VRs σ Z w (u::l) (x::xs) :=
  ⟨by simp [h'.1],fun i u' x' hu hx=>by
    cases i with
    | zero=>simp only [List.getElem?_cons_zero,Option.some.injEq] at hu hx; subst hu hx; exact h
    | succ i=>exact h'.2 i u' x' (by simpa using hu) (by simpa using hx)⟩
theorem VRs.inv {σ:Nm} {Z:Nat→Prop} {w:World} {l:List Value} {x:PV} {xs:List PV} (h:VRs σ Z w l (x::xs)):∃ u l',l=u::l'∧VR σ Z w u x∧VRs σ Z w l' xs:=by
  cases l with
  | nil=>exact absurd h.1 (by simp)
  | cons u l'=>exact ⟨u,l',rfl,h.2 0 u x rfl rfl,by simpa using h.1,fun i u' x' hu hx=>h.2 (i+1) u' x' (by simpa using hu) (by simpa using hx)⟩
theorem VRs.get {σ:Nm} {Z:Nat→Prop} {w:World} {l:List Value} {xs:List PV} (h:VRs σ Z w l xs) {i:Nat} {x:PV} (hx:xs[i]?=some x):∃ u,l[i]?=some u∧VR σ Z w u x:=by
  have hi:=(List.getElem?_eq_some_iff.1 hx).1
  obtain ⟨u,hu⟩:∃ u,l[i]?=some u:=⟨l[i]'(by rw [h.1]; exact hi),List.getElem?_eq_getElem _⟩
  exact ⟨u,hu,h.2 i u x hu hx⟩
theorem VRs.append {σ:Nm} {Z:Nat→Prop} {w:World} {l l':List Value} {xs xs':List PV} (h:VRs σ Z w l xs) (h':VRs σ Z w l' xs'):VRs σ Z w (l++l') (xs++xs'):=by
  refine ⟨by simp [h.1,h'.1],fun i u x hu hx=>?_⟩
  rcases Nat.lt_or_ge i l.length with hi | hi
  · rw [List.getElem?_append_left hi] at hu
    rw [List.getElem?_append_left (by rw [← h.1]; exact hi)] at hx
    exact h.2 i u x hu hx
  · rw [List.getElem?_append_right hi] at hu
    rw [List.getElem?_append_right (by rw [← h.1]; exact hi),← h.1] at hx
    exact h'.2 _ u x hu hx
theorem VRs.set {σ:Nm} {Z:Nat→Prop} {w:World} {l:List Value} {xs:List PV} (h:VRs σ Z w l xs) {i:Nat} {u:Value} {x:PV} (hu:VR σ Z w u x):VRs σ Z w (l.set i u) (xs.set i x):=by
  refine ⟨by simp [h.1],fun j u' x' h1 h2=>?_⟩
  rw [List.getElem?_set] at h1 h2
  by_cases hij:i=j
  · subst hij
    simp only [if_true] at h1 h2
    split at h1
    · rename_i q
      rw [if_pos (by rw [← h.1]; exact q)] at h2
      simp only [Option.some.injEq] at h1 h2
      subst h1 h2; exact hu
    · simp at h1
  · rw [if_neg hij] at h1 h2
    exact h.2 j u' x' h1 h2
theorem VRs.take {σ:Nm} {Z:Nat→Prop} {w:World} {l:List Value} {xs:List PV} (h:VRs σ Z w l xs) (n:Nat):VRs σ Z w (l.take n) (xs.take n) :=
  ⟨by simp [h.1],fun i u x hu hx=>by
    rw [List.getElem?_take] at hu hx
    split at hu
    · rename_i q; rw [if_pos q] at hx; exact h.2 i u x hu hx
    · simp at hu⟩
theorem VRs.drop {σ:Nm} {Z:Nat→Prop} {w:World} {l:List Value} {xs:List PV} (h:VRs σ Z w l xs) (n:Nat):VRs σ Z w (l.drop n) (xs.drop n) :=
  ⟨by simp [h.1],fun i u x hu hx=>by
    rw [List.getElem?_drop] at hu hx
    exact h.2 _ u x hu hx⟩

def IRs (Z:Nat→Prop) (w:World) (l:List Value) (xs:List PV):Prop:=l.length=xs.length∧∀ (i:Nat) (u:Value) (x:PV),l[i]?=some u→xs[i]?=some x→IR Z w u x
/-- cells of a row; pure: they hold no names -/
def CRs (pure:Bool) (σ:Nm) (Z:Nat→Prop) (w:World) (l:List Value) (xs:List PV):Prop:=VRs σ Z w l xs∧(pure=true→IRs Z w l xs)
theorem IRs.vrs {σ:Nm} {Z:Nat→Prop} {w:World} {l:List Value} {xs:List PV} (h:IRs Z w l xs):VRs σ Z w l xs:=⟨h.1,fun i u x hu hx=>(h.2 i u x hu hx).vr⟩
theorem IRs.mono {Z Z':Nat→Prop} {w w':World} {M:Nat→Prop} (hz:∀ b,Z b→Z' b) (hw:Chg M w w') (hd:∀ b,Z b→¬ M b) {l:List Value} {xs:List PV} (h:IRs Z w l xs):IRs Z' w' l xs :=
  ⟨h.1,fun i u x hu hx=>(h.2 i u x hu hx).mono hz hw hd⟩
theorem CRs.mono {pure:Bool} {σ σ':Nm} {Z Z':Nat→Prop} {w w':World} {M:Nat→Prop} (he:Ext σ σ') (hz:∀ b,Z b→Z' b) (hw:Chg M w w') (hd:∀ b,Z b→¬ M b) {l:List Value} {xs:List PV} (h:CRs pure σ Z w l xs):CRs pure σ' Z' w' l xs :=
  ⟨h.1.mono he hz hw hd,fun hp=>(h.2 hp).mono hz hw hd⟩
theorem IRs.append {Z:Nat→Prop} {w:World} {l l':List Value} {xs xs':List PV} (h:IRs Z w l xs) (h':IRs Z w l' xs'):IRs Z w (l++l') (xs++xs'):=by
  refine ⟨by simp [h.1,h'.1],fun i u x hu hx=>?_⟩
  rcases Nat.lt_or_ge i l.length with hi | hi
  · rw [List.getElem?_append_left hi] at hu
    rw [List.getElem?_append_left (by rw [← h.1]; exact hi)] at hx
    exact h.2 i u x hu hx
  · rw [List.getElem?_append_right hi] at hu
    rw [List.getElem?_append_right (by rw [← h.1]; exact hi),← h.1] at hx
    exact h'.2 _ u x hu hx
theorem IRs.take {Z:Nat→Prop} {w:World} {l:List Value} {xs:List PV} (h:IRs Z w l xs) (n:Nat):IRs Z w (l.take n) (xs.take n) :=
  ⟨by simp [h.1],fun i u x hu hx=>by
    rw [List.getElem?_take] at hu hx
    split at hu
    · rename_i q; rw [if_pos q] at hx; exact h.2 i u x hu hx
    · simp at hu⟩
theorem IRs.drop {Z:Nat→Prop} {w:World} {l:List Value} {xs:List PV} (h:IRs Z w l xs) (n:Nat):IRs Z w (l.drop n) (xs.drop n) :=
  ⟨by simp [h.1],fun i u x hu hx=>by
    rw [List.getElem?_drop] at hu hx
    exact h.2 _ u x hu hx⟩
theorem CRs.append {p p':Bool} {σ:Nm} {Z:Nat→Prop} {w:World} {l l':List Value} {xs xs':List PV} (h:CRs p σ Z w l xs) (h':CRs p' σ Z w l' xs'):CRs (p&&p') σ Z w (l++l') (xs++xs') :=
  ⟨h.1.append h'.1,fun hp=>by simp only [Bool.and_eq_true] at hp; exact (h.2 hp.1).append (h'.2 hp.2)⟩
theorem CRs.take {p:Bool} {σ:Nm} {Z:Nat→Prop} {w:World} {l:List Value} {xs:List PV} (h:CRs p σ Z w l xs) (n:Nat):CRs p σ Z w (l.take n) (xs.take n):=⟨h.1.take n,fun hp=>(h.2 hp).take n⟩
theorem CRs.drop {p:Bool} {σ:Nm} {Z:Nat→Prop} {w:World} {l:List Value} {xs:List PV} (h:CRs p σ Z w l xs) (n:Nat):CRs p σ Z w (l.drop n) (xs.drop n):=⟨h.1.drop n,fun hp=>(h.2 hp).drop n⟩
theorem CRs.nil {p:Bool} {σ:Nm} {Z:Nat→Prop} {w:World}:CRs p σ Z w [] []:=⟨.nil,fun _=>⟨rfl,fun i u x h=>by simp at h⟩⟩
/-- values that hold no names,by their form -/
def isPure:PV→Bool
  | .sc _ | .imm ..=>true
  | _=>false
def pures:List PV→Bool
  | []=>true
  | x::l=>isPure x&&pures l
theorem VR.ir {σ:Nm} {Z:Nat→Prop} {w:World} {v:Value} {x:PV} (h:VR σ Z w v x) (hp:isPure x=true):IR Z w v x:=by
  cases h with
  | sc v h=>exact .sc v h
  | imm v sz rows h=>exact h
  | _=>simp [isPure] at hp
theorem VRs.crs {σ:Nm} {Z:Nat→Prop} {w:World}:∀ {l:List Value} {xs:List PV},VRs σ Z w l xs→CRs (pures xs) σ Z w l xs:=fun {l xs} h=>⟨h,fun hp=>⟨h.1,fun i u x hu hx=>by
  refine (h.2 i u x hu hx).ir ?_
  clear h hu
  induction xs generalizing i with
  | nil=>simp at hx
  | cons y xs ih =>
    simp only [pures,Bool.and_eq_true] at hp
    cases i with
    | zero=>simp only [List.getElem?_cons_zero,Option.some.injEq] at hx; subst hx; exact hp.1
    | succ i=>exact ih hp.2 (i:=i) (by simpa using hx)⟩⟩

/-- a block of the table: box: a variable or a struct; row: the array behind a slice,of which the first elements are known -/
inductive PO where
  | box (e:TypeId) (xs:List PV)
  | row (e:TypeId) (sz:Nat) (pure:Bool) (rows:List (List PV))
  | mp (D:List (Int × Value))
  | rmap (es:Array MapEntry) (cl:Nat)
  | rit (m since:Nat) (seen:Array Nat) (c0:Nat)
  | ty (v:Value) (x:PV)
  deriving Inhabited
/-- the entries of a map from ints -/
def MapOk (es:List MapEntry) (D:List (Int × Value)):Prop:=es.map (fun e=>(e.key,e.val))=D.map (fun p=>(Value.int .i64 p.1,p.2))
abbrev Heap:=List (Nat × PO)
def hlook:Heap→Nat→Option PO
  | [],_=>none
  | x::H,id=>bif Nat.beq x.1 id then some x.2 else hlook H id

def rowsOk (sz:Nat):List (List PV)→Prop:=fun rows=>∀ r∈rows,r.length=sz∧ones r=true

def OR (σ:Nm) (Z:Nat→Prop) (w:World) (id:Nat):PO→Prop
  | .box e xs=>∃ b c C,σ id=some (b,c)∧w.heap[b]?=some (.cells (C:List Value).toArray e (0,0))∧ones xs=true∧VRs σ Z w C xs
  | .row e sz pure rows=>rowsOk sz rows∧(rows.length≤1000000000∧(rows≠[]→σ id≠none))∧∀ b c,σ id=some (b,c)→∃ C,w.heap[b]?=some (.cells (C:List Value).toArray e (0,0))∧C.length=c*sz∧rows.length≤c∧c≤9223372036854775807∧CRs pure σ Z w (C.take (rows.length*sz)) rows.flatten
  | .mp D=>(∀ p∈D,scOk p.2=true)∧∃ b c es cl,σ id=some (b,c)∧w.heap[b]?=some (.map es cl)∧MapOk es.toList D
  | .rmap es cl=>∃ b c,σ id=some (b,c)∧w.heap[b]?=some (.map es cl)
  | .rit m since seen c0=>∃ b c bm cm,σ id=some (b,c)∧σ m=some (bm,cm)∧w.heap[b]?=some (.mapIter (some bm) since seen c0)
  | .ty v x=>σ id=none∧x.one=true∧VR σ Z w v x
theorem OR.mono {σ σ':Nm} {Z Z':Nat→Prop} {w w':World} {M:Nat→Prop} (he:Ext σ σ') (hz:∀ b,Z b→Z' b) (hw:Chg M w w') (hd:∀ b,Z b→¬ M b) {id:Nat} {o:PO} (hs:σ' id=σ id) (hn:∀ b c,σ id=some (b,c)→¬ M b) (h:OR σ Z w id o):OR σ' Z' w' id o:=by
  cases o with
  | box e xs =>
    obtain ⟨b,c,C,h1,h2,h3,h4⟩:=h
    exact ⟨b,c,C,hs.trans h1,(hw.block b (Array.getElem?_eq_some_iff.1 h2).1 (hn b c h1)).trans h2,h3,h4.mono he hz hw hd⟩
  | row e sz pure rows =>
    obtain ⟨h1,h2,h3⟩:=h
    refine ⟨h1,⟨h2.1,fun q=>by rw [hs]; exact h2.2 q⟩,fun b c hb=>?_⟩
    rw [hs] at hb
    obtain ⟨C,q1,q2,q3,q4,q5⟩:=h3 b c hb
    exact ⟨C,(hw.block b (Array.getElem?_eq_some_iff.1 q1).1 (hn b c hb)).trans q1,q2,q3,q4,q5.mono he hz hw hd⟩
  | mp D =>
    obtain ⟨h0,b,c,es,cl,h1,h2,h3⟩:=h
    exact ⟨h0,b,c,es,cl,hs.trans h1,(hw.block b (Array.getElem?_eq_some_iff.1 h2).1 (hn b c h1)).trans h2,h3⟩
  | rmap es cl =>
    obtain ⟨b,c,h1,h2⟩:=h
    exact ⟨b,c,hs.trans h1,(hw.block b (Array.getElem?_eq_some_iff.1 h2).1 (hn b c h1)).trans h2⟩
  | rit m since seen c0 =>
    obtain ⟨b,c,bm,cm,h1,h2,h3⟩:=h
    exact ⟨b,c,bm,cm,hs.trans h1,he _ _ h2,(hw.block b (Array.getElem?_eq_some_iff.1 h3).1 (hn b c h1)).trans h3⟩
  | ty v x=>exact ⟨hs.trans h.1,h.2.1,h.2.2.mono he hz hw hd⟩

structure HR (σ:Nm) (Z:Nat→Prop) (w:World) (H:Heap):Prop where
  at_:∀ id o,hlook H id=some o→OR σ Z w id o
  inj:∀ id id' o o' b c c',hlook H id=some o→hlook H id'=some o'→σ id=some (b,c)→σ id'=some (b,c')→id=id'
  off:∀ id o b c,hlook H id=some o→σ id=some (b,c)→¬ Z b
  zlt:∀ b,Z b→b<w.heap.size
abbrev PV.J (x : Int) : PV := .sc (.int .i64 x)
end Go.PX

/- Proved: one operation on plain data: what it answers and which blocks of the table it changes. Program-independent. -/
namespace Go.PX
open Go.RowKit Go.SX

abbrev Upd:=List (Nat × Option PO)
def ulook:Upd→Nat→Option (Option PO)
  | [],_=>none
  | x::U,id=>bif Nat.beq x.1 id then some x.2 else ulook U id

/-- what an operation has done to the blocks of the table Hc that it was handed: U tells the new state of some,and the new ones -/
structure Eff (σ:Nm) (Z:Nat→Prop) (w:World) (Hc:Heap) (U:Upd) (σ':Nm) (Z':Nat→Prop) (w':World):Prop where
  ext:Ext σ σ'
  dom:∀ id,σ id=none→(ulook U id=none∨hlook Hc id≠none)→σ' id=none
  zmono:∀ b,Z b→Z' b
  znew:∀ b,Z' b→Z b∨(w.heap.size≤b∧b<w'.heap.size)∨∃ id o c,ulook U id≠none∧hlook Hc id=some o∧σ id=some (b,c)
  chg:Chg (fun b=>∃ id o c,ulook U id≠none∧hlook Hc id=some o∧σ id=some (b,c)) w w'
  objs:∀ id o,ulook U id=some (some o)→OR σ' Z' w' id o
  off:∀ id o b c,ulook U id=some (some o)→σ' id=some (b,c)→¬ Z' b∧(w.heap.size≤b∨∃ i o' c',ulook U i≠none∧hlook Hc i=some o'∧σ i=some (b,c'))
  inj:∀ id id' o o' b c c',ulook U id=some (some o)→ulook U id'=some (some o')→σ' id=some (b,c)→σ' id'=some (b,c')→id=id'

theorem Eff.refl (σ:Nm) (Z:Nat→Prop) (w:World) (Hc:Heap):Eff σ Z w Hc [] σ Z w :=
  ⟨Ext.refl σ,fun _ h _=>h,fun _ h=>h,fun _ h=>.inl h,Chg.refl _ _,fun id o h=>by simp [ulook] at h,fun id o b c h=>by simp [ulook] at h,fun id id' o o' b c c' h=>by simp [ulook] at h⟩

def Exec (P:Program) (o:Oper) (a:Act) (w:World) (σ:Nm) (Z:Nat→Prop) (Hc:Heap) (res:Option PV) (U:Upd):Prop :=
  ∀ (K:Act→World→Prop) (Q:Exit→Act→World→Prop),(∀ v w' σ' Z',(∀ x,res=some x→VR σ' Z' w' v x)→Eff σ Z w Hc U σ' Z' w'→K (a.put o.dst v) w')→o.wp P a w K Q

theorem exec_value {P:Program} {o:Oper} {a:Act} {w w':World} {σ σ':Nm} {Z Z':Nat→Prop} {Hc:Heap} {v:Value} {x:PV} {U:Upd} (hr:(execOp a.eval o).run P w=.ok (.value v) w') (hv:VR σ' Z' w' v x) (he:Eff σ Z w Hc U σ' Z' w'):Exec P o a w σ Z Hc (some x) U:=fun K Q hK=>by
  unfold Oper.wp; rw [hr]
  exact hK v w' σ' Z' (fun x' hx=>by simp only [Option.some.injEq] at hx; subst hx; exact hv) he
theorem exec_quiet {P:Program} {o:Oper} {a:Act} {w:World} {σ:Nm} {Z:Nat→Prop} {Hc:Heap} {v:Value} {x:PV} (hr:(execOp a.eval o).run P w=.ok (.value v) w) (hv:VR σ Z w v x):Exec P o a w σ Z Hc (some x) [] :=
  exec_value hr hv (Eff.refl _ _ _ _)
theorem exec_skip {P:Program} {o:Oper} {a:Act} {w w':World} {σ σ':Nm} {Z Z':Nat→Prop} {Hc:Heap} {U:Upd} (hr:(execOp a.eval o).run P w=.ok .skip w') (he:Eff σ Z w Hc U σ' Z' w'):Exec P o a w σ Z Hc none U:=fun K Q hK=>by
  unfold Oper.wp; rw [hr]
  exact hK undef w' σ' Z' (fun x' hx=>by cases hx) he

/-! pure computations,by the kernel -/
def evl {α:Type} (P:Program) (s:Sem α):Option α :=
  match tr P s [] with
  | some ([],r)=>some r
  | _=>none
theorem evl_run {α:Type} {P:Program} {s:Sem α} {r:α} (h:evl P s=some r) (w:World):s.run P w=.ok r w:=by
  unfold evl at h
  split at h
  · rename_i r' ht
    simp only [Option.some.injEq] at h
    subst h
    exact tr_sound (w:=w) s [] [] _ ht trivial
  · simp at h

/-! values without addresses -/
def ofCells:List Value→Option (List PV)
  | []=>some []
  | v::l=>bif scOk v then (ofCells l).map (.sc v::·) else none
def ofV1:Value→Option PV
  | .agg cs=>(ofCells cs.toList).map .agg
  | v=>bif scOk v then some (.sc v) else none
def ofVs:List Value→Option (List PV)
  | []=>some []
  | v::l=>match ofV1 v,ofVs l with
    | some x,some xs=>some (x::xs)
    | _,_=>none
def ofV:Value→Option PV
  | .tuple vs=>(ofVs vs.toList).map .tup
  | v=>ofV1 v
theorem ofCells_spec {σ:Nm} {Z:Nat→Prop} {w:World}:∀ {l:List Value} {xs:List PV},ofCells l=some xs→VRs σ Z w l xs∧ones xs=true
  | [],xs,h=>by simp only [ofCells,Option.some.injEq] at h; subst h; exact ⟨VRs.nil,rfl⟩
  | v::l,xs,h=>by
    simp only [ofCells] at h
    cases hs:scOk v with
    | false=>rw [hs] at h; simp at h
    | true =>
      rw [hs] at h
      simp only [cond_true,Option.map_eq_some_iff] at h
      obtain ⟨ys,h1,rfl⟩:=h
      obtain ⟨h2,h3⟩:=ofCells_spec h1
      exact ⟨.cons (.sc v hs) h2,by simp [ones,PV.one,h3]⟩
theorem ofV1_spec {σ:Nm} {Z:Nat→Prop} {w:World} {v:Value} {x:PV} (h:ofV1 v=some x):VR σ Z w v x:=by
  unfold ofV1 at h
  split at h
  · rename_i cs
    obtain ⟨ys,h1,rfl⟩:=Option.map_eq_some_iff.1 h
    obtain ⟨h2,h3⟩:=ofCells_spec (σ:=σ) (Z:=Z) (w:=w) h1
    exact .agg cs.toList ys h2.1 h3 h2.2
  · cases hs:scOk v with
    | false=>rw [hs] at h; simp at h
    | true=>rw [hs] at h; simp only [cond_true,Option.some.injEq] at h; subst h; exact .sc v hs
theorem ofVs_spec {σ:Nm} {Z:Nat→Prop} {w:World}:∀ {l:List Value} {xs:List PV},ofVs l=some xs→VRs σ Z w l xs
  | [],xs,h=>by simp only [ofVs,Option.some.injEq] at h; subst h; exact VRs.nil
  | v::l,xs,h=>by
    simp only [ofVs] at h
    split at h
    · rename_i x ys h1 h2
      simp only [Option.some.injEq] at h; subst h
      exact .cons (ofV1_spec h1) (ofVs_spec h2)
    · simp at h
theorem ofV_spec {σ:Nm} {Z:Nat→Prop} {w:World} {v:Value} {x:PV} (h:ofV v=some x):VR σ Z w v x:=by
  unfold ofV at h
  split at h
  · rename_i vs
    obtain ⟨ys,h1,rfl⟩:=Option.map_eq_some_iff.1 h
    have h2:=ofVs_spec (σ:=σ) (Z:=Z) (w:=w) h1
    exact .tup vs.toList ys h2.1 h2.2
  · exact ofV1_spec h

def toCells:List PV→Option (List Value)
  | []=>some []
  | .sc v::l=>(toCells l).map (v::·)
  | _::_=>none
def toV:PV→Option Value
  | .sc v=>some v
  | .agg xs=>(toCells xs).map fun l=>.agg l.toArray
  | .tup xs=>(toCells xs).map fun l=>.tuple l.toArray
  | _=>none
theorem toCells_spec {σ:Nm} {Z:Nat→Prop} {w:World}:∀ {xs:List PV} {l l':List Value},VRs σ Z w l xs→toCells xs=some l'→l=l'
  | [],l,l',h,e=>by
    simp only [toCells,Option.some.injEq] at e; subst e
    exact List.length_eq_zero_iff.1 (by simpa using h.1)
  | x::xs,l,l',h,e=>by
    obtain ⟨u,l1,rfl,h1,h2⟩:=h.inv
    cases x with
    | sc v =>
      simp only [toCells,Option.map_eq_some_iff] at e
      obtain ⟨l2,e1,rfl⟩:=e
      cases h1
      rw [toCells_spec h2 e1]
    | _=>simp [toCells] at e
theorem toV_spec {σ:Nm} {Z:Nat→Prop} {w:World} {v v':Value} {x:PV} (h:VR σ Z w v x) (e:toV x=some v'):v=v':=by
  cases h with
  | sc v h=>simp only [toV,Option.some.injEq] at e; exact e
  | agg l xs hl ho h =>
    simp only [toV,Option.map_eq_some_iff] at e
    obtain ⟨l',e1,rfl⟩:=e
    rw [toCells_spec ⟨hl,h⟩ e1]
  | tup l xs hl h =>
    simp only [toV,Option.map_eq_some_iff] at e
    obtain ⟨l',e1,rfl⟩:=e
    rw [toCells_spec ⟨hl,h⟩ e1]
  | _=>simp [toV] at e

/-! slots -/
structure Ent where
  t:Nat
  p:List (Nat × Bool)
  v:PV
def look:List Ent→Nat→Option Ent
  | [],_=>none
  | e::R,t=>bif Nat.beq e.t t then some e else look R t

def Slot (σ:Nm) (Z:Nat→Prop) (w:World) (κ:List (Nat × Bool)) (e:Ent) (u:Option Value):Prop :=
  (pv κ e.p=true→∃ v,u=some v∧VR σ Z w v e.v)∧(pv κ e.p=false→u=some undef)
structure RS (σ:Nm) (Z:Nat→Prop) (w:World) (N:Nat) (κ:List (Nat × Bool)) (R:List Ent) (a:Act):Prop where
  defers:a.defers=[]
  size:a.tmps.size=N
  at_:∀ t e,look R t=some e→Slot σ Z w κ e a.tmps[t]?

theorem Slot.mono {σ σ':Nm} {Z Z':Nat→Prop} {w w':World} {M:Nat→Prop} (he:Ext σ σ') (hz:∀ b,Z b→Z' b) (hw:Chg M w w') (hd:∀ b,Z b→¬ M b) {κ:List (Nat × Bool)} {e:Ent} {u:Option Value} (h:Slot σ Z w κ e u):Slot σ' Z' w' κ e u :=
  ⟨fun hp=>by obtain ⟨v,h1,h2⟩:=h.1 hp; exact ⟨v,h1,h2.mono he hz hw hd⟩,h.2⟩

/-- an operand: what it holds on a path -/
def opd (R:List Ent) (p:List (Nat × Bool)):Operand→Option PV
  | .tmp t=>match look R t with
    | some e=>bif sub e.p p then some e.v else none
    | none=>none
  | .const v=>ofV v
  | .func f=>some (.fn f [] [])
  | .global _=>none

theorem RS.opd {σ:Nm} {Z:Nat→Prop} {w:World} {N:Nat} {κ:List (Nat × Bool)} {R:List Ent} {a:Act} (h:RS σ Z w N κ R a) {p:List (Nat × Bool)} (hp:pv κ p=true) {x:Operand} {y:PV} (hx:PX.opd R p x=some y):VR σ Z w (a.eval x) y:=by
  cases x with
  | tmp t =>
    simp only [PX.opd] at hx
    cases hl:look R t with
    | none=>rw [hl] at hx; simp at hx
    | some e =>
      rw [hl] at hx
      simp only at hx
      cases hs:sub e.p p with
      | false=>rw [hs] at hx; simp at hx
      | true =>
        rw [hs] at hx
        simp only [cond_true,Option.some.injEq] at hx
        subst hx
        obtain ⟨v,h1,h2⟩:=(h.at_ t e hl).1 (pv_sub hs hp)
        have e1:a.eval (.tmp t)=v:=by simp [Act.eval,h1]
        rw [e1]; exact h2
  | const v=>exact ofV_spec hx
  | func f =>
    simp only [PX.opd,Option.some.injEq] at hx
    subst hx
    exact .fn f [] [] [] [] rfl rfl (fun i u x h=>by simp at h) (fun i u x h=>by simp at h)
  | global g=>simp [PX.opd] at hx

/-- the values of operands without addresses -/
def rhoS (R:List Ent) (p:List (Nat × Bool)) (x:Operand):Value:=((opd R p x).bind toV).getD undef
def allS (R:List Ent) (p:List (Nat × Bool)):List Operand→Bool
  | []=>true
  | x::l=>((opd R p x).bind toV).isSome&&allS R p l
theorem allS_mem {R:List Ent} {p:List (Nat × Bool)}:∀ {l:List Operand},allS R p l=true→∀ x∈l,((opd R p x).bind toV).isSome=true
  | y::l,h,x,hx=>by
    simp only [allS,Bool.and_eq_true] at h
    rcases List.mem_cons.1 hx with rfl | hx
    · exact h.1
    · exact allS_mem h.2 x hx

/-- an operation on values without addresses: the model's own text is run -/
def scal (P:Program) (R:List Ent) (p:List (Nat × Bool)) (o:Oper):Option PV :=
  bif allS R p o.op.operands.toList&&!isSelect o.op then
    match evl P (execOp (rhoS R p) o) with
    | some (.value v)=>ofV v
    | _=>none
  else none
theorem RS.evalS {σ:Nm} {Z:Nat→Prop} {w:World} {N:Nat} {κ:List (Nat × Bool)} {R:List Ent} {a:Act} (h:RS σ Z w N κ R a) {p:List (Nat × Bool)} (hp:pv κ p=true) {x:Operand} (hx:((PX.opd R p x).bind toV).isSome=true):a.eval x=rhoS R p x:=by
  unfold rhoS
  cases ho:PX.opd R p x with
  | none=>rw [ho] at hx; simp at hx
  | some y =>
    rw [ho] at hx
    simp only [Option.bind_some] at hx ⊢
    cases hv:toV y with
    | none=>rw [hv] at hx; simp at hx
    | some v=>exact toV_spec (h.opd hp ho) hv
theorem scal_sound {P:Program} {σ:Nm} {Z:Nat→Prop} {w:World} {N:Nat} {κ:List (Nat × Bool)} {R:List Ent} {a:Act} {Hc:Heap} (h:RS σ Z w N κ R a) {p:List (Nat × Bool)} (hp:pv κ p=true) {o:Oper} {x:PV} (hx:scal P R p o=some x):Exec P o a w σ Z Hc (some x) []:=by
  unfold scal at hx
  cases hk:(allS R p o.op.operands.toList&&!isSelect o.op) with
  | false=>rw [hk] at hx; simp at hx
  | true =>
    rw [hk] at hx
    simp only [cond_true] at hx
    simp only [Bool.and_eq_true,Bool.not_eq_true'] at hk
    split at hx
    · rename_i v he
      refine exec_quiet (v:=v) ?_ (ofV_spec hx)
      rw [execOp_congr (ρ':=rhoS R p) o (fun cs b e=>by rw [e] at hk; simp [isSelect] at hk) (fun x hx'=>h.evalS hp (allS_mem hk.1 x (by simpa using hx')))]
      exact evl_run he w
    · simp at hx
abbrev Ent.e (n : Nat) (v : PV) : Ent := ⟨n, [], v⟩
end Go.PX

/- Proved: reads,new blocks and stores on plain data. Program-independent. -/
namespace Go.PX
open Go.RowKit Go.SX

theorem add_off (b off j:Nat):(⟨b,off,none⟩:Addr).add j=⟨b,off+j,none⟩:=by unfold Addr.add; split <;> simp_all
theorem VR.oneCell {σ:Nm} {Z:Nat→Prop} {w:World} {v:Value} {x:PV} (h:VR σ Z w v x) (ho:x.one=true):v.oneCell'=true:=by
  cases h with
  | sc v h=>cases v <;> simp_all [scOk,Value.oneCell']
  | agg=>simp [PV.one] at ho
  | tup=>simp [PV.one] at ho
  | imm v sz rows h=>cases h; simp [Value.oneCell']
  | any v h=>exact h
  | _=>simp [Value.oneCell']
theorem ones_get {xs:List PV} (h:ones xs=true) {i:Nat} {x:PV} (hx:xs[i]?=some x):x.one=true:=by
  induction xs generalizing i with
  | nil=>simp at hx
  | cons y xs ih =>
    simp only [ones,Bool.and_eq_true] at h
    cases i with
    | zero=>simp only [List.getElem?_cons_zero,Option.some.injEq] at hx; subst hx; exact h.1
    | succ i=>exact ih h.2 (by simpa using hx)
theorem ones_append {xs ys:List PV} (h:ones xs=true) (h':ones ys=true):ones (xs++ys)=true:=by
  induction xs with
  | nil=>exact h'
  | cons x xs ih=>simp only [ones,Bool.and_eq_true] at h; simp [ones,h.1,ih h.2]
theorem ones_take {xs:List PV} (h:ones xs=true) (n:Nat):ones (xs.take n)=true:=by
  induction xs generalizing n with
  | nil=>simp [ones]
  | cons x xs ih =>
    simp only [ones,Bool.and_eq_true] at h
    cases n with
    | zero=>rfl
    | succ n=>simp [ones,h.1,ih h.2]
theorem ones_drop {xs:List PV} (h:ones xs=true) (n:Nat):ones (xs.drop n)=true:=by
  induction xs generalizing n with
  | nil=>simp [ones]
  | cons x xs ih =>
    simp only [ones,Bool.and_eq_true] at h
    cases n with
    | zero=>simp [ones,h.1,h.2]
    | succ n=>simpa using ih h.2 n
theorem VRs.oneCell {σ:Nm} {Z:Nat→Prop} {w:World} {l:List Value} {xs:List PV} (h:VRs σ Z w l xs) (ho:ones xs=true):∀ u∈l,u.oneCell'=true:=fun u hu=>by
  obtain ⟨i,hi⟩:=List.mem_iff_getElem?.1 hu
  have hlt:=(List.getElem?_eq_some_iff.1 hi).1
  obtain ⟨x,hx⟩:∃ x,xs[i]?=some x:=⟨xs[i]'(by rw [← h.1]; exact hlt),List.getElem?_eq_getElem _⟩
  exact (h.2 i u x hi hx).oneCell (ones_get ho hx)

/-- the cells of a value -/
def pcells:PV→List PV
  | .agg xs=>xs
  | x=>[x]
def isTup:PV→Bool
  | .tup _=>true
  | _=>false
theorem pcells_spec {σ:Nm} {Z:Nat→Prop} {w:World} {v:Value} {x:PV} (h:VR σ Z w v x) (ht:isTup x=false):VRs σ Z w v.cells.toList (pcells x)∧ones (pcells x)=true:=by
  cases h with
  | sc v h =>
    have e:v.cells=#[v]:=by cases v <;> simp_all [scOk,Value.cells]
    rw [e]; exact ⟨.cons (.sc v h) .nil,rfl⟩
  | agg l xs hl ho h=>exact ⟨⟨hl,h⟩,ho⟩
  | tup=>simp [isTup] at ht
  | ptr id off b c h=>exact ⟨.cons (.ptr id off b c h) .nil,rfl⟩
  | rptr id sz k i b c h=>exact ⟨.cons (.rptr id sz k i b c h) .nil,rfl⟩
  | own id sz len b c h=>exact ⟨.cons (.own id sz len b c h) .nil,rfl⟩
  | own0 id sz=>exact ⟨.cons (.own0 id sz) .nil,rfl⟩
  | imm v sz rows h =>
    have e:v.cells=#[v]:=by cases h; rfl
    rw [e]; exact ⟨.cons (.imm v sz rows h) .nil,rfl⟩
  | iptr b off i row U ho hz hc h=>exact ⟨.cons (.iptr b off i row U ho hz hc h) .nil,rfl⟩
  | map id b c h=>exact ⟨.cons (.map id b c h) .nil,rfl⟩
  | any v h=>cases v <;> first | exact ⟨.cons (.any _ h) .nil,rfl⟩ | cases h
  | fn f l1 l2 x1 x2 a1 a2 a3 a4=>exact ⟨.cons (.fn f l1 l2 x1 x2 a1 a2 a3 a4) .nil,rfl⟩

/-! what lies behind a pointer -/
/-- the cells from a pointer on; of a row of the table: those of its element -/
def behind (H:Heap):PV→Option (List PV)
  | .ptr id off=>match hlook H id with
    | some (.box _ xs)=>some (xs.drop off)
    | _=>none
  | .rptr id sz k i=>match hlook H id with
    | some (.row _ sz' _ rows)=>bif Nat.beq sz sz' then (rows[k]?).map (·.drop i) else none
    | _=>none
  | .iptr row i=>some (row.drop i)
  | _=>none
theorem flat_row {α:Type} {sz:Nat}:∀ (rows:List (List α)) (k i:Nat) (r:List α),(∀ r∈rows,r.length=sz)→rows[k]?=some r→i<sz→rows.flatten[k*sz+i]?=r[i]?
  | [],k,i,r,_,h,_=>by simp at h
  | x::rows,0,i,r,hr,h,hi=>by
    simp only [List.getElem?_cons_zero,Option.some.injEq] at h; subst h
    rw [List.flatten_cons,Nat.zero_mul,Nat.zero_add,List.getElem?_append_left (by rw [hr x (by simp)]; exact hi)]
  | x::rows,k+1,i,r,hr,h,hi=>by
    have hx:=hr x (by simp)
    rw [List.flatten_cons,List.getElem?_append_right (by rw [hx,Nat.add_mul]; omega),hx,show (k+1)*sz+i-sz=k*sz+i by rw [Nat.add_mul]; omega]
    exact flat_row rows k i r (fun r hr'=>hr r (by simp [hr'])) (by simpa using h) hi
theorem flat_len {α:Type} {sz:Nat}:∀ (rows:List (List α)),(∀ r∈rows,r.length=sz)→rows.flatten.length=rows.length*sz
  | [],_=>by simp
  | x::rows,hr=>by rw [List.flatten_cons,List.length_append,hr x (by simp),flat_len rows (fun r h=>hr r (by simp [h])),List.length_cons,Nat.add_mul]; omega

theorem behind_spec {σ:Nm} {Z:Nat→Prop} {w:World} {H:Heap} (hH:HR σ Z w H) {v:Value} {x:PV} (h:VR σ Z w v x) {ys:List PV} (e:behind H x=some ys) :
    ∃ b off l,v=.pointer (some ⟨b,off,none⟩)∧VRs σ Z w l ys∧ones ys=true∧∀ j u,l[j]?=some u→w.cell? ⟨b,off+j,none⟩=some u:=by
  cases h with
  | ptr id off b c h =>
    simp only [behind] at e
    split at e
    · rename_i e' xs hl
      simp only [Option.some.injEq] at e; subst e
      obtain ⟨b',c',C,h1,h2,h3,h4⟩:=hH.at_ _ _ hl
      rw [h] at h1; simp only [Option.some.injEq,Prod.mk.injEq] at h1; obtain ⟨rfl,rfl⟩:=h1
      refine ⟨b,off,C.drop off,rfl,h4.drop off,ones_drop h3 off,fun j u hu=>?_⟩
      rw [List.getElem?_drop] at hu
      simpa [World.cell?,h2] using hu
    · simp at e
  | rptr id sz k i b c h =>
    simp only [behind] at e
    split at e
    · rename_i e' sz' pu rows hl
      cases hb:Nat.beq sz sz' with
      | false=>rw [hb] at e; simp at e
      | true =>
        rw [hb] at e
        obtain rfl:=Nat.eq_of_beq_eq_true hb
        simp only [cond_true,Option.map_eq_some_iff] at e
        obtain ⟨r,hr,rfl⟩:=e
        obtain ⟨h6,_,hat⟩:=hH.at_ _ _ hl
        obtain ⟨C,h2,h3,h4,h5,h7'⟩:=hat b c h
        have h7:=h7'.1
        have hrow:=h6 r (List.mem_of_getElem? hr)
        have hlen:=fun r hr=>(h6 r hr).1
        have hfl:=flat_len rows hlen
        have hk:=(List.getElem?_eq_some_iff.1 hr).1
        have hks:(k+1)*sz≤rows.length*sz:=Nat.mul_le_mul_right _ hk
        rw [Nat.add_mul] at hks
        refine ⟨b,k*sz+i,(C.drop (k*sz+i)).take (sz-i),rfl,⟨?_,?_⟩,ones_drop hrow.2 i,fun j u hu=>?_⟩
        · have h71:=h7.1; rw [hfl] at h71
          simp at h71 ⊢; rw [hrow.1]; omega
        · intro j u x hu hx
          rw [List.getElem?_take] at hu
          split at hu
          · rename_i hj
            rw [List.getElem?_drop] at hu hx
            have:=flat_row rows k (i+j) r hlen hr (by omega)
            refine h7.2 (k*sz+i+j) u x ?_ (by rw [Nat.add_assoc,this]; exact hx)
            rw [List.getElem?_take,if_pos (by omega)]; exact hu
          · simp at hu
        · rw [List.getElem?_take] at hu
          split at hu
          · rw [List.getElem?_drop] at hu
            simpa [World.cell?,h2] using hu
          · simp at hu
    · simp at e
  | iptr b off i row U ho hz hc h =>
    simp only [behind,Option.some.injEq] at e
    subst e
    refine ⟨b,off+i,(List.range (row.length-i)).map fun j=>U (i+j),rfl,⟨by simp,fun j u x hu hx=>?_⟩,ones_drop ho i,fun j u hu=>?_⟩
    · rw [List.getElem?_map] at hu
      rw [List.getElem?_drop] at hx
      obtain ⟨j',hj',rfl⟩:=Option.map_eq_some_iff.1 hu
      rw [List.getElem?_range (by have:=(List.getElem?_eq_some_iff.1 hj').1; simpa using this)] at hj'
      simp only [Option.some.injEq] at hj'; subst hj'
      exact (h _ _ hx).vr
    · rw [List.getElem?_map] at hu
      obtain ⟨j',hj',rfl⟩:=Option.map_eq_some_iff.1 hu
      have hlt:=(List.getElem?_eq_some_iff.1 hj').1
      simp only [List.length_range] at hlt
      rw [List.getElem?_range hlt] at hj'
      simp only [Option.some.injEq] at hj'; subst hj'
      rw [Nat.add_assoc]; exact hc _ (by omega)
  | _=>simp [behind] at e

/-- cells as a value of a type -/
def pack (P:Program) (t:TypeId) (xs:List PV):Option PV :=
  match evl P (isAgg t),evl P (sizeOf t) with
  | some true,some n=>bif Nat.ble n xs.length then some (.agg (xs.take n)) else none
  | some false,some _=>xs.head?
  | _,_=>none
theorem run_loadVar {P:Program} {σ:Nm} {Z:Nat→Prop} {w:World} {t:TypeId} {b off:Nat} {l:List Value} {xs:List PV} {x:PV} (hv:VRs σ Z w l xs) (ho:ones xs=true) (hc:∀ j u,l[j]?=some u→w.cell? ⟨b,off+j,none⟩=some u) (hp:pack P t xs=some x) :
    ∃ v,(loadVar t ⟨b,off,none⟩).run P w=.ok v w∧VR σ Z w v x:=by
  unfold pack at hp
  unfold loadVar
  split at hp
  · rename_i n h1 h2
    cases hn:Nat.ble n xs.length with
    | false=>rw [hn] at hp; simp at hp
    | true =>
      rw [hn] at hp
      simp only [cond_true,Option.some.injEq] at hp
      subst hp
      have hle:=Nat.le_of_ble_eq_true hn
      have hlc:=run_loadCells_list (P:=P) w ⟨b,off,none⟩ (l.take n) (fun j u hu=>by
        rw [add_off]; rw [List.getElem?_take] at hu
        split at hu
        · exact hc j u hu
        · simp at hu)
      have hln:(l.take n).length=n:=by rw [List.length_take,hv.1]; omega
      rw [hln] at hlc
      refine ⟨.agg (l.take n).toArray,?_,.agg _ _ (hv.take n).1 (ones_take ho n) (hv.take n).2⟩
      simp [Sem.run_bind,evl_run h1 w,evl_run h2 w,hlc]
  · rename_i n h1 h2
    cases xs with
    | nil=>simp at hp
    | cons y ys =>
      simp only [List.head?_cons,Option.some.injEq] at hp; subst hp
      obtain ⟨u,l',rfl,q1,q2⟩:=hv.inv
      have h0:=hc 0 u rfl
      rw [Nat.add_zero] at h0
      refine ⟨u,?_,q1⟩
      simp [Sem.run_bind,evl_run h1 w,load,Sem.run,h0]
  · simp at hp
end Go.PX

/- Proved: the operations on plain data,one by one: loads,new blocks,stores,addresses. Program-independent. -/
namespace Go.PX
open Go.RowKit Go.SX

def upd (σ:Nm) (id b c:Nat):Nm:=fun i=>if i=id then some (b,c) else σ i
theorem upd_self (σ:Nm) (id b c:Nat):upd σ id b c id=some (b,c):=by simp [upd]
theorem upd_ext {σ:Nm} {id b c:Nat} (h:σ id=none):Ext σ (upd σ id b c):=fun i x hx=>by
  unfold upd; split
  · rename_i e; rw [e,h] at hx; cases hx
  · exact hx
theorem ulook_one {id i:Nat} {o:Option PO}:ulook [(id,o)] i=if i=id then some o else none:=by
  simp only [ulook]
  cases hb:Nat.beq id i with
  | true=>rw [Nat.eq_of_beq_eq_true hb]; simp
  | false=>rw [if_neg (by rintro rfl; simp at hb)]; rfl
theorem chg_alloc (M:Nat→Prop) (w:World) (o:Obj):Chg M w (w.alloc o):=⟨rfl,rfl,rfl,by show _≤(w.heap.push o).size; simp,fun b hb _=>by show (w.heap.push o)[b]?=_; simp [Array.getElem?_push,Nat.ne_of_lt hb]⟩

theorem eff_new {σ:Nm} {Z:Nat→Prop} {w:World} {H:Heap} (hH:HR σ Z w H) {nx c:Nat} (hn:σ nx=none) (hnh:hlook H nx=none) {ob:Obj} {po:PO} (ho:OR (upd σ nx w.heap.size c) Z (w.alloc ob) nx po):Eff σ Z w H [(nx,some po)] (upd σ nx w.heap.size c) Z (w.alloc ob) where
  ext:=upd_ext hn
  dom id h1 h2:=by
    rw [ulook_one] at h2
    unfold upd
    split
    · rename_i e; rw [if_pos e] at h2
      rcases h2 with h2 | h2
      · cases h2
      · subst e; exact absurd hnh h2
    · exact h1
  zmono _ h:=h
  znew _ h:=.inl h
  chg:=chg_alloc _ _ _
  objs id o h:=by
    rw [ulook_one] at h
    split at h
    · rename_i e; subst e; injection h with h; injection h with h; subst h; exact ho
    · cases h
  off id o b c' h h':=by
    rw [ulook_one] at h
    split at h
    · rename_i e; subst e
      rw [upd_self] at h'
      injection h' with h'; injection h' with h1 h2; subst h1
      exact ⟨fun hz=>Nat.lt_irrefl _ (hH.zlt _ hz),.inl (Nat.le_refl _)⟩
    · cases h
  inj id id' o o' b c' c'' h h' _ _:=by
    rw [ulook_one] at h h'
    split at h
    · split at h'
      · rename_i e e'; rw [e,e']
      · cases h'
    · cases h

theorem eff_upd {σ:Nm} {Z:Nat→Prop} {w w':World} {H:Heap} (hH:HR σ Z w H) {id b c:Nat} {o0 o':PO} (hl:hlook H id=some o0) (hs:σ id=some (b,c)) (hw:Chg (fun x=>x=b) w w') (ho:OR σ Z w' id o'):Eff σ Z w H [(id,some o')] σ Z w' where
  ext:=Ext.refl σ
  dom _ h _:=h
  zmono _ h:=h
  znew _ h:=.inl h
  chg:=hw.mono fun x hx e=>by subst e; exact ⟨id,o0,c,by rw [ulook_one,if_pos rfl]; simp,hl,hs⟩
  objs i o h:=by
    rw [ulook_one] at h
    split at h
    · rename_i e; subst e; injection h with h; injection h with h; subst h; exact ho
    · cases h
  off i o b' c' h h':=by
    rw [ulook_one] at h
    split at h
    · rename_i e; subst e
      rw [hs] at h'; injection h' with h'; injection h' with h1 h2; subst h1
      exact ⟨hH.off _ _ _ _ hl hs,.inr ⟨i,o0,c,by rw [ulook_one,if_pos rfl]; simp,hl,hs⟩⟩
    · cases h
  inj i i' o o' b' c' c'' h h' _ _:=by
    rw [ulook_one] at h h'
    split at h
    · split at h'
      · rename_i e e'; rw [e,e']
      · cases h'
    · cases h

section
variable {P:Program} {σ:Nm} {Z:Nat→Prop} {w:World} {N:Nat} {κ:List (Nat × Bool)} {R:List Ent} {a:Act} {H:Heap} {p:List (Nat × Bool)} {o:Oper}

theorem exec_load (hR:RS σ Z w N κ R a) (hH:HR σ Z w H) (hp:pv κ p=true) {t:TypeId} {x:Operand} (ho:o.op=.load t x) {px r:PV} {xs:List PV} (hx:opd R p x=some px) (hb:behind H px=some xs) (hr:pack P t xs=some r):Exec P o a w σ Z H (some r) []:=by
  obtain ⟨b,off,l,e,h1,h2,h3⟩:=behind_spec hH (hR.opd hp hx) hb
  obtain ⟨v,h4,h5⟩:=run_loadVar h1 h2 h3 hr
  refine exec_quiet (v:=v) ?_ h5
  simp [execOp,ho,Instr.loadAt,e,Instr.sureAddr,Sem.run_bind,h4]

theorem run_newVar {t:TypeId} {v:Value}:(newVar t v).run P w=.ok ⟨w.heap.size,0,none⟩ (w.alloc (.cells v.cells t)):=by
  unfold newVar newRow newObj
  rfl
theorem or_box {nx c:Nat} (hn:σ nx=none) {e:TypeId} {C:List Value} {xs:List PV} (h:VRs σ Z w C xs) (ho:ones xs=true):OR (upd σ nx w.heap.size c) Z (w.alloc (.cells C.toArray e (0,0))) nx (.box e xs) :=
  ⟨w.heap.size,c,C,upd_self _ _ _ _,by show (w.heap.push _)[w.heap.size]?=_; simp,ho,h.mono (M:=fun _=>False) (upd_ext hn) (fun _ h=>h) (chg_alloc _ _ _) (fun _ _ h=>h)⟩
theorem exec_newVar (hH:HR σ Z w H) {nx:Nat} (hn:σ nx=none) (hnh:hlook H nx=none) {t:TypeId} {v:Value} {xs:List PV} (hv:VRs σ Z w v.cells.toList xs) (ho:ones xs=true)
    (hr:(execOp a.eval o).run P w=.ok (.value (.pointer (some ⟨w.heap.size,0,none⟩))) (w.alloc (.cells v.cells t))):Exec P o a w σ Z H (some (.ptr nx 0)) [(nx,some (.box t xs))]:=by
  have h1:=or_box (c:=0) hn (e:=t) hv ho
  rw [Array.toArray_toList] at h1
  exact exec_value hr (.ptr nx 0 w.heap.size 0 (upd_self _ _ _ _)) (eff_new hH hn hnh h1)
theorem exec_box (hR:RS σ Z w N κ R a) (hH:HR σ Z w H) (hp:pv κ p=true) {nx:Nat} (hn:σ nx=none) (hnh:hlook H nx=none) {t:TypeId} {x:Operand} (ho:o.op=.box t x) {px:PV} (hx:opd R p x=some px) (ht:isTup px=false):Exec P o a w σ Z H (some (.ptr nx 0)) [(nx,some (.box t (pcells px)))]:=by
  obtain ⟨h1,h2⟩:=pcells_spec (hR.opd hp hx) ht
  exact exec_newVar hH hn hnh h1 h2 (by simp [execOp,ho,Instr.box,Sem.run_bind,run_newVar])
theorem exec_alloc (hH:HR σ Z w H) {nx:Nat} (hn:σ nx=none) (hnh:hlook H nx=none) {t:TypeId} (ho:o.op=.alloc t) {z:Value} {px:PV} (hz:evl P (zeroValue t)=some z) (hx:ofV z=some px) (ht:isTup px=false):Exec P o a w σ Z H (some (.ptr nx 0)) [(nx,some (.box t (pcells px)))]:=by
  obtain ⟨h1,h2⟩:=pcells_spec (ofV_spec hx) ht
  exact exec_newVar hH hn hnh h1 h2 (by simp [execOp,ho,Instr.alloc,Sem.run_bind,run_newVar,evl_run hz])

/-- cells written over others -/
def over {α:Type} (xs:List α) (i:Nat) (ys:List α):List α:=xs.take i++ys++xs.drop (i+ys.length)
theorem over_left {α:Type} {x F ys:List α} {i:Nat} (h:i+ys.length≤x.length):over (x++F) i ys=over x i ys++F:=by
  unfold over
  rw [List.take_append,List.drop_append,show i-x.length=0 by omega,show i+ys.length-x.length=0 by omega]
  simp
theorem over_right {α:Type} {x F ys:List α} {i j:Nat} (h:i=x.length+j):over (x++F) i ys=x++over F j ys:=by
  subst h
  unfold over
  rw [List.take_append,List.drop_append,show x.length+j-x.length=j by omega,show x.length+j+ys.length-x.length=j+ys.length by omega,List.take_of_length_le (by omega),List.drop_eq_nil_of_le (by omega)]
  simp
theorem over_len {α:Type} {x ys:List α} {i:Nat} (h:i+ys.length≤x.length):(over x i ys).length=x.length:=by simp [over]; omega
theorem over_take {α:Type} {x ys:List α} {i n:Nat} (h:i+ys.length≤n) (hn:n≤x.length):(over x i ys).take n=over (x.take n) i ys:=by
  have h1:(x.take n).length=n:=by simp; omega
  have h2:over x i ys=over (x.take n) i ys++x.drop n:=by rw [← over_left (by omega),List.take_append_drop]
  rw [h2,List.take_append_of_le_length (by rw [over_len (by omega)]; omega),List.take_of_length_le (by rw [over_len (by omega)]; omega)]
theorem VRs.over {l m:List Value} {xs ys:List PV} (h:VRs σ Z w l xs) (h':VRs σ Z w m ys) (i:Nat):VRs σ Z w (PX.over l i m) (PX.over xs i ys):=by
  unfold PX.over
  rw [h'.1]
  exact ((h.take i).append h').append (h.drop _)
theorem CRs.over {pu pu':Bool} {l m:List Value} {xs ys:List PV} (h:CRs pu σ Z w l xs) (h':CRs pu' σ Z w m ys) (i:Nat):CRs (pu&&pu') σ Z w (PX.over l i m) (PX.over xs i ys):=by
  have e:(pu&&pu')=((pu&&pu')&&pu):=by cases pu <;> cases pu' <;> rfl
  unfold PX.over
  rw [h'.1.1,e]
  exact ((h.take i).append h').append (h.drop _)
theorem ones_over {xs ys:List PV} (h:ones xs=true) (h':ones ys=true) (i:Nat):ones (over xs i ys)=true:=ones_append (ones_append (ones_take h i) h') (ones_drop h _)

theorem chg_setRow {g:Nat} {C C':Array Value} {e:TypeId} (h:w.heap[g]?=some (.cells C e (0,0))):Chg (fun x=>x=g) w (w.setRow g C')∧(w.setRow g C').heap[g]?=some (.cells C' e (0,0)):=by
  refine ⟨⟨rfl,rfl,rfl,by simp [World.setRow],fun b hb hn=>?_⟩,setRow_heap w g C C' e (0,0) h⟩
  simp only [World.setRow,Array.getElem?_modify]
  rw [if_neg (fun e=>hn e.symm)]

theorem run_storeVar {t:TypeId} {b off n:Nat} {v:Value} {C:List Value} {e:TypeId} (hn:evl P (sizeOf t)=some n) (hs:v.cells.size=n) (hb:w.heap[b]?=some (.cells C.toArray e (0,0))) (hl:off+n≤C.length) (h1:∀ u∈v.cells.toList,u.oneCell'=true) :
    (storeVar t ⟨b,off,none⟩ v).run P w=.ok () (w.setRow b (over C off v.cells.toList).toArray):=by
  have:=run_storeCells_at (P:=P) b off e v.cells.toList 0 C.toArray w hb (by simp [hs]; omega) h1
  simp only [Nat.add_zero] at this
  unfold storeVar
  simp only [Sem.run_bind,evl_run hn w,Result.andThen_ok,hs,ne_eq,not_true,↓reduceIte]
  simp only [Sem.run_pure,Result.andThen_ok,this]
  simp [hs,over]

theorem exec_store_box (hR:RS σ Z w N κ R a) (hH:HR σ Z w H) (hp:pv κ p=true) {t:TypeId} {x y:Operand} (ho:o.op=.store t x y) {id off n:Nat} {e:TypeId} {xs:List PV} {py:PV} (hx:opd R p x=some (.ptr id off)) (hy:opd R p y=some py) (ht:isTup py=false) (hl:hlook H id=some (.box e xs)) (hn:evl P (sizeOf t)=some n) (hs:(pcells py).length=n) (hle:off+n≤xs.length) :
    Exec P o a w σ Z H none [(id,some (.box e (over xs off (pcells py))))]:=by
  obtain ⟨h1,h2⟩:=pcells_spec (hR.opd hp hy) ht
  obtain ⟨b,c,C,q1,q2,q3,q4⟩:=hH.at_ _ _ hl
  have hv:=hR.opd hp hx
  have hsz:(a.eval y).cells.size=n:=by have:=h1.1; simp at this; omega
  have hrun:=run_storeVar (P:=P) (w:=w) (off:=off) hn hsz q2 (by rw [q4.1]; exact hle) (h1.oneCell h2)
  generalize hav:a.eval x=vx at hv
  cases hv with
  | ptr _ _ b' c' hb' =>
    rw [q1] at hb'; simp only [Option.some.injEq,Prod.mk.injEq] at hb'; obtain ⟨rfl,rfl⟩:=hb'
    obtain ⟨g1,g2⟩:=chg_setRow (C':=(over C off (a.eval y).cells.toList).toArray) q2
    refine exec_skip (σ':=σ) (Z':=Z) ?_ (eff_upd hH hl q1 g1 ⟨b,c,_,q1,g2,ones_over q3 h2 off,?_⟩)
    · simp [execOp,ho,Instr.storeAt,hav,Instr.sureAddr,Sem.run_bind,hrun]
    · have:=(VRs.over q4 h1 off).mono (M:=fun x=>x=b) (Ext.refl σ) (fun _ h=>h) g1 (fun z hz e=>hH.off _ _ _ _ hl q1 (e ▸ hz))
      exact this
end
end Go.PX

/- Proved: the operations on plain data,one by one: addresses,rows,structs. Program-independent. -/
namespace Go.PX
open Go.RowKit Go.SX

section
variable {P:Program} {σ:Nm} {Z:Nat→Prop} {w:World} {N:Nat} {κ:List (Nat × Bool)} {R:List Ent} {a:Act} {H:Heap} {p:List (Nat × Bool)} {o:Oper}

theorem exec_move (hR:RS σ Z w N κ R a) (hp:pv κ p=true) {x:Operand} (ho:o.op=.move x∨o.op=.assign x) {px:PV} (hx:opd R p x=some px):Exec P o a w σ Z H (some px) []:=by
  refine exec_quiet (v:=a.eval x) ?_ (hR.opd hp hx)
  rcases ho with ho | ho <;> simp [execOp,ho]

/-- where a field lies -/
def fieldOff (P:Program) (s:TypeId) (f:Nat):Option Nat :=
  match evl P (underlying s) with
  | some (.struct fs)=>match fs[f]? with
    | some g=>match evl P (sizeOf g.type) with
      | some 0=>none
      | some _=>some g.offset
      | none=>none
    | none=>none
  | _=>none
def addPtr (n:Nat):PV→Option PV
  | .ptr id off=>some (.ptr id (off+n))
  | .rptr id sz k i=>some (.rptr id sz k (i+n))
  | .iptr row i=>some (.iptr row (i+n))
  | _=>none
theorem addPtr_spec {v:Value} {x y:PV} {n:Nat} (h:VR σ Z w v x) (e:addPtr n x=some y):∃ b off,v=.pointer (some ⟨b,off,none⟩)∧VR σ Z w (.pointer (some ⟨b,off+n,none⟩)) y:=by
  cases h with
  | ptr id off b c h=>simp only [addPtr,Option.some.injEq] at e; subst e; exact ⟨b,off,rfl,.ptr id _ b c h⟩
  | rptr id sz k i b c h=>simp only [addPtr,Option.some.injEq] at e; subst e; exact ⟨b,k*sz+i,rfl,by rw [Nat.add_assoc]; exact .rptr id sz k _ b c h⟩
  | iptr b off i row U ho hz hc h=>simp only [addPtr,Option.some.injEq] at e; subst e; exact ⟨b,off+i,rfl,by rw [Nat.add_assoc]; exact .iptr b off _ row U ho hz hc h⟩
  | _=>simp [addPtr] at e
theorem run_fieldAt {s:TypeId} {f n b off:Nat} (h:fieldOff P s f=some n):(Instr.fieldAt s (.pointer (some ⟨b,off,none⟩)) f).run P w=.ok (.pointer (some ⟨b,off+n,none⟩)) w:=by
  unfold fieldOff at h
  split at h
  · rename_i fs h1
    split at h
    · rename_i g h2
      split at h
      · cases h
      · rename_i m h3 hne
        simp only [Option.some.injEq] at h; subst h
        have hm:m≠0:=fun e=>by subst e; exact h3 rfl
        simp [Instr.fieldAt,Sem.run_bind,evl_run h1 w,h2,Instr.sureAddr,fieldPlace,evl_run hne w,hm,add_off]
      · cases h
    · cases h
  · cases h
theorem exec_fieldAddr (hR:RS σ Z w N κ R a) (hp:pv κ p=true) {s:TypeId} {x:Operand} {f n:Nat} (ho:o.op=.fieldAddr s x f) {px r:PV} (hx:opd R p x=some px) (hf:fieldOff P s f=some n) (hr:addPtr n px=some r):Exec P o a w σ Z H (some r) []:=by
  obtain ⟨b,off,e,h1⟩:=addPtr_spec (hR.opd hp hx) hr
  refine exec_quiet (v:=.pointer (some ⟨b,off+n,none⟩)) ?_ h1
  simp [execOp,ho,e,Sem.run_bind,run_fieldAt hf]

/-- the length of a slice -/
def plen:PV→Option Nat
  | .own _ _ n=>some n
  | .imm _ rows=>some rows.length
  | .sc (.slice none n _)=>some n
  | _=>none
theorem plen_spec {v:Value} {x:PV} {n:Nat} (h:VR σ Z w v x) (e:plen x=some n):∃ A c,v=.slice A n c:=by
  cases h with
  | own id sz len b c h=>simp only [plen,Option.some.injEq] at e; subst e; exact ⟨_,_,rfl⟩
  | own0 id sz=>simp only [plen,Option.some.injEq] at e; subst e; exact ⟨_,_,rfl⟩
  | imm v sz rows h=>simp only [plen,Option.some.injEq] at e; subst e; cases h; exact ⟨_,_,rfl⟩
  | sc v h =>
    cases v <;> simp [plen] at e
    rename_i A n' c
    cases A <;> simp [plen] at e
    subst e; exact ⟨_,_,rfl⟩
  | _=>simp [plen] at e

/-- an element's address: k is the index as a number; of a slice that nobody writes the element is told,too -/
def elemPtr (P:Program) (t:TypeId) (x:PV) (k:Nat) (row:List PV):Option (PV × List Prop) :=
  match evl P (underlying t) with
  | some (.slice e)=>match evl P (sizeOf e),x with
    | some sz,.own id sz' n=>bif Nat.beq sz sz' then some (.rptr id sz k 0,[k<n]) else none
    | some sz,.imm sz' rows=>bif Nat.beq sz sz' then some (.iptr row 0,[rows[k]?=some row]) else none
    | _,_=>none
  | some (.array n e)=>match evl P (sizeOf e) with
    | some sz=>match addPtr (k*sz) x with
      | some r=>some (r,[k<n])
      | none=>none
    | none=>none
  | _=>none
def AllP:List Prop→Prop
  | []=>True
  | q::l=>q∧AllP l
theorem run_indexAt {t e:TypeId} {sz b off len c k:Nat} {K:IntKind} (h1:evl P (underlying t)=some (.slice e)) (h2:evl P (sizeOf e)=some sz) (hk:k<len):(Instr.indexAt t (.slice (some ⟨b,off,none⟩) len c) (.int K (k:Int))).run P w=.ok (.pointer (some ⟨b,off+k*sz,none⟩)) w:=by
  have h3:(0:Int)≤k∧(k:Int)<len:=⟨by omega,by omega⟩
  simp [Instr.indexAt,Sem.run_bind,evl_run h1 w,asIntOf,evl_run h2 w,add_off,hk]
theorem run_indexAt_arr {t e:TypeId} {sz b off len k:Nat} {K:IntKind} (h1:evl P (underlying t)=some (.array len e)) (h2:evl P (sizeOf e)=some sz) (hk:k<len):(Instr.indexAt t (.pointer (some ⟨b,off,none⟩)) (.int K (k:Int))).run P w=.ok (.pointer (some ⟨b,off+k*sz,none⟩)) w:=by
  have h3:(0:Int)≤k∧(k:Int)<len:=⟨by omega,by omega⟩
  simp [Instr.indexAt,Sem.run_bind,evl_run h1 w,asIntOf,evl_run h2 w,add_off,hk,Instr.sureAddr]
theorem exec_indexAddr (hR:RS σ Z w N κ R a) (hp:pv κ p=true) {t:TypeId} {x i:Operand} (ho:o.op=.indexAddr t x i) {px r:PV} {K:IntKind} {n:Int} {k:Nat} {row:List PV} {ob:List Prop} (hx:opd R p x=some px) (hi:opd R p i=some (.sc (.int K n))) (hn:n=(k:Int)) (hr:elemPtr P t px k row=some (r,ob)) (hob:AllP ob):Exec P o a w σ Z H (some r) []:=by
  have hv:=hR.opd hp hx
  have hw:=hR.opd hp hi
  generalize hav:a.eval x=vx at hv
  generalize haw:a.eval i=vi at hw
  subst hn
  cases hw
  unfold elemPtr at hr
  split at hr
  · rename_i e h1
    split at hr
    · rename_i sz id sz' len h2
      cases hb:Nat.beq sz sz' with
      | false=>rw [hb] at hr; simp at hr
      | true =>
        rw [hb] at hr
        obtain rfl:=Nat.eq_of_beq_eq_true hb
        simp only [cond_true,Option.some.injEq,Prod.mk.injEq] at hr
        obtain ⟨rfl,rfl⟩:=hr
        cases hv with
        | own _ _ _ b c hs =>
          refine exec_quiet (v:=.pointer (some ⟨b,k*sz+0,none⟩)) ?_ (.rptr id sz k 0 b c hs)
          simp [execOp,ho,hav,haw,Sem.run_bind,run_indexAt h1 h2 hob.1]
        | own0=>exact absurd hob.1 (Nat.not_lt_zero k)
    · rename_i sz sz' rows h2
      cases hb:Nat.beq sz sz' with
      | false=>rw [hb] at hr; simp at hr
      | true =>
        rw [hb] at hr
        obtain rfl:=Nat.eq_of_beq_eq_true hb
        simp only [cond_true,Option.some.injEq,Prod.mk.injEq] at hr
        obtain ⟨rfl,rfl⟩:=hr
        cases hv with
        | imm _ _ _ hi =>
          cases hi with
          | imm A cap _ _ U q1 q2 q3 q4 =>
            have hrow:=hob.1
            have hk:=(List.getElem?_eq_some_iff.1 hrow).1
            obtain ⟨g1,g2,b,off,rfl,g3,g4⟩:=q3 k row hrow
            refine exec_quiet (v:=.pointer (some ⟨b,off+k*sz+0,none⟩)) ?_ (.iptr b (off+k*sz) 0 row (U k) g2 g3 (fun j hj=>g4 j (by rw [← g1]; exact hj)) (fun j x hx=>q4 k row j x hrow hx))
            simp [execOp,ho,hav,haw,Sem.run_bind,run_indexAt h1 h2 hk]
    · cases hr
  · rename_i m e h1
    split at hr
    · rename_i sz h2
      split at hr
      · rename_i r' h3
        simp only [Option.some.injEq,Prod.mk.injEq] at hr
        obtain ⟨rfl,rfl⟩:=hr
        rw [← hav] at hv
        obtain ⟨b,off,ev,h4⟩:=addPtr_spec hv h3
        refine exec_quiet (v:=.pointer (some ⟨b,off+k*sz,none⟩)) ?_ h4
        simp [execOp,ho,ev,haw,Sem.run_bind,run_indexAt_arr h1 h2 hob.1]
      · cases hr
    · cases hr
  · cases hr

/-- an element's address where the index is a number that is read off -/
def ixAu (P:Program) (t:TypeId) (x:PV) (k:Nat):Option PV :=
  match evl P (underlying t) with
  | some (.array n e)=>match evl P (sizeOf e) with
    | some sz=>bif Nat.blt k n then addPtr (k*sz) x else none
    | none=>none
  | some (.slice e)=>match evl P (sizeOf e),x with
    | some sz,.own id sz' n=>bif Nat.beq sz sz'&&Nat.blt k n then some (.rptr id sz k 0) else none
    | some sz,.imm sz' rows=>bif Nat.beq sz sz' then match rows[k]? with
        | some row=>some (.iptr row 0)
        | none=>none
      else none
    | _,_=>none
  | _=>none
theorem exec_ixAu (hR:RS σ Z w N κ R a) (hp:pv κ p=true) {t:TypeId} {x i:Operand} (ho:o.op=.indexAddr t x i) {px r:PV} {K:IntKind} {k:Nat} (hx:opd R p x=some px) (hi:opd R p i=some (.sc (.int K (k:Int)))) (hr:ixAu P t px k=some r):Exec P o a w σ Z H (some r) []:=by
  unfold ixAu at hr
  split at hr
  · rename_i n e h1
    split at hr
    · rename_i sz h2
      cases hb:Nat.blt k n with
      | false=>rw [hb] at hr; cases hr
      | true =>
        rw [hb] at hr
        simp only [cond_true] at hr
        have hk:k<n:=by simpa using hb
        obtain ⟨b,off,ev,h3⟩:=addPtr_spec (hR.opd hp hx) hr
        have hw:=hR.opd hp hi
        generalize haw:a.eval i=vi at hw
        cases hw
        refine exec_quiet (v:=.pointer (some ⟨b,off+k*sz,none⟩)) ?_ h3
        simp [execOp,ho,ev,haw,Sem.run_bind,run_indexAt_arr h1 h2 hk]
    · cases hr
  · rename_i e h1
    split at hr
    · rename_i sz id sz' n h2
      cases hb:(Nat.beq sz sz'&&Nat.blt k n) with
      | false=>rw [hb] at hr; cases hr
      | true =>
        rw [hb] at hr
        simp only [cond_true,Option.some.injEq] at hr; subst hr
        simp only [Bool.and_eq_true,Nat.beq_eq,Nat.blt_eq] at hb
        obtain ⟨rfl,hk⟩:=hb
        exact exec_indexAddr hR hp ho hx hi rfl (row:=[]) (ob:=[k<n]) (by unfold elemPtr; rw [h1]; simp [h2]) ⟨hk,trivial⟩
    · rename_i sz sz' rows h2
      cases hb:Nat.beq sz sz' with
      | false=>rw [hb] at hr; cases hr
      | true =>
        rw [hb] at hr
        obtain rfl:=Nat.eq_of_beq_eq_true hb
        simp only [cond_true] at hr
        split at hr
        · rename_i row hrow
          simp only [Option.some.injEq] at hr; subst hr
          exact exec_indexAddr hR hp ho hx hi rfl (row:=row) (ob:=[rows[k]?=some row]) (by unfold elemPtr; rw [h1]; simp [h2]) ⟨hrow,trivial⟩
        · cases hr
    · cases hr
  · cases hr
theorem exec_len (hR:RS σ Z w N κ R a) (hp:pv κ p=true) {ty:Array TypeId} {x:Operand} (ho:o.op=.call { callee:=.builtin .len,args:=#[x],argTypes:=ty }) {t e:TypeId} (ht:ty[0]?=some t) (hu:evl P (underlying t)=some (.slice e)) {px:PV} {n:Nat} (hx:opd R p x=some px) (hl:plen px=some n):Exec P o a w σ Z H (some (.sc (.int .i64 (n:Int)))) []:=by
  obtain ⟨A,c,ev⟩:=plen_spec (hR.opd hp hx) hl
  refine exec_quiet (v:=.int .i64 n) ?_ (.sc _ rfl)
  simp [execOp,ho,resolve,ev,invoke,builtin,Builtin.len_,goInt,ht,Sem.run_bind,evl_run hu w]

/-- struct fields and elements of arrays held as values -/
def partP (P:Program) (t:TypeId) (xs:List PV) (off:Nat):Option PV :=
  match evl P (isAgg t),evl P (sizeOf t) with
  | some true,some n=>some (.agg ((xs.drop off).take n))
  | some false,some _=>xs[off]?
  | _,_=>none
theorem part_run {t:TypeId} {l:List Value} {xs:List PV} {off:Nat} {r:PV} (h:VRs σ Z w l xs) (ho:ones xs=true) (hr:partP P t xs off=some r):∃ v,(part t l.toArray off).run P w=.ok v w∧VR σ Z w v r:=by
  unfold partP at hr
  split at hr
  · rename_i n h1 h2
    simp only [Option.some.injEq] at hr; subst hr
    refine ⟨.agg ((l.drop off).take n).toArray,?_,.agg _ _ ((h.drop off).take n).1 (ones_take (ones_drop ho off) n) ((h.drop off).take n).2⟩
    simp only [part,Sem.run_bind,evl_run h1 w,Result.andThen_ok,if_true,evl_run h2 w,Sem.run_pure]
    congr 2
    apply Array.ext'
    simp [List.take_drop]
  · rename_i n h1 h2
    obtain ⟨u,hu,hv⟩:=h.get hr
    refine ⟨u,?_,hv⟩
    have:l.toArray[off]?=some u:=by simpa using hu
    simp [part,Sem.run_bind,evl_run h1 w,this]
  · cases hr
def fieldP (P:Program) (s:TypeId) (x:PV) (f:Nat):Option PV :=
  match evl P (underlying s),x with
  | some (.struct fs),.agg xs=>match fs[f]? with
    | some g=>partP P g.type xs g.offset
    | none=>none
  | _,_=>none
theorem exec_field (hR:RS σ Z w N κ R a) (hp:pv κ p=true) {s:TypeId} {x:Operand} {f:Nat} (ho:o.op=.field s x f) {px r:PV} (hx:opd R p x=some px) (hr:fieldP P s px f=some r):Exec P o a w σ Z H (some r) []:=by
  have hv:=hR.opd hp hx
  generalize hav:a.eval x=vx at hv
  unfold fieldP at hr
  split at hr
  · rename_i fs xs h1
    split at hr
    · rename_i g h2
      cases hv with
      | agg l _ hl ho' h =>
        obtain ⟨v,h3,h4⟩:=part_run (P:=P) (w:=w) ⟨hl,h⟩ ho' hr
        refine exec_quiet (v:=v) ?_ h4
        simp [execOp,ho,hav,Instr.field,Sem.run_bind,evl_run h1 w,h2,asAgg,h3]
    · cases hr
  · cases hr
def indexP (P:Program) (t:TypeId) (x:PV) (k:Nat):Option PV :=
  match evl P (underlying t),x with
  | some (.array n e),.agg xs=>match evl P (sizeOf e) with
    | some sz=>bif Nat.blt k n then partP P e xs (k*sz) else none
    | none=>none
  | _,_=>none
theorem exec_index (hR:RS σ Z w N κ R a) (hp:pv κ p=true) {t:TypeId} {x i:Operand} (ho:o.op=.index t x i) {px r:PV} {K:IntKind} {k:Nat} (hx:opd R p x=some px) (hi:opd R p i=some (.sc (.int K (k:Int)))) (hr:indexP P t px k=some r):Exec P o a w σ Z H (some r) []:=by
  have hv:=hR.opd hp hx
  have hw:=hR.opd hp hi
  generalize hav:a.eval x=vx at hv
  generalize haw:a.eval i=vi at hw
  cases hw
  unfold indexP at hr
  split at hr
  · rename_i n e xs h1
    split at hr
    · rename_i sz h2
      cases hb:Nat.blt k n with
      | false=>rw [hb] at hr; simp at hr
      | true =>
        rw [hb] at hr
        simp only [cond_true] at hr
        have hk:k<n:=by simpa using hb
        cases hv with
        | agg l _ hl ho' h =>
          obtain ⟨v,h3,h4⟩:=part_run (P:=P) (w:=w) ⟨hl,h⟩ ho' hr
          refine exec_quiet (v:=v) ?_ h4
          simp [execOp,ho,hav,haw,Instr.index,asIntOf,Sem.run_bind,evl_run h1 w,evl_run h2 w,hk,h3]
    · cases hr
  · cases hr
theorem exec_extract (hR:RS σ Z w N κ R a) (hp:pv κ p=true) {x:Operand} {i:Nat} (ho:o.op=.extract x i) {xs:List PV} {r:PV} (hx:opd R p x=some (.tup xs)) (hr:xs[i]?=some r):Exec P o a w σ Z H (some r) []:=by
  have hv:=hR.opd hp hx
  generalize hav:a.eval x=vx at hv
  cases hv with
  | tup l _ hl h =>
    obtain ⟨u,hu,hv⟩:=VRs.get ⟨hl,h⟩ hr
    refine exec_quiet (v:=u) ?_ hv
    have:l.toArray[i]?=some u:=by simpa using hu
    simp [execOp,ho,hav,Instr.extract,this]

/-- several operands -/
def opds (R:List Ent) (p:List (Nat × Bool)):List Operand→Option (List PV)
  | []=>some []
  | x::l=>match opd R p x,opds R p l with
    | some y,some ys=>some (y::ys)
    | _,_=>none
theorem RS.opds (hR:RS σ Z w N κ R a) (hp:pv κ p=true):∀ {l:List Operand} {ys:List PV},PX.opds R p l=some ys→VRs σ Z w (l.map a.eval) ys
  | [],ys,h=>by simp only [PX.opds,Option.some.injEq] at h; subst h; exact .nil
  | x::l,ys,h=>by
    simp only [PX.opds] at h
    split at h
    · rename_i y ys' h1 h2
      simp only [Option.some.injEq] at h; subst h
      exact .cons (hR.opd hp h1) (RS.opds hR hp h2)
    · cases h
theorem exec_makeFunc (hR:RS σ Z w N κ R a) (hp:pv κ p=true) {f:FuncId} {l1 l2:List Operand} (ho:o.op=.makeFunc (.func f) l1.toArray l2.toArray) {y1 y2:List PV} (h1:opds R p l1=some y1) (h2:opds R p l2=some y2):Exec P o a w σ Z H (some (.fn f y1 y2)) []:=by
  have q1:=hR.opds hp h1
  have q2:=hR.opds hp h2
  refine exec_quiet (v:=.func (.func f) (l1.map a.eval).toArray (l2.map a.eval).toArray) ?_ (.fn f _ _ _ _ q1.1 q2.1 q1.2 q2.2)
  simp [execOp,ho,Instr.makeFunc]
def isPtr:PV→Bool
  | .ptr .. | .rptr .. | .iptr .. | .fn ..=>true
  | _=>false
theorem exec_nilCheck (hR:RS σ Z w N κ R a) (hp:pv κ p=true) {x:Operand} (ho:o.op=.nilCheck x) {px:PV} (hx:opd R p x=some px) (hr:isPtr px=true):Exec P o a w σ Z H (some px) []:=by
  have hv:=hR.opd hp hx
  refine exec_quiet (v:=a.eval x) ?_ hv
  generalize hav:a.eval x=vx at hv
  cases hv <;> simp [isPtr] at hr <;> simp [execOp,ho,hav]
end
end Go.PX

/- Proved: the operations on plain data,one by one: appends and stores into rows. Program-independent. -/
namespace Go.PX
open Go.RowKit Go.SX

theorem flat_inv {α:Type} {sz:Nat} {rows:List (List α)} (hr:∀ r∈rows,r.length=sz) {j:Nat} {x:α} (h:rows.flatten[j]?=some x):0<sz∧∃ r,rows[j / sz]?=some r∧r[j % sz]?=some x:=by
  have hj:=(List.getElem?_eq_some_iff.1 h).1
  rw [flat_len rows hr] at hj
  have h0:0<sz:=Nat.pos_of_ne_zero fun e=>by subst e; simp at hj
  have hk:j / sz<rows.length:=(Nat.div_lt_iff_lt_mul h0).2 hj
  have hm:=Nat.mod_lt j h0
  have e:j / sz*sz+j % sz=j:=by rw [Nat.mul_comm]; exact Nat.div_add_mod j sz
  refine ⟨h0,rows[j / sz],List.getElem?_eq_getElem hk,?_⟩
  rw [← flat_row rows (j / sz) (j % sz) _ hr (List.getElem?_eq_getElem hk) hm,e]; exact h
theorem over_flat {α:Type} {sz i:Nat} {ys:List α} (hi:i+ys.length≤sz):∀ (rows:List (List α)) (k:Nat) (r:List α),(∀ r∈rows,r.length=sz)→rows[k]?=some r→over rows.flatten (k*sz+i) ys=(rows.set k (over r i ys)).flatten
  | [],k,r,_,h=>by simp at h
  | x::rows,0,r,hr,h=>by
    simp only [List.getElem?_cons_zero,Option.some.injEq] at h; subst h
    rw [Nat.zero_mul,Nat.zero_add,List.flatten_cons,over_left (by rw [hr x (by simp)]; exact hi),List.set_cons_zero,List.flatten_cons]
  | x::rows,k+1,r,hr,h=>by
    rw [List.flatten_cons,over_right (j:=k*sz+i) (by rw [hr x (by simp),Nat.add_mul]; omega),over_flat hi rows k r (fun r h=>hr r (by simp [h])) (by simpa using h),List.set_cons_succ,List.flatten_cons]
theorem rowsOk_get {sz:Nat} {rows:List (List PV)} (h:rowsOk sz rows) {k:Nat} {r:List PV} (hr:rows[k]?=some r):r.length=sz∧ones r=true:=h r (List.mem_of_getElem? hr)
theorem rowsOk_set {sz:Nat} {rows:List (List PV)} (h:rowsOk sz rows) (k:Nat) {r:List PV} (hr:r.length=sz∧ones r=true):rowsOk sz (rows.set k r):=fun x hx=>by
  rcases List.mem_or_eq_of_mem_set hx with hx | rfl
  · exact h x hx
  · exact hr
theorem rowsOk_append {sz:Nat} {xs ys:List (List PV)} (h:rowsOk sz xs) (h':rowsOk sz ys):rowsOk sz (xs++ys):=fun x hx=>by
  rcases List.mem_append.1 hx with hx | hx
  · exact h x hx
  · exact h' x hx
theorem ones_flatten {sz:Nat}:∀ {rows:List (List PV)},rowsOk sz rows→ones rows.flatten=true
  | [],_=>rfl
  | r::rows,h=>by rw [List.flatten_cons]; exact ones_append (h r (by simp)).2 (ones_flatten fun x hx=>h x (by simp [hx]))

section
variable {P:Program} {σ:Nm} {Z:Nat→Prop} {w:World} {N:Nat} {κ:List (Nat × Bool)} {R:List Ent} {a:Act} {H:Heap} {p:List (Nat × Bool)} {o:Oper}

/-- a store into an element of a row of the table: r is the element as it was -/
theorem exec_store_row (hR:RS σ Z w N κ R a) (hH:HR σ Z w H) (hp:pv κ p=true) {t:TypeId} {x y:Operand} (ho:o.op=.store t x y) {id sz k i n:Nat} {e:TypeId} {pu:Bool} {rows:List (List PV)} {r:List PV} {py:PV} (hx:opd R p x=some (.rptr id sz k i)) (hy:opd R p y=some py) (ht:isTup py=false) (hl:hlook H id=some (.row e sz pu rows)) (hn:evl P (sizeOf t)=some n) (hs:(pcells py).length=n) (hle:i+n≤sz) (hr:rows[k]?=some r) :
    Exec P o a w σ Z H none [(id,some (.row e sz (pu&&pures (pcells py)) (rows.set k (over r i (pcells py)))))]:=by
  obtain ⟨h1,h2⟩:=pcells_spec (hR.opd hp hy) ht
  obtain ⟨q1,q2,q3⟩:=hH.at_ _ _ hl
  have hv:=hR.opd hp hx
  have hsz:(a.eval y).cells.size=n:=by have:=h1.1; simp at this; omega
  have hrow:=rowsOk_get q1 hr
  have hk:=(List.getElem?_eq_some_iff.1 hr).1
  have hks:(k+1)*sz≤rows.length*sz:=Nat.mul_le_mul_right _ hk
  rw [Nat.add_mul] at hks
  generalize hav:a.eval x=vx at hv
  cases hv with
  | rptr _ _ _ _ b c hb =>
    obtain ⟨C,g1,g2,g3,g4,g5'⟩:=q3 b c hb
    have g5:=g5'.1
    have hcs:rows.length*sz≤C.length:=by rw [g2]; exact Nat.mul_le_mul_right _ g3
    have hrun:=run_storeVar (P:=P) (w:=w) (off:=k*sz+i) hn hsz g1 (by omega) (h1.oneCell h2)
    obtain ⟨c1,c2⟩:=chg_setRow (C':=(over C (k*sz+i) (a.eval y).cells.toList).toArray) g1
    have hol:(over r i (pcells py)).length=sz:=by rw [over_len (by rw [hs,hrow.1]; exact hle)]; exact hrow.1
    have hlen:=fun r hr=>(q1 r hr).1
    have hfl:=flat_len rows hlen
    have hg51:=g5.1; rw [hfl] at hg51
    refine exec_skip (σ':=σ) (Z':=Z) ?_ (eff_upd hH hl hb c1 ⟨rowsOk_set q1 k ⟨hol,ones_over hrow.2 h2 i⟩,⟨by rw [List.length_set]; exact q2.1,fun _=>by rw [hb]; simp⟩,fun b' c' hb'=>?_⟩)
    · simp [execOp,ho,Instr.storeAt,hav,Instr.sureAddr,Sem.run_bind,hrun]
    · rw [hb] at hb'; simp only [Option.some.injEq,Prod.mk.injEq] at hb'; obtain ⟨rfl,rfl⟩:=hb'
      have hyl:(a.eval y).cells.toList.length=n:=by simpa using hsz
      refine ⟨_,c2,by rw [over_len (by rw [hyl]; omega)]; exact g2,by simpa using g3,g4,?_⟩
      have base:=(CRs.over g5' h1.crs (k*sz+i)).mono (M:=fun x=>x=b) (Ext.refl σ) (fun _ h=>h) c1 (fun z hz e=>hH.off _ _ _ _ hl hb (e ▸ hz))
      rw [List.length_set,over_take (by rw [hyl]; omega) hcs,← over_flat (by rw [hs]; exact hle) rows k r hlen hr]
      exact base
end
end Go.PX

/- Proved: the operations on plain data,one by one: append. Program-independent. -/
namespace Go.PX
open Go.RowKit Go.SX

section
variable {P:Program} {σ:Nm} {Z:Nat→Prop} {w:World} {N:Nat} {κ:List (Nat × Bool)} {R:List Ent} {a:Act} {H:Heap} {p:List (Nat × Bool)} {o:Oper}

/-- the length is that of the rows: by its form,or as a number -/
def lenIs (n:Nat) (rows:List (List PV)):Bool:=Nat.beq n rows.length
/-- the elements of a slice that is read -/
def srcRows (H:Heap) (sz:Nat):PV→Option (Bool × List (List PV) × Bool)
  | .own id sz' n=>match hlook H id with
    | some (.row _ sz2 pu rows)=>bif Nat.beq sz sz'&&Nat.beq sz sz2 then some (pu,rows,lenIs n rows) else none
    | _=>none
  | .imm sz' rows=>bif Nat.beq sz sz' then some (true,rows,true) else none
  | .sc (.slice none 0 0)=>some (true,[],true)
  | _=>none
theorem IRs.crs {pu:Bool} {l:List Value} {xs:List PV} (h:IRs Z w l xs):CRs pu σ Z w l xs:=⟨h.vrs,fun _=>h⟩
theorem src_spec (hH:HR σ Z w H) {v:Value} {x:PV} {sz:Nat} {pu:Bool} {rows:List (List PV)} (h:VR σ Z w v x) {ok:Bool} (e:srcRows H sz x=some (pu,rows,ok)) (hok:ok=true) :
    ∃ A c l,v=.slice A rows.length c∧(A=none→rows=[])∧rowsOk sz rows∧CRs pu σ Z w l rows.flatten∧∀ ad,A=some ad→∀ j u,l[j]?=some u→w.cell? (ad.add j)=some u:=by
  cases h with
  | own id sz' n b c hs =>
    simp only [srcRows] at e
    split at e
    · rename_i e' sz2 pu' rows' hl
      cases hb:(Nat.beq sz sz'&&Nat.beq sz sz2) with
      | false=>rw [hb] at e; simp at e
      | true =>
        rw [hb] at e
        simp only [cond_true,Option.some.injEq,Prod.mk.injEq] at e; obtain ⟨rfl,rfl,rfl⟩:=e
        simp only [Bool.and_eq_true,Nat.beq_eq] at hb
        simp only [lenIs,Nat.beq_eq] at hok
        obtain ⟨rfl,rfl⟩:=hb
        subst hok
        obtain ⟨h1,h2,h3⟩:=hH.at_ _ _ hl
        obtain ⟨C,g1,g2,g3,g4,g5⟩:=h3 b c hs
        refine ⟨_,c,_,rfl,fun q=>(by cases q),h1,g5,fun ad had j u hu=>?_⟩
        injection had with had; subst had
        rw [add_off,Nat.zero_add]
        rw [List.getElem?_take] at hu
        split at hu
        · simpa [World.cell?,g1] using hu
        · cases hu
    · cases e
  | own0 id sz' =>
    simp only [srcRows] at e
    split at e
    · rename_i e' sz2 pu' rows' hl
      cases hb:(Nat.beq sz sz'&&Nat.beq sz sz2) with
      | false=>rw [hb] at e; simp at e
      | true =>
        rw [hb] at e
        simp only [cond_true,Option.some.injEq,Prod.mk.injEq] at e; obtain ⟨rfl,rfl,rfl⟩:=e
        simp only [lenIs,Nat.beq_eq] at hok
        have h0:=List.length_eq_zero_iff.1 hok.symm
        subst h0
        exact ⟨none,0,[],rfl,fun _=>rfl,fun r hr=>by simp at hr,.nil,fun ad had=>by cases had⟩
    · cases e
  | imm _ sz' rows' hi =>
    cases hi with
    | imm A cap _ _ U h1 h2 h3 h4 =>
      simp only [srcRows] at e
      cases hb:Nat.beq sz sz' with
      | false=>rw [hb] at e; simp at e
      | true =>
        rw [hb] at e
        simp only [cond_true,Option.some.injEq,Prod.mk.injEq] at e; obtain ⟨rfl,rfl,rfl⟩:=e
        obtain rfl:=Nat.eq_of_beq_eq_true hb
        have hok:rowsOk sz rows':=fun r hr=>by
          obtain ⟨k,hk⟩:=List.mem_iff_getElem?.1 hr
          obtain ⟨q1,q2,_⟩:=h3 k r hk; exact ⟨q1,q2⟩
        have hlen:=fun r hr=>(hok r hr).1
        have hfl:=flat_len rows' hlen
        refine ⟨A,cap,(List.range (rows'.length*sz)).map fun j=>U (j / sz) (j % sz),rfl,fun hA=>?_,hok,IRs.crs ⟨by simp [hfl],fun j u x hu hx=>?_⟩,fun ad had j u hu=>?_⟩
        · cases rows' with
          | nil=>rfl
          | cons r rows' =>
            obtain ⟨_,_,b,off,hA',_⟩:=h3 0 r rfl
            rw [hA] at hA'; cases hA'
        · rw [List.getElem?_map] at hu
          obtain ⟨j',hj',rfl⟩:=Option.map_eq_some_iff.1 hu
          have hlt:=(List.getElem?_eq_some_iff.1 hj').1
          simp only [List.length_range] at hlt
          rw [List.getElem?_range hlt] at hj'
          simp only [Option.some.injEq] at hj'; subst hj'
          obtain ⟨_,r,hr,hx⟩:=flat_inv hlen hx
          exact h4 _ _ _ _ hr hx
        · rw [List.getElem?_map] at hu
          obtain ⟨j',hj',rfl⟩:=Option.map_eq_some_iff.1 hu
          have hlt:=(List.getElem?_eq_some_iff.1 hj').1
          simp only [List.length_range] at hlt
          rw [List.getElem?_range hlt] at hj'
          simp only [Option.some.injEq] at hj'; subst hj'
          have h0:0<sz:=Nat.pos_of_ne_zero fun e=>by subst e; simp at hlt
          have hk:j / sz<rows'.length:=(Nat.div_lt_iff_lt_mul h0).2 hlt
          obtain ⟨_,_,b,off,hA,_,q⟩:=h3 (j / sz) _ (List.getElem?_eq_getElem hk)
          rw [had] at hA; injection hA with hA; subst hA
          have:=q (j % sz) (Nat.mod_lt _ h0)
          rw [add_off]
          rw [Nat.add_assoc,show j / sz*sz+j % sz=j by rw [Nat.mul_comm]; exact Nat.div_add_mod j sz] at this
          exact this
  | sc v h =>
    unfold srcRows at e
    split at e
    · rename_i q; cases q
    · rename_i q; cases q
    · rename_i q
      injection q with q; subst q
      simp only [Option.some.injEq,Prod.mk.injEq] at e; obtain ⟨rfl,rfl,rfl⟩:=e
      exact ⟨none,0,[],rfl,fun _=>rfl,fun r hr=>by simp at hr,.nil,fun ad had=>by cases had⟩
    · cases e
  | _=>simp [srcRows] at e

/-- the slice that is appended to: its block in the table,if it has one,and its elements -/
def baseRows (H:Heap) (e:TypeId) (sz:Nat):PV→Option (Option Nat × Bool × List (List PV) × Bool)
  | .own id sz' n=>match hlook H id with
    | some (.row e' sz2 pu rows)=>bif Nat.beq e e'&&Nat.beq sz sz'&&Nat.beq sz sz2 then some (some id,pu,rows,lenIs n rows) else none
    | _=>none
  | .sc (.slice none 0 0)=>some (none,true,[],true)
  | _=>none
theorem base_spec (hH:HR σ Z w H) {v:Value} {x:PV} {e:TypeId} {sz:Nat} {q:Option Nat × Bool × List (List PV) × Bool} (h:VR σ Z w v x) (he:baseRows H e sz x=some q) (hok:q.2.2.2=true) :
    rowsOk sz q.2.2.1∧(∀ id,q.1=some id→∃ po,hlook H id=some po)∧∃ l,CRs q.2.1 σ Z w l q.2.2.1.flatten∧w.ownsRow 0 e sz v q.2.2.1.length l∧∀ b,v.ownBlock=some b→∃ id c,q.1=some id∧σ id=some (b,c):=by
  cases h with
  | own id sz' n b c hs =>
    simp only [baseRows] at he
    split at he
    · rename_i e' sz2 pu' rows' hl
      cases hb:(Nat.beq e e'&&Nat.beq sz sz'&&Nat.beq sz sz2) with
      | false=>rw [hb] at he; simp at he
      | true =>
        rw [hb] at he
        simp only [cond_true,Option.some.injEq] at he; subst he
        simp only [Bool.and_eq_true,Nat.beq_eq] at hb
        simp only [lenIs,Nat.beq_eq] at hok
        obtain ⟨⟨rfl,rfl⟩,rfl⟩:=hb
        subst hok
        obtain ⟨h1,h2,h3⟩:=hH.at_ _ _ hl
        obtain ⟨C,g1,g2,g3,g4,g5⟩:=h3 b c hs
        refine ⟨h1,fun i hi=>by injection hi with hi; subst hi; exact ⟨_,hl⟩,_,g5,⟨?_,.inr ⟨b,c,C.toArray,rfl,Nat.zero_le _,g1,g3,by simpa [maxLen] using g4,by simpa using g2,by simp⟩⟩,fun b' hb'=>?_⟩
        · rw [g5.1.1,flat_len rows' fun r hr=>(h1 r hr).1]
        · simp only [Value.ownBlock,Option.some.injEq] at hb'; subst hb'; exact ⟨id,c,rfl,hs⟩
    · cases he
  | own0 id sz' =>
    simp only [baseRows] at he
    split at he
    · rename_i e' sz2 pu' rows' hl
      cases hb:(Nat.beq e e'&&Nat.beq sz sz'&&Nat.beq sz sz2) with
      | false=>rw [hb] at he; simp at he
      | true =>
        rw [hb] at he
        simp only [cond_true,Option.some.injEq] at he; subst he
        simp only [lenIs,Nat.beq_eq] at hok
        have h0:=List.length_eq_zero_iff.1 hok.symm
        subst h0
        exact ⟨fun r hr=>by simp at hr,fun i hi=>by injection hi with hi; subst hi; exact ⟨_,hl⟩,[],.nil,⟨by simp,.inl ⟨rfl,rfl⟩⟩,fun b hb=>by simp [Value.ownBlock] at hb⟩
    · cases he
  | sc v h =>
    unfold baseRows at he
    split at he
    · rename_i q; cases q
    · rename_i q
      injection q with q; subst q
      simp only [Option.some.injEq] at he; subst he
      exact ⟨fun r hr=>by simp at hr,fun i hi=>(by cases hi),[],.nil,⟨by simp,.inl ⟨rfl,rfl⟩⟩,fun b hb=>by simp [Value.ownBlock] at hb⟩
    · cases he
  | _=>simp [baseRows] at he

def appU (nx:Nat) (q:Option Nat) (o:PO):Upd :=
  match q with
  | none=>[(nx,some o)]
  | some id=>[(nx,some o),(id,none)]
theorem run_append_none {t ty e:TypeId} {v:Value} {n:Nat} {l:List Value} {sz:Nat} (ht:P.underlying t=some (.slice e)) (hsz:evl P (sizeOf e)=some sz) (h:w.ownsRow 0 e sz v n l) :
    (Builtin.append_ #[t,t] ty #[v,.slice none 0 0]).run P w=.ok v w:=by
  have hu:(underlying t).run P w=.ok (.slice e) w:=run_underlying ht w
  rcases h.2 with ⟨rfl,rfl⟩ | ⟨g,cap,cur,rfl,_,hg,hn,hc,hs,_⟩
  · simp [Builtin.append_,Sem.run_bind,hu,evl_run hsz w,Builtin.lenOf,Builtin.firstCells]
  · simp [Builtin.append_,Sem.run_bind,hu,evl_run hsz w,Builtin.lenOf,Builtin.firstCells,hn,storeCells]
end
end Go.PX

/- Proved: the operations on plain data,one by one: append,literals of slices,make. Program-independent. -/
namespace Go.PX
open Go.RowKit Go.SX

section
variable {P:Program} {σ:Nm} {Z:Nat→Prop} {w:World} {N:Nat} {κ:List (Nat × Bool)} {R:List Ent} {a:Act} {H:Heap} {p:List (Nat × Bool)} {o:Oper}

theorem nbeq {a b:Nat} (h:a≠b):Nat.beq a b=false:=by
  cases hb:Nat.beq a b with
  | false=>rfl
  | true=>exact absurd (Nat.eq_of_beq_eq_true hb) h
theorem chg_grown {w w':World} {row:Option Nat} (h:w.grownBy w' row):Chg (fun b=>row=some b) w w' :=
  ⟨h.os,h.tape,h.output,h.size,fun b hb hn=>h.block b hb (fun e=>hn e.symm)⟩

theorem eff_app (hH:HR σ Z w H) {nx:Nat} {q:Option Nat} {o':PO} {v:Value} {w':World} {σ':Nm} (hn:hlook H nx=none) (hx:σ nx=none) (hq:∀ id,q=some id→∃ po,hlook H id=some po) (hb:∀ b,v.ownBlock=some b→∃ id c,q=some id∧σ id=some (b,c))
    (he:Ext σ σ') (hd:∀ id,id≠nx→σ' id=σ id) (hw:Chg (fun b=>v.ownBlock=some b) w w') (ho:OR σ' Z w' nx o') (hnew:∀ b c,σ' nx=some (b,c)→v.ownBlock=some b∨w.heap.size≤b):Eff σ Z w H (appU nx q o') σ' Z w':=by
  have hne:∀ id,q=some id→id≠nx:=fun id h e=>by obtain ⟨po,hp⟩:=hq id h; rw [e,hn] at hp; cases hp
  have hu:∀ id,ulook (appU nx q o') id=if id=nx then some (some o') else if q=some id then some none else none:=fun id=>by
    unfold appU
    cases q with
    | none=>simp [ulook_one]
    | some i =>
      simp only [ulook]
      by_cases e:id=nx
      · subst e; simp
      · rw [if_neg e]
        have:Nat.beq nx id=false:=nbeq fun h=>e h.symm
        rw [this]
        simp only [cond_false]
        by_cases e2:i=id
        · subst e2; simp
        · have:Nat.beq i id=false:=nbeq e2
          rw [this,if_neg (by simpa using e2)]; rfl
  refine ⟨he,fun id h1 h2=>?_,fun _ h=>h,fun _ h=>.inl h,hw.mono fun b _ h=>?_,fun id o h=>?_,fun id o b c h h'=>?_,fun id id' o1 o2 b c c' h h' _ _=>?_⟩
  · by_cases e:id=nx
    · subst e; rw [hu,if_pos rfl] at h2
      rcases h2 with h2 | h2
      · cases h2
      · exact absurd hn h2
    · rw [hd id e]; exact h1
  · obtain ⟨id,c,h1,h2⟩:=hb b h
    obtain ⟨po,hp⟩:=hq id h1
    exact ⟨id,po,c,by rw [hu,if_neg (hne id h1),if_pos h1]; simp,hp,h2⟩
  · rw [hu] at h
    split at h
    · rename_i e; subst e; injection h with h; injection h with h; subst h; exact ho
    · split at h
      · injection h with h; cases h
      · cases h
  · rw [hu] at h
    split at h
    · rename_i e; subst e
      rcases hnew b c h' with h1 | h1
      · obtain ⟨i,c',h2,h3⟩:=hb b h1
        obtain ⟨po,hp⟩:=hq i h2
        exact ⟨hH.off _ _ _ _ hp h3,.inr ⟨i,po,c',by rw [hu,if_neg (hne i h2),if_pos h2]; simp,hp,h3⟩⟩
      · exact ⟨fun hz=>by have:=hH.zlt _ hz; omega,.inl h1⟩
    · split at h
      · injection h with h; cases h
      · cases h
  · rw [hu] at h h'
    split at h
    · split at h'
      · rename_i e e'; rw [e,e']
      · split at h'
        · injection h' with h'; cases h'
        · cases h'
    · split at h
      · injection h with h; cases h
      · cases h

theorem exec_append (hR:RS σ Z w N κ R a) (hH:HR σ Z w H) (hp:pv κ p=true) {nx:Nat} (hnh:hlook H nx=none) (hn:σ nx=none) {t e:TypeId} {x y:Operand} (ho:o.op=.call { callee:=.builtin .append,args:=#[x,y],argTypes:=#[t,t] })
    {i:TypeInfo} {z:Value} (ht:P.underlying t=some (.slice e)) (hi:P.info? e=some i) (hz:i.zero=some z) (hzs:z.cells.size=i.size) (hsz:0<i.size) (hby:i.bytes≤100000)
    {px py:PV} {q:Option Nat × Bool × List (List PV) × Bool} {pu ok:Bool} {rows:List (List PV)} (hx:opd R p x=some px) (hy:opd R p y=some py) (hq:baseRows H e i.size px=some q) (hs:srcRows H i.size py=some (pu,rows,ok)) (hqok:q.2.2.2=true) (hsok:ok=true) (hlen:q.2.2.1.length+rows.length≤1000000000) :
    Exec P o a w σ Z H (some (.own nx i.size (q.2.2.1.length+rows.length))) (appU nx q.1 (.row e i.size (q.2.1&&pu) (q.2.2.1++rows))):=by
  obtain ⟨b1,b2,l,b3,b4,b5⟩:=base_spec hH (hR.opd hp hx) hq hqok
  obtain ⟨A,c,m,s1,s2,s3,s4,s5⟩:=src_spec hH (hR.opd hp hy) hs hsok
  have hM:∀ b,Z b→¬ ((a.eval x).ownBlock=some b):=fun b hz h=>by
    obtain ⟨id,c,h1,h2⟩:=b5 b h
    obtain ⟨po,h3⟩:=b2 id h1
    exact hH.off _ _ _ _ h3 h2 hz
  have hml:m.length=rows.length*i.size:=by rw [s4.1.1,flat_len rows fun r hr=>(s3 r hr).1]
  have hsize:evl P (sizeOf e)=some i.size:=by
    have h1:tr P (typeInfo e) []=some ([],i):=by
      show tr P (match P.info? e with
        | some i=>(pure i:Sem TypeInfo)
        | none=>stuck "no such type") []=some ([],i)
      rw [hi]; rfl
    have h2:tr P (sizeOf e) []=some ([],i.size):=by
      have:sizeOf e=(do let i ← typeInfo e; pure i.size):=rfl
      rw [this]
      show tr P (Sem.program fun k=>((match k.info? e with
        | some i=>(pure i:Sem TypeInfo)
        | none=>stuck "no such type").bind fun i=>pure i.size)) []=some ([],i.size)
      simp only [tr,hi]; rfl
    unfold evl
    rw [h2]
  have key:∃ v' w',(Builtin.append_ #[t,t] o.type #[a.eval x,a.eval y]).run P w=.ok v' w'∧w'.ownsRow 0 e i.size v' (q.2.2.1.length+rows.length) (l++m)∧w.grownBy w' (a.eval x).ownBlock∧(v'.ownBlock=(a.eval x).ownBlock∨v'.ownBlock=some w.heap.size):=by
    rw [s1]
    cases A with
    | some ad =>
      obtain ⟨v',w',r1,r2,r3,_,r5⟩:=run_append_own_at (P:=P) w 0 t o.type e i z i.size i.bytes ht hi hz rfl rfl hzs hsz (a.eval x) q.2.2.1.length l b4 ad rows.length c m hml (s5 ad rfl)
        (s4.1.oneCell (ones_flatten s3)) (by simp only [maxLen]; omega)
        (by have:(q.2.2.1.length+rows.length)*i.bytes≤1000000000*100000:=Nat.mul_le_mul hlen hby
            omega) (Nat.zero_le _)
      exact ⟨v',w',r1,r2,r3,r5⟩
    | none =>
      have h0:=s2 rfl
      subst h0
      have hm0:m=[]:=List.length_eq_zero_iff.1 (by simpa using hml)
      subst hm0
      obtain ⟨_,hc0⟩:True∧c=0:=by
        have hv:=hR.opd hp hy
        rw [s1] at hv
        refine ⟨trivial,?_⟩
        generalize hvy:Value.slice none ([]:List (List PV)).length c=vy at hv
        cases hv with
        | own id sz len b c' h=>injection hvy with h1; cases h1
        | own0=>injection hvy
        | imm _ _ _ hi=>cases hi with | imm A cap sz rows U h1 h2 h3 h4=>injection hvy with q1 q2 q3; subst q3; exact h2.2 q1.symm
        | sc v h =>
          subst hvy
          unfold srcRows at hs
          split at hs
          · rename_i q; cases q
          · rename_i q; cases q
          · rename_i q; injection q with q; injection q
          · cases hs
        | any v h=>simp [srcRows] at hs
        | _=>cases hvy
      subst hc0
      refine ⟨a.eval x,w,run_append_none ht hsize b4,by simpa using b4,⟨rfl,rfl,rfl,Nat.le_refl _,fun _ _ _=>rfl⟩,.inl rfl⟩
  obtain ⟨v',w',r1,r2,r3,r4⟩:=key
  have hw:=chg_grown r3
  have hrun:(execOp a.eval o).run P w=.ok (.value v') w':=by
    simp [execOp,ho,resolve,invoke,builtin,r1]
  have hbl:(q.2.2.1++rows).length=q.2.2.1.length+rows.length:=by simp
  rcases r2.2 with ⟨rfl,h0⟩ | ⟨g,cap,cur,rfl,_,hg,hle,hc,hcs,htk⟩
  · -- still nil
    have e1:q.2.2.1=[]:=List.length_eq_zero_iff.1 (by omega)
    have e2:rows=[]:=List.length_eq_zero_iff.1 (by omega)
    rw [h0]
    refine exec_value (σ':=σ) (Z':=Z) hrun (.own0 _ _) (eff_app hH hnh hn b2 b5 (Ext.refl σ) (fun _ _=>rfl) hw ⟨by rw [e1,e2]; exact fun r hr=>by simp at hr,⟨by rw [e1,e2]; simp,fun hne=>by rw [e1,e2] at hne; exact absurd rfl hne⟩,fun b c hb=>by rw [hn] at hb; cases hb⟩ (fun b c hb=>by rw [hn] at hb; cases hb))
  · refine exec_value (σ':=upd σ nx g cap) (Z':=Z) hrun (.own nx _ _ g cap (upd_self _ _ _ _)) (eff_app hH hnh hn b2 b5 (upd_ext hn) (fun id hne=>by unfold upd; rw [if_neg hne]) hw ⟨rowsOk_append b1 s3,⟨by rw [hbl]; exact hlen,fun _=>by rw [upd_self]; simp⟩,fun b c hb=>?_⟩ (fun b c hb=>?_))
    · rw [upd_self] at hb; simp only [Option.some.injEq,Prod.mk.injEq] at hb; obtain ⟨rfl,rfl⟩:=hb
      refine ⟨cur.toList,by simpa using hg,by simpa using hcs,by rw [hbl]; exact hle,by simpa [maxLen] using hc,?_⟩
      rw [hbl,htk,List.flatten_append]
      exact (b3.append s4).mono (upd_ext hn) (fun _ h=>h) hw hM
    · rw [upd_self] at hb; simp only [Option.some.injEq,Prod.mk.injEq] at hb; obtain ⟨rfl,rfl⟩:=hb
      rcases r4 with r4 | r4
      · exact .inl (r4.symm.trans rfl)
      · right; simp only [Value.ownBlock,Option.some.injEq] at r4; omega
end
end Go.PX
