/- Proved: the operations on plain data,one by one: structs,literals of slices,make,choices. Program-independent. -/
import Derived.Test.YtlkcidmmpeebeaaPcA
import Derived.Laws.CopyRow
import Derived.Maps.RangeRun
set_option linter.unusedVariables false
set_option linter.unusedSimpArgs false
namespace Go.PX
open Go.RowKit Go.SX

theorem over_set {α:Type} {cells l:List α} {i:Nat} {v:α} (h:i<cells.length):over (cells.set i v) (i+1) l=over cells i (v::l):=by
  unfold over
  rw [List.take_add_one,List.take_set_of_le (Nat.le_refl i),List.getElem?_set_self h,List.drop_set_of_lt (by omega)]
  simp only [List.length_cons,Option.toList_some,List.append_assoc,List.cons_append,List.nil_append]
  rw [show i+1+l.length=i+(l.length+1) by omega]
theorem fold_over (off:Nat):∀ (l:List Value) (k:Nat) (cells:Array Value),off+k+l.length≤cells.size→((l.zipIdx k).foldl (fun cs x=>cs.setIfInBounds (off+x.2) x.1) cells)=(over cells.toList (off+k) l).toArray
  | [],k,cells,_=>by simp [over]
  | v::l,k,cells,h=>by
    simp only [List.length_cons] at h
    rw [List.zipIdx_cons,List.foldl_cons,fold_over off l (k+1) _ (by simp; omega)]
    simp only [Array.toList_setIfInBounds]
    rw [← Nat.add_assoc,over_set (by simp; omega)]

section
variable {P:Program} {σ:Nm} {Z:Nat→Prop} {w:World} {N:Nat} {κ:List (Nat × Bool)} {R:List Ent} {a:Act} {H:Heap} {p:List (Nat × Bool)} {o:Oper}

/-- a struct,an array or the row behind a literal,filled part by part -/
def fillP (place:Nat→Option (Nat × Nat)) (cells:List PV):List (Nat × PV)→Option (List PV)
  | []=>some cells
  | (i,x)::rest=>match place i with
    | none=>none
    | some (off,size)=>bif Nat.beq (pcells x).length size&&Nat.ble (off+size) cells.length&&!isTup x then fillP place (over cells off (pcells x)) rest else none
inductive partsRel (σ:Nm) (Z:Nat→Prop) (w:World):List (Nat × Value)→List (Nat × PV)→Prop
  | nil:partsRel σ Z w [] []
  | cons {u:Nat × Value} {x:Nat × PV} {l:List (Nat × Value)} {xs:List (Nat × PV)} (h:u.1=x.1∧VR σ Z w u.2 x.2) (h':partsRel σ Z w l xs):partsRel σ Z w (u::l) (x::xs)
theorem fill_spec {place:Nat→Option (Nat × Nat)} {l:List (Nat × Value)} {xs:List (Nat × PV)} (h:partsRel σ Z w l xs):∀ {C:Array Value} {cells r:List PV},VRs σ Z w C.toList cells→ones cells=true→fillP place cells xs=some r →
    ∃ C',Instr.fill place C l=some C'∧VRs σ Z w C'.toList r∧ones r=true:=by
  induction h with
  | nil=>intro C cells r hc ho hr; simp only [fillP,Option.some.injEq] at hr; subst hr; exact ⟨C,rfl,hc,ho⟩
  | cons hu _ ih =>
    intro C cells r hc ho hr
    rename_i u x l xs _
    obtain ⟨i,v⟩:=u
    obtain ⟨j,y⟩:=x
    obtain ⟨rfl,hv⟩:=hu
    simp only [fillP] at hr
    cases hpl:place i with
    | none=>rw [hpl] at hr; simp at hr
    | some q =>
      obtain ⟨off,size⟩:=q
      rw [hpl] at hr
      simp only at hr
      cases hb:(Nat.beq (pcells y).length size&&Nat.ble (off+size) cells.length&&!isTup y) with
      | false=>rw [hb] at hr; simp at hr
      | true =>
        rw [hb] at hr
        simp only [cond_true] at hr
        simp only [Bool.and_eq_true,Nat.beq_eq,Bool.not_eq_true'] at hb
        obtain ⟨⟨rfl,hle⟩,ht⟩:=hb
        have hle:=Nat.le_of_ble_eq_true hle
        obtain ⟨h1,h2⟩:=pcells_spec hv ht
        have hsz:v.cells.size=(pcells y).length:=by simpa using h1.1
        have hcl:C.size=cells.length:=by simpa using hc.1
        simp only [Instr.fill,hpl]
        rw [if_neg (by simp [hsz,hcl]; omega)]
        have e1:Array.foldl (fun cs x=>cs.setIfInBounds (off+x.2) x.1) C v.cells.zipIdx=(over C.toList off v.cells.toList).toArray:=by
          rw [← Array.foldl_toList,Array.toList_zipIdx]
          have:=fold_over off v.cells.toList 0 C (by simp [hsz,hcl]; omega)
          simpa using this
        have e2:(v.cells.zipIdx.foldl (fun cs (c,j)=>cs.setIfInBounds (off+j) c) C)=(over C.toList off v.cells.toList).toArray:=e1
        rw [e2]
        exact ih (by simpa using VRs.over hc h1 off) (ones_over ho h2 off) hr

def partsP (R:List Ent) (p:List (Nat × Bool)):List (Nat × Operand)→Option (List (Nat × PV))
  | []=>some []
  | x::l=>match opd R p x.2,partsP R p l with
    | some y,some ys=>some ((x.1,y)::ys)
    | _,_=>none
theorem RS.partsP (hR:RS σ Z w N κ R a) (hp:pv κ p=true):∀ {l:List (Nat × Operand)} {ys:List (Nat × PV)},PX.partsP R p l=some ys→partsRel σ Z w (l.map fun x=>(x.1,a.eval x.2)) ys
  | [],ys,h=>by simp only [PX.partsP,Option.some.injEq] at h; subst h; exact .nil
  | x::l,ys,h=>by
    simp only [PX.partsP] at h
    split at h
    · rename_i y ys' h1 h2
      simp only [Option.some.injEq] at h; subst h
      exact .cons ⟨rfl,hR.opd hp h1⟩ (RS.partsP hR hp h2)
    · cases h
def zeroCells (P:Program) (t:TypeId):Option (List PV) :=
  match evl P (zeroValue t) with
  | some z=>match ofV z with
    | some x=>bif isTup x then none else some (pcells x)
    | none=>none
  | none=>none
theorem zeroCells_spec {t:TypeId} {xs:List PV} (h:zeroCells P t=some xs):∃ z,evl P (zeroValue t)=some z∧VRs σ Z w z.cells.toList xs∧ones xs=true:=by
  unfold zeroCells at h
  split at h
  · rename_i z h1
    split at h
    · rename_i x h2
      cases hb:isTup x with
      | true=>rw [hb] at h; simp at h
      | false =>
        rw [hb] at h
        simp only [cond_false,Option.some.injEq] at h; subst h
        exact ⟨z,h1,pcells_spec (ofV_spec h2) hb⟩
    · cases h
  · cases h
def buildP (P:Program) (t:TypeId) (xs:List (Nat × PV)):Option PV :=
  match zeroCells P t,evl P (underlying t) with
  | some zs,some (.struct fs)=>match evl P (fs.mapM fun f=>do pure (f.offset,← sizeOf f.type)) with
    | some places=>(fillP (places[·]?) zs xs).map .agg
    | none=>none
  | some zs,some (.array _ e)=>match evl P (sizeOf e) with
    | some size=>(fillP (fun i=>some (i*size,size)) zs xs).map .agg
    | none=>none
  | _,_=>none
theorem exec_build (hR:RS σ Z w N κ R a) (hp:pv κ p=true) {t:TypeId} {parts:Array (Nat × Operand)} (ho:o.op=.build t parts) {xs:List (Nat × PV)} {r:PV} (hx:partsP R p parts.toList=some xs) (hr:buildP P t xs=some r):Exec P o a w σ Z H (some r) []:=by
  have hrel:=RS.partsP hR hp hx
  have hpt:(parts.map fun x=>(x.1,a.eval x.2)).toList=parts.toList.map fun x=>(x.1,a.eval x.2):=by simp
  rw [← hpt] at hrel
  unfold buildP at hr
  split at hr
  · rename_i zs fs h1 h2
    obtain ⟨z,z1,z2,z3⟩:=zeroCells_spec (σ:=σ) (Z:=Z) (w:=w) h1
    split at hr
    · rename_i places h3
      obtain ⟨cs,c1,rfl⟩:=Option.map_eq_some_iff.1 hr
      obtain ⟨C',f1,f2,f3⟩:=fill_spec hrel z2 z3 c1
      refine exec_quiet (v:=.agg C') ?_ (by have:=VR.agg (σ:=σ) (Z:=Z) (w:=w) C'.toList cs f2.1 f3 f2.2; simpa using this)
      have hb:(Instr.build t (parts.map fun x=>(x.1,a.eval x.2))).run P w=.ok (.agg C') w:=by
        unfold Instr.build
        simp only [Sem.run_bind,evl_run z1 w,evl_run h2 w,Result.andThen_ok,evl_run h3 w,f1]
        rfl
      simp [execOp,ho,Sem.run_bind,hb]
    · cases hr
  · rename_i zs n e h1 h2
    obtain ⟨z,z1,z2,z3⟩:=zeroCells_spec (σ:=σ) (Z:=Z) (w:=w) h1
    split at hr
    · rename_i size h3
      obtain ⟨cs,c1,rfl⟩:=Option.map_eq_some_iff.1 hr
      obtain ⟨C',f1,f2,f3⟩:=fill_spec hrel z2 z3 c1
      refine exec_quiet (v:=.agg C') ?_ (by have:=VR.agg (σ:=σ) (Z:=Z) (w:=w) C'.toList cs f2.1 f3 f2.2; simpa using this)
      have hb:(Instr.build t (parts.map fun x=>(x.1,a.eval x.2))).run P w=.ok (.agg C') w:=by
        unfold Instr.build
        simp only [Sem.run_bind,evl_run z1 w,evl_run h2 w,Result.andThen_ok,evl_run h3 w,f1]
        rfl
      simp [execOp,ho,Sem.run_bind,hb]
    · cases hr
  · cases hr
end
end Go.PX

/- Proved: the operations on plain data,one by one: new rows,choices. Program-independent. -/
namespace Go.PX
open Go.RowKit Go.SX

def chunk (sz:Nat):Nat→List PV→List (List PV)
  | 0,_=>[]
  | n+1,xs=>xs.take sz::chunk sz n (xs.drop sz)
theorem chunk_spec {sz:Nat}:∀ {n:Nat} {xs:List PV},xs.length=n*sz→ones xs=true→(chunk sz n xs).flatten=xs∧(chunk sz n xs).length=n∧rowsOk sz (chunk sz n xs)
  | 0,xs,h,_=>by
    have:xs=[]:=List.length_eq_zero_iff.1 (by simpa using h)
    subst this; exact ⟨rfl,rfl,fun r hr=>by simp [chunk] at hr⟩
  | n+1,xs,h,ho=>by
    rw [Nat.add_mul,Nat.one_mul] at h
    obtain ⟨h1,h2,h3⟩:=chunk_spec (sz:=sz) (n:=n) (xs:=xs.drop sz) (by simp; omega) (ones_drop ho sz)
    refine ⟨by simp [chunk,h1],by simp [chunk,h2],fun r hr=>?_⟩
    simp only [chunk,List.mem_cons] at hr
    rcases hr with rfl | hr
    · exact ⟨by simp; omega,ones_take ho sz⟩
    · exact h3 r hr

section
variable {P:Program} {σ:Nm} {Z:Nat→Prop} {w:World} {N:Nat} {κ:List (Nat × Bool)} {R:List Ent} {a:Act} {H:Heap} {p:List (Nat × Bool)} {o:Oper}

theorem or_row {nx c sz:Nat} (hn:σ nx=none) {e:TypeId} {C:List Value} {pu:Bool} {rows:List (List PV)} (h:CRs pu σ Z w C rows.flatten) (hr:rowsOk sz rows) (hl:C.length=c*sz) (hc:rows.length=c) (hm:c≤1000000000):OR (upd σ nx w.heap.size c) Z (w.alloc (.cells C.toArray e (0,0))) nx (.row e sz pu rows):=by
  refine ⟨hr,⟨by omega,fun _=>by rw [upd_self]; simp⟩,fun b c' hb=>?_⟩
  rw [upd_self] at hb; simp only [Option.some.injEq,Prod.mk.injEq] at hb; obtain ⟨rfl,rfl⟩:=hb
  refine ⟨C,by show (w.heap.push _)[w.heap.size]?=_; simp,hl,by omega,by omega,?_⟩
  rw [hc,List.take_of_length_le (by omega)]
  exact h.mono (M:=fun _=>False) (upd_ext hn) (fun _ h=>h) (chg_alloc _ _ _) (fun _ _ h=>h)

/-- the zeros that a literal of a slice begins with -/
def rowZeros (P:Program) (e:TypeId) (len size:Nat):Option (List PV) :=
  match evl P (if len*size=0 then pure #[] else do pure (← zeroValue e).cells) with
  | some zero=>ofCells ((Array.range (len*size)).map (zero[· % zero.size]!)).toList
  | none=>none
def buildSliceP (P:Program) (t:TypeId) (len:Nat) (xs:List (Nat × PV)):Option (TypeId × Nat × List PV) :=
  match evl P (underlying t) with
  | some (.slice e)=>match evl P (sizeOf e) with
    | some size=>match rowZeros P e len size with
      | some zs=>bif Nat.ble (len*size) 100000&&Nat.ble len 100000 then (fillP (fun i=>some (i*size,size)) zs xs).map fun cs=>(e,size,cs) else none
      | none=>none
    | none=>none
  | _=>none
theorem fillP_len {place:Nat→Option (Nat × Nat)}:∀ {xs:List (Nat × PV)} {cells r:List PV},fillP place cells xs=some r→r.length=cells.length
  | [],cells,r,h=>by simp only [fillP,Option.some.injEq] at h; subst h; rfl
  | (i,x)::xs,cells,r,h=>by
    simp only [fillP] at h
    split at h
    · cases h
    · rename_i off size _
      cases hb:(Nat.beq (pcells x).length size&&Nat.ble (off+size) cells.length&&!isTup x) with
      | false=>rw [hb] at h; simp at h
      | true =>
        rw [hb] at h
        simp only [cond_true] at h
        simp only [Bool.and_eq_true,Nat.beq_eq] at hb
        have:=Nat.le_of_ble_eq_true hb.1.2
        rw [fillP_len h,over_len (by omega)]
theorem exec_buildSlice (hR:RS σ Z w N κ R a) (hH:HR σ Z w H) (hp:pv κ p=true) {nx:Nat} (hn:σ nx=none) (hnh:hlook H nx=none) {t:TypeId} {len:Nat} {parts:Array (Nat × Operand)} (ho:o.op=.buildSlice t len parts) {xs:List (Nat × PV)} {e:TypeId} {size:Nat} {cs:List PV} (hx:partsP R p parts.toList=some xs) (hr:buildSliceP P t len xs=some (e,size,cs)) :
    Exec P o a w σ Z H (some (.own nx size len)) [(nx,some (.row e size (pures cs) (chunk size len cs)))]:=by
  have hrel:=RS.partsP hR hp hx
  have hpt:(parts.map fun x=>(x.1,a.eval x.2)).toList=parts.toList.map fun x=>(x.1,a.eval x.2):=by simp
  rw [← hpt] at hrel
  unfold buildSliceP at hr
  split at hr
  · rename_i e' h1
    split at hr
    · rename_i size' h2
      split at hr
      · rename_i zs h3
        cases hb:(Nat.ble (len*size') 100000&&Nat.ble len 100000) with
        | false=>rw [hb] at hr; simp at hr
        | true =>
          rw [hb] at hr
          simp only [cond_true,Option.map_eq_some_iff,Prod.mk.injEq] at hr
          obtain ⟨cs',c1,rfl,rfl,rfl⟩:=hr
          simp only [Bool.and_eq_true] at hb
          have hle:=Nat.le_of_ble_eq_true hb.1
          have hle2:=Nat.le_of_ble_eq_true hb.2
          unfold rowZeros at h3
          split at h3
          · rename_i zero h4
            obtain ⟨z2,z3⟩:=ofCells_spec (σ:=σ) (Z:=Z) (w:=w) h3
            obtain ⟨C',f1,f2,f3⟩:=fill_spec hrel z2 z3 c1
            have hzl:zs.length=len*size':=by rw [← z2.1]; simp
            have hcl:cs'.length=len*size':=by rw [fillP_len c1,hzl]
            obtain ⟨k1,k2,k3⟩:=chunk_spec hcl f3
            have hbs:(Instr.buildSlice t len (parts.map fun x=>(x.1,a.eval x.2))).run P w=.ok (.slice (some ⟨w.heap.size,0,none⟩) len len) (w.alloc (.cells C' e')):=by
              unfold Instr.buildSlice
              simp only [Sem.run_bind,evl_run h1 w,evl_run h2 w,Result.andThen_ok]
              rw [if_neg (by omega)]
              by_cases hz0:len*size'=0
              · rw [if_pos hz0] at h4 ⊢
                have hz1:zero=#[]:=by
                  have:=evl_run h4 w
                  simp only [Sem.run_pure,Result.ok.injEq] at this
                  exact this.1.symm
                subst hz1
                simp only [Sem.run_pure,Sem.run_bind,Result.andThen_ok,f1]
                rfl
              · rw [if_neg hz0] at h4 ⊢
                have:=evl_run h4 w
                simp only [Sem.run_bind] at this
                revert this
                cases hzv:(zeroValue e').run P w with
                | halt q w1=>intro h; cases h
                | ok zv w1 =>
                  intro h
                  simp only [Result.andThen_ok,Sem.run_pure,Result.ok.injEq] at h
                  obtain ⟨rfl,rfl⟩:=h
                  simp only [Sem.run_pure,Sem.run_bind,Result.andThen_ok,hzv,f1]
                  rfl
            have hor:=or_row (c:=len) (sz:=size') hn (e:=e') (C:=C'.toList) (pu:=pures cs') (rows:=chunk size' len cs') (by rw [k1]; exact f2.crs) k3 (by rw [f2.1,hcl]) k2 (by omega)
            rw [Array.toArray_toList] at hor
            refine exec_value (σ':=upd σ nx w.heap.size len) (Z':=Z) (v:=.slice (some ⟨w.heap.size,0,none⟩) len len) (w':=w.alloc (.cells C' e')) ?_ (.own nx size' len _ _ (upd_self _ _ _ _)) (eff_new hH hn hnh hor)
            simp [execOp,ho,Sem.run_bind,hbs]
          · cases h3
      · cases hr
    · cases hr
  · cases hr

theorem exec_makeSlice (hR:RS σ Z w N κ R a) (hH:HR σ Z w H) (hp:pv κ p=true) {nx:Nat} (hn:σ nx=none) (hnh:hlook H nx=none) {t e:TypeId} {x y:Operand} (ho:o.op=.makeSlice t x y) {K K':IntKind} {n m:Int} {k size:Nat} {i:TypeInfo} {zs:List PV}
    (hx:opd R p x=some (.sc (.int K n))) (hy:opd R p y=some (.sc (.int K' m))) (hnk:n=(k:Int)) (hmk:m=(k:Int)) (hu:evl P (underlying t)=some (.slice e)) (hi:evl P (typeInfo e)=some i) (hs:evl P (sizeOf e)=some size) (hz:zeroCells P e=some zs) (hzl:zs.length=size) (hzp:pures zs=true) (h0:0<size) (hby:i.bytes≤100000) (hk:k≤1000000000) :
    Exec P o a w σ Z H (some (.own nx size k)) [(nx,some (.row e size true (List.replicate k zs)))]:=by
  have hv:=hR.opd hp hx
  have hw:=hR.opd hp hy
  generalize hav:a.eval x=vx at hv
  generalize haw:a.eval y=vy at hw
  subst hnk hmk
  cases hv; cases hw
  obtain ⟨z,z1,z2,z3⟩:=zeroCells_spec (σ:=σ) (Z:=Z) (w:=w) hz
  have hzs:z.cells.size=size:=by have:=z2.1; simp at this; omega
  have hsm:(i.bytes:Int)*(k:Int)≤100000000000000:=by
    have:i.bytes*k≤100000*1000000000:=Nat.mul_le_mul hby hk
    have:=Int.ofNat_le.2 this
    simpa using this
  have hwr:IntKind.i64.wrap (k:Int)=(k:Int):=by
    have:=wrap_ok (z:=(k:Int)) (by omega)
    injection this
  let C:List Value:=(List.range (k*size)).map fun j=>z.cells[j % z.cells.size]!
  have hC:((Array.range (k*size)).map (z.cells[· % z.cells.size]!))=C.toArray:=by simp [C,← List.toArray_range]
  have hrz:∀ r∈List.replicate k zs,r.length=size:=fun r hr=>by rw [List.eq_of_mem_replicate hr]; exact hzl
  have hvr:CRs true σ Z w C (List.replicate k zs).flatten:=by
    refine IRs.crs ⟨by rw [flat_len _ hrz]; simp [C],fun j u q hu hq=>?_⟩
    obtain ⟨_,r,hr,hq2⟩:=flat_inv hrz hq
    have hr':r=zs:=List.eq_of_mem_replicate (List.mem_of_getElem? hr)
    subst hr'
    simp only [C,List.getElem?_map] at hu
    obtain ⟨j',hj',rfl⟩:=Option.map_eq_some_iff.1 hu
    have hlt:=(List.getElem?_eq_some_iff.1 hj').1
    simp only [List.length_range] at hlt
    rw [List.getElem?_range hlt] at hj'
    simp only [Option.some.injEq] at hj'; subst hj'
    refine (z2.crs.2 hzp).2 (j % size) _ q ?_ hq2
    rw [hzs]
    have:j % size<z.cells.size:=by rw [hzs]; exact Nat.mod_lt _ h0
    simp [this]
  have hrun:(Instr.makeSlice t (.int K (k:Int)) (.int K' (k:Int))).run P w=.ok (.slice (some ⟨w.heap.size,0,none⟩) k k) (w.alloc (.cells C.toArray e)):=by
    have hai:∀ K:IntKind,(asInt (.int K (k:Int))).run P w=.ok (k:Int) w:=fun K=>rfl
    unfold Instr.makeSlice
    simp only [Sem.run_bind,evl_run hu w,evl_run hi w,Result.andThen_ok,hai,hwr]
    rw [if_neg (by simp; omega)]
    simp only [Sem.run_bind,run_askRoom,Result.andThen_ok,evl_run hs w,Int.toNat_natCast,Sem.run_pure]
    by_cases hk0:k*size=0
    · rw [if_pos hk0]
      have hk0':k=0:=by rcases Nat.mul_eq_zero.1 hk0 with h | h; exact h; omega
      subst hk0'
      have hC0:((Array.range (0*size)).map ((#[]:Array Value)[· % (#[]:Array Value).size]!))=C.toArray:=by simp [C]
      simp only [Sem.run_bind,Sem.run_pure,Result.andThen_ok,hC0]
      rfl
    · rw [if_neg hk0]
      simp only [Sem.run_bind,evl_run z1 w,Result.andThen_ok,Sem.run_pure,hC]
      rfl
  refine exec_value (σ':=upd σ nx w.heap.size k) (Z':=Z) (v:=.slice (some ⟨w.heap.size,0,none⟩) k k) (w':=w.alloc (.cells C.toArray e)) ?_ (.own nx size k _ _ (upd_self _ _ _ _)) (eff_new hH hn hnh (or_row hn hvr (fun r hr=>⟨hrz r hr,by rw [List.eq_of_mem_replicate hr]; exact z3⟩) (by simp [C]) (by simp) (by omega)))
  simp [execOp,ho,hav,haw,Sem.run_bind,hrun]
end
end Go.PX

/- Proved: a row that is written no more is read as an immutable slice; what a call is shown. Program-independent. -/
namespace Go.PX
open Go.RowKit Go.SX

inductive Ob where
  | b (x:Bool)
  | q (x:Prop)
def AllOb:List Ob→Prop
  | []=>True
  | .b x::l=>x=true∧AllOb l
  | .q x::l=>x∧AllOb l
theorem allOb_append {l m:List Ob} (h:AllOb (l++m)):AllOb l∧AllOb m:=by
  induction l with
  | nil=>exact ⟨trivial,h⟩
  | cons q l ih=>cases q <;> exact ⟨⟨h.1,(ih h.2).1⟩,(ih h.2).2⟩

def hdel (H:Heap) (id:Nat):Heap :=
  match H with
  | []=>[]
  | x::H=>bif Nat.beq x.1 id then hdel H id else x::hdel H id
theorem hlook_hdel {id i:Nat}:∀ {H:Heap},hlook (hdel H id) i=if i=id then none else hlook H i
  | []=>by simp [hdel,hlook]
  | x::H=>by
    simp only [hdel]
    cases hb:Nat.beq x.1 id with
    | true =>
      obtain rfl:=Nat.eq_of_beq_eq_true hb
      simp only [cond_true]
      rw [hlook_hdel]
      split
      · rfl
      · rename_i hne
        simp only [hlook]
        rw [nbeq fun e=>hne e.symm]; rfl
    | false =>
      simp only [cond_false,hlook]
      rw [hlook_hdel]
      cases hb2:Nat.beq x.1 i with
      | true =>
        obtain rfl:=Nat.eq_of_beq_eq_true hb2
        have hne:x.1≠id:=by rintro rfl; simp at hb
        simp [hne]
      | false=>rfl
theorem OR.lt {σ:Nm} {Z:Nat→Prop} {w:World} {id b c:Nat} {o:PO} (h:OR σ Z w id o) (hs:σ id=some (b,c)):b<w.heap.size:=by
  cases o with
  | box e xs =>
    obtain ⟨b',c',C,h1,h2,_⟩:=h
    rw [hs] at h1; simp only [Option.some.injEq,Prod.mk.injEq] at h1; obtain ⟨rfl,rfl⟩:=h1
    exact (Array.getElem?_eq_some_iff.1 h2).1
  | row e sz pu rows =>
    obtain ⟨_,_,h3⟩:=h
    obtain ⟨C,h2,_⟩:=h3 b c hs
    exact (Array.getElem?_eq_some_iff.1 h2).1
  | mp D =>
    obtain ⟨_,b',c',es,cl,h1,h2,_⟩:=h
    rw [hs] at h1; simp only [Option.some.injEq,Prod.mk.injEq] at h1; obtain ⟨rfl,rfl⟩:=h1
    exact (Array.getElem?_eq_some_iff.1 h2).1
  | rmap es cl =>
    obtain ⟨b',c',h1,h2⟩:=h
    rw [hs] at h1; simp only [Option.some.injEq,Prod.mk.injEq] at h1; obtain ⟨rfl,rfl⟩:=h1
    exact (Array.getElem?_eq_some_iff.1 h2).1
  | rit m since seen c0 =>
    obtain ⟨b',c',bm,cm,h1,_,h2⟩:=h
    rw [hs] at h1; simp only [Option.some.injEq,Prod.mk.injEq] at h1; obtain ⟨rfl,rfl⟩:=h1
    exact (Array.getElem?_eq_some_iff.1 h2).1
  | ty v x=>have h1:=h.1; rw [hs] at h1; cases h1

mutual
def frz (id sz:Nat) (rows:List (List PV)):PV→PV
  | .sc v=>.sc v
  | .imm s r=>.imm s r
  | .iptr r i=>.iptr r i
  | .any=>.any
  | .ptr i o=>.ptr i o
  | .rptr i s k j=>.rptr i s k j
  | .map i=>.map i
  | .own i s n=>bif Nat.beq i id then .imm sz rows else .own i s n
  | .agg xs=>.agg (frzL id sz rows xs)
  | .tup xs=>.tup (frzL id sz rows xs)
  | .fn f xs ys=>.fn f (frzL id sz rows xs) (frzL id sz rows ys)
def frzL (id sz:Nat) (rows:List (List PV)):List PV→List PV
  | []=>[]
  | x::l=>frz id sz rows x::frzL id sz rows l
end
mutual
def frzOb (id:Nat) (rows:List (List PV)):PV→List Ob
  | .own i _ n=>bif Nat.beq i id then [.b (lenIs n rows)] else []
  | .agg xs=>frzObL id rows xs
  | .tup xs=>frzObL id rows xs
  | .fn _ xs ys=>frzObL id rows xs++frzObL id rows ys
  | _=>[]
def frzObL (id:Nat) (rows:List (List PV)):List PV→List Ob
  | []=>[]
  | x::l=>frzOb id rows x++frzObL id rows l
end
theorem frzL_get {id sz:Nat} {rows:List (List PV)}:∀ {xs:List PV} {i:Nat} {y:PV},(frzL id sz rows xs)[i]?=some y→∃ x,xs[i]?=some x∧y=frz id sz rows x
  | [],i,y,h=>by simp [frzL] at h
  | x::xs,i,y,h=>by
    simp only [frzL] at h
    cases i with
    | zero=>simp only [List.getElem?_cons_zero,Option.some.injEq] at h; exact ⟨x,rfl,h.symm⟩
    | succ i=>obtain ⟨z,h1,h2⟩:=frzL_get (xs:=xs) (i:=i) (by simpa using h); exact ⟨z,by simpa using h1,h2⟩
theorem frzL_len {id sz:Nat} {rows:List (List PV)}:∀ {xs:List PV},(frzL id sz rows xs).length=xs.length
  | []=>rfl
  | x::xs=>by simp [frzL,frzL_len]
theorem frz_one {id sz:Nat} {rows:List (List PV)} {x:PV}:(frz id sz rows x).one=x.one:=by
  cases x <;> simp [frz,PV.one]
  rename_i i s n
  cases Nat.beq i id <;> rfl
theorem frzL_ones {id sz:Nat} {rows:List (List PV)}:∀ {xs:List PV},ones (frzL id sz rows xs)=ones xs
  | []=>rfl
  | x::xs=>by simp [frzL,ones,frz_one,frzL_ones]
theorem frzObL_get {id:Nat} {rows:List (List PV)}:∀ {xs:List PV} {i:Nat} {x:PV},AllOb (frzObL id rows xs)→xs[i]?=some x→AllOb (frzOb id rows x)
  | [],i,x,_,h=>by simp at h
  | y::xs,i,x,ho,h=>by
    simp only [frzObL] at ho
    obtain ⟨h1,h2⟩:=allOb_append ho
    cases i with
    | zero=>simp only [List.getElem?_cons_zero,Option.some.injEq] at h; subst h; exact h1
    | succ i=>exact frzObL_get h2 (i:=i) (by simpa using h)

theorem row_imm {σ:Nm} {Z:Nat→Prop} {w:World} {id b c:Nat} {e:TypeId} {sz:Nat} {rows:List (List PV)} (h:OR σ Z w id (.row e sz true rows)) (hs:σ id=some (b,c)) (hz:Z b):IR Z w (.slice (some ⟨b,0,none⟩) rows.length c) (.imm sz rows):=by
  obtain ⟨h1,h2,h3⟩:=h
  obtain ⟨C,q1,q2,q3,q4,q5⟩:=h3 b c hs
  have q6:=q5.2 rfl
  have hlen:=fun r hr=>(h1 r hr).1
  have hfl:=flat_len rows hlen
  have q61:=q6.1; rw [hfl] at q61
  refine .imm _ c sz rows (fun k i=>C.getD (k*sz+i) undef) ⟨q3,by omega⟩ ⟨q4,fun e=>by cases e⟩ (fun k row hr=>?_) (fun k row i x hr hx=>?_)
  · obtain ⟨r1,r2⟩:=rowsOk_get h1 hr
    refine ⟨r1,r2,b,0,rfl,hz,fun i hi=>?_⟩
    have hk:=(List.getElem?_eq_some_iff.1 hr).1
    have hks:(k+1)*sz≤rows.length*sz:=Nat.mul_le_mul_right _ hk
    rw [Nat.add_mul] at hks
    have hlt:k*sz+i<C.length:=by simp at q61; omega
    rw [Nat.zero_add]
    simp [World.cell?,q1,hlt]
  · obtain ⟨r1,r2⟩:=rowsOk_get h1 hr
    have hi:i<sz:=by have:=(List.getElem?_eq_some_iff.1 hx).1; omega
    have hk:=(List.getElem?_eq_some_iff.1 hr).1
    have hks:(k+1)*sz≤rows.length*sz:=Nat.mul_le_mul_right _ hk
    rw [Nat.add_mul] at hks
    have hlt:k*sz+i<C.length:=by simp at q61; omega
    refine q6.2 (k*sz+i) _ x ?_ (by rw [flat_row rows k i row hlen hr hi]; exact hx)
    rw [List.getElem?_take,if_pos (by omega)]
    simp [hlt]

theorem VR.frz {σ:Nm} {Z Z':Nat→Prop} {w:World} {id:Nat} {e:TypeId} {sz:Nat} {rows:List (List PV)} (ho:OR σ Z w id (.row e sz true rows)) (hz:∀ b,Z b→Z' b) (hz':∀ b c,σ id=some (b,c)→Z' b) {v:Value} {x:PV} (h:VR σ Z w v x):AllOb (frzOb id rows x)→VR σ Z' w v (PX.frz id sz rows x):=by
  have hch:Chg (fun _=>False) w w:=Chg.refl _ _
  induction h with
  | sc v h=>intro _; exact .sc v h
  | ptr i off b c h=>intro _; exact .ptr i off b c h
  | rptr i s k j b c h=>intro _; exact .rptr i s k j b c h
  | own i s n b c h =>
    intro hob
    simp only [PX.frz,frzOb] at hob ⊢
    cases hb:Nat.beq i id with
    | false=>exact .own i s n b c h
    | true =>
      rw [hb] at hob
      obtain rfl:=Nat.eq_of_beq_eq_true hb
      have hn:n=rows.length:=by have:=hob.1; simpa [lenIs] using this
      subst hn
      exact .imm _ sz rows ((row_imm (OR.mono (M:=fun _=>False) (Ext.refl σ) hz hch (fun _ _ q=>q) rfl (fun _ _ _ q=>q) ho) h (hz' b c h)))
  | own0 i s =>
    intro hob
    simp only [PX.frz,frzOb] at hob ⊢
    cases hb:Nat.beq i id with
    | false=>exact .own0 i s
    | true =>
      rw [hb] at hob
      have hn:0=rows.length:=by have:=hob.1; simpa [lenIs] using this
      have:rows=[]:=List.length_eq_zero_iff.1 hn.symm
      subst this
      exact .imm _ sz [] (.imm none 0 sz [] (fun _ _=>undef) ⟨Nat.le_refl _,by simp⟩ ⟨by omega,fun _=>rfl⟩ (fun k row h=>by simp at h) (fun k row i x h=>by simp at h))
  | imm v s r h=>intro _; exact .imm v s r (h.mono hz hch fun _ _ q=>q)
  | iptr b off i row U h1 h2 h3 h4=>intro _; exact .iptr b off i row U h1 (hz b h2) h3 fun j x hx=>(h4 j x hx).mono hz hch fun _ _ q=>q
  | agg l xs hl h1 h ih =>
    intro hob
    simp only [frzOb] at hob
    refine .agg l _ (by rw [hl,frzL_len]) (by rw [frzL_ones]; exact h1) fun i u y hu hy=>?_
    obtain ⟨x,hx,rfl⟩:=frzL_get hy
    exact ih i u x hu hx (frzObL_get hob hx)
  | tup l xs hl h ih =>
    intro hob
    simp only [frzOb] at hob
    refine .tup l _ (by rw [hl,frzL_len]) fun i u y hu hy=>?_
    obtain ⟨x,hx,rfl⟩:=frzL_get hy
    exact ih i u x hu hx (frzObL_get hob hx)
  | map i b c h=>intro _; exact .map i b c h
  | any v h=>intro _; exact .any v h
  | fn f l1 l2 x1 x2 hl1 hl2 h1 h2 ih1 ih2 =>
    intro hob
    simp only [frzOb] at hob
    obtain ⟨o1,o2⟩:=allOb_append hob
    refine .fn f l1 l2 _ _ (by rw [hl1,frzL_len]) (by rw [hl2,frzL_len]) (fun i u y hu hy=>?_) (fun i u y hu hy=>?_)
    · obtain ⟨x,hx,rfl⟩:=frzL_get hy
      exact ih1 i u x hu hx (frzObL_get o1 hx)
    · obtain ⟨x,hx,rfl⟩:=frzL_get hy
      exact ih2 i u x hu hx (frzObL_get o2 hx)

def frzLL (id sz:Nat) (rows:List (List PV)):List (List PV)→List (List PV)
  | []=>[]
  | x::l=>frzL id sz rows x::frzLL id sz rows l
def frzObLL (id:Nat) (rows:List (List PV)):List (List PV)→List Ob
  | []=>[]
  | x::l=>frzObL id rows x++frzObLL id rows l
/-- an object with the row told; a row whose cells hold names becomes pure if they hold none any more -/
def frzO (id sz:Nat) (rows:List (List PV)):PO→PO
  | .box e xs=>.box e (frzL id sz rows xs)
  | .row e s true r=>.row e s true r
  | .row e s false r=>.row e s (pures (frzLL id sz rows r).flatten) (frzLL id sz rows r)
  | .mp D=>.mp D
  | .rmap es cl=>.rmap es cl
  | .rit m since seen c0=>.rit m since seen c0
  | .ty v x=>.ty v (frz id sz rows x)
def frzObO (id:Nat) (rows:List (List PV)):PO→List Ob
  | .box _ xs=>frzObL id rows xs
  | .row _ _ true _=>[]
  | .row _ _ false r=>frzObLL id rows r
  | .mp _=>[]
  | .rmap _ _=>[]
  | .rit _ _ _ _=>[]
  | .ty _ x=>frzOb id rows x
theorem frzL_append {id sz:Nat} {rows:List (List PV)}:∀ {xs ys:List PV},frzL id sz rows (xs++ys)=frzL id sz rows xs++frzL id sz rows ys
  | [],ys=>rfl
  | x::xs,ys=>by simp [frzL,frzL_append]
theorem frzLL_flat {id sz:Nat} {rows:List (List PV)}:∀ {r:List (List PV)},(frzLL id sz rows r).flatten=frzL id sz rows r.flatten
  | []=>rfl
  | x::l=>by rw [frzLL,List.flatten_cons,frzLL_flat,List.flatten_cons,frzL_append]
theorem frzLL_len {id sz:Nat} {rows:List (List PV)}:∀ {r:List (List PV)},(frzLL id sz rows r).length=r.length
  | []=>rfl
  | x::l=>by simp [frzLL,frzLL_len]
theorem frzLL_ok {id sz s:Nat} {rows:List (List PV)}:∀ {r:List (List PV)},rowsOk s r→rowsOk s (frzLL id sz rows r)
  | [],_,q,hq=>by simp [frzLL] at hq
  | x::l,h,q,hq=>by
    simp only [frzLL,List.mem_cons] at hq
    rcases hq with rfl | hq
    · have:=h x (by simp)
      rw [frzL_len,frzL_ones]; exact this
    · exact frzLL_ok (fun y hy=>h y (List.mem_cons_of_mem _ hy)) q hq
theorem frzObL_append {id:Nat} {rows:List (List PV)}:∀ {xs ys:List PV},AllOb (frzObL id rows xs)→AllOb (frzObL id rows ys)→AllOb (frzObL id rows (xs++ys))
  | [],ys,_,h=>h
  | x::xs,ys,h,h'=>by
    simp only [List.cons_append,frzObL] at h ⊢
    obtain ⟨h1,h2⟩:=allOb_append h
    have h3:=frzObL_append h2 h'
    have app:∀ {l m:List Ob},AllOb l→AllOb m→AllOb (l++m):=fun {l m} h h'=>by
      induction l with
      | nil=>exact h'
      | cons q l ih=>cases q <;> exact ⟨h.1,ih h.2⟩
    exact app h1 h3
theorem frzObLL_flat {id:Nat} {rows:List (List PV)}:∀ {r:List (List PV)},AllOb (frzObLL id rows r)→AllOb (frzObL id rows r.flatten)
  | [],_=>trivial
  | x::l,h=>by
    simp only [frzObLL] at h
    obtain ⟨h1,h2⟩:=allOb_append h
    rw [List.flatten_cons]; exact frzObL_append h1 (frzObLL_flat h2)
theorem VRs.frz {σ:Nm} {Z Z':Nat→Prop} {w:World} {id:Nat} {e:TypeId} {sz:Nat} {rows:List (List PV)} (ho:OR σ Z w id (.row e sz true rows)) (hz:∀ b,Z b→Z' b) (hz':∀ b c,σ id=some (b,c)→Z' b) {l:List Value} {xs:List PV} (h:VRs σ Z w l xs) (hob:AllOb (frzObL id rows xs)):VRs σ Z' w l (frzL id sz rows xs) :=
  ⟨by rw [h.1,frzL_len],fun i u y hu hy=>by
    obtain ⟨x,hx,rfl⟩:=frzL_get hy
    exact (h.2 i u x hu hx).frz ho hz hz' (frzObL_get hob hx)⟩
theorem OR.frz {σ:Nm} {Z Z':Nat→Prop} {w:World} {id:Nat} {e:TypeId} {sz:Nat} {rows:List (List PV)} (ho:OR σ Z w id (.row e sz true rows)) (hz:∀ b,Z b→Z' b) (hz':∀ b c,σ id=some (b,c)→Z' b) {i:Nat} {o:PO} (h:OR σ Z w i o) (hob:AllOb (frzObO id rows o)):OR σ Z' w i (frzO id sz rows o):=by
  cases o with
  | box e' xs =>
    obtain ⟨b,c,C,h1,h2,h3,h4⟩:=h
    exact ⟨b,c,C,h1,h2,by rw [frzL_ones]; exact h3,h4.frz ho hz hz' hob⟩
  | row e' s pu r =>
    cases pu with
    | true=>exact OR.mono (M:=fun _=>False) (Ext.refl σ) hz (Chg.refl _ _) (fun _ _ q=>q) rfl (fun _ _ _ q=>q) h
    | false =>
      obtain ⟨h1,h2,h3⟩:=h
      refine ⟨frzLL_ok h1,⟨by rw [frzLL_len]; exact h2.1,fun q=>h2.2 (fun e=>by subst e; exact q rfl)⟩,fun b c hb=>?_⟩
      obtain ⟨C,q1,q2,q3,q4,q5⟩:=h3 b c hb
      refine ⟨C,q1,q2,by rw [frzLL_len]; exact q3,q4,?_⟩
      rw [frzLL_len]
      have:=(q5.1.frz ho hz hz' (frzObLL_flat hob)).crs
      rw [← frzLL_flat] at this
      exact this
  | mp D=>exact OR.mono (M:=fun _=>False) (Ext.refl σ) hz (Chg.refl _ _) (fun _ _ q=>q) rfl (fun _ _ _ q=>q) h
  | rmap es cl=>exact OR.mono (M:=fun _=>False) (Ext.refl σ) hz (Chg.refl _ _) (fun _ _ q=>q) rfl (fun _ _ _ q=>q) h
  | rit m since seen c0=>exact OR.mono (M:=fun _=>False) (Ext.refl σ) hz (Chg.refl _ _) (fun _ _ q=>q) rfl (fun _ _ _ q=>q) h
  | ty v x=>exact ⟨h.1,by rw [frz_one]; exact h.2.1,h.2.2.frz ho hz hz' hob⟩
def frzR (id sz:Nat) (rows:List (List PV)):List Ent→List Ent
  | []=>[]
  | e::R=>⟨e.t,e.p,frz id sz rows e.v⟩::frzR id sz rows R
def frzH (id sz:Nat) (rows:List (List PV)):Heap→Heap
  | []=>[]
  | x::H=>(x.1,frzO id sz rows x.2)::frzH id sz rows H
def frzObR (id:Nat) (rows:List (List PV)):List Ent→List Ob
  | []=>[]
  | e::R=>frzOb id rows e.v++frzObR id rows R
def frzObH (id:Nat) (rows:List (List PV)):Heap→List Ob
  | []=>[]
  | x::H=>frzObO id rows x.2++frzObH id rows H
theorem look_frzR {id sz t:Nat} {rows:List (List PV)}:∀ {R:List Ent} {e:Ent},AllOb (frzObR id rows R)→look (frzR id sz rows R) t=some e→∃ e',look R t=some e'∧e.p=e'.p∧e.v=frz id sz rows e'.v∧AllOb (frzOb id rows e'.v)
  | [],e,_,h=>by simp [frzR,look] at h
  | x::R,e,ho,h=>by
    simp only [frzObR] at ho
    obtain ⟨o1,o2⟩:=allOb_append ho
    simp only [look,frzR] at h ⊢
    cases hb:Nat.beq x.t t with
    | true=>rw [hb] at h; simp only [cond_true,Option.some.injEq] at h; subst h; exact ⟨x,rfl,rfl,rfl,o1⟩
    | false=>rw [hb] at h; exact look_frzR o2 h
theorem hlook_frzH {id sz i:Nat} {rows:List (List PV)}:∀ {H:Heap} {o:PO},AllOb (frzObH id rows H)→hlook (frzH id sz rows H) i=some o→∃ o',hlook H i=some o'∧o=frzO id sz rows o'∧AllOb (frzObO id rows o')
  | [],o,_,h=>by simp [frzH,hlook] at h
  | x::H,o,ho,h=>by
    simp only [frzObH] at ho
    obtain ⟨o1,o2⟩:=allOb_append ho
    simp only [hlook,frzH] at h ⊢
    cases hb:Nat.beq x.1 i with
    | true=>rw [hb] at h; simp only [cond_true,Option.some.injEq] at h; subst h; exact ⟨x.2,rfl,rfl,o1⟩
    | false=>rw [hb] at h; exact hlook_frzH o2 h

/-- what a call is shown: rows of the table,told from the innermost on -/
def vw:List Nat→Heap→List PV→Option (List PV × List Ob)
  | [],_,ys=>some (ys,[])
  | id::vs,H,ys=>match hlook H id with
    | some (.row _ sz true rows)=>match vw vs (frzH id sz rows (hdel H id)) (frzL id sz rows ys) with
      | some (ys',ob)=>some (ys',(frzObL id rows ys++frzObH id rows (hdel H id))++ob)
      | none=>none
    | _=>none
theorem vw_sound {σ:Nm} {w:World} {l:List Value}:∀ {vs:List Nat} {Z:Nat→Prop} {H:Heap} {ys ys':List PV} {ob:List Ob},vw vs H ys=some (ys',ob)→AllOb ob→HR σ Z w H→VRs σ Z w l ys →
    (∀ id∈vs,hlook H id≠none)∧∃ Z':Nat→Prop,(∀ b,Z b→Z' b)∧(∀ b,Z' b→Z b∨∃ id o c,id∈vs∧hlook H id=some o∧σ id=some (b,c))∧VRs σ Z' w l ys'∧∀ b,Z' b→b<w.heap.size
  | [],Z,H,ys,ys',ob,h,_,hH,hv=>by
    simp only [vw,Option.some.injEq,Prod.mk.injEq] at h
    obtain ⟨rfl,rfl⟩:=h
    exact ⟨(fun id h=>by cases h),Z,fun _ q=>q,fun _ q=>.inl q,hv,hH.zlt⟩
  | id::vs,Z,H,ys,ys',ob,h,hob,hH,hv=>by
    simp only [vw] at h
    split at h
    · rename_i e sz rows hl
      split at h
      · rename_i ys1 ob1 h1
        simp only [Option.some.injEq,Prod.mk.injEq] at h
        obtain ⟨rfl,rfl⟩:=h
        obtain ⟨o1,o2⟩:=allOb_append hob
        obtain ⟨o1,o3⟩:=allOb_append o1
        have ho:=hH.at_ id _ hl
        let Z1:Nat→Prop:=fun b=>Z b∨∃ c,σ id=some (b,c)
        have hz:∀ b,Z b→Z1 b:=fun b q=>.inl q
        have hz':∀ b c,σ id=some (b,c)→Z1 b:=fun b c q=>.inr ⟨c,q⟩
        have old:∀ {i:Nat} {o:PO},hlook (frzH id sz rows (hdel H id)) i=some o→∃ o',hlook H i=some o'∧i≠id∧o=frzO id sz rows o'∧AllOb (frzObO id rows o'):=fun {i o} h=>by
          obtain ⟨o',h1,h2,h3⟩:=hlook_frzH o3 h
          rw [hlook_hdel] at h1
          split at h1
          · cases h1
          · rename_i hne; exact ⟨o',h1,hne,h2,h3⟩
        have hH1:HR σ Z1 w (frzH id sz rows (hdel H id)):=by
          refine ⟨fun i o h=>?_,fun i i' o o' b c c' h1 h2 h3 h4=>?_,fun i o b c h1 h2=>?_,fun b hb=>?_⟩
          · obtain ⟨o',q1,_,rfl,q3⟩:=old h
            exact OR.frz ho hz hz' (hH.at_ i o' q1) q3
          · obtain ⟨p1,q1,_,_,_⟩:=old h1
            obtain ⟨p2,q2,_,_,_⟩:=old h2
            exact hH.inj i i' p1 p2 b c c' q1 q2 h3 h4
          · obtain ⟨p1,q1,hne,_,_⟩:=old h1
            rintro (hz | ⟨c',hz⟩)
            · exact hH.off i p1 b c q1 h2 hz
            · exact hne (hH.inj i id p1 _ b c c' q1 hl h2 hz)
          · rcases hb with hb | ⟨c,hb⟩
            · exact hH.zlt b hb
            · exact ho.lt hb
        obtain ⟨r1,Z',r2,r3,r4,r5⟩:=vw_sound h1 o2 hH1 (hv.frz ho hz hz' o1)
        refine ⟨fun i hi=>?_,Z',fun b q=>r2 b (hz b q),fun b q=>?_,r4,r5⟩
        · rcases List.mem_cons.1 hi with rfl | hi
          · rw [hl]; simp
          · have:=r1 i hi
            cases q:hlook (frzH id sz rows (hdel H id)) i with
            | none=>exact absurd q this
            | some o=>obtain ⟨p1,q1,_⟩:=old q; rw [q1]; simp
        · rcases r3 b q with q | ⟨i,o,c,q1,q2,q3⟩
          · rcases q with q | ⟨c,q⟩
            · exact .inl q
            · exact .inr ⟨id,_,c,List.mem_cons_self,hl,q⟩
          · obtain ⟨p1,q4,_⟩:=old q2
            exact .inr ⟨i,p1,c,List.mem_cons_of_mem _ q1,q4,q3⟩
      · cases h
    · cases h

/-! a part of a slice that nobody writes -/
def bnd (R:List Ent) (p:List (Nat × Bool)) (k d:Nat):Option Operand→Option (List Prop)
  | none=>some [k=d]
  | some x=>match opd R p x with
    | some (.sc (.int _ n))=>some [n=(k:Int)]
    | _=>none
theorem bnd_spec {P:Program} {σ:Nm} {Z:Nat→Prop} {w:World} {N:Nat} {κ:List (Nat × Bool)} {R:List Ent} {a:Act} {p:List (Nat × Bool)} (hR:RS σ Z w N κ R a) (hp:pv κ p=true) {k d:Nat} {x:Option Operand} {obs:List Prop} (h:bnd R p k d x=some obs) (hob:AllP obs) :
    (x.map a.eval=none∧k=d)∨∃ K,x.map a.eval=some (.int K (k:Int)):=by
  cases x with
  | none=>simp only [bnd,Option.some.injEq] at h; subst h; exact .inl ⟨rfl,hob.1⟩
  | some x =>
    simp only [bnd] at h
    split at h
    · rename_i K n hx
      simp only [Option.some.injEq] at h; subst h
      have hv:=hR.opd hp hx
      have hn:=hob.1
      subst hn
      generalize hav:a.eval x=vx at hv
      cases hv
      exact .inr ⟨K,by simp [hav]⟩
    · cases h
theorem run_slice_cut {P:Program} {w:World} {t e:TypeId} {sz len cap l h:Nat} {A:Option Addr} (h1:evl P (underlying t)=some (.slice e)) (h2:evl P (sizeOf e)=some sz) {x y:Option Value} (hx:(x=none∧l=0)∨∃ K,x=some (.int K (l:Int))) (hy:(y=none∧h=len)∨∃ K,y=some (.int K (h:Int))) (hl:l≤h) (hh:h≤cap) :
    (Instr.sliceAt t (.slice A len cap) x y none).run P w=.ok (.slice (if cap=l then A else A.map (·.add (l*sz))) (h-l) (cap-l)) w:=by
  have z1:(0:Int)≤(l:Int)∧(l:Int)≤(h:Int):=⟨by omega,by omega⟩
  have z2:(0:Int)≤(h:Int)∧(h:Int)≤(cap:Int):=⟨by omega,by omega⟩
  rcases hx with ⟨rfl,rfl⟩ | ⟨K,rfl⟩ <;> rcases hy with ⟨rfl,rfl⟩ | ⟨K',rfl⟩ <;>
    simp [Instr.sliceAt,Instr.slice,Instr.sliceBounds,Instr.sliceBound,Sem.run_bind,evl_run h1 w,evl_run h2 w,asIntOf,z1,z2,hl,hh]
theorem exec_slice {P:Program} {σ:Nm} {Z:Nat→Prop} {w:World} {N:Nat} {κ:List (Nat × Bool)} {R:List Ent} {a:Act} {H:Heap} {p:List (Nat × Bool)} {o:Oper} (hR:RS σ Z w N κ R a) (hp:pv κ p=true) {t e:TypeId} {x:Operand} {lo hi:Option Operand} (ho:o.op=.slice t x lo hi none)
    {sz l h:Nat} {rows rs:List (List PV)} {o1 o2:List Prop} (h1:evl P (underlying t)=some (.slice e)) (h2:evl P (sizeOf e)=some sz) (hx:opd R p x=some (.imm sz rows)) (hlo:bnd R p l 0 lo=some o1) (hhi:bnd R p h rows.length hi=some o2) (b1:AllP o1) (b2:AllP o2)
    (hl:l≤h) (hh:h≤rows.length) (hrs:(rows.take h).drop l=rs):Exec P o a w σ Z H (some (.imm sz rs)) []:=by
  have hv:=hR.opd hp hx
  have q1:=bnd_spec (P:=P) hR hp hlo b1
  have q2:=bnd_spec (P:=P) hR hp hhi b2
  generalize hav:a.eval x=vx at hv
  subst hrs
  cases hv with
  | imm _ _ _ hi =>
    cases hi with
    | imm A cap _ _ U c1 c2 c3 c4 =>
      have hlen:((rows.take h).drop l).length=h-l:=by simp; omega
      have hget:∀ k row,((rows.take h).drop l)[k]?=some row→rows[l+k]?=some row∧l+k<h:=fun k row hk=>by
        rw [List.getElem?_drop,List.getElem?_take] at hk
        split at hk
        · exact ⟨hk,by assumption⟩
        · cases hk
      refine exec_quiet (v:=.slice (if cap=l then A else A.map (·.add (l*sz))) (h-l) (cap-l)) ?_ (.imm _ _ _ ?_)
      · have:=run_slice_cut (P:=P) (w:=w) (A:=A) (len:=rows.length) h1 h2 q1 q2 hl (Nat.le_trans hh c1.1)
        simp [execOp,ho,hav,Sem.run_bind,this]
      · rw [← hlen]
        refine .imm _ _ sz _ (fun k i=>U (l+k) i) ⟨by rw [hlen]; omega,by rw [hlen]; omega⟩ ⟨by omega,fun e=>?_⟩ (fun k row hk=>?_) (fun k row i x hk hx=>c4 (l+k) row i x (hget k row hk).1 hx)
        · split at e
          · rename_i q; omega
          · cases A with
            | none=>rw [c2.2 rfl]; simp
            | some A=>cases e
        · obtain ⟨g1,g2⟩:=hget k row hk
          obtain ⟨r1,r2,b,off,rfl,r3,r4⟩:=c3 _ row g1
          rw [if_neg (by omega)]
          refine ⟨r1,r2,b,off+l*sz,by simp [add_off],r3,fun i hi=>?_⟩
          rw [← r4 i hi,Nat.add_mul,Nat.add_assoc off]

/-! maps from ints -/
/-- a row cut down to nothing -/
theorem exec_slice0 {P:Program} {σ:Nm} {Z:Nat→Prop} {w:World} {N:Nat} {κ:List (Nat × Bool)} {R:List Ent} {a:Act} {H:Heap} {p:List (Nat × Bool)} {o:Oper} (hR:RS σ Z w N κ R a) (hH:HR σ Z w H) (hp:pv κ p=true) {t e:TypeId} {x y:Operand} {lo:Option Operand} (ho:o.op=.slice t x lo (some y) none)
    {id sz n e' sz':Nat} {pu:Bool} {rows:List (List PV)} {o1 o2:List Prop} (h1:evl P (underlying t)=some (.slice e)) (h2:evl P (sizeOf e)=some sz) (hx:opd R p x=some (.own id sz n)) (hl:hlook H id=some (.row e' sz' pu rows)) (hlo:bnd R p 0 0 lo=some o1) (hhi:bnd R p 0 1 (some y)=some o2) (b1:AllP o1) (b2:AllP o2):Exec P o a w σ Z H (some (.imm sz [])) []:=by
  have hv:=hR.opd hp hx
  have q1:=bnd_spec (P:=P) hR hp hlo b1
  have q2:=bnd_spec (P:=P) (d:=n) (x:=some y) hR hp hhi b2
  have q2':(Option.map a.eval (some y)=none∧0=n)∨∃ K,Option.map a.eval (some y)=some (.int K ((0:Nat):Int)):=q2
  generalize hav:a.eval x=vx at hv
  have z:∀ (A:Option Addr) (cap:Nat),cap≤9223372036854775807→(A=none→cap=0)→IR Z w (.slice (if cap=0 then A else A.map (·.add (0*sz))) 0 (cap-0)) (.imm sz []):=fun A cap hc hA =>
    .imm _ (cap-0) sz [] (fun _ _=>undef) ⟨Nat.zero_le _,by simp⟩ ⟨by omega,fun e=>by
      split at e
      · omega
      · cases A with
        | none=>have:=hA rfl; omega
        | some A=>cases e⟩ (fun k row h=>by simp at h) (fun k row i x h=>by simp at h)
  cases hv with
  | own _ _ _ b c hs =>
    obtain ⟨_,_,q3⟩:=hH.at_ id _ hl
    obtain ⟨C,_,_,_,hc,_⟩:=q3 b c hs
    have:=run_slice_cut (P:=P) (w:=w) (A:=some ⟨b,0,none⟩) (len:=n) (cap:=c) (l:=0) (h:=0) h1 h2 q1 q2' (Nat.le_refl _) (Nat.zero_le _)
    refine exec_quiet (v:=.slice (if c=0 then some ⟨b,0,none⟩ else (some (⟨b,0,none⟩:Addr)).map (·.add (0*sz))) (0-0) (c-0)) ?_ (.imm _ _ _ (z _ _ hc (fun e=>by cases e)))
    rw [Option.map_some] at this
    simp [execOp,ho,hav,Sem.run_bind,this]
  | own0 =>
    have:=run_slice_cut (P:=P) (w:=w) (A:=none) (len:=0) (cap:=0) (l:=0) (h:=0) h1 h2 q1 q2' (Nat.le_refl _) (Nat.zero_le _)
    refine exec_quiet (v:=.slice (if (0:Nat)=0 then none else (none:Option Addr).map (·.add (0*sz))) (0-0) (0-0)) ?_ (.imm _ _ _ (z _ _ (by omega) (fun _=>rfl)))
    rw [Option.map_some] at this
    simp [execOp,ho,hav,Sem.run_bind,this]
def findV (D:List (Int × Value)) (x:Int):Option Value:=(D.find? (fun p=>x==p.1)).map (·.2)
def updV:List (Int × Value)→Int→Value→List (Int × Value)
  | [],x,v=>[(x,v)]
  | p::D,x,v=>bif x==p.1 then (p.1,v)::D else p::updV D x v
theorem findV_ok {D:List (Int × Value)} (h:∀ p∈D,scOk p.2=true) {x:Int} {v:Value} (hv:findV D x=some v):scOk v=true:=by
  unfold findV at hv
  obtain ⟨p,hp,rfl⟩:=Option.map_eq_some_iff.1 hv
  exact h p (List.mem_of_find?_eq_some hp)
theorem updV_ok:∀ {D:List (Int × Value)},(∀ p∈D,scOk p.2=true)→∀ {x:Int} {v:Value},scOk v=true→∀ p∈updV D x v,scOk p.2=true
  | [],_,x,v,hv,p,hp=>by simp only [updV,List.mem_cons,List.not_mem_nil,or_false] at hp; subst hp; exact hv
  | q::D,h,x,v,hv,p,hp=>by
    simp only [updV] at hp
    cases hb:(x==q.1) with
    | true =>
      rw [hb] at hp; simp only [cond_true,List.mem_cons] at hp
      rcases hp with rfl | hp
      · exact hv
      · exact h p (List.mem_cons_of_mem _ hp)
    | false =>
      rw [hb] at hp; simp only [cond_false,List.mem_cons] at hp
      rcases hp with rfl | hp
      · exact h _ List.mem_cons_self
      · exact updV_ok (fun r hr=>h r (List.mem_cons_of_mem _ hr)) hv p hp
theorem findNow_V (x:Int):∀ (es:List MapEntry) (D:List (Int × Value)) (i:Nat),MapOk es D→∃ r,Instr.findNow (.int .i64) (.int .i64 x) es i=some r∧r.map (·.2)=findV D x ∧
    ∀ v:Value,match r with
      | none=>∀ cl,MapOk (es++[{ key:=.int .i64 x,val:=v,born:=cl }]) (updV D x v)
      | some (m,_)=>i≤m∧(es[m-i]?).map (·.key)=some (.int .i64 x)∧MapOk (es.modify (m-i) fun e=>{ e with key:=.int .i64 x,val:=v }) (updV D x v)
  | [],[],i,_=>⟨none,rfl,rfl,fun v cl=>rfl⟩
  | [],p::D,i,h=>by simp [MapOk] at h
  | e::es,[],i,h=>by simp [MapOk] at h
  | e::es,p::D,i,h=>by
    have h':=h
    simp only [MapOk,List.map_cons,List.cons.injEq,Prod.mk.injEq] at h
    obtain ⟨⟨h1,h2⟩,h3⟩:=h
    unfold Instr.findNow Instr.sameNow
    simp only [h1,if_true]
    cases hx:(x==p.1) with
    | true =>
      have hxp:x=p.1:=by simpa using hx
      refine ⟨some (i,e.val),rfl,by simp [findV,List.find?_cons,hx,h2],fun v=>⟨Nat.le_refl _,by simp [h1,hxp],?_⟩⟩
      rw [Nat.sub_self]
      simp only [updV,hx,cond_true,MapOk,List.modify_zero_cons,List.map_cons]
      rw [h3,hxp]
    | false =>
      obtain ⟨r,hr,hm,hu⟩:=findNow_V x es D (i+1) h3
      refine ⟨r,hr,by rw [hm]; simp [findV,List.find?_cons,hx],fun v=>?_⟩
      have hu:=hu v
      cases r with
      | none=>exact fun cl=>by simp only [updV,hx,cond_false,MapOk,List.cons_append,List.map_cons,h1,h2]; rw [hu cl]
      | some q =>
        obtain ⟨m,z⟩:=q
        obtain ⟨u1,u2,u3⟩:=hu
        have e:m-i=(m-(i+1))+1:=by omega
        refine ⟨by omega,by rw [e]; simpa using u2,?_⟩
        rw [e]
        simp only [updV,hx,cond_false,MapOk,List.modify_succ_cons,List.map_cons,h1,h2]
        rw [u3]

def mapTy (P:Program) (t:TypeId):Option Value :=
  match evl P (underlying t) with
  | some (.map k e)=>match evl P (underlying k),evl P (zeroValue e) with
    | some (.int .i64),some z=>bif scOk z then some z else none
    | _,_=>none
  | _=>none
theorem mapTy_spec {P:Program} {t:TypeId} {z:Value} (h:mapTy P t=some z):∃ k e,evl P (underlying t)=some (.map k e)∧evl P (underlying k)=some (.int .i64)∧evl P (zeroValue e)=some z∧scOk z=true:=by
  unfold mapTy at h
  split at h
  · rename_i k e h1
    split at h
    · rename_i z' h2 h3
      cases hb:scOk z' with
      | false=>rw [hb] at h; cases h
      | true=>rw [hb] at h; simp only [cond_true,Option.some.injEq] at h; subst h; exact ⟨k,e,h1,h2,h3,hb⟩
    · cases h
  · cases h
theorem checkKey_int {P:Program} {w:World} {k:TypeId} {x:Int} (h:evl P (underlying k)=some (.int .i64)) (b:Bool):(Instr.checkKey b 10000 k (.int .i64 x)).run P w=.ok () w:=by
  show (Instr.checkKey b (9999+1) k (.int .i64 x)).run P w=_
  unfold Instr.checkKey
  simp only [Sem.run_bind,evl_run h w,Result.andThen_ok,Sem.run_pure]
theorem run_lookV {P:Program} {w:World} {t:TypeId} {z:Value} (ht:mapTy P t=some z) {b:Nat} {es:Array MapEntry} {cl:Nat} {D:List (Int × Value)} (h1:w.heap[b]?=some (.map es cl)) (h2:MapOk es.toList D) (x:Int) (ok:Bool) :
    (Instr.lookup t (.map (some b)) (.int .i64 x) ok).run P w=.ok (if ok=true then .tuple #[(findV D x).getD z,.bool (findV D x).isSome] else (findV D x).getD z) w:=by
  obtain ⟨k,e,q1,q2,q3,_⟩:=mapTy_spec ht
  obtain ⟨r,hr,hm,_⟩:=findNow_V x es.toList D 0 h2
  have hg:(getObj b).run P w=.ok (.map es cl) w:=by simp [getObj,Sem.run,h1]
  unfold Instr.lookup
  simp only [Sem.run_bind,evl_run q1 w,Result.andThen_ok,hg,checkKey_int q2,Instr.findKey,evl_run q2 w,hr,Sem.run_pure]
  cases r with
  | none =>
    have hf:findV D x=none:=by simpa using hm.symm
    simp only [Sem.run_bind,evl_run q3 w,Result.andThen_ok,Sem.run_pure,hf,Option.getD_none,Option.isSome_none]
  | some q =>
    obtain ⟨i,v⟩:=q
    have hf:findV D x=some v:=by simpa using hm.symm
    simp only [Sem.run_bind,Result.andThen_ok,Sem.run_pure,hf,Option.getD_some,Option.isSome_some]
theorem exec_look {P:Program} {σ:Nm} {Z:Nat→Prop} {w:World} {N:Nat} {κ:List (Nat × Bool)} {R:List Ent} {a:Act} {H:Heap} {p:List (Nat × Bool)} {o:Oper} (hR:RS σ Z w N κ R a) (hH:HR σ Z w H) (hp:pv κ p=true) {t:TypeId} {m x:Operand} {ok:Bool} (ho:o.op=.lookup t m x ok) {z:Value} (ht:mapTy P t=some z) {id:Nat} {n:Int} {D:List (Int × Value)}
    (hm:opd R p m=some (.map id)) (hx:opd R p x=some (.sc (.int .i64 n))) (hl:hlook H id=some (.mp D)):Exec P o a w σ Z H (some (bif ok then .tup [.sc ((findV D n).getD z),.sc (.bool (findV D n).isSome)] else .sc ((findV D n).getD z))) []:=by
  have hv:=hR.opd hp hm
  have hw:=hR.opd hp hx
  generalize hav:a.eval m=vm at hv
  generalize haw:a.eval x=vx at hw
  cases hw
  obtain ⟨h0,b',c',es,cl,g1,g2,g3⟩:=hH.at_ id _ hl
  obtain ⟨_,_,_,_,_,hz⟩:=mapTy_spec ht
  cases hv with
  | map _ b c hs =>
    rw [hs] at g1; simp only [Option.some.injEq,Prod.mk.injEq] at g1; obtain ⟨rfl,rfl⟩:=g1
    have hr:=run_lookV ht g2 g3 n ok
    have hsc:scOk ((findV D n).getD z)=true:=by
      cases hf:findV D n with
      | none=>exact hz
      | some v=>exact findV_ok h0 hf
    refine exec_quiet (v:=if ok=true then .tuple #[(findV D n).getD z,.bool (findV D n).isSome] else (findV D n).getD z) ?_ ?_
    · simp [execOp,ho,hav,haw,Sem.run_bind,hr]
    · cases ok with
      | true=>exact .tup [_,_] _ rfl (VRs.cons (.sc _ hsc) (VRs.cons (.sc _ rfl) VRs.nil)).2
      | false=>exact .sc _ hsc
theorem run_updV {P:Program} {w:World} {t:TypeId} {z:Value} (ht:mapTy P t=some z) {b:Nat} {es:Array MapEntry} {cl:Nat} {D:List (Int × Value)} (h1:w.heap[b]?=some (.map es cl)) (h2:MapOk es.toList D) (x:Int) (v:Value) :
    ∃ w' es' cl',(Instr.mapUpdate t (.map (some b)) (.int .i64 x) v).run P w=.ok () w'∧w'.heap[b]?=some (.map es' cl')∧MapOk es'.toList (updV D x v)∧Chg (fun i=>i=b) w w':=by
  obtain ⟨k,e,q1,q2,q3,_⟩:=mapTy_spec ht
  obtain ⟨r,hr,hm,hu⟩:=findNow_V x es.toList D 0 h2
  have hg:(getObj b).run P w=.ok (.map es cl) w:=by simp [getObj,Sem.run,h1]
  have hlt:=(Array.getElem?_eq_some_iff.1 h1).1
  have hs:∀ ob,(setObj b ob).run P w=.ok () { w with heap:=w.heap.setIfInBounds b ob }:=fun ob=>by simp [setObj,Sem.run,h1]
  have hch:∀ ob,Chg (fun i=>i=b) w { w with heap:=w.heap.setIfInBounds b ob }:=fun ob=>⟨rfl,rfl,rfl,by simp,fun i hi hn=>by simp [Array.getElem?_setIfInBounds,Ne.symm hn]⟩
  have hu:=hu v
  cases r with
  | none =>
    refine ⟨_,es.push { key:=.int .i64 x,val:=v,born:=cl },cl+1,?_,?_,?_,hch (.map (es.push { key:=.int .i64 x,val:=v,born:=cl }) (cl+1))⟩
    · unfold Instr.mapUpdate
      simp only [Sem.run_bind,evl_run q1 w,Result.andThen_ok,hg,checkKey_int q2,Instr.findKey,evl_run q2 w,hr,Sem.run_pure,hs]
    · simp [hlt]
    · rw [Array.toList_push]; exact hu cl
  | some q =>
    obtain ⟨m,y⟩:=q
    obtain ⟨u1,u2,u3⟩:=hu
    simp only [Nat.sub_zero] at u2 u3
    have hk:((es[m]?).map (·.key)).getD (.int .i64 x)=.int .i64 x:=by
      rw [← Array.getElem?_toList,u2]; rfl
    have hst:(Instr.keyThatStays (.int .i64 x) (.int .i64 x)).run P w=.ok (.int .i64 x) w:=by
      unfold Instr.keyThatStays
      rw [if_pos (by simp [Instr.sameBits])]; rfl
    refine ⟨_,es.modify m fun e=>{ e with key:=.int .i64 x,val:=v },cl,?_,?_,?_,hch (.map (es.modify m fun e=>{ e with key:=.int .i64 x,val:=v }) cl)⟩
    · unfold Instr.mapUpdate
      simp only [Sem.run_bind,evl_run q1 w,Result.andThen_ok,hg,checkKey_int q2,Instr.findKey,evl_run q2 w,hr,Sem.run_pure,hk,hst,hs]
    · simp [hlt]
    · rw [Array.toList_modify]; exact u3
theorem exec_upd {P:Program} {σ:Nm} {Z:Nat→Prop} {w:World} {N:Nat} {κ:List (Nat × Bool)} {R:List Ent} {a:Act} {H:Heap} {p:List (Nat × Bool)} {o:Oper} (hR:RS σ Z w N κ R a) (hH:HR σ Z w H) (hp:pv κ p=true) {t:TypeId} {m x y:Operand} (ho:o.op=.mapUpdate t m x y) {z:Value} (ht:mapTy P t=some z) {id:Nat} {n:Int} {v:Value} {D:List (Int × Value)}
    (hm:opd R p m=some (.map id)) (hx:opd R p x=some (.sc (.int .i64 n))) (hy:opd R p y=some (.sc v)) (hl:hlook H id=some (.mp D)):Exec P o a w σ Z H none [(id,some (.mp (updV D n v)))]:=by
  have hv:=hR.opd hp hm
  have hw:=hR.opd hp hx
  have hz:=hR.opd hp hy
  generalize hav:a.eval m=vm at hv
  generalize haw:a.eval x=vx at hw
  generalize haz:a.eval y=vy at hz
  cases hw
  cases hz with
  | sc _ hsc =>
    obtain ⟨h0,b',c',es,cl,g1,g2,g3⟩:=hH.at_ id _ hl
    cases hv with
    | map _ b c hs =>
      rw [hs] at g1; simp only [Option.some.injEq,Prod.mk.injEq] at g1; obtain ⟨rfl,rfl⟩:=g1
      obtain ⟨w',es',cl',r1,r2,r3,r4⟩:=run_updV ht g2 g3 n v
      refine exec_skip (w':=w') (σ':=σ) (Z':=Z) ?_ (eff_upd hH hl hs r4 ⟨updV_ok h0 hsc,_,_,es',cl',hs,r2,r3⟩)
      simp [execOp,ho,hav,haw,haz,Sem.run_bind,r1]
theorem exec_mkmap {P:Program} {σ:Nm} {Z:Nat→Prop} {w:World} {a:Act} {H:Heap} {o:Oper} (hH:HR σ Z w H) {nx:Nat} (hn:σ nx=none) (hnh:hlook H nx=none) {t:TypeId} (ho:o.op=.makeMap t none):Exec P o a w σ Z H (some (.map nx)) [(nx,some (.mp []))]:=by
  have hr:(execOp a.eval o).run P w=.ok (.value (.map (some w.heap.size))) (w.alloc (.map #[] 0)):=by
    have h1:(newObj (.map #[] 0)).run P w=.ok w.heap.size (w.alloc (.map #[] 0)):=by simp [newObj,Sem.run]
    simp [execOp,ho,Instr.makeMap,Sem.run_bind,h1]
  refine exec_value (σ':=upd σ nx w.heap.size 0) (Z':=Z) hr (.map nx _ 0 (upd_self _ _ _ _)) (eff_new (c:=0) hH hn hnh ⟨fun p hp=>by simp at hp,w.heap.size,0,#[],0,upd_self _ _ _ _,?_,rfl⟩)
  show (w.heap.push _)[w.heap.size]?=_
  simp
end Go.PX

/- Proved: the built-in copy of a row onto another one of the same length,for elements of one cell. Program-independent. -/
namespace Go.PX
open Go.RowKit Go.SX
theorem flat_one {rows:List (List PV)} (h:rowsOk 1 rows):rows.flatten.length=rows.length:=by
  rw [flat_len rows (fun r hr=>(h r hr).1),Nat.mul_one]
theorem eff_keep {σ:Nm} {Z:Nat→Prop} {w:World} {H:Heap} (hH:HR σ Z w H) {id:Nat} {o0 o':PO} (hl:hlook H id=some o0) (ho:OR σ Z w id o'):Eff σ Z w H [(id,some o')] σ Z w where
  ext:=Ext.refl σ
  dom _ h _:=h
  zmono _ h:=h
  znew _ h:=.inl h
  chg:=Chg.refl _ _
  objs i o h:=by
    rw [ulook_one] at h
    split at h
    · rename_i e; subst e; injection h with h; injection h with h; subst h; exact ho
    · cases h
  off i o b' c' h h':=by
    rw [ulook_one] at h
    split at h
    · rename_i e; subst e
      exact ⟨hH.off _ _ _ _ hl h',.inr ⟨_,o0,c',by rw [ulook_one,if_pos rfl]; simp,hl,h'⟩⟩
    · cases h
  inj i i' o o' b c c' h h' _ _:=by
    rw [ulook_one] at h h'
    split at h
    · rename_i e
      split at h'
      · rename_i e'; exact e.trans e'.symm
      · cases h'
    · cases h
theorem run_copy_zero {P:Program} (w:World) (t t' ty e:TypeId) (A B:Option Addr) (c d:Nat) (hu:P.underlying t=some (.slice e)) (hs:(P.info? e).map (·.size)=some 1) :
    (Builtin.copy_ #[t,t'] ty #[.slice A 0 c,.slice B 0 d]).run P w=.ok (goInt 0) w:=by
  cases hq:P.info? e with
  | none=>simp [hq] at hs
  | some i =>
    cases A <;> cases B <;> simp [Builtin.copy_,run_underlying hu,Builtin.lenOf,Builtin.firstCells,sizeOf,typeInfo,hq,storeCells,loadCells,loadCellsFrom]
theorem exec_copy {P:Program} {σ:Nm} {Z:Nat→Prop} {w:World} {N:Nat} {κ:List (Nat × Bool)} {R:List Ent} {a:Act} {H:Heap} {p:List (Nat × Bool)} {o:Oper} (hR:RS σ Z w N κ R a) (hH:HR σ Z w H) (hp:pv κ p=true)
    {t t' e:TypeId} {x y:Operand} (ho:o.op=.call { callee:=.builtin .copy,args:=#[x,y],argTypes:=#[t,t'] }) (hu:P.underlying t=some (.slice e)) (hs:(P.info? e).map (·.size)=some 1)
    {i j n m e1 e2:Nat} {pu1 pu2:Bool} {r1 r2:List (List PV)} (hx:opd R p x=some (.own i 1 n)) (hy:opd R p y=some (.own j 1 m)) (hi:hlook H i=some (.row e1 1 pu1 r1)) (hj:hlook H j=some (.row e2 1 pu2 r2))
    (hn:n=r1.length) (hm:m=r2.length) (hlen:r1.length=r2.length):Exec P o a w σ Z H (some (.sc (.int .i64 (r2.length:Int)))) [(i,some (.row e1 1 pu2 r2))]:=by
  have hv:=hR.opd hp hx
  have hw:=hR.opd hp hy
  generalize hav:a.eval x=vx at hv
  generalize haw:a.eval y=vy at hw
  obtain ⟨k1,k2,k3⟩:=hH.at_ _ _ hi
  obtain ⟨l1,l2,l3⟩:=hH.at_ _ _ hj
  rcases Nat.eq_zero_or_pos r2.length with hz | hpos
  · have e2:r2=[]:=List.length_eq_zero_iff.1 hz
    subst e2
    have hn0:n=0:=by rw [hn,hlen]; rfl
    have hm0:m=0:=by rw [hm]; rfl
    subst hn0 hm0
    have hr:∀ A B c d,vx=.slice A 0 c→vy=.slice B 0 d→Exec P o a w σ Z H (some (.sc (.int .i64 (([]:List (List PV)).length:Int)))) [(i,some (.row e1 1 pu2 []))]:=fun A B c d q1 q2=>by
      refine exec_value (σ':=σ) (Z':=Z) (v:=.int .i64 0) ?_ (.sc _ rfl) (eff_keep hH hi ⟨(fun r hr=>(by cases hr)),⟨Nat.zero_le _,fun q=>absurd rfl q⟩,fun b' c' hb'=>?_⟩)
      · simp [execOp,ho,resolve,invoke,builtin,hav,haw,q1,q2,Sem.run_bind,run_copy_zero w t t' o.type e A B c d hu hs,goInt]
      · obtain ⟨C,g1,g2,g3,g4,g5⟩:=k3 b' c' hb'
        refine ⟨C,g1,g2,Nat.zero_le _,g4,?_⟩
        have:(C.take (([]:List (List PV)).length*1))=[]:=by simp
        rw [this]; exact CRs.nil
    cases hv with
    | own0=>cases hw with
      | own0=>exact hr _ _ _ _ rfl rfl
      | own _ _ _ b2 c2 hb2=>exact hr _ _ _ _ rfl rfl
    | own _ _ _ b c hb=>cases hw with
      | own0=>exact hr _ _ _ _ rfl rfl
      | own _ _ _ b2 c2 hb2=>exact hr _ _ _ _ rfl rfl
  cases hv with
  | own0=>omega
  | own _ _ _ b c hb =>
    cases hw with
    | own0=>omega
    | own _ _ _ b2 c2 hb2 =>
      subst hn hm
      obtain ⟨C,g1,g2,g3,g4,g5⟩:=k3 b c hb
      obtain ⟨C2,q1,q2,q3,q4,q5⟩:=l3 b2 c2 hb2
      rw [Nat.mul_one] at g2 q2
      have hcl:(C2.take r2.length).length=r2.length:=by rw [List.length_take]; omega
      have hf2:=flat_one l1
      have hone:∀ v∈C2.take r2.length,v.oneCell'=true:=by
        have hq:=q5.1; rw [Nat.mul_one] at hq
        intro v hv
        obtain ⟨k,hk⟩:=List.getElem?_of_mem hv
        obtain ⟨z,hz⟩:∃ z,r2.flatten[k]?=some z:=⟨_,List.getElem?_eq_getElem (by rw [hf2]; have:=(List.getElem?_eq_some_iff.1 hk).1; omega)⟩
        refine (hq.2 k v z hk hz).oneCell ?_
        obtain ⟨row,hr1,hr2⟩:=List.mem_flatten.1 (List.mem_of_getElem? hz)
        have ho1:=(l1 row hr1).2
        obtain ⟨k',hk'⟩:=List.getElem?_of_mem hr2
        exact ones_get ho1 hk'
      have hrun:=run_copy_row (P:=P) w t t' o.type e b 0 r1.length c ⟨b2,0,none⟩ r2.length c2 C.toArray e1 (C2.take r2.length) hu hs g1 (by rw [hcl,hlen]; simp) (fun k v hk=>by
        rw [List.getElem?_take] at hk
        split at hk
        · rw [add_off,Nat.zero_add]; simpa [World.cell?,q1] using hk
        · cases hk) (by rw [hcl]; simp; omega) hone
      obtain ⟨c1,c2'⟩:=chg_setRow (C':=((C.toArray.toList.take 0++C2.take r2.length++C.toArray.toList.drop (0+(C2.take r2.length).length)).toArray)) g1
      refine exec_value (σ':=σ) (Z':=Z) (v:=.int .i64 (r2.length:Int)) ?_ (.sc _ rfl) (eff_upd hH hi hb c1 ⟨l1,⟨l2.1,fun _=>by rw [hb]; simp⟩,fun b' c' hb'=>?_⟩)
      · simp [execOp,ho,resolve,invoke,builtin,hav,haw,Sem.run_bind,hrun,goInt,hcl]
      · rw [hb] at hb'; simp only [Option.some.injEq,Prod.mk.injEq] at hb'; obtain ⟨rfl,rfl⟩:=hb'
        refine ⟨_,c2',by rw [Nat.mul_one]; simp; omega,by omega,g4,?_⟩
        have base:=q5.mono (M:=fun x=>x=b) (Ext.refl σ) (fun _ h=>h) c1 (fun z hz e=>hH.off _ _ _ _ hi hb (e ▸ hz))
        rw [Nat.mul_one] at base ⊢
        have:(List.take 0 C.toArray.toList++List.take r2.length C2++List.drop (0+(List.take r2.length C2).length) C.toArray.toList).take r2.length=C2.take r2.length:=by
          rw [List.take_zero,List.nil_append,List.take_append_of_le_length (by rw [hcl]; exact Nat.le_refl _),List.take_take,Nat.min_self]
        rw [this]; exact base
/-! maps as they lie,and the ranges over them -/
def MapUpd (P:Program) (t:TypeId) (es0:Array MapEntry) (cl0:Nat) (k v:Value) (es:Array MapEntry) (cl:Nat):Prop :=
  ∀ (w:World) (b:Nat),w.heap[b]?=some (.map es0 cl0)→∃ w',(Instr.mapUpdate t (.map (some b)) k v).run P w=.ok () w'∧w'.heap[b]?=some (.map es cl)∧Chg (fun x=>x=b) w w'
def EntryIs (es:Array MapEntry) (seen:Array Nat) (c0 cl:Nat) (kx vx:PV):Prop :=
  ∃ e stamp,seen.back?=some stamp∧es.find? (fun x=>x.born==stamp)=some e∧cl=c0∧ofV1 e.key=some kx∧ofV1 e.val=some vx
section
variable {P:Program} {σ:Nm} {Z:Nat→Prop} {w:World} {N:Nat} {κ:List (Nat × Bool)} {R:List Ent} {a:Act} {H:Heap} {p:List (Nat × Bool)} {o:Oper}
theorem opd_val (hR:RS σ Z w N κ R a) (hp:pv κ p=true) {x:Operand} {v:Value} (hx:(opd R p x).bind toV=some v):a.eval x=v:=by
  cases hq:opd R p x with
  | none=>rw [hq] at hx; cases hx
  | some px=>rw [hq] at hx; exact toV_spec (hR.opd hp hq) hx
theorem exec_mu (hR:RS σ Z w N κ R a) (hH:HR σ Z w H) (hp:pv κ p=true) {t:TypeId} {m x y:Operand} (ho:o.op=.mapUpdate t m x y) {id:Nat} {k v:Value} {es0 es:Array MapEntry} {cl0 cl:Nat}
    (hm:opd R p m=some (.map id)) (hx:(opd R p x).bind toV=some k) (hy:(opd R p y).bind toV=some v) (hl:hlook H id=some (.rmap es0 cl0)) (hq:MapUpd P t es0 cl0 k v es cl):Exec P o a w σ Z H none [(id,some (.rmap es cl))]:=by
  have hv:=hR.opd hp hm
  have haw:=opd_val hR hp hx
  have haz:=opd_val hR hp hy
  generalize hav:a.eval m=vm at hv
  obtain ⟨b',c',g1,g2⟩:=hH.at_ id _ hl
  cases hv with
  | map _ b c hs =>
    rw [hs] at g1; simp only [Option.some.injEq,Prod.mk.injEq] at g1; obtain ⟨rfl,rfl⟩:=g1
    obtain ⟨w',r1,r2,r4⟩:=hq w b g2
    refine exec_skip (w':=w') (σ':=σ) (Z':=Z) ?_ (eff_upd hH hl hs r4 ⟨b,c,hs,r2⟩)
    simp [execOp,ho,hav,haw,haz,Sem.run_bind,r1]
def LookIs (P:Program) (t:TypeId) (es:Array MapEntry) (cl:Nat) (k:Value) (ok:Bool) (u:Value):Prop :=
  ∀ (w:World) (b:Nat),w.heap[b]?=some (.map es cl)→(Instr.lookup t (.map (some b)) k ok).run P w=.ok u w
theorem exec_lu (hR:RS σ Z w N κ R a) (hH:HR σ Z w H) (hp:pv κ p=true) {t:TypeId} {m x:Operand} {ok:Bool} (ho:o.op=.lookup t m x ok) {id:Nat} {k u:Value} {es:Array MapEntry} {cl:Nat}
    (hm:opd R p m=some (.map id)) (hx:(opd R p x).bind toV=some k) (hl:hlook H id=some (.rmap es cl)) (hs:scOk u=true) (hq:LookIs P t es cl k ok u):Exec P o a w σ Z H (some (.sc u)) []:=by
  have hv:=hR.opd hp hm
  have haw:=opd_val hR hp hx
  generalize hav:a.eval m=vm at hv
  obtain ⟨b',c',g1,g2⟩:=hH.at_ id _ hl
  cases hv with
  | map _ b c hs' =>
    rw [hs'] at g1; simp only [Option.some.injEq,Prod.mk.injEq] at g1; obtain ⟨rfl,rfl⟩:=g1
    refine exec_quiet (v:=u) ?_ (.sc u hs)
    simp [execOp,ho,hav,haw,Sem.run_bind,hq w b g2]
def BinIs (P:Program) (op:BinOp) (t:TypeId) (x y:Operand) (vx vy u:Value):Prop :=
  ∀ w:World,(do eqGuard op t x y vx vy; binOp op t vx vy:Sem Value).run P w=.ok u w
theorem exec_bs (hR:RS σ Z w N κ R a) (hp:pv κ p=true) {op:BinOp} {t ty:TypeId} {x y:Operand} (ho:o.op=.binOp op t x y ty) {vx vy u:Value} (hx:(opd R p x).bind toV=some vx) (hy:(opd R p y).bind toV=some vy) (hs:scOk u=true)
    (hq:BinIs P op t x y vx vy u):Exec P o a w σ Z H (some (.sc u)) []:=by
  have haw:=opd_val hR hp hx
  have haz:=opd_val hR hp hy
  refine exec_quiet (v:=u) ?_ (.sc u hs)
  have h1:=hq w
  unfold execOp
  rw [ho]
  simp only [haw,haz]
  rw [Sem.run_bind,h1]
  rfl
theorem exec_mm (hH:HR σ Z w H) {nx:Nat} (hn:σ nx=none) (hnh:hlook H nx=none) {t:TypeId} (ho:o.op=.makeMap t none):Exec P o a w σ Z H (some (.map nx)) [(nx,some (.rmap #[] 0))]:=by
  have hr:(execOp a.eval o).run P w=.ok (.value (.map (some w.heap.size))) (w.alloc (.map #[] 0)):=by
    have h1:(newObj (.map #[] 0)).run P w=.ok w.heap.size (w.alloc (.map #[] 0)):=by simp [newObj,Sem.run]
    simp [execOp,ho,Instr.makeMap,Sem.run_bind,h1]
  refine exec_value (σ':=upd σ nx w.heap.size 0) (Z':=Z) hr (.map nx _ 0 (upd_self _ _ _ _)) (eff_new (c:=0) hH hn hnh ⟨w.heap.size,0,upd_self _ _ _ _,?_⟩)
  show (w.heap.push _)[w.heap.size]?=_
  simp
theorem exec_rg (hR:RS σ Z w N κ R a) (hH:HR σ Z w H) (hp:pv κ p=true) {nx:Nat} (hn:σ nx=none) (hnh:hlook H nx=none) {t k e:TypeId} {x:Operand} (ho:o.op=.range t x) (ht:P.underlying t=some (.map k e)) {id:Nat} {es:Array MapEntry} {cl:Nat}
    (hx:opd R p x=some (.map id)) (hl:hlook H id=some (.rmap es cl)):Exec P o a w σ Z H (some (.ptr nx 0)) [(nx,some (.rit id cl #[] cl))]:=by
  have hv:=hR.opd hp hx
  generalize hav:a.eval x=vm at hv
  obtain ⟨b',c',g1,g2⟩:=hH.at_ id _ hl
  cases hv with
  | map _ b c hs =>
    rw [hs] at g1; simp only [Option.some.injEq,Prod.mk.injEq] at g1; obtain ⟨rfl,rfl⟩:=g1
    have hne:id≠nx:=by rintro rfl; rw [hn] at hs; cases hs
    have hr:(execOp a.eval o).run P w=.ok (.value (.pointer (some ⟨w.heap.size,0,none⟩))) (w.alloc (.mapIter (some b) cl #[] cl)):=by
      simp [execOp,ho,hav,Sem.run_bind,run_range_map w t k e b es cl ht g2]
    refine exec_value (σ':=upd σ nx w.heap.size 0) (Z':=Z) hr (.ptr nx 0 _ 0 (upd_self _ _ _ _)) (eff_new (c:=0) hH hn hnh ⟨w.heap.size,0,b,c,upd_self _ _ _ _,upd_ext hn _ _ hs,?_⟩)
    show (w.heap.push _)[w.heap.size]?=_
    simp
theorem exec_en (hR:RS σ Z w N κ R a) (hH:HR σ Z w H) (hp:pv κ p=true) {x:Operand} (ho:o.op=.entry x) {i m since c0 cl:Nat} {seen:Array Nat} {es:Array MapEntry} {kx vx:PV}
    (hx:opd R p x=some (.ptr i 0)) (hi:hlook H i=some (.rit m since seen c0)) (hl:hlook H m=some (.rmap es cl)) (hq:EntryIs es seen c0 cl kx vx):Exec P o a w σ Z H (some (.tup [kx,vx])) []:=by
  have hv:=hR.opd hp hx
  generalize hav:a.eval x=vm at hv
  obtain ⟨b',c',bm,cm,g1,g2,g3⟩:=hH.at_ i _ hi
  obtain ⟨b2,c2,k1,k2⟩:=hH.at_ m _ hl
  rw [g2] at k1; simp only [Option.some.injEq,Prod.mk.injEq] at k1; obtain ⟨rfl,rfl⟩:=k1
  obtain ⟨e,st,q1,q2,rfl,q4,q5⟩:=hq
  cases hv with
  | ptr _ _ b c hs =>
    rw [hs] at g1; simp only [Option.some.injEq,Prod.mk.injEq] at g1; obtain ⟨rfl,rfl⟩:=g1
    have hr:(Instr.entry (.pointer (some ⟨b,0,none⟩))).run P w=.ok (.tuple #[e.key,e.val]) w:=by
      simp only [Instr.entry,getObj,Sem.run_bind,Sem.run,g3,k2,Result.andThen,q1,bne_self_eq_false,Bool.false_eq_true,if_false,q2]
      rfl
    refine exec_quiet (v:=.tuple #[e.key,e.val]) (by simp [execOp,ho,hav,Sem.run_bind,hr]) ?_
    exact .tup [e.key,e.val] [kx,vx] rfl (VRs.cons (ofV1_spec q4) (VRs.cons (ofV1_spec q5) VRs.nil)).2
end
end Go.PX

/- Proved: one operation on plain data,as a function that the kernel computes. Program-independent. -/
namespace Go.PX
open Go.RowKit Go.SX

/-- what a call answers and changes: H is what it is handed of the table; its names are those from nx up to nx' -/
def Con (P:Program) (f:FuncId) (args:List PV) (H:Heap) (nx nx':Nat) (r:PV) (U:Upd):Prop :=
  ∀ (w:World) (σ:Nm) (Z:Nat→Prop) (vs:List Value),HR σ Z w H→VRs σ Z w vs args→(∀ id,nx≤id→id<nx'→σ id=none) →
    Calls P f vs.toArray w (fun e w'=>∃ v σ' Z',e=.returned v∧VR σ' Z' w' v r∧Eff σ Z w H U σ' Z' w')

inductive Dir where
  | au
  | pk
  | ix (k:Nat) (row:List PV)
  | lr (row:List PV)
  | nm (x:PV)
  | mk (k:Nat)
  | cl (ids:List Nat) (r:PV) (U:Upd) (nx:Nat)
  | cv (vs:List Nat) (r:PV) (nx:Nat)
  | sl (l h:Nat) (rs:List (List PV))
  | cr (vs:List Nat) (u:Value)
  | dd
  | mm
  | mu (es:Array MapEntry) (cl:Nat)
  | rg
  | en (kx vx:PV)
  | bs (u:Value)
  | rt (row:List PV) (gs:List (Nat × Nat))

structure Out where
  res:Option PV
  U:Upd:=[]
  nx:Nat
  obs:List Ob:=[]
  eqs:List (Bool × Bool):=[]

def okPick (R:List Ent) (p:List (Nat × Bool)) (want:Bool):Operand→Option (Option Nat × PV)
  | .tmp t=>match look R t with
    | none=>none
    | some e=>bif sub e.p p then some (none,e.v) else match e.p with
      | (j,w)::q=>bif (w==want)&&sub q p then some (some j,e.v) else none
      | []=>none
  | .const v=>(ofV v).map (none,·)
  | .func f=>some (none,.fn f [] [])
  | .global _=>none
def pickP (cb:Bool) (a b:Operand) (xa xb:PV):PV :=
  match b,xa with
  | .const (.bool false),.sc (.bool x)=>.sc (.bool (cb&&x))
  | _,_=>match a,xb with
    | .const (.bool true),.sc (.bool y)=>.sc (.bool (cb||y))
    | _,_=>bif cb then xa else xb

def restr (H:Heap):List Nat→Heap
  | []=>[]
  | id::l=>match hlook H id with
    | some o=>(id,o)::restr H l
    | none=>restr H l

def one (x:PV) (nx:Nat):Option Out:=some { res:=some x,nx:=nx }

/-- cells of which ghosts tell how they read -/
def retyp (H:Heap):List (Nat × Nat)→List PV→Option (List PV × List Ob)
  | [],xs=>some (xs,[])
  | (j,g)::gs,xs=>match xs[j]?,hlook H g with
    | some (.sc u),some (.ty v x)=>match retyp H gs (xs.set j x) with
      | some (ys,ob)=>some (ys,.q (u=v)::ob)
      | none=>none
    | _,_=>none
def retypV (H:Heap) (gs:List (Nat × Nat)):PV→Option (PV × List Ob)
  | .agg xs=>(retyp H gs xs).map fun q=>(.agg q.1,q.2)
  | x=>match retyp H gs [x] with
    | some ([y],ob)=>some (y,ob)
    | _=>none

def stepLoad (P:Program) (R:List Ent) (H:Heap) (nx:Nat) (p:List (Nat × Bool)) (t:TypeId) (x:Operand):Option Out :=
  match opd R p x with
  | some px=>match behind H px with
    | some xs=>match pack P t xs with
      | some r=>one r nx
      | none=>none
    | none=>none
  | none=>none
def stepStore (P:Program) (R:List Ent) (H:Heap) (nx:Nat) (p:List (Nat × Bool)) (t:TypeId) (x y:Operand):Option Out :=
  match opd R p x,opd R p y,evl P (sizeOf t) with
  | some (.ptr id off),some py,some n=>match hlook H id with
    | some (.box e xs)=>bif !isTup py&&Nat.beq (pcells py).length n&&Nat.ble (off+n) xs.length then some { res:=none,U:=[(id,some (.box e (over xs off (pcells py))))],nx } else none
    | _=>none
  | some (.rptr id sz k i),some py,some n=>match hlook H id with
    | some (.row e sz' pu rows)=>match rows[k]? with
      | some r=>bif Nat.beq sz sz'&&!isTup py&&Nat.beq (pcells py).length n&&Nat.ble (i+n) sz then some { res:=none,U:=[(id,some (.row e sz (pu&&pures (pcells py)) (rows.set k (over r i (pcells py)))))],nx } else none
      | none=>none
    | _=>none
  | _,_,_=>none
def stepApp (P:Program) (R:List Ent) (H:Heap) (nx:Nat) (p:List (Nat × Bool)) (t:TypeId) (x y:Operand):Option Out :=
  match P.underlying t with
  | some (.slice e)=>match P.info? e with
    | some i=>match i.zero,opd R p x,opd R p y with
      | some z,some px,some py=>match baseRows H e i.size px,srcRows H i.size py with
        | some q,some (pu,rows,ok)=>bif Nat.beq z.cells.size i.size&&Nat.blt 0 i.size&&Nat.ble i.bytes 100000 then
            some { res:=some (.own nx i.size (q.2.2.1.length+rows.length)),U:=appU nx q.1 (.row e i.size (q.2.1&&pu) (q.2.2.1++rows)),nx:=nx+1,obs:=[.b q.2.2.2,.b ok,.b (Nat.ble (q.2.2.1.length+rows.length) 1000000000)] } else none
        | _,_=>none
      | _,_,_=>none
    | none=>none
  | _=>none
def stepMake (P:Program) (R:List Ent) (nx:Nat) (p:List (Nat × Bool)) (t:TypeId) (x y:Operand) (k:Nat):Option Out :=
  match evl P (underlying t),opd R p x,opd R p y with
  | some (.slice e),some (.sc (.int _ n)),some (.sc (.int _ m))=>match evl P (typeInfo e),evl P (sizeOf e),zeroCells P e with
    | some i,some size,some zs=>bif Nat.beq zs.length size&&Nat.blt 0 size&&Nat.ble i.bytes 100000&&pures zs then
        some { res:=some (.own nx size k),U:=[(nx,some (.row e size true (List.replicate k zs)))],nx:=nx+1,obs:=[.q (n=(k:Int)),.q (m=(k:Int)),.b (Nat.ble k 1000000000)] } else none
    | _,_,_=>none
  | _,_,_=>none

def stepCopy (P:Program) (R:List Ent) (H:Heap) (nx:Nat) (p:List (Nat × Bool)) (t:TypeId) (x y:Operand):Option Out :=
  match P.underlying t with
  | some (.slice e)=>match (P.info? e).map (·.size),opd R p x,opd R p y with
    | some s,some (.own i s1 n),some (.own j s2 m)=>match hlook H i,hlook H j with
      | some (.row e1 t1 _ r1),some (.row _ t2 pu2 r2)=>bif Nat.beq s 1&&Nat.beq s1 1&&Nat.beq s2 1&&Nat.beq t1 1&&Nat.beq t2 1 then
          some { res:=some (.sc (.int .i64 (r2.length:Int))),U:=[(i,some (.row e1 1 pu2 r2))],nx,obs:=[.b (lenIs n r1),.b (lenIs m r2),.q (r1.length=r2.length)] } else none
      | _,_=>none
    | _,_,_=>none
  | _=>none
/-- an operation,computed without help; none: it wants another hint,or has no law here -/
def stepAu (P:Program) (R:List Ent) (H:Heap) (nx:Nat) (p:List (Nat × Bool)) (o:Oper):Option Out :=
  match o.op with
  | .move x=>(opd R p x).bind (one · nx)
  | .assign x=>(opd R p x).bind (one · nx)
  | .pick c x y=>match opd R p c with
    | some (.sc (.bool true))=>(opd R p x).bind (one · nx)
    | some (.sc (.bool false))=>(opd R p y).bind (one · nx)
    | _=>none
  | .load t x=>stepLoad P R H nx p t x
  | .alloc t=>match evl P (zeroValue t) with
    | some z=>match ofV z with
      | some px=>bif isTup px then none else some { res:=some (.ptr nx 0),U:=[(nx,some (.box t (pcells px)))],nx:=nx+1 }
      | none=>none
    | none=>none
  | .box t x=>match opd R p x with
    | some px=>bif isTup px then none else some { res:=some (.ptr nx 0),U:=[(nx,some (.box t (pcells px)))],nx:=nx+1 }
    | none=>none
  | .store t x y=>stepStore P R H nx p t x y
  | .fieldAddr s x f=>match opd R p x,fieldOff P s f with
    | some px,some n=>(addPtr n px).bind (one · nx)
    | _,_=>none
  | .field s x f=>match opd R p x with
    | some px=>(fieldP P s px f).bind (one · nx)
    | none=>none
  | .extract x i=>match opd R p x with
    | some (.tup xs)=>(xs[i]?).bind (one · nx)
    | _=>none
  | .build t parts=>match partsP R p parts.toList with
    | some xs=>(buildP P t xs).bind (one · nx)
    | none=>none
  | .buildSlice t len parts=>match partsP R p parts.toList with
    | some xs=>match buildSliceP P t len xs with
      | some (e,size,cs)=>some { res:=some (.own nx size len),U:=[(nx,some (.row e size (pures cs) (chunk size len cs)))],nx:=nx+1 }
      | none=>none
    | none=>none
  | .nilCheck x=>match opd R p x with
    | some px=>bif isPtr px then one px nx else scal P R p o |>.bind (one · nx)
    | none=>none
  | .indexAddr t x i=>match opd R p x,opd R p i with
    | some px,some (.sc (.int _ (.ofNat k)))=>(ixAu P t px k).bind (one · nx)
    | _,_=>none
  | .index t x i=>match opd R p x,opd R p i with
    | some (.agg xs),some (.sc (.int _ (.ofNat k)))=>(indexP P t (.agg xs) k).bind (one · nx)
    | _,_=>(scal P R p o).bind (one · nx)
  | .makeFunc (.func f) l1 l2=>match opds R p l1.toList,opds R p l2.toList with
    | some y1,some y2=>one (.fn f y1 y2) nx
    | _,_=>none
  | .makeMap t none=>match mapTy P t with
    | some _=>some { res:=some (.map nx),U:=[(nx,some (.mp []))],nx:=nx+1 }
    | none=>none
  | .lookup t m x ok=>match mapTy P t,opd R p m,opd R p x with
    | some z,some (.map id),some (.sc (.int .i64 n))=>match hlook H id with
      | some (.mp D)=>one (bif ok then .tup [.sc ((findV D n).getD z),.sc (.bool (findV D n).isSome)] else .sc ((findV D n).getD z)) nx
      | _=>none
    | _,_,_=>none
  | .mapUpdate t m x y=>match mapTy P t,opd R p m,opd R p x,opd R p y with
    | some _,some (.map id),some (.sc (.int .i64 n)),some (.sc v)=>match hlook H id with
      | some (.mp D)=>some { res:=none,U:=[(id,some (.mp (updV D n v)))],nx }
      | _=>none
    | _,_,_,_=>none
  | .call { callee:=.builtin .len,args:=⟨[x]⟩,argTypes:=ty }=>match ty[0]?,opd R p x with
    | some t,some px=>match evl P (underlying t),plen px with
      | some (.slice _),some n=>one (.sc (.int .i64 (n:Int))) nx
      | _,_=>(scal P R p o).bind (one · nx)
    | _,_=>none
  | .call { callee:=.builtin .append,args:=⟨[x,y]⟩,argTypes:=⟨[t,t']⟩ }=>bif Nat.beq t t' then stepApp P R H nx p t x y else none
  | .call { callee:=.builtin .copy,args:=⟨[x,y]⟩,argTypes:=⟨[t,_]⟩ }=>stepCopy P R H nx p t x y
  | _=>(scal P R p o).bind (one · nx)

def callB (P:Program) (g:FuncId):Bool :=
  match P.funcs[g]? with
  | some fn=>!(fn.name=="runtime.NumGoroutine")&&fn.body.isSome
  | none=>false
def stepDir (P:Program) (κ:List (Nat × Bool)) (R:List Ent) (H:Heap) (nx:Nat) (p:List (Nat × Bool)) (o:Oper):Dir→Option Out
  | .au=>stepAu P R H nx p o
  | .dd=>bif pv κ p then none else some { res:=some (.sc (.bool false)),nx }
  | .pk=>match o.op with
    | .pick c x y=>match opd R p c,okPick R p true x,okPick R p false y with
      | some (.sc (.bool cb)),some (ra,xa),some (rb,xb)=>some { res:=some (pickP cb x y xa xb),nx,eqs:=ra.toList.map (fun j=>(cb,kv κ j))++rb.toList.map (fun j=>(cb,kv κ j)) }
      | _,_,_=>none
    | _=>none
  | .ix k row=>match o.op with
    | .indexAddr t x i=>match opd R p x,opd R p i with
      | some px,some (.sc (.int _ n))=>match elemPtr P t px k row with
        | some (r,ob)=>some { res:=some r,nx,obs:=.q (n=(k:Int))::ob.map .q }
        | none=>none
      | _,_=>none
    | .index t x i=>match opd R p x,opd R p i with
      | some px,some (.sc (.int _ n))=>match indexP P t px k with
        | some r=>some { res:=some r,nx,obs:=[.q (n=(k:Int))] }
        | none=>none
      | _,_=>none
    | _=>none
  | .lr row=>match o.op with
    | .load t x=>match opd R p x with
      | some (.rptr id sz k i)=>match hlook H id with
        | some (.row _ sz' _ rows)=>bif Nat.beq sz sz' then (pack P t (row.drop i)).bind fun r=>some { res:=some r,nx,obs:=[.q (rows[k]?=some row)] } else none
        | _=>none
      | some (.ptr id off)=>match hlook H id with
        | some (.box _ xs)=>(pack P t row).bind fun r=>some { res:=some r,nx,obs:=[.q ((xs.drop off).take row.length=row)] }
        | _=>none
      | _=>none
    | .store t x y=>match opd R p x,opd R p y,evl P (sizeOf t) with
      | some (.rptr id sz k i),some py,some n=>match hlook H id with
        | some (.row e sz' pu rows)=>bif Nat.beq sz sz'&&!isTup py&&Nat.beq (pcells py).length n&&Nat.ble (i+n) sz then some { res:=none,U:=[(id,some (.row e sz (pu&&pures (pcells py)) (rows.set k (over row i (pcells py)))))],nx,obs:=[.q (rows[k]?=some row)] } else none
        | _=>none
      | some (.ptr id off),some py,some n=>match hlook H id with
        | some (.box e xs)=>bif !isTup py&&Nat.beq (pcells py).length n then some { res:=none,U:=[(id,some (.box e (over xs off (pcells py))))],nx,obs:=[.q (off+n≤xs.length)] } else none
        | _=>none
      | _,_,_=>none
    | _=>none
  | .rt row gs=>match o.op with
    | .load t x=>match opd R p x with
      | some (.rptr id sz k i)=>match hlook H id with
        | some (.row _ sz' _ rows)=>bif Nat.beq sz sz' then match pack P t (row.drop i) with
            | some r=>match retypV H gs r with
              | some (r',ob)=>some { res:=some r',nx,obs:=.q (rows[k]?=some row)::ob }
              | none=>none
            | none=>none
          else none
        | _=>none
      | some px=>match behind H px with
        | some xs=>match pack P t xs with
          | some r=>match retypV H gs r with
            | some (r',ob)=>some { res:=some r',nx,obs:=ob }
            | none=>none
          | none=>none
        | none=>none
      | none=>none
    | _=>none
  | .nm x=>match stepAu P R H nx p o with
    | some out=>match out.res,out.U with
      | some y,[]=>some { res:=some x,nx:=out.nx,obs:=.q (y=x)::out.obs }
      | _,_=>none
    | none=>none
  | .mk k=>match o.op with
    | .makeSlice t x y=>stepMake P R nx p t x y k
    | _=>none
  | .cl ids r U nx'=>match o.op with
    | .call { callee:=.value f,args,.. }=>match opd R p f,opds R p args.toList with
      | some (.fn g first caps),some ys=>bif U.all (fun x=>ids.any (Nat.beq x.1)&&(hlook H x.1).isSome||Nat.ble nx x.1&&Nat.blt x.1 nx')&&Nat.ble nx nx'&&callB P g then some { res:=some r,U:=U,nx:=nx',obs:=[.q (Con P g (first++ys++caps) (restr H ids) nx nx' r U)] } else none
      | _,_=>none
    | _=>none
  | .cv vs r nx'=>match o.op with
    | .call { callee:=.value f,args,.. }=>match opd R p f,opds R p args.toList with
      | some (.fn g first caps),some ys=>match vw vs H (first++ys++caps) with
        | some (ys',ob)=>bif Nat.ble nx nx'&&callB P g then some { res:=some r,U:=vs.map (·,none),nx:=nx',obs:=.q (Con P g ys' [] nx nx' r [])::ob } else none
        | none=>none
      | _,_=>none
    | _=>none
  | .cr vs u=>match o.op with
    | .call { callee:=.value f,args,.. }=>match opd R p f,opds R p args.toList with
      | some (.fn g first caps),some ys=>match vw vs H (first++ys++caps) with
        | some (ys',ob)=>bif callB P g then some { res:=some (.sc u),nx,obs:=.q (Con P g ys' [] nx nx (.sc u) [])::ob } else none
        | none=>none
      | _,_=>none
    | _=>none
  | .sl l h rs=>match o.op with
    | .slice t x lo hi none=>match evl P (underlying t),opd R p x with
      | some (.slice e),some (.imm sz rows)=>match evl P (sizeOf e),bnd R p l 0 lo,bnd R p h rows.length hi with
        | some sz',some o1,some o2=>bif Nat.beq sz' sz then some { res:=some (.imm sz rs),nx,obs:=.q (l≤h)::.q (h≤rows.length)::.q ((rows.take h).drop l=rs)::(o1.map .q++o2.map .q) } else none
        | _,_,_=>none
      | some (.slice e),some (.own id sz _)=>match hi with
        | some y=>match evl P (sizeOf e),bnd R p 0 0 lo,bnd R p 0 1 (some y),hlook H id with
          | some sz',some o1,some o2,some (.row ..)=>bif Nat.beq sz' sz then some { res:=some (.imm sz []),nx,obs:=(o1.map .q++o2.map .q) } else none
          | _,_,_,_=>none
        | none=>none
      | _,_=>none
    | _=>none
  | .mm=>match o.op with
    | .makeMap _ none=>some { res:=some (.map nx),U:=[(nx,some (.rmap #[] 0))],nx:=nx+1 }
    | _=>none
  | .mu es' cl'=>match o.op with
    | .mapUpdate t m x y=>match opd R p m,(opd R p x).bind toV,(opd R p y).bind toV with
      | some (.map id),some k,some v=>match hlook H id with
        | some (.rmap es cl)=>some { res:=none,U:=[(id,some (.rmap es' cl'))],nx,obs:=[.q (MapUpd P t es cl k v es' cl')] }
        | _=>none
      | _,_,_=>none
    | _=>none
  | .rg=>match o.op with
    | .range t x=>match P.underlying t,opd R p x with
      | some (.map _ _),some (.map id)=>match hlook H id with
        | some (.rmap _ cl)=>some { res:=some (.ptr nx 0),U:=[(nx,some (.rit id cl #[] cl))],nx:=nx+1 }
        | _=>none
      | _,_=>none
    | _=>none
  | .en kx vx=>match o.op with
    | .entry x=>match opd R p x with
      | some (.ptr i 0)=>match hlook H i with
        | some (.rit m _ seen c0)=>match hlook H m with
          | some (.rmap es cl)=>some { res:=some (.tup [kx,vx]),nx,obs:=[.q (EntryIs es seen c0 cl kx vx)] }
          | _=>none
        | _=>none
      | _=>none
    | _=>none
  | .bs u=>match o.op with
    | .binOp op t x y _=>match (opd R p x).bind toV,(opd R p y).bind toV with
      | some vx,some vy=>bif scOk u then some { res:=some (.sc u),nx,obs:=[.q (BinIs P op t x y vx vy u)] } else none
      | _,_=>none
    | .lookup t m x ok=>match opd R p m,(opd R p x).bind toV with
      | some (.map id),some k=>match hlook H id with
        | some (.rmap es cl)=>bif scOk u then some { res:=some (.sc u),nx,obs:=[.q (LookIs P t es cl k ok u)] } else none
        | _=>none
      | _,_=>none
    | _=>none
end Go.PX

/- Proved: what the kernel computes of an operation on plain data is what the operation does. Program-independent. -/
namespace Go.PX
open Go.RowKit Go.SX

section
variable {P:Program} {σ:Nm} {Z:Nat→Prop} {w:World} {N:Nat} {κ:List (Nat × Bool)} {R:List Ent} {a:Act} {H:Heap} {p:List (Nat × Bool)} {o:Oper}

theorem hlook_restr:∀ {ids:List Nat} {id:Nat} {po:PO},hlook (restr H ids) id=some po→hlook H id=some po∧id∈ids
  | [],id,po,h=>by simp [restr,hlook] at h
  | i::l,id,po,h=>by
    simp only [restr] at h
    split at h
    · rename_i o' ho
      simp only [hlook] at h
      cases hb:Nat.beq i id with
      | true =>
        rw [hb] at h
        simp only [cond_true,Option.some.injEq] at h; subst h
        obtain rfl:=Nat.eq_of_beq_eq_true hb
        exact ⟨ho,List.mem_cons_self⟩
      | false =>
        rw [hb] at h
        obtain ⟨h1,h2⟩:=hlook_restr h
        exact ⟨h1,List.mem_cons_of_mem _ h2⟩
    · obtain ⟨h1,h2⟩:=hlook_restr h
      exact ⟨h1,List.mem_cons_of_mem _ h2⟩
theorem hlook_restr_none:∀ {ids:List Nat} {id:Nat},hlook (restr H ids) id=none→id∈ids→hlook H id=none
  | i::l,id,h,hm=>by
    simp only [restr] at h
    split at h
    · rename_i o' ho
      simp only [hlook] at h
      cases hb:Nat.beq i id with
      | true=>rw [hb] at h; simp at h
      | false =>
        rw [hb] at h
        rcases List.mem_cons.1 hm with rfl | hm
        · simp at hb
        · exact hlook_restr_none h hm
    · rename_i ho
      rcases List.mem_cons.1 hm with rfl | hm
      · exact ho
      · exact hlook_restr_none h hm
theorem HR.restr (h:HR σ Z w H) (ids:List Nat):HR σ Z w (PX.restr H ids) :=
  ⟨fun id o ho=>h.at_ id o (hlook_restr ho).1,fun id id' o o' b c c' h1 h2=>h.inj id id' o o' b c c' (hlook_restr h1).1 (hlook_restr h2).1,fun id o b c h1=>h.off id o b c (hlook_restr h1).1,h.zlt⟩
theorem Eff.restr {ids:List Nat} {U:Upd} {σ':Nm} {Z':Nat→Prop} {w':World} (h:Eff σ Z w (PX.restr H ids) U σ' Z' w') (hk:∀ id,ulook U id≠none→hlook H id≠none→id∈ids):Eff σ Z w H U σ' Z' w' where
  ext:=h.ext
  dom id h1 h2:=by
    refine h.dom id h1 ?_
    by_cases hu:ulook U id=none
    · exact .inl hu
    · rcases h2 with h2 | h2
      · exact absurd h2 hu
      · exact .inr fun e=>h2 (hlook_restr_none e (hk id hu h2))
  zmono:=h.zmono
  znew b hb:=by
    rcases h.znew b hb with q | q | ⟨id,o,c,h1,h2,h3⟩
    · exact .inl q
    · exact .inr (.inl q)
    · exact .inr (.inr ⟨id,o,c,h1,(hlook_restr h2).1,h3⟩)
  chg:=h.chg.mono fun b _ ⟨id,o,c,h1,h2,h3⟩=>⟨id,o,c,h1,(hlook_restr h2).1,h3⟩
  objs:=h.objs
  off id o b c h1 h2:=by
    obtain ⟨q1,q2⟩:=h.off id o b c h1 h2
    refine ⟨q1,?_⟩
    rcases q2 with q2 | ⟨i,o',c',q3,q4,q5⟩
    · exact .inl q2
    · exact .inr ⟨i,o',c',q3,(hlook_restr q4).1,q5⟩
  inj:=h.inj

theorem run_callFunc {g:FuncId} (h:callB P g=true) (args:Array Value):(callFunc g args).run P w=.ok (.enter g args) w:=by
  unfold callB at h
  split at h
  · rename_i fn hf
    simp only [Bool.and_eq_true,Bool.not_eq_true'] at h
    unfold callFunc
    have hb:fn.body.isNone=false:=by cases hb:fn.body <;> simp [hb] at h ⊢
    have hp:(program:Sem Program).run P w=.ok P w:=rfl
    simp only [Sem.run_bind,hp,Result.andThen_ok,hf,h.1,hb]
    rfl
  · cases h
theorem exec_call (hR:RS σ Z w N κ R a) (hH:HR σ Z w H) (hp:pv κ p=true) {f:Operand} {args:Array Operand} {ty:Array TypeId} (ho:o.op=.call { callee:=.value f,args,argTypes:=ty }) {g:FuncId} {first caps ys:List PV} {ids:List Nat} {nx nx':Nat} {r:PV} {U:Upd} (hf:opd R p f=some (.fn g first caps)) (hy:opds R p args.toList=some ys) (hg:callB P g=true)
    (hu:∀ id,nx≤id→id<nx'→σ id=none) (hk:∀ id,ulook U id≠none→hlook H id≠none→id∈ids) (hc:Con P g (first++ys++caps) (restr H ids) nx nx' r U):Exec P o a w σ Z H (some r) U:=fun K Q hK=>by
  have hv:=hR.opd hp hf
  have hys:=hR.opds hp hy
  generalize hav:a.eval f=vf at hv
  cases hv with
  | fn _ l1 l2 x1 x2 hl1 hl2 h1 h2 =>
    have hargs:VRs σ Z w (l1++args.toList.map a.eval++l2) (first++ys++caps):=(VRs.append ⟨hl1,h1⟩ hys).append ⟨hl2,h2⟩
    have hrun:(execOp a.eval o).run P w=.ok (.enter g (l1++args.toList.map a.eval++l2).toArray) w:=by
      have:l1.toArray++args.map a.eval++l2.toArray=(l1++args.toList.map a.eval++l2).toArray:=by
        apply Array.ext'; simp
      rw [← this]
      simp [execOp,ho,resolve,hav,Deferred.ofValue,invoke,run_callFunc hg]
    unfold Oper.wp
    rw [hrun]
    simp only [Oper.upon]
    refine (hc w σ Z _ (hH.restr ids) hargs hu).mono fun e w' ⟨v,σ',Z',he,h3,h4⟩=>?_
    subst he
    exact hK v w' σ' Z' (fun x hx=>by injection hx with hx; subst hx; exact h3) (h4.restr hk)

theorem ulook_vs:∀ {vs:List Nat} {id:Nat},ulook (vs.map (·,(none:Option PO))) id=if id∈vs then some none else none
  | [],id=>by simp [ulook]
  | v::vs,id=>by
    simp only [List.map_cons,ulook]
    cases hb:Nat.beq v id with
    | true=>obtain rfl:=Nat.eq_of_beq_eq_true hb; simp
    | false =>
      have hne:id≠v:=by rintro rfl; simp at hb
      simp only [cond_false]
      rw [ulook_vs]
      simp [hne]
theorem exec_callV (hR:RS σ Z w N κ R a) (hH:HR σ Z w H) (hp:pv κ p=true) {f:Operand} {args:Array Operand} {ty:Array TypeId} (ho:o.op=.call { callee:=.value f,args,argTypes:=ty }) {g:FuncId} {first caps ys ys':List PV} {vs:List Nat} {ob:List Ob} {nx nx':Nat} {r:PV} (hf:opd R p f=some (.fn g first caps)) (hy:opds R p args.toList=some ys) (hg:callB P g=true)
    (hv:vw vs H (first++ys++caps)=some (ys',ob)) (hob:AllOb ob) (hu:∀ id,nx≤id→id<nx'→σ id=none) (hc:Con P g ys' [] nx nx' r []):Exec P o a w σ Z H (some r) (vs.map (·,none))∧∀ id∈vs,hlook H id≠none:=by
  have hv':=hR.opd hp hf
  have hys:=hR.opds hp hy
  generalize hav:a.eval f=vf at hv'
  cases hv' with
  | fn _ l1 l2 x1 x2 hl1 hl2 h1 h2 =>
    have hargs:VRs σ Z w (l1++args.toList.map a.eval++l2) (first++ys++caps):=(VRs.append ⟨hl1,h1⟩ hys).append ⟨hl2,h2⟩
    obtain ⟨r1,Z1,r2,r3,r4,r5⟩:=vw_sound hv hob hH hargs
    refine ⟨fun K Q hK=>?_,r1⟩
    have hrun:(execOp a.eval o).run P w=.ok (.enter g (l1++args.toList.map a.eval++l2).toArray) w:=by
      have:l1.toArray++args.map a.eval++l2.toArray=(l1++args.toList.map a.eval++l2).toArray:=by
        apply Array.ext'; simp
      rw [← this]
      simp [execOp,ho,resolve,hav,Deferred.ofValue,invoke,run_callFunc hg]
    unfold Oper.wp
    rw [hrun]
    simp only [Oper.upon]
    have hH0:HR σ Z1 w []:=⟨fun id o h=>by simp [hlook] at h,fun id id' o o' b c c' h=>by simp [hlook] at h,fun id o b c h=>by simp [hlook] at h,r5⟩
    refine (hc w σ Z1 _ hH0 r4 hu).mono fun e w' ⟨v,σ',Z',he,h3,h4⟩=>?_
    subst he
    refine hK v w' σ' Z' (fun x hx=>by injection hx with hx; subst hx; exact h3) ⟨h4.ext,fun id q _=>h4.dom id q (.inl rfl),fun b q=>h4.zmono b (r2 b q),fun b q=>?_,h4.chg.mono (fun b _ ⟨id,o',c,q,_⟩=>absurd rfl q),fun id o' q=>?_,fun id o' b c q=>?_,fun id id' o' o'' b c c' q=>?_⟩
    · rcases h4.znew b q with q | q | ⟨id,o',c,q,_⟩
      · rcases r3 b q with q | ⟨id,o',c,q1,q2,q3⟩
        · exact .inl q
        · exact .inr (.inr ⟨id,o',c,by rw [ulook_vs,if_pos q1]; simp,q2,q3⟩)
      · exact .inr (.inl q)
      · exact absurd rfl q
    · rw [ulook_vs] at q; split at q <;> simp at q
    · rw [ulook_vs] at q; split at q <;> simp at q
    · rw [ulook_vs] at q; split at q <;> simp at q
/-- a call that only reads,with a scalar answer: what it is handed of the table stays -/
theorem exec_callR (hR:RS σ Z w N κ R a) (hH:HR σ Z w H) (hp:pv κ p=true) {f:Operand} {args:Array Operand} {ty:Array TypeId} (ho:o.op=.call { callee:=.value f,args,argTypes:=ty }) {g:FuncId} {first caps ys ys':List PV} {vs:List Nat} {ob:List Ob} {nx:Nat} {u:Value} (hf:opd R p f=some (.fn g first caps)) (hy:opds R p args.toList=some ys) (hg:callB P g=true)
    (hv:vw vs H (first++ys++caps)=some (ys',ob)) (hob:AllOb ob) (hc:Con P g ys' [] nx nx (.sc u) []):Exec P o a w σ Z H (some (.sc u)) []:=by
  have hv':=hR.opd hp hf
  have hys:=hR.opds hp hy
  generalize hav:a.eval f=vf at hv'
  cases hv' with
  | fn _ l1 l2 x1 x2 hl1 hl2 h1 h2 =>
    have hargs:VRs σ Z w (l1++args.toList.map a.eval++l2) (first++ys++caps):=(VRs.append ⟨hl1,h1⟩ hys).append ⟨hl2,h2⟩
    obtain ⟨r1,Z1,r2,r3,r4,r5⟩:=vw_sound hv hob hH hargs
    intro K Q hK
    have hrun:(execOp a.eval o).run P w=.ok (.enter g (l1++args.toList.map a.eval++l2).toArray) w:=by
      have:l1.toArray++args.map a.eval++l2.toArray=(l1++args.toList.map a.eval++l2).toArray:=by
        apply Array.ext'; simp
      rw [← this]
      simp [execOp,ho,resolve,hav,Deferred.ofValue,invoke,run_callFunc hg]
    unfold Oper.wp
    rw [hrun]
    simp only [Oper.upon]
    have hH0:HR σ Z1 w []:=⟨fun id o h=>by simp [hlook] at h,fun id id' o o' b c c' h=>by simp [hlook] at h,fun id o b c h=>by simp [hlook] at h,r5⟩
    refine (hc w σ Z1 _ hH0 r4 (fun id h1 h2=>absurd h2 (Nat.not_lt.2 h1))).mono fun e w' ⟨v,σ',Z',he,h3,h4⟩=>?_
    subst he
    refine hK v w' σ Z (fun x hx=>by injection hx with hx; subst hx; cases h3 with | sc _ h=>exact .sc _ h) ⟨fun _ _ h=>h,fun _ q _=>q,fun _ q=>q,fun _ q=>.inl q,h4.chg.mono (fun b _ ⟨id,o',c,q,_⟩=>absurd rfl q),fun id o' q=>(by cases q),fun id o' b c q=>(by cases q),fun id id' o' o'' b c c' q=>(by cases q)⟩
theorem okPick_spec (hR:RS σ Z w N κ R a) (hp:pv κ p=true) {want:Bool} {x:Operand} {r:Option Nat} {y:PV} (hx:okPick R p want x=some (r,y)) (hr:∀ j,r=some j→kv κ j=want):VR σ Z w (a.eval x) y:=by
  cases x with
  | tmp t =>
    simp only [okPick] at hx
    cases hl:look R t with
    | none=>rw [hl] at hx; simp at hx
    | some e =>
      rw [hl] at hx
      simp only at hx
      have key:pv κ e.p=true∧e.v=y:=by
        cases hs:sub e.p p with
        | true =>
          rw [hs] at hx
          simp only [cond_true,Option.some.injEq,Prod.mk.injEq] at hx
          exact ⟨pv_sub hs hp,hx.2⟩
        | false =>
          rw [hs] at hx
          simp only [cond_false] at hx
          cases hep:e.p with
          | nil=>rw [hep] at hx; simp at hx
          | cons z q =>
            rw [hep] at hx
            obtain ⟨j,w'⟩:=z
            simp only at hx
            cases hc:((w'==want)&&sub q p) with
            | false=>rw [hc] at hx; simp at hx
            | true =>
              rw [hc] at hx
              simp only [cond_true,Option.some.injEq,Prod.mk.injEq] at hx
              simp only [Bool.and_eq_true,beq_iff_eq] at hc
              have:=hr j hx.1.symm
              refine ⟨?_,hx.2⟩
              simp only [pv,Bool.and_eq_true]
              exact ⟨pv_sub hc.2 hp,by rw [this,hc.1]; simp⟩
      obtain ⟨v,h1,h2⟩:=(hR.at_ t e hl).1 key.1
      have e1:a.eval (.tmp t)=v:=by simp [Act.eval,h1]
      rw [e1,← key.2]; exact h2
  | const v =>
    simp only [okPick,Option.map_eq_some_iff,Prod.mk.injEq] at hx
    obtain ⟨y',h1,_,rfl⟩:=hx
    exact ofV_spec h1
  | func f =>
    simp only [okPick,Option.some.injEq,Prod.mk.injEq] at hx
    obtain ⟨_,rfl⟩:=hx
    exact .fn f [] [] [] [] rfl rfl (fun i u x h=>by simp at h) (fun i u x h=>by simp at h)
  | global g=>simp [okPick] at hx
theorem pickP_spec {cb:Bool} {x y:Operand} {xa xb:PV} (hx:cb=true→VR σ Z w (a.eval x) xa) (hy:cb=false→VR σ Z w (a.eval y) xb):VR σ Z w (if cb=true then a.eval x else a.eval y) (pickP cb x y xa xb):=by
  cases cb with
  | false =>
    have h:=hy rfl
    simp only [Bool.false_eq_true,if_false]
    unfold pickP
    split
    · exact .sc (.bool false) rfl
    · split
      · rw [Bool.false_or]; exact h
      · exact h
  | true =>
    have h:=hx rfl
    simp only [if_true]
    unfold pickP
    split
    · rw [Bool.true_and]; exact h
    · split
      · exact .sc (.bool true) rfl
      · exact h
theorem exec_pick (hR:RS σ Z w N κ R a) (hp:pv κ p=true) {c x y:Operand} (ho:o.op=.pick c x y) {cb:Bool} {ra rb:Option Nat} {xa xb:PV} (hc:opd R p c=some (.sc (.bool cb))) (hx:okPick R p true x=some (ra,xa)) (hy:okPick R p false y=some (rb,xb))
    (ha:∀ j,ra=some j→cb=kv κ j) (hb:∀ j,rb=some j→cb=kv κ j):Exec P o a w σ Z H (some (pickP cb x y xa xb)) []:=by
  have hv:=hR.opd hp hc
  generalize hav:a.eval c=vc at hv
  cases hv
  refine exec_quiet (v:=if cb=true then a.eval x else a.eval y) ?_ (pickP_spec (fun h=>okPick_spec hR hp hx fun j hj=>by rw [← ha j hj,h]) (fun h=>okPick_spec hR hp hy fun j hj=>by rw [← hb j hj,h]))
  simp [execOp,ho,hav,asBool]
theorem exec_pick_lit (hR:RS σ Z w N κ R a) (hp:pv κ p=true) {c x y:Operand} (ho:o.op=.pick c x y) {cb:Bool} {r:PV} (hc:opd R p c=some (.sc (.bool cb))) (hr:opd R p (if cb=true then x else y)=some r):Exec P o a w σ Z H (some r) []:=by
  have hv:=hR.opd hp hc
  generalize hav:a.eval c=vc at hv
  cases hv
  refine exec_quiet (v:=a.eval (if cb=true then x else y)) ?_ (hR.opd hp hr)
  cases cb <;> simp [execOp,ho,hav,asBool]
end
end Go.PX

/- Proved: what the kernel computes of an operation on plain data is what the operation does (all operations). Program-independent. -/
namespace Go.PX
open Go.RowKit Go.SX

section
variable {P:Program} {σ:Nm} {Z:Nat→Prop} {w:World} {N:Nat} {κ:List (Nat × Bool)} {R:List Ent} {a:Act} {H:Heap} {p:List (Nat × Bool)} {o:Oper} {nx:Nat}

/-- what is known of an operation's outcome -/
structure Good (P:Program) (o:Oper) (a:Act) (w:World) (σ:Nm) (Z:Nat→Prop) (H:Heap) (nx:Nat) (out:Out):Prop where
  exec:Exec P o a w σ Z H out.res out.U
  nle:nx≤out.nx
  keys:∀ id,ulook out.U id≠none→hlook H id≠none∨(nx≤id∧id<out.nx)

theorem good_one {x:PV} {out:Out} (h:one x nx=some out) (he:Exec P o a w σ Z H (some x) []):Good P o a w σ Z H nx out:=by
  simp only [one,Option.some.injEq] at h; subst h
  exact ⟨he,Nat.le_refl _,fun id h=>absurd rfl h⟩
theorem good_new {x:PV} {po:PO} {ob:List Ob} (he:Exec P o a w σ Z H (some x) [(nx,some po)]):Good P o a w σ Z H nx { res:=some x,U:=[(nx,some po)],nx:=nx+1,obs:=ob } :=
  ⟨he,Nat.le_succ _,fun id h=>by
    rw [ulook_one] at h
    split at h
    · rename_i e; subst e; exact .inr ⟨Nat.le_refl _,Nat.lt_succ_self _⟩
    · exact absurd rfl h⟩
theorem good_upd {id0:Nat} {po po':PO} {ob:List Ob} (hl:hlook H id0=some po') (he:Exec P o a w σ Z H none [(id0,some po)]):Good P o a w σ Z H nx { res:=none,U:=[(id0,some po)],nx:=nx,obs:=ob } :=
  ⟨he,Nat.le_refl _,fun id h=>by
    rw [ulook_one] at h
    split at h
    · rename_i e; subst e; left; rw [hl]; simp
    · exact absurd rfl h⟩

theorem stepLoad_sound (hR:RS σ Z w N κ R a) (hH:HR σ Z w H) (hp:pv κ p=true) {t:TypeId} {x:Operand} (ho:o.op=.load t x) {out:Out} (h:stepLoad P R H nx p t x=some out):Good P o a w σ Z H nx out:=by
  unfold stepLoad at h
  split at h
  · rename_i px h1
    split at h
    · rename_i xs h2
      split at h
      · rename_i r h3; exact good_one h (exec_load hR hH hp ho h1 h2 h3)
      · cases h
    · cases h
  · cases h
theorem stepStore_sound (hR:RS σ Z w N κ R a) (hH:HR σ Z w H) (hp:pv κ p=true) {t:TypeId} {x y:Operand} (ho:o.op=.store t x y) {out:Out} (h:stepStore P R H nx p t x y=some out):Good P o a w σ Z H nx out:=by
  unfold stepStore at h
  split at h
  · rename_i id off py n h1 h2 h3
    split at h
    · rename_i e xs h4
      cases hb:(!isTup py&&Nat.beq (pcells py).length n&&Nat.ble (off+n) xs.length) with
      | false=>rw [hb] at h; cases h
      | true =>
        rw [hb] at h
        simp only [cond_true,Option.some.injEq] at h; subst h
        simp only [Bool.and_eq_true,Bool.not_eq_true',Nat.beq_eq] at hb
        exact good_upd h4 (exec_store_box hR hH hp ho h1 h2 hb.1.1 h4 h3 hb.1.2 (Nat.le_of_ble_eq_true hb.2))
    · cases h
  · rename_i id sz k i py n h1 h2 h3
    split at h
    · rename_i e sz' pu rows h4
      split at h
      · rename_i r h5
        cases hb:(Nat.beq sz sz'&&!isTup py&&Nat.beq (pcells py).length n&&Nat.ble (i+n) sz) with
        | false=>rw [hb] at h; cases h
        | true =>
          rw [hb] at h
          simp only [cond_true,Option.some.injEq] at h; subst h
          simp only [Bool.and_eq_true,Bool.not_eq_true',Nat.beq_eq] at hb
          obtain ⟨⟨⟨rfl,b1⟩,b2⟩,b3⟩:=hb
          exact good_upd h4 (exec_store_row hR hH hp ho h1 h2 b1 h4 h3 b2 (Nat.le_of_ble_eq_true b3) h5)
      · cases h
    · cases h
  · cases h
theorem stepApp_sound (hR:RS σ Z w N κ R a) (hH:HR σ Z w H) (hp:pv κ p=true) {top:Nat} (hfr:∀ id,nx≤id→id<top→σ id=none∧hlook H id=none) {t:TypeId} {x y:Operand} (ho:o.op=.call { callee:=.builtin .append,args:=#[x,y],argTypes:=#[t,t] }) {out:Out} (h:stepApp P R H nx p t x y=some out) (htop:out.nx≤top) (hob:AllOb out.obs):Good P o a w σ Z H nx out:=by
  unfold stepApp at h
  split at h
  · rename_i e h1
    split at h
    · rename_i i h2
      split at h
      · rename_i z px py h3 h4 h5
        split at h
        · rename_i q pu rows ok h6 h7
          cases hb:(Nat.beq z.cells.size i.size&&Nat.blt 0 i.size&&Nat.ble i.bytes 100000) with
          | false=>rw [hb] at h; cases h
          | true =>
            rw [hb] at h
            simp only [cond_true,Option.some.injEq] at h; subst h
            simp only [Bool.and_eq_true,Nat.beq_eq] at hb
            refine ⟨exec_append hR hH hp (hfr nx (Nat.le_refl _) htop).2 (hfr nx (Nat.le_refl _) htop).1 ho h1 h2 h3 hb.1.1 (by simpa using hb.1.2) (Nat.le_of_ble_eq_true hb.2) h4 h5 h6 h7 hob.1 hob.2.1 (Nat.le_of_ble_eq_true hob.2.2.1),Nat.le_succ _,fun id hid=>?_⟩
            have hq:=(base_spec hH (hR.opd hp h4) h6 hob.1).2.1
            cases hq1:q.1 with
            | none =>
              simp only [hq1,appU,ulook_one] at hid
              split at hid
              · rename_i e'; subst e'; exact .inr ⟨Nat.le_refl _,Nat.lt_succ_self _⟩
              · exact absurd rfl hid
            | some i0 =>
              obtain ⟨po,hpo⟩:=hq i0 hq1
              simp only [hq1,appU,ulook] at hid
              cases hb1:Nat.beq nx id with
              | true=>obtain rfl:=Nat.eq_of_beq_eq_true hb1; exact .inr ⟨Nat.le_refl _,Nat.lt_succ_self _⟩
              | false =>
                rw [hb1] at hid
                cases hb2:Nat.beq i0 id with
                | true=>obtain rfl:=Nat.eq_of_beq_eq_true hb2; left; rw [hpo]; simp
                | false=>rw [hb2] at hid; exact absurd rfl hid
        · cases h
      · cases h
    · cases h
  · cases h
theorem stepMake_sound (hR:RS σ Z w N κ R a) (hH:HR σ Z w H) (hp:pv κ p=true) {top:Nat} (hfr:∀ id,nx≤id→id<top→σ id=none∧hlook H id=none) {t:TypeId} {x y:Operand} {k:Nat} (ho:o.op=.makeSlice t x y) {out:Out} (h:stepMake P R nx p t x y k=some out) (htop:out.nx≤top) (hob:AllOb out.obs):Good P o a w σ Z H nx out:=by
  unfold stepMake at h
  split at h
  · rename_i e K n K' m h1 h2 h3
    split at h
    · rename_i i size zs h4 h5 h6
      cases hb:(Nat.beq zs.length size&&Nat.blt 0 size&&Nat.ble i.bytes 100000&&pures zs) with
      | false=>rw [hb] at h; cases h
      | true =>
        rw [hb] at h
        simp only [cond_true,Option.some.injEq] at h; subst h
        simp only [Bool.and_eq_true,Nat.beq_eq] at hb
        exact good_new (exec_makeSlice hR hH hp (hfr nx (Nat.le_refl _) htop).1 (hfr nx (Nat.le_refl _) htop).2 ho h2 h3 hob.1 hob.2.1 h1 h4 h5 h6 hb.1.1.1 hb.2 (by simpa using hb.1.1.2) (Nat.le_of_ble_eq_true hb.1.2) (Nat.le_of_ble_eq_true hob.2.2.1))
    · cases h
  · cases h
theorem scal_good (hR:RS σ Z w N κ R a) (hp:pv κ p=true) {out:Out} (h:(scal P R p o).bind (one · nx)=some out):Good P o a w σ Z H nx out:=by
  obtain ⟨x,h1,h2⟩:=Option.bind_eq_some_iff.1 h
  exact good_one h2 (scal_sound hR hp h1)

theorem stepAu_sound (hR:RS σ Z w N κ R a) (hH:HR σ Z w H) (hp:pv κ p=true) {top:Nat} (hfr:∀ id,nx≤id→id<top→σ id=none∧hlook H id=none) {out:Out} (h:stepAu P R H nx p o=some out) (htop:out.nx≤top) (hob:AllOb out.obs):Good P o a w σ Z H nx out:=by
  unfold stepAu at h
  split at h
  · rename_i x ho
    obtain ⟨y,h1,h2⟩:=Option.bind_eq_some_iff.1 h
    exact good_one h2 (exec_move hR hp (.inl ho) h1)
  · rename_i x ho
    obtain ⟨y,h1,h2⟩:=Option.bind_eq_some_iff.1 h
    exact good_one h2 (exec_move hR hp (.inr ho) h1)
  · rename_i c x y ho
    split at h
    · rename_i hc
      obtain ⟨r,h1,h2⟩:=Option.bind_eq_some_iff.1 h
      exact good_one h2 (exec_pick_lit hR hp ho hc (by simpa using h1))
    · rename_i hc
      obtain ⟨r,h1,h2⟩:=Option.bind_eq_some_iff.1 h
      exact good_one h2 (exec_pick_lit hR hp ho hc (by simpa using h1))
    · cases h
  · rename_i t x ho; exact stepLoad_sound hR hH hp ho h
  · rename_i t ho
    split at h
    · rename_i z hz
      split at h
      · rename_i px hx
        cases hb:isTup px with
        | true=>rw [hb] at h; cases h
        | false =>
          rw [hb] at h
          simp only [cond_false,Option.some.injEq] at h; subst h
          exact good_new (exec_alloc hH (hfr nx (Nat.le_refl _) htop).1 (hfr nx (Nat.le_refl _) htop).2 ho hz hx hb)
      · cases h
    · cases h
  · rename_i t x ho
    split at h
    · rename_i px hx
      cases hb:isTup px with
      | true=>rw [hb] at h; cases h
      | false =>
        rw [hb] at h
        simp only [cond_false,Option.some.injEq] at h; subst h
        exact good_new (exec_box hR hH hp (hfr nx (Nat.le_refl _) htop).1 (hfr nx (Nat.le_refl _) htop).2 ho hx hb)
    · cases h
  · rename_i t x y ho; exact stepStore_sound hR hH hp ho h
  · rename_i s x f ho
    split at h
    · rename_i px n hx hf
      obtain ⟨r,h1,h2⟩:=Option.bind_eq_some_iff.1 h
      exact good_one h2 (exec_fieldAddr hR hp ho hx hf h1)
    · cases h
  · rename_i s x f ho
    split at h
    · rename_i px hx
      obtain ⟨r,h1,h2⟩:=Option.bind_eq_some_iff.1 h
      exact good_one h2 (exec_field hR hp ho hx h1)
    · cases h
  · rename_i x i ho
    split at h
    · rename_i xs hx
      obtain ⟨r,h1,h2⟩:=Option.bind_eq_some_iff.1 h
      exact good_one h2 (exec_extract hR hp ho hx h1)
    · cases h
  · rename_i t parts ho
    split at h
    · rename_i xs hx
      obtain ⟨r,h1,h2⟩:=Option.bind_eq_some_iff.1 h
      exact good_one h2 (exec_build hR hp ho hx h1)
    · cases h
  · rename_i t len parts ho
    split at h
    · rename_i xs hx
      split at h
      · rename_i e size cs hr
        simp only [Option.some.injEq] at h; subst h
        exact good_new (exec_buildSlice hR hH hp (hfr nx (Nat.le_refl _) htop).1 (hfr nx (Nat.le_refl _) htop).2 ho hx hr)
      · cases h
    · cases h
  · rename_i x ho
    split at h
    · rename_i px hx
      cases hb:isPtr px with
      | true=>rw [hb] at h; exact good_one h (exec_nilCheck hR hp ho hx hb)
      | false=>rw [hb] at h; exact scal_good hR hp h
    · cases h
  · rename_i t x i ho
    split at h
    · rename_i px K k hx hi
      obtain ⟨r,h1,h2⟩:=Option.bind_eq_some_iff.1 h
      exact good_one h2 (exec_ixAu hR hp ho hx hi h1)
    · cases h
  · rename_i t x i ho
    split at h
    · rename_i xs K k hx hi
      obtain ⟨r,h1,h2⟩:=Option.bind_eq_some_iff.1 h
      exact good_one h2 (exec_index hR hp ho hx hi h1)
    · exact scal_good hR hp h
  · rename_i f l1 l2 ho
    split at h
    · rename_i y1 y2 h1 h2
      exact good_one h (exec_makeFunc hR hp (l1:=l1.toList) (l2:=l2.toList) (by simpa using ho) h1 h2)
    · cases h
  · rename_i t ho
    split at h
    · simp only [Option.some.injEq] at h; subst h
      exact good_new (exec_mkmap hH (hfr nx (Nat.le_refl _) htop).1 (hfr nx (Nat.le_refl _) htop).2 ho)
    · cases h
  · rename_i t m x ok ho
    split at h
    · rename_i z id n ht hm hx
      split at h
      · rename_i D hl; exact good_one h (exec_look hR hH hp ho ht hm hx hl)
      · cases h
    · cases h
  · rename_i t m x y ho
    split at h
    · rename_i z id n v ht hm hx hy
      split at h
      · rename_i D hl
        simp only [Option.some.injEq] at h; subst h
        exact good_upd hl (exec_upd hR hH hp ho ht hm hx hy hl)
      · cases h
    · cases h
  · rename_i x ty ho
    split at h
    · rename_i t px ht hx
      split at h
      · rename_i e n hu hl
        exact good_one h (exec_len hR hp ho ht hu hx hl)
      · exact scal_good hR hp h
    · cases h
  · rename_i x y t t' ho
    cases hb:Nat.beq t t' with
    | false=>rw [hb] at h; cases h
    | true =>
      rw [hb] at h
      obtain rfl:=Nat.eq_of_beq_eq_true hb
      exact stepApp_sound hR hH hp hfr ho h htop hob
  · rename_i x y t t' ho
    unfold stepCopy at h
    split at h
    · rename_i e hu
      split at h
      · rename_i s i s1 n j s2 m hs hx hy
        split at h
        · rename_i e1 t1 pu1 r1 e2 t2 pu2 r2 hi hj
          cases hb:(Nat.beq s 1&&Nat.beq s1 1&&Nat.beq s2 1&&Nat.beq t1 1&&Nat.beq t2 1) with
          | false=>rw [hb] at h; cases h
          | true =>
            rw [hb] at h
            simp only [cond_true,Option.some.injEq] at h; subst h
            simp only [Bool.and_eq_true,Nat.beq_eq] at hb
            obtain ⟨⟨⟨⟨rfl,rfl⟩,rfl⟩,rfl⟩,rfl⟩:=hb
            obtain ⟨o1,o2,o3,_⟩:=hob
            refine ⟨exec_copy hR hH hp ho hu hs hx hy hi hj (by simpa [lenIs] using o1) (by simpa [lenIs] using o2) o3,Nat.le_refl _,fun id hid=>?_⟩
            simp only [ulook_one] at hid
            split at hid
            · rename_i e'; subst e'; left; rw [hi]; simp
            · exact absurd rfl hid
        · cases h
      · cases h
    · cases h
  · exact scal_good hR hp h
end
end Go.PX

/- Proved: the state of a walk on plain data,step by step; a region of a fixed order. Program-independent. -/
namespace Go.PX
open Go.RowKit Go.SX

section
variable {P:Program} {σ:Nm} {Z:Nat→Prop} {w:World} {N:Nat} {κ:List (Nat × Bool)} {R:List Ent} {a:Act} {H:Heap} {p:List (Nat × Bool)} {o:Oper} {nx:Nat}

theorem pack_take {P:Program} {t:TypeId} {xs row:List PV} {r:PV} (h:xs.take row.length=row) (hp:pack P t row=some r):pack P t xs=some r:=by
  have hle:row.length≤xs.length:=by have:=congrArg List.length h; rw [List.length_take] at this; omega
  unfold pack at hp ⊢
  split at hp
  · rename_i n _ _
    cases hb:Nat.ble n row.length with
    | false=>rw [hb] at hp; cases hp
    | true =>
      rw [hb] at hp
      have hn:=Nat.le_of_ble_eq_true hb
      rw [show Nat.ble n xs.length=true from by rw [Nat.ble_eq]; omega]
      simp only [cond_true,Option.some.injEq] at hp ⊢
      rw [← hp,← h,List.take_take,Nat.min_eq_left (by rw [← h] at hn; rw [List.length_take] at hn; omega)]
  · cases row with
    | nil=>cases hp
    | cons y l =>
      cases xs with
      | nil=>simp at h
      | cons x m =>
        simp only [List.length_cons,List.take_succ_cons,List.cons.injEq] at h
        rw [h.1]; exact hp
  · cases hp
theorem ones_set1 {xs:List PV} (h:ones xs=true) {j:Nat} {x:PV} (hx:x.one=true):ones (xs.set j x)=true:=by
  induction xs generalizing j with
  | nil=>exact h
  | cons y xs ih =>
    simp only [ones,Bool.and_eq_true] at h
    cases j with
    | zero=>simp [ones,hx,h.2]
    | succ j=>simp [ones,h.1,ih h.2]
theorem retyp_spec (hH:HR σ Z w H):∀ {gs:List (Nat × Nat)} {xs ys:List PV} {ob:List Ob} {l:List Value},retyp H gs xs=some (ys,ob)→AllOb ob→VRs σ Z w l xs→ones xs=true→VRs σ Z w l ys∧ones ys=true
  | [],xs,ys,ob,l,h,_,hv,ho=>by simp only [retyp,Option.some.injEq,Prod.mk.injEq] at h; rw [← h.1]; exact ⟨hv,ho⟩
  | (j,g)::gs,xs,ys,ob,l,h,hob,hv,ho=>by
    simp only [retyp] at h
    split at h
    · rename_i u v x hj hg
      split at h
      · rename_i ys' ob' hr
        simp only [Option.some.injEq,Prod.mk.injEq] at h
        obtain ⟨rfl,rfl⟩:=h
        obtain ⟨rfl,hob⟩:=hob
        obtain ⟨_,g2,g3⟩:=hH.at_ _ _ hg
        obtain ⟨u',hu',hvr⟩:=hv.get hj
        cases hvr
        have hs:=VRs.set hv (i:=j) g3
        rw [show l.set j u=l from by
          refine List.ext_getElem? fun i=>?_
          rw [List.getElem?_set]
          split
          · rename_i e; subst e; split
            · exact hu'.symm
            · rename_i q; rw [List.getElem?_eq_none (by omega)]
          · rfl] at hs
        exact retyp_spec hH hr hob hs (ones_set1 ho g2)
      · cases h
    · cases h
theorem retypV_spec (hH:HR σ Z w H) {gs:List (Nat × Nat)} {x y:PV} {ob:List Ob} {v:Value} (h:retypV H gs x=some (y,ob)) (hob:AllOb ob) (hv:VR σ Z w v x):VR σ Z w v y:=by
  unfold retypV at h
  split at h
  · rename_i xs
    obtain ⟨⟨ys,ob'⟩,h1,h2⟩:=Option.map_eq_some_iff.1 h
    simp only [Prod.mk.injEq] at h2
    obtain ⟨rfl,rfl⟩:=h2
    cases hv with
    | agg l _ hl ho h =>
      obtain ⟨q1,q2⟩:=retyp_spec hH h1 hob ⟨hl,h⟩ ho
      exact .agg l ys q1.1 q2 q1.2
  · split at h
    · rename_i hx _ y' ob' h1
      simp only [Option.some.injEq,Prod.mk.injEq] at h
      obtain ⟨rfl,rfl⟩:=h
      cases gs with
      | nil =>
        simp only [retyp,Option.some.injEq,Prod.mk.injEq,List.cons.injEq,and_true] at h1
        rw [← h1.1]; exact hv
      | cons g gs =>
        have ho:ones [x]=true:=by
          obtain ⟨j,g⟩:=g
          simp only [retyp] at h1
          split at h1
          · rename_i u _ _ hj _
            cases j with
            | zero=>simp only [List.getElem?_cons_zero,Option.some.injEq] at hj; subst hj; rfl
            | succ j=>simp at hj
          · cases h1
        obtain ⟨q1,_⟩:=retyp_spec hH h1 hob (l:=[v]) (.cons hv .nil) ho
        obtain ⟨u,l',e,q2,_⟩:=q1.inv
        simp only [List.cons.injEq] at e
        rw [e.1]; exact q2
    · cases h
theorem stepDir_sound (hR:RS σ Z w N κ R a) (hH:HR σ Z w H) (hp:pv κ p=true) {top:Nat} (hfr:∀ id,nx≤id→id<top→σ id=none∧hlook H id=none) {d:Dir} {out:Out} (h:stepDir P κ R H nx p o d=some out) (htop:out.nx≤top) (hob:AllOb out.obs) (heq:AllEq out.eqs):Good P o a w σ Z H nx out:=by
  cases d with
  | au=>exact stepAu_sound hR hH hp hfr h htop hob
  | dd=>simp only [stepDir,hp,cond_true] at h; cases h
  | pk =>
    simp only [stepDir] at h
    split at h
    · rename_i c x y ho
      split at h
      · rename_i cb ra xa rb xb hc hx hy
        simp only [Option.some.injEq] at h; subst h
        obtain ⟨e1,e2⟩:=allEq_append heq
        refine ⟨exec_pick hR hp ho hc hx hy (fun j hj=>?_) (fun j hj=>?_),Nat.le_refl _,fun id h=>absurd rfl h⟩
        · subst hj; exact e1.1
        · subst hj; exact e2.1
      · cases h
    · cases h
  | ix k row =>
    simp only [stepDir] at h
    split at h
    · rename_i t x i ho
      split at h
      · rename_i px K n hx hi
        split at h
        · rename_i r ob hr
          simp only [Option.some.injEq] at h; subst h
          have hm:∀ l:List Prop,AllOb (l.map Ob.q)→AllP l:=fun l=>by
            induction l with
            | nil=>intro _; trivial
            | cons q l ih=>intro h; exact ⟨h.1,ih h.2⟩
          exact ⟨exec_indexAddr hR hp ho hx hi hob.1 hr (hm _ hob.2),Nat.le_refl _,fun id h=>absurd rfl h⟩
        · cases h
      · cases h
    · rename_i t x i ho
      split at h
      · rename_i px K n hx hi
        split at h
        · rename_i r hr
          simp only [Option.some.injEq] at h; subst h
          have hn:=hob.1
          subst hn
          exact ⟨exec_index hR hp ho hx hi hr,Nat.le_refl _,fun id h=>absurd rfl h⟩
        · cases h
      · cases h
    · cases h
  | lr row =>
    simp only [stepDir] at h
    split at h
    · rename_i t x ho
      split at h
      · rename_i id sz k i hx
        split at h
        · rename_i e sz' pu rows hl
          cases hb:Nat.beq sz sz' with
          | false=>rw [hb] at h; cases h
          | true =>
            rw [hb] at h
            obtain rfl:=Nat.eq_of_beq_eq_true hb
            simp only [cond_true] at h
            obtain ⟨r,h1,h2⟩:=Option.bind_eq_some_iff.1 h
            simp only [Option.some.injEq] at h2; subst h2
            have hrow:=hob.1
            refine ⟨exec_load hR hH hp ho hx (xs:=row.drop i) ?_ h1,Nat.le_refl _,fun id h=>absurd rfl h⟩
            simp only [behind,hl]
            rw [show Nat.beq sz sz=true by simp,hrow]; rfl
        · cases h
      · rename_i id off hx
        split at h
        · rename_i e xs hl
          obtain ⟨r,h1,h2⟩:=Option.bind_eq_some_iff.1 h
          simp only [Option.some.injEq] at h2; subst h2
          refine ⟨exec_load hR hH hp ho hx (xs:=xs.drop off) ?_ (pack_take hob.1 h1),Nat.le_refl _,fun id h=>absurd rfl h⟩
          simp only [behind,hl]
        · cases h
      · cases h
    · rename_i t x y ho
      split at h
      · rename_i id sz k i py n h1 h2 h3
        split at h
        · rename_i e sz' pu rows h4
          cases hb:(Nat.beq sz sz'&&!isTup py&&Nat.beq (pcells py).length n&&Nat.ble (i+n) sz) with
          | false=>rw [hb] at h; cases h
          | true =>
            rw [hb] at h
            simp only [cond_true,Option.some.injEq] at h; subst h
            simp only [Bool.and_eq_true,Bool.not_eq_true',Nat.beq_eq] at hb
            obtain ⟨⟨⟨rfl,b1⟩,b2⟩,b3⟩:=hb
            exact good_upd h4 (exec_store_row hR hH hp ho h1 h2 b1 h4 h3 b2 (Nat.le_of_ble_eq_true b3) hob.1)
        · cases h
      · rename_i id off py n h1 h2 h3
        split at h
        · rename_i e xs h4
          cases hb:(!isTup py&&Nat.beq (pcells py).length n) with
          | false=>rw [hb] at h; cases h
          | true =>
            rw [hb] at h
            simp only [cond_true,Option.some.injEq] at h; subst h
            simp only [Bool.and_eq_true,Bool.not_eq_true',Nat.beq_eq] at hb
            exact good_upd h4 (exec_store_box hR hH hp ho h1 h2 hb.1 h4 h3 hb.2 hob.1)
        · cases h
      · cases h
    · cases h
  | rt row gs =>
    simp only [stepDir] at h
    split at h
    · rename_i t x ho
      split at h
      · rename_i id sz k i hx
        split at h
        · rename_i e sz' pu rows hl
          cases hb:Nat.beq sz sz' with
          | false=>rw [hb] at h; cases h
          | true =>
            rw [hb] at h
            obtain rfl:=Nat.eq_of_beq_eq_true hb
            simp only [cond_true] at h
            split at h
            · rename_i r h1
              split at h
              · rename_i r' ob h2
                simp only [Option.some.injEq] at h; subst h
                obtain ⟨hrow,hob⟩:=hob
                refine ⟨?_,Nat.le_refl _,fun id h=>absurd rfl h⟩
                have hbh:behind H (.rptr id sz k i)=some (row.drop i):=by
                  simp only [behind,hl]
                  rw [show Nat.beq sz sz=true by simp,hrow]; rfl
                obtain ⟨b,off,l,e1,g1,g2,g3⟩:=behind_spec hH (hR.opd hp hx) hbh
                obtain ⟨v,h4,h5⟩:=run_loadVar g1 g2 g3 h1
                refine exec_quiet (v:=v) ?_ (retypV_spec hH h2 hob h5)
                simp [execOp,ho,Instr.loadAt,e1,Instr.sureAddr,Sem.run_bind,h4]
              · cases h
            · cases h
        · cases h
      · rename_i px _ hx
        split at h
        · rename_i xs hb
          split at h
          · rename_i r h1
            split at h
            · rename_i r' ob h2
              simp only [Option.some.injEq] at h; subst h
              refine ⟨?_,Nat.le_refl _,fun id h=>absurd rfl h⟩
              obtain ⟨b,off,l,e1,g1,g2,g3⟩:=behind_spec hH (hR.opd hp hx) hb
              obtain ⟨v,h4,h5⟩:=run_loadVar g1 g2 g3 h1
              refine exec_quiet (v:=v) ?_ (retypV_spec hH h2 hob h5)
              simp [execOp,ho,Instr.loadAt,e1,Instr.sureAddr,Sem.run_bind,h4]
            · cases h
          · cases h
        · cases h
      · cases h
    · cases h
  | nm x =>
    simp only [stepDir] at h
    split at h
    · rename_i out' h1
      split at h
      · rename_i y hres hU
        simp only [Option.some.injEq] at h; subst h
        have g:=stepAu_sound hR hH hp hfr h1 (by exact htop) hob.2
        have e:=hob.1
        subst e
        refine ⟨?_,g.nle,fun id h=>absurd rfl h⟩
        have:=g.exec
        rw [hres,hU] at this; exact this
      · cases h
    · cases h
  | mk k =>
    simp only [stepDir] at h
    split at h
    · rename_i t x y ho; exact stepMake_sound hR hH hp hfr ho h htop hob
    · cases h
  | cv vs r nx' =>
    simp only [stepDir] at h
    split at h
    · rename_i f args ty ho
      split at h
      · rename_i g first caps ys hf hy
        split at h
        · rename_i ys' ob hv
          cases hb:(Nat.ble nx nx'&&callB P g) with
          | false=>rw [hb] at h; cases h
          | true =>
            rw [hb] at h
            simp only [cond_true,Option.some.injEq] at h; subst h
            simp only [Bool.and_eq_true] at hb
            obtain ⟨q1,q2⟩:=exec_callV hR hH hp ho hf hy hb.2 hv hob.2 (fun id h1 h2=>(hfr id h1 (Nat.lt_of_lt_of_le h2 htop)).1) hob.1
            refine ⟨q1,Nat.le_of_ble_eq_true hb.1,fun id h=>.inl ?_⟩
            rw [ulook_vs] at h
            split at h
            · rename_i hm; exact q2 id hm
            · exact absurd rfl h
        · cases h
      · cases h
    · cases h
  | cr vs u =>
    simp only [stepDir] at h
    split at h
    · rename_i f args ty ho
      split at h
      · rename_i g first caps ys hf hy
        split at h
        · rename_i ys' ob hv
          cases hb:callB P g with
          | false=>rw [hb] at h; cases h
          | true =>
            rw [hb] at h
            simp only [cond_true,Option.some.injEq] at h; subst h
            exact ⟨exec_callR hR hH hp ho hf hy hb hv hob.2 hob.1,Nat.le_refl _,fun id h=>absurd rfl h⟩
        · cases h
      · cases h
    · cases h
  | sl l hh rs =>
    simp only [stepDir] at h
    split at h
    · rename_i t x lo hi ho
      split at h
      · rename_i e sz rows h1 hx
        split at h
        · rename_i sz' o1 o2 h2 hlo hhi
          cases hb:Nat.beq sz' sz with
          | false=>rw [hb] at h; cases h
          | true =>
            rw [hb] at h
            obtain rfl:=Nat.eq_of_beq_eq_true hb
            simp only [cond_true,Option.some.injEq] at h; subst h
            have hm:∀ l:List Prop,AllOb (l.map Ob.q)→AllP l:=fun l=>by
              induction l with
              | nil=>intro _; trivial
              | cons q l ih=>intro h; exact ⟨h.1,ih h.2⟩
            obtain ⟨g1,g2,g3,g4⟩:=hob
            obtain ⟨g4,g5⟩:=allOb_append g4
            exact ⟨exec_slice hR hp ho h1 h2 hx hlo hhi (hm _ g4) (hm _ g5) g1 g2 g3,Nat.le_refl _,fun id h=>absurd rfl h⟩
        · cases h
      · rename_i e id sz n h1 hx
        split at h
        · rename_i y
          split at h
          · rename_i sz' o1 o2 _ _ _ _ h2 hlo hhi hl
            cases hb:Nat.beq sz' sz with
            | false=>rw [hb] at h; cases h
            | true =>
              rw [hb] at h
              obtain rfl:=Nat.eq_of_beq_eq_true hb
              simp only [cond_true,Option.some.injEq] at h; subst h
              have hm:∀ l:List Prop,AllOb (l.map Ob.q)→AllP l:=fun l=>by
                induction l with
                | nil=>intro _; trivial
                | cons q l ih=>intro h; exact ⟨h.1,ih h.2⟩
              obtain ⟨g4,g5⟩:=allOb_append hob
              exact ⟨exec_slice0 hR hH hp ho h1 h2 hx hl hlo hhi (hm _ g4) (hm _ g5),Nat.le_refl _,fun id h=>absurd rfl h⟩
          · cases h
        · cases h
      · cases h
    · cases h
  | bs u =>
    simp only [stepDir] at h
    split at h
    · rename_i op t x y ty ho
      split at h
      · rename_i vx vy hx hy
        cases hb:scOk u with
        | false=>rw [hb] at h; cases h
        | true =>
          rw [hb] at h
          simp only [cond_true,Option.some.injEq] at h; subst h
          exact ⟨exec_bs hR hp ho hx hy hb hob.1,Nat.le_refl _,fun id h=>absurd rfl h⟩
      · cases h
    · rename_i t m x ok ho
      split at h
      · rename_i id k hm hx
        split at h
        · rename_i es cl hl
          cases hb:scOk u with
          | false=>rw [hb] at h; cases h
          | true =>
            rw [hb] at h
            simp only [cond_true,Option.some.injEq] at h; subst h
            exact ⟨exec_lu hR hH hp ho hm hx hl hb hob.1,Nat.le_refl _,fun id h=>absurd rfl h⟩
        · cases h
      · cases h
    · cases h
  | mm =>
    simp only [stepDir] at h
    split at h
    · rename_i t ho
      simp only [Option.some.injEq] at h; subst h
      have hf:=hfr nx (Nat.le_refl _) (Nat.lt_of_lt_of_le (Nat.lt_succ_self _) htop)
      exact good_new (exec_mm hH hf.1 hf.2 ho)
    · cases h
  | mu es cl =>
    simp only [stepDir] at h
    split at h
    · rename_i t m x y ho
      split at h
      · rename_i id k v hm hx hy
        split at h
        · rename_i es0 cl0 hl
          simp only [Option.some.injEq] at h; subst h
          exact good_upd hl (exec_mu hR hH hp ho hm hx hy hl hob.1)
        · cases h
      · cases h
    · cases h
  | rg =>
    simp only [stepDir] at h
    split at h
    · rename_i t x ho
      split at h
      · rename_i k e id ht hx
        split at h
        · rename_i es cl hl
          simp only [Option.some.injEq] at h; subst h
          have hf:=hfr nx (Nat.le_refl _) (Nat.lt_of_lt_of_le (Nat.lt_succ_self _) htop)
          exact good_new (exec_rg hR hH hp hf.1 hf.2 ho ht hx hl)
        · cases h
      · cases h
    · cases h
  | en kx vx =>
    simp only [stepDir] at h
    split at h
    · rename_i x ho
      split at h
      · rename_i i hx
        split at h
        · rename_i m since seen c0 hi
          split at h
          · rename_i es cl hl
            simp only [Option.some.injEq] at h; subst h
            exact ⟨exec_en hR hH hp ho hx hi hl hob.1,Nat.le_refl _,fun id h=>absurd rfl h⟩
          · cases h
        · cases h
      · cases h
    · cases h
  | cl ids r U nx' =>
    simp only [stepDir] at h
    split at h
    · rename_i f args ty ho
      split at h
      · rename_i g first caps ys hf hy
        cases hb:(U.all (fun x=>ids.any (Nat.beq x.1)&&(hlook H x.1).isSome||Nat.ble nx x.1&&Nat.blt x.1 nx')&&Nat.ble nx nx'&&callB P g) with
        | false=>rw [hb] at h; cases h
        | true =>
          rw [hb] at h
          simp only [cond_true,Option.some.injEq] at h; subst h
          simp only [Bool.and_eq_true] at hb
          have hkey:∀ (U:Upd),U.all (fun x=>ids.any (Nat.beq x.1)&&(hlook H x.1).isSome||Nat.ble nx x.1&&Nat.blt x.1 nx')=true→∀ id,ulook U id≠none→(id∈ids∧hlook H id≠none)∨(nx≤id∧id<nx'):=fun U=>by
            induction U with
            | nil=>intro _ id h; exact absurd rfl h
            | cons x U ih =>
              intro hall id hid
              simp only [List.all_cons,Bool.and_eq_true] at hall
              simp only [ulook] at hid
              cases hbx:Nat.beq x.1 id with
              | true =>
                obtain rfl:=Nat.eq_of_beq_eq_true hbx
                have h1:=hall.1
                simp only [Bool.or_eq_true,Bool.and_eq_true,List.any_eq_true,Nat.beq_eq,Nat.blt_eq] at h1
                rcases h1 with ⟨⟨i,h2,h3⟩,h4⟩ | ⟨h2,h3⟩
                · exact .inl ⟨h3 ▸ h2,fun e=>by rw [e] at h4; simp at h4⟩
                · exact .inr ⟨Nat.le_of_ble_eq_true h2,h3⟩
              | false=>rw [hbx] at hid; exact ih hall.2 id hid
          have hk:=hkey U hb.1.1
          refine ⟨exec_call hR hH hp ho hf hy hb.2 (fun id h1 h2=>(hfr id h1 (Nat.lt_of_lt_of_le h2 htop)).1) (fun id h1 h2=>?_) hob.1,Nat.le_of_ble_eq_true hb.1.2,fun id h=>?_⟩
          · rcases hk id h1 with ⟨q1,q2⟩ | ⟨q1,q2⟩
            · exact q1
            · exact absurd (hfr id q1 (Nat.lt_of_lt_of_le q2 htop)).2 h2
          · rcases hk id h with ⟨_,q⟩ | q
            · exact .inl q
            · exact .inr q
      · cases h
    · cases h

/-! the heap after an operation -/
def happ:Upd→Heap→Heap
  | [],H=>H
  | (id,some o)::U,H=>(id,o)::hdel (happ U H) id
  | (id,none)::U,H=>hdel (happ U H) id
theorem hlook_happ {i:Nat}:∀ {U:Upd} {H:Heap},hlook (happ U H) i=match ulook U i with | some o=>o | none=>hlook H i
  | [],H=>rfl
  | (id,some o)::U,H=>by
    simp only [happ,hlook,ulook]
    cases hb:Nat.beq id i with
    | true=>rfl
    | false =>
      simp only [cond_false]
      rw [hlook_hdel,if_neg (by rintro rfl; simp at hb),hlook_happ]
  | (id,none)::U,H=>by
    simp only [happ,ulook]
    rw [hlook_hdel]
    cases hb:Nat.beq id i with
    | true=>obtain rfl:=Nat.eq_of_beq_eq_true hb; simp
    | false=>rw [if_neg (by rintro rfl; simp at hb),hlook_happ]; rfl
end

/-- where a walk began: the world,the blocks of the caller's that may be written,and those that nobody writes -/
structure Env where
  w0:World
  Wr:Nat→Prop
  Z0:Nat→Prop
  σ0:Nm
  lo:Nat
  top:Nat

structure Rel (E:Env) (N:Nat) (κ:List (Nat × Bool)) (R:List Ent) (H:Heap) (nx:Nat) (σ:Nm) (Z:Nat→Prop) (a:Act) (w:World):Prop where
  rs:RS σ Z w N κ R a
  hr:HR σ Z w H
  fr:∀ id,nx≤id→id<E.top→σ id=none∧hlook H id=none
  lo:E.lo≤nx
  ext:Ext E.σ0 σ
  dom:∀ id,E.σ0 id=none→¬ (E.lo≤id∧id<E.top)→σ id=none
  own:∀ id o b c,hlook H id=some o→σ id=some (b,c)→E.w0.heap.size≤b∨E.Wr b
  chg:Chg E.Wr E.w0 w
  zold:∀ b,Z b→E.Z0 b∨E.w0.heap.size≤b∨E.Wr b
  z0:∀ b,E.Z0 b→Z b

/-- what of the relation does not look at the slots -/
structure Mem (E:Env) (H:Heap) (nx:Nat) (σ:Nm) (Z:Nat→Prop) (w:World):Prop where
  hr:HR σ Z w H
  fr:∀ id,nx≤id→id<E.top→σ id=none∧hlook H id=none
  lo:E.lo≤nx
  ext:Ext E.σ0 σ
  dom:∀ id,E.σ0 id=none→¬ (E.lo≤id∧id<E.top)→σ id=none
  own:∀ id o b c,hlook H id=some o→σ id=some (b,c)→E.w0.heap.size≤b∨E.Wr b
  chg:Chg E.Wr E.w0 w
  zold:∀ b,Z b→E.Z0 b∨E.w0.heap.size≤b∨E.Wr b
  z0:∀ b,E.Z0 b→Z b
theorem Rel.mem {E:Env} {N:Nat} {κ:List (Nat × Bool)} {R:List Ent} {H:Heap} {nx:Nat} {σ:Nm} {Z:Nat→Prop} {a:Act} {w:World} (h:Rel E N κ R H nx σ Z a w):Mem E H nx σ Z w:=⟨h.hr,h.fr,h.lo,h.ext,h.dom,h.own,h.chg,h.zold,h.z0⟩

section
variable {E:Env} {σ σ':Nm} {Z Z':Nat→Prop} {w w':World} {H:Heap} {U:Upd} {nx nx':Nat}
theorem eff_same (h:Eff σ Z w H U σ' Z' w') {id:Nat} (hu:ulook U id=none):σ' id=σ id:=by
  cases hs:σ id with
  | some x=>exact h.ext id x hs
  | none=>exact h.dom id hs (.inl hu)
theorem eff_free (hH:HR σ Z w H) {b:Nat} (hz:Z b):¬ ∃ id o c,ulook U id≠none∧hlook H id=some o∧σ id=some (b,c) :=
  fun ⟨id,o,c,_,h2,h3⟩=>hH.off id o b c h2 h3 hz
theorem Mem.step (h:Mem E H nx σ Z w) (he:Eff σ Z w H U σ' Z' w') (hle:nx≤nx') (htop:nx'≤E.top) (hk:∀ id,ulook U id≠none→hlook H id≠none∨(nx≤id∧id<nx')):Mem E (happ U H) nx' σ' Z' w':=by
  have old:∀ {id:Nat} {o:PO} {b c:Nat},hlook (happ U H) id=some o→ulook U id=none→σ' id=some (b,c)→hlook H id=some o∧σ id=some (b,c)∧b<w.heap.size:=fun {id o b c} h1 h2 h3=>by
    rw [hlook_happ,h2] at h1
    have h4:=eff_same he h2
    rw [h4] at h3
    exact ⟨h1,h3,(h.hr.at_ id o h1).lt h3⟩
  have new:∀ {id:Nat} {o:PO},hlook (happ U H) id=some o→ulook U id≠none→ulook U id=some (some o):=fun {id o} h1 h2=>by
    rw [hlook_happ] at h1
    cases hu:ulook U id with
    | none=>exact absurd hu h2
    | some q=>rw [hu] at h1; rw [← h1]
  have clash:∀ {id id':Nat} {o o':PO} {b c c':Nat},hlook (happ U H) id=some o→ulook U id≠none→σ' id=some (b,c)→hlook (happ U H) id'=some o'→ulook U id'=none→σ' id'=some (b,c')→False:=fun {id id' o o' b c c'} h1 h2 h3 h4 h5 h6=>by
    obtain ⟨q1,q2,q3⟩:=old h4 h5 h6
    obtain ⟨_,q4⟩:=he.off id o b c (new h1 h2) h3
    rcases q4 with q4 | ⟨i,o2,c2,q4,q5,q6⟩
    · omega
    · have:=h.hr.inj i id' o2 o' b c2 c' q5 q1 q6 q2
      subst this; exact q4 h5
  refine ⟨⟨fun id o h1=>?_,fun id id' o o' b c c' h1 h2 h3 h4=>?_,fun id o b c h1 h2=>?_,fun b hb=>?_⟩,fun id hid hit=>?_,Nat.le_trans h.lo hle,h.ext.trans he.ext,fun id h0 hnot=>?_,fun id o b c h1 h2=>?_,?_,fun b hb=>?_,fun b hb=>he.zmono b (h.z0 b hb)⟩
  · by_cases hu:ulook U id=none
    · have h2:=h1
      rw [hlook_happ,hu] at h2
      refine OR.mono he.ext he.zmono he.chg (fun b hz=>eff_free h.hr hz) (eff_same he hu) (fun b c hs ⟨i,o',c',q1,q2,q3⟩=>?_) (h.hr.at_ id o h2)
      have:=h.hr.inj i id o' o b c' c q2 h2 q3 hs
      subst this; exact q1 hu
    · exact he.objs id o (new h1 hu)
  · by_cases hu:ulook U id=none
    · by_cases hu':ulook U id'=none
      · obtain ⟨q1,q2,_⟩:=old h1 hu h3
        obtain ⟨r1,r2,_⟩:=old h2 hu' h4
        exact h.hr.inj id id' o o' b c c' q1 r1 q2 r2
      · exact (clash h2 hu' h4 h1 hu h3).elim
    · by_cases hu':ulook U id'=none
      · exact (clash h1 hu h3 h2 hu' h4).elim
      · exact he.inj id id' o o' b c c' (new h1 hu) (new h2 hu') h3 h4
  · by_cases hu:ulook U id=none
    · obtain ⟨q1,q2,q3⟩:=old h1 hu h2
      intro hz
      rcases he.znew b hz with hz | ⟨hz,_⟩ | ⟨i,o',c',r1,r2,r3⟩
      · exact h.hr.off id o b c q1 q2 hz
      · omega
      · have:=h.hr.inj i id o' o b c' c r2 q1 r3 q2
        subst this; exact r1 hu
    · exact (he.off id o b c (new h1 hu) h2).1
  · rcases he.znew b hb with hz | ⟨_,hz⟩ | ⟨i,o',c',_,r2,r3⟩
    · exact Nat.lt_of_lt_of_le (h.hr.zlt b hz) he.chg.size
    · exact hz
    · exact Nat.lt_of_lt_of_le ((h.hr.at_ i o' r2).lt r3) he.chg.size
  · have f:=h.fr id (Nat.le_trans hle hid) hit
    have hu:ulook U id=none:=by
      cases hu:ulook U id with
      | none=>rfl
      | some q =>
        rcases hk id (by rw [hu]; simp) with h1 | ⟨_,h1⟩
        · exact absurd f.2 h1
        · omega
    exact ⟨he.dom id f.1 (.inl hu),by rw [hlook_happ,hu]; exact f.2⟩
  · refine he.dom id (h.dom id h0 hnot) ?_
    by_cases hu:ulook U id=none
    · exact .inl hu
    · rcases hk id hu with q | ⟨q1,q2⟩
      · exact .inr q
      · exact absurd ⟨Nat.le_trans h.lo q1,Nat.lt_of_lt_of_le q2 htop⟩ hnot
  · by_cases hu:ulook U id=none
    · obtain ⟨q1,q2,_⟩:=old h1 hu h2
      exact h.own id o b c q1 q2
    · obtain ⟨_,q⟩:=he.off id o b c (new h1 hu) h2
      rcases q with q | ⟨i,o',c',_,q2,q3⟩
      · left; have:=h.chg.size; omega
      · exact h.own i o' b c' q2 q3
  · refine (h.chg.trans he.chg).mono fun b hb hm=>?_
    rcases hm with hm | ⟨i,o',c',_,q2,q3⟩
    · exact hm
    · rcases h.own i o' b c' q2 q3 with q | q
      · omega
      · exact q
  · rcases he.znew b hb with hz | ⟨hz,_⟩ | ⟨i,o',c',_,r2,r3⟩
    · exact h.zold b hz
    · right; left; have:=h.chg.size; omega
    · exact .inr (h.own i o' b c' r2 r3)
end
end Go.PX
