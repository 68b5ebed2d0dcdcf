/- Proved: rows of the call's own,onto which the program appends. -/
import Derived.Test.YtlkcidmmpeebeaaMaps
import Derived.Test.YtlkcidmmpeebeaaScB
import Derived.Maps.AppendAt
set_option linter.unusedVariables false
set_option linter.unusedSimpArgs false
namespace Go.Proofs.Ytlkcidmmpeebeaa
open Go.RowKit

def appS (t ty:TypeId) (v u:Value):Sem Next:=do let r ← Builtin.append_ #[t,t] ty #[v,u]; pure (.value r)

theorem grown_below {a w:World} (h:Below a.heap.size a w) (row:Option Nat):a.grownBy w row:=⟨h.os,h.tape,h.output,h.size,fun i hi _=>h.block i hi⟩
theorem grown_but {n:Nat} {a w:World} (h:SX.But n a w):a.grownBy w (some n):=⟨h.os,h.tape,h.output,by rw [h.size]; exact Nat.le_refl _,fun i _ hne=>h.block i (fun e=>hne (by rw [e]))⟩
theorem cells_grown {w w':World} {M:SX.Mem} {row:Option Nat} (hM:SX.Cells w M) (hg:w.grownBy w' row) (hne:∀ x∈M,∀ g,row=some g→x.1.block≠g):SX.Cells w' M:=fun x hx=>by
  have h1:=hM x hx
  have hlt:=World.block_lt_of_cell? w x.1 h1
  rw [World.cell?_of_block (w:=w) (hg.block x.1.block hlt (fun e=>hne x hx x.1.block e.symm rfl))]
  exact h1
theorem gne_nil {row:Option Nat}:∀ x∈([]:SX.Mem),∀ g,row=some g→x.1.block≠g:=fun x hx=>by cases hx
theorem gne_cons {row:Option Nat} {a:Addr} {v:Value} {M:SX.Mem} (h:∀ g,row=some g→a.block≠g) (h':∀ x∈M,∀ g,row=some g→x.1.block≠g):∀ x∈(a,v)::M,∀ g,row=some g→x.1.block≠g:=fun x hx=>by
  rcases List.mem_cons.1 hx with rfl | hx
  · exact h
  · exact h' x hx

/-- a row of the call's own,as the laws have it -/
structure Row (w:World) (B:Nat) (e:TypeId) (size:Nat) (v:Value) (n:Nat) (xs:List Value):Prop where
  own:w.ownsRow B e size v n xs
  base:B≤w.heap.size
theorem Row.below {w w':World} {B:Nat} {e:TypeId} {size:Nat} {v:Value} {n:Nat} {xs:List Value} (h:Row w B e size v n xs) (hb:Below w.heap.size w w'):Row w' B e size v n xs :=
  ⟨h.own.kept (grown_below hb none) (by cases hv:v.ownBlock <;> simp),Nat.le_trans h.base hb.size⟩
theorem Row.but {w w':World} {m B:Nat} {e:TypeId} {size:Nat} {v:Value} {n:Nat} {xs:List Value} (h:Row w B e size v n xs) (hb:SX.But m w w') (hne:∀ g,v.ownBlock=some g→g≠m):Row w' B e size v n xs :=
  ⟨h.own.kept (grown_but hb) (by cases hv:v.ownBlock with | none=>simp | some g=>right; intro e; injection e with e; exact hne g hv e),by rw [hb.size]; exact h.base⟩
theorem Row.grown {w w':World} {B:Nat} {e:TypeId} {size:Nat} {v:Value} {n:Nat} {xs:List Value} {row:Option Nat} (h:Row w B e size v n xs) (hg:w.grownBy w' row) (hne:∀ g,v.ownBlock=some g→∀ k,row=some k→g≠k):Row w' B e size v n xs :=
  ⟨h.own.kept hg (by cases hv:v.ownBlock with | none=>simp | some g=>right; intro e; exact hne g hv g e.symm rfl),Nat.le_trans h.base hg.size⟩
theorem Row.ge {w:World} {B:Nat} {e:TypeId} {size:Nat} {v:Value} {n:Nat} {xs:List Value} (h:Row w B e size v n xs):∀ g,v.ownBlock=some g→B≤g:=fun g hg=>(h.own.lt g hg).1
theorem Row.lt {w:World} {B:Nat} {e:TypeId} {size:Nat} {v:Value} {n:Nat} {xs:List Value} (h:Row w B e size v n xs) {m:Nat} (hm:w.heap.size=m):∀ g,v.ownBlock=some g→g<m:=fun g hg=>by have:=(h.own.lt g hg).2; omega
theorem Row.nil {w:World} {B:Nat} (e:TypeId) (size:Nat) (hB:B≤w.heap.size):Row w B e size (.slice none 0 0) 0 []:=⟨World.ownsRow_nil w B e size,hB⟩

theorem app_run {w:World} {B:Nat} {e:TypeId} {size:Nat} {v:Value} {n:Nat} {xs:List Value} (t ty bytes:TypeId) (z:Value) (hinfo:(Try.prog.info? e).map (fun i=>(i.zero,i.size,i.bytes))=some (some z,size,bytes)) (ht:Try.prog.underlying t=some (.slice e)) (hzs:z.cells.size=size) (hsz:0<size)
    (hown:Row w B e size v n xs) (a:Addr) (m c:Nat) (news:List Value) (hl:news.length=m*size) (hnews:∀ j u,news[j]?=some u→w.cell? (a.add j)=some u) (h1:∀ u∈news,u.oneCell'=true) (h63:n+m≤1000000000000000) (hbytes:(n+m)*bytes≤140737488355328) :
    ∃ v' w',(appS t ty v (.slice (some a) m c)).run Try.prog w=.ok (.value v') w'∧Row w' B e size v' (n+m) (xs++news)∧w.grownBy w' v.ownBlock:=by
  obtain ⟨i0,hi0,hz0,hz1,hz2⟩:=info_parts hinfo
  obtain ⟨v',w',hr,h2,h3,_,_⟩:=run_append_own_at (P:=Try.prog) w B t ty e i0 z size bytes ht hi0 hz0 hz1 hz2 hzs hsz v n xs hown.own a m c news hl hnews h1 (by simp only [maxLen]; omega) hbytes hown.base
  refine ⟨v',w',?_,⟨h2,Nat.le_trans hown.base h3.size⟩,h3⟩
  unfold appS
  rw [Sem.run_bind,hr]; rfl

theorem int_info:(Try.prog.info? 3).map (fun i=>(i.zero,i.size,i.bytes))=some (some (.int .i64 0),1,8):=by kernel_rfl

/-- a row of ints of the call's own -/
def IntsOwn (w:World) (B:Nat) (v:Value) (xs:List Int):Prop:=Row w B 3 1 v xs.length (xs.map (Value.int .i64))∧(∀ x∈xs,I64 x)∧xs.length≤140737488351232
theorem IntsOwn.nil {w:World} {B:Nat} (hB:B≤w.heap.size):IntsOwn w B (.slice none 0 0) []:=⟨Row.nil 3 1 hB,by simp,by simp⟩
theorem IntsOwn.below {w w':World} {B:Nat} {v:Value} {xs:List Int} (h:IntsOwn w B v xs) (hb:Below w.heap.size w w'):IntsOwn w' B v xs:=⟨h.1.below hb,h.2⟩
theorem IntsOwn.but {w w':World} {n B:Nat} {v:Value} {xs:List Int} (h:IntsOwn w B v xs) (hb:SX.But n w w') (hne:∀ g,v.ownBlock=some g→g≠n):IntsOwn w' B v xs:=⟨h.1.but hb hne,h.2⟩
theorem IntsOwn.lt {w:World} {B:Nat} {v:Value} {xs:List Int} (h:IntsOwn w B v xs) {m:Nat} (hm:w.heap.size=m):∀ g,v.ownBlock=some g→g<m:=h.1.lt hm
theorem IntsOwn.ge {w:World} {B:Nat} {v:Value} {xs:List Int} (h:IntsOwn w B v xs):∀ g,v.ownBlock=some g→B≤g:=h.1.ge
theorem IntsOwn.at_ {w:World} {B:Nat} {v:Value} {xs:List Int} (h:IntsOwn w B v xs):IntsAt w v xs:=by
  obtain ⟨⟨h,_⟩,hi,hlen⟩:=h
  rcases h.2 with ⟨rfl,h0⟩ | ⟨g,cap,cur,rfl,hb,hg,hn,hc,hs,ht⟩
  · refine ⟨none,0,by rw [h0],⟨by omega,by omega⟩,⟨by omega,fun _=>rfl⟩,fun k x hx=>?_⟩
    have:=(List.getElem?_eq_some_iff.1 hx).1
    omega
  · refine ⟨some ⟨g,0,none⟩,cap,rfl,⟨hn,hlen⟩,⟨by simpa [maxLen] using hc,by simp⟩,fun k x hx=>⟨g,0,rfl,hi x (List.mem_of_getElem? hx),?_⟩⟩
    have hk:=(List.getElem?_eq_some_iff.1 hx).1
    rw [World.ownsRow.cellAt h (0+k) (by omega)]
    simp [hx]
theorem appI_run {w:World} {B:Nat} {v:Value} {xs:List Int} (hown:IntsOwn w B v xs) (g:Nat) (y:Int) (hc:w.cell? ⟨g,0,none⟩=some (.int .i64 y)) (hy:I64 y) (hlen:xs.length≤1000000000) :
    ∃ v' w',(appS 35 35 v (.slice (some ⟨g,0,none⟩) 1 1)).run Try.prog w=.ok (.value v') w'∧IntsOwn w' B v' (xs++[y])∧w.grownBy w' v.ownBlock:=by
  obtain ⟨v',w',h1,h2,h3⟩:=app_run 35 35 8 (.int .i64 0) int_info Try.underlying35 rfl (by decide) hown.1 ⟨g,0,none⟩ 1 1 [.int .i64 y] rfl
    (by intro j u hu; match j,hu with | 0,hu=>simp at hu; subst hu; simpa [Addr.add] using hc) (by simp [Value.oneCell']) (by omega) (by omega)
  refine ⟨v',w',h1,⟨by simpa using h2,fun x hx=>?_,by simp; omega⟩,h3⟩
  rcases List.mem_append.1 hx with hx | hx
  · exact hown.2.1 x hx
  · obtain rfl:x=y:=by simpa using hx
    exact hy
/-- where a slice's cells lie -/
def Fresh (B:Nat) (v:Value):Prop:=∀ g,v.ownBlock=some g→B≤g
def uptoN (k:Nat):List Int:=(List.range k).map (fun i:Nat=>(i:Int))
theorem uptoN_succ (k:Nat):uptoN (k+1)=uptoN k++[(k:Int)]:=by unfold uptoN; rw [List.range_succ,List.map_append]; rfl
theorem uptoN_len (k:Nat):(uptoN k).length=k:=by simp [uptoN]
theorem upto_eq (n:Int):R.upto n=uptoN n.toNat:=rfl

/-- the cells of a list lie elsewhere -/
def Off (n:Nat) (v:Value) (some_:Prop):Prop:=some_→∀ g,v.ownBlock=some g→g≠n
theorem Off.of_fresh {n B:Nat} {v:Value} {p:Prop} (h:Fresh B v) (hn:n<B):Off n v p:=fun _ g hg=>by have:=h g hg; omega
theorem ne_of_get {α:Type} {xs:List α} {k:Nat} {x:α} (h:xs[k]?=some x):xs≠[]:=by rintro rfl; simp at h
theorem IntsAt.but {w w':World} {n:Nat} {v:Value} {xs:List Int} (h:IntsAt w v xs) (hb:SX.But n w w') (ho:Off n v (xs≠[])):IntsAt w' v xs:=by
  obtain ⟨A,cap,rfl,h1,h2,h3⟩:=h
  refine ⟨A,cap,rfl,h1,h2,fun k x hx=>?_⟩
  obtain ⟨b,off,rfl,h4,h5⟩:=h3 k x hx
  exact ⟨b,off,rfl,h4,(hb.cell (ho (ne_of_get hx) b rfl)).trans h5⟩
theorem IntsAt.off_new {w:World} {n:Nat} {v:Value} {xs:List Int} (h:IntsAt w v xs) (hn:w.heap.size=n):Off n v (xs≠[]):=fun hne g hg=>by
  obtain ⟨A,cap,rfl,h1,h2,h3⟩:=h
  cases xs with
  | nil=>exact absurd rfl hne
  | cons x xs =>
    obtain ⟨b,off,rfl,h4,h5⟩:=h3 0 x rfl
    have hlt:b<w.heap.size:=World.block_lt_of_cell? w _ h5
    simp only [Value.ownBlock,Option.some.injEq] at hg
    omega
theorem RecsAt.but {w w':World} {n:Nat} {v:Value} {xs:List (Int × Int × Int)} (h:RecsAt w v xs) (hb:SX.But n w w') (ho:Off n v (xs≠[])):RecsAt w' v xs:=by
  obtain ⟨A,cap,rfl,h1,h2,h3⟩:=h
  refine ⟨A,cap,rfl,h1,h2,fun k x hx=>?_⟩
  obtain ⟨b,off,rfl,h4,c0,c1,c2⟩:=h3 k x hx
  have q:=ho (ne_of_get hx) b rfl
  exact ⟨b,off,rfl,h4,(hb.cell q).trans c0,(hb.cell q).trans c1,(hb.cell q).trans c2⟩
theorem RecsAt.off_new {w:World} {n:Nat} {v:Value} {xs:List (Int × Int × Int)} (h:RecsAt w v xs) (hn:w.heap.size=n):Off n v (xs≠[]):=fun hne g hg=>by
  obtain ⟨A,cap,rfl,h1,h2,h3⟩:=h
  cases xs with
  | nil=>exact absurd rfl hne
  | cons x xs =>
    obtain ⟨b,off,rfl,h4,h5,_⟩:=h3 0 x rfl
    have hlt:b<w.heap.size:=World.block_lt_of_cell? w _ h5
    simp only [Value.ownBlock,Option.some.injEq] at hg
    omega
theorem OpsAt.but {w w':World} {n:Nat} {v:Value} {xs:List OpD} (h:OpsAt w v xs) (hb:SX.But n w w') (ho:Off n v (xs≠[])):OpsAt w' v xs:=by
  obtain ⟨A,cap,rfl,h1,h2,h3⟩:=h
  refine ⟨A,cap,rfl,h1,h2,fun k x hx=>?_⟩
  obtain ⟨b,off,rfl,h4,c0,c1,c2,c3,c4,c5,c6,c7,c8,c9,c10⟩:=h3 k x hx
  have q:=ho (ne_of_get hx) b rfl
  exact ⟨b,off,rfl,h4,(hb.cell q).trans c0,(hb.cell q).trans c1,(hb.cell q).trans c2,(hb.cell q).trans c3,(hb.cell q).trans c4,(hb.cell q).trans c5,(hb.cell q).trans c6,(hb.cell q).trans c7,(hb.cell q).trans c8,(hb.cell q).trans c9,(hb.cell q).trans c10⟩
theorem OpsAt.off_new {w:World} {n:Nat} {v:Value} {xs:List OpD} (h:OpsAt w v xs) (hn:w.heap.size=n):Off n v (xs≠[]):=fun hne g hg=>by
  obtain ⟨A,cap,rfl,h1,h2,h3⟩:=h
  cases xs with
  | nil=>exact absurd rfl hne
  | cons x xs =>
    obtain ⟨b,off,rfl,h4,h5,_⟩:=h3 0 x rfl
    have hlt:b<w.heap.size:=World.block_lt_of_cell? w _ h5
    simp only [Value.ownBlock,Option.some.injEq] at hg
    omega
end Go.Proofs.Ytlkcidmmpeebeaa
