/- Proved: a row of blocks of the call's own,whose slices lie in old memory or in new memory that is not written. -/
import Derived.Test.YtlkcidmmpeebeaaBlk
set_option linter.unusedVariables false
set_option linter.unusedSimpArgs false
namespace Go.Proofs.Ytlkcidmmpeebeaa
open Go.RowKit

abbrev V4:=Value × Value × Value × Value
def blkC (x:V4 × BlockD):List Value:=[.int .i64 x.2.params,x.1.1,.int .i64 x.2.term.kind,.int .i64 x.2.term.a,.int .i64 x.2.term.n,x.1.2.1,.int .i64 x.2.term.b0,x.1.2.2.1,.int .i64 x.2.term.b1,x.1.2.2.2]
theorem blkC_len (x:V4 × BlockD):(blkC x).length=10:=rfl
/-- where the slices of a block may lie -/
def Lie (q:Nat→Prop) (u:V4) (o:BlockD):Prop :=
  (o.ops≠[]→∀ e,u.1.ownBlock=some e→q e)∧(o.term.args≠[]→∀ e,u.2.1.ownBlock=some e→q e)∧(o.term.args0≠[]→∀ e,u.2.2.1.ownBlock=some e→q e)∧(o.term.args1≠[]→∀ e,u.2.2.2.ownBlock=some e→q e)
theorem Lie.mono {q q':Nat→Prop} {u:V4} {o:BlockD} (h:Lie q u o) (hq:∀ e,q e→q' e):Lie q' u o :=
  ⟨fun a e b=>hq e (h.1 a e b),fun a e b=>hq e (h.2.1 a e b),fun a e b=>hq e (h.2.2.1 a e b),fun a e b=>hq e (h.2.2.2 a e b)⟩
theorem Lie.and {q q':Nat→Prop} {u:V4} {o:BlockD} (h:Lie q u o) (h':Lie q' u o):Lie (fun e=>q e∧q' e) u o :=
  ⟨fun a e b=>⟨h.1 a e b,h'.1 a e b⟩,fun a e b=>⟨h.2.1 a e b,h'.2.1 a e b⟩,fun a e b=>⟨h.2.2.1 a e b,h'.2.2.1 a e b⟩,fun a e b=>⟨h.2.2.2 a e b,h'.2.2.2 a e b⟩⟩
def BlkV (w:World) (u:V4) (o:BlockD):Prop:=BlkAt w u.1 u.2.1 u.2.2.1 u.2.2.2 o
theorem IntsAt.grown {w w':World} {row:Option Nat} {v:Value} {xs:List Int} (h:IntsAt w v xs) (hg:w.grownBy w' row) (ho:xs≠[]→∀ e,v.ownBlock=some e→row≠some e):IntsAt w' v xs:=by
  obtain ⟨A,cap,rfl,h1,h2,h3⟩:=h
  refine ⟨A,cap,rfl,h1,h2,fun k x hx=>?_⟩
  obtain ⟨b,off,rfl,h4,h5⟩:=h3 k x hx
  have hlt:b<w.heap.size:=World.block_lt_of_cell? w _ h5
  refine ⟨b,off,rfl,h4,?_⟩
  rw [World.cell?_of_block (w:=w) (hg.block b hlt (fun e=>ho (ne_of_get hx) b rfl e.symm))]; exact h5
theorem OpsAt.grown {w w':World} {row:Option Nat} {v:Value} {xs:List OpD} (h:OpsAt w v xs) (hg:w.grownBy w' row) (ho:xs≠[]→∀ e,v.ownBlock=some e→row≠some e):OpsAt w' v xs:=by
  obtain ⟨A,cap,rfl,h1,h2,h3⟩:=h
  refine ⟨A,cap,rfl,h1,h2,fun k x hx=>?_⟩
  obtain ⟨b,off,rfl,h4,c0,c1,c2,c3,c4,c5,c6,c7,c8,c9,c10⟩:=h3 k x hx
  have hlt:b<w.heap.size:=World.block_lt_of_cell? w _ c0
  have q:∀ o,w'.cell? ⟨b,o,none⟩=w.cell? ⟨b,o,none⟩:=fun o=>World.cell?_of_block (w:=w) (hg.block b hlt (fun e=>ho (ne_of_get hx) b rfl e.symm))
  exact ⟨b,off,rfl,h4,(q _).trans c0,(q _).trans c1,(q _).trans c2,(q _).trans c3,(q _).trans c4,(q _).trans c5,(q _).trans c6,(q _).trans c7,(q _).trans c8,(q _).trans c9,(q _).trans c10⟩
theorem BlkV.grown {w w':World} {row:Option Nat} {u:V4} {o:BlockD} (h:BlkV w u o) (hg:w.grownBy w' row) (ho:Lie (fun e=>row≠some e) u o):BlkV w' u o :=
  ⟨h.1,h.2.1.grown hg ho.1,h.2.2.1.grown hg ho.2.1,h.2.2.2.1.grown hg ho.2.2.1,h.2.2.2.2.grown hg ho.2.2.2⟩
theorem BlkV.but {w w':World} {n:Nat} {u:V4} {o:BlockD} (h:BlkV w u o) (hb:SX.But n w w') (ho:Lie (fun e=>e≠n) u o):BlkV w' u o :=
  ⟨h.1,h.2.1.but hb ho.1,h.2.2.1.but hb ho.2.1,h.2.2.2.1.but hb ho.2.2.1,h.2.2.2.2.but hb ho.2.2.2⟩
theorem own_lt_I {w:World} {v:Value} {xs:List Int} (h:IntsAt w v xs):xs≠[]→∀ e,v.ownBlock=some e→e<w.heap.size:=fun hne e he=>by
  obtain ⟨A,cap,rfl,h1,h2,h3⟩:=h
  cases xs with
  | nil=>exact absurd rfl hne
  | cons x xs =>
    obtain ⟨b,off,rfl,h4,h5⟩:=h3 0 x rfl
    have hlt:b<w.heap.size:=World.block_lt_of_cell? w _ h5
    simp only [Value.ownBlock,Option.some.injEq] at he
    omega
theorem own_lt_O {w:World} {v:Value} {xs:List OpD} (h:OpsAt w v xs):xs≠[]→∀ e,v.ownBlock=some e→e<w.heap.size:=fun hne e he=>by
  obtain ⟨A,cap,rfl,h1,h2,h3⟩:=h
  cases xs with
  | nil=>exact absurd rfl hne
  | cons x xs =>
    obtain ⟨b,off,rfl,h4,h5,_⟩:=h3 0 x rfl
    have hlt:b<w.heap.size:=World.block_lt_of_cell? w _ h5
    simp only [Value.ownBlock,Option.some.injEq] at he
    omega
theorem BlkV.lt {w:World} {u:V4} {o:BlockD} (h:BlkV w u o):Lie (fun e=>e<w.heap.size) u o:=⟨own_lt_O h.2.1,own_lt_I h.2.2.1,own_lt_I h.2.2.2.1,own_lt_I h.2.2.2.2⟩

/-- a row of blocks: B0: where new memory begins; B: where the row may lie; H: what has been made up to the last append -/
structure BlocksOwn (w:World) (B0 B H:Nat) (v:Value) (xs:List BlockD):Prop where
  h0:B0≤B
  hH:B≤H
  hw:H≤w.heap.size
  len:xs.length≤100000
  row:∃ us:List V4,us.length=xs.length∧Row w B 62 10 v xs.length ((us.zip xs).flatMap blkC)∧(∀ g,v.ownBlock=some g→g<H) ∧
    ∀ (k:Nat) (u:V4) (o:BlockD),us[k]?=some u→xs[k]?=some o→BlkV w u o∧Lie (fun e=>(e<B0∨(B≤e∧e<H))∧v.ownBlock≠some e) u o
theorem BlocksOwn.nil {w:World} {B0 B H:Nat} (h0:B0≤B) (hH:B≤H) (hw:H≤w.heap.size):BlocksOwn w B0 B H (.slice none 0 0) [] :=
  ⟨h0,hH,hw,by simp,[],rfl,Row.nil 62 10 (Nat.le_trans hH hw),(fun g hg=>by cases hg),(fun k u o hu=>by simp at hu)⟩
theorem BlocksOwn.below {w w':World} {B0 B H:Nat} {v:Value} {xs:List BlockD} (h:BlocksOwn w B0 B H v xs) (hb:Below w.heap.size w w'):BlocksOwn w' B0 B H v xs:=by
  obtain ⟨a,b,c,d,us,h1,h2,h3,h4⟩:=h
  exact ⟨a,b,Nat.le_trans c hb.size,d,us,h1,h2.below hb,h3,fun k u o hu ho=>⟨(h4 k u o hu ho).1.below hb,(h4 k u o hu ho).2⟩⟩
theorem BlocksOwn.but {w w':World} {n B0 B H:Nat} {v:Value} {xs:List BlockD} (h:BlocksOwn w B0 B H v xs) (hb:SX.But n w w') (hn:(B0≤n∧n<B)∨H≤n):BlocksOwn w' B0 B H v xs:=by
  obtain ⟨a,b,c,d,us,h1,h2,h3,h4⟩:=h
  refine ⟨a,b,by rw [hb.size]; exact c,d,us,h1,h2.but hb (fun g hg=>?_),h3,fun k u o hu ho=>⟨(h4 k u o hu ho).1.but hb ((h4 k u o hu ho).2.mono fun e he=>?_),(h4 k u o hu ho).2⟩⟩
  · have q1:=h2.ge g hg
    have q2:=h3 g hg
    omega
  · have:=he.1; omega
theorem BlocksOwn.at_ {w:World} {B0 B H:Nat} {v:Value} {xs:List BlockD} (h:BlocksOwn w B0 B H v xs):BlocksAt w v xs:=by
  obtain ⟨a,b,c,d,us,h1,h2,h3,h4⟩:=h
  rcases h2.shape with ⟨rfl,h0⟩ | ⟨g,cap,rfl,hn,hc,hat⟩
  · refine ⟨none,0,by rw [h0],⟨by omega,by omega⟩,⟨by omega,fun _=>rfl⟩,fun k x hx=>?_⟩
    have:=(List.getElem?_eq_some_iff.1 hx).1
    omega
  · refine ⟨some ⟨g,0,none⟩,cap,rfl,⟨hn,by omega⟩,⟨hc,by simp⟩,fun k x hx=>?_⟩
    have hk:=(List.getElem?_eq_some_iff.1 hx).1
    have hu:us[k]?=some us[k]:=List.getElem?_eq_getElem (by omega)
    have hz:(us.zip xs)[k]?=some (us[k],x):=by rw [List.getElem?_zip_eq_some]; exact ⟨hu,hx⟩
    have key:∀ i,i<10→w.cell? ⟨g,0+k*10+i,none⟩=(blkC (us[k],x))[i]?:=fun i hi=>by
      rw [Nat.zero_add,hat _ (by omega),flat_get blkC_len _ k i _ hz hi]
    exact ⟨g,0,us[k].1,us[k].2.1,us[k].2.2.1,us[k].2.2.2,rfl,(h4 k _ x hu hx).1,key 0 (by omega),key 1 (by omega),key 2 (by omega),key 3 (by omega),key 4 (by omega),key 5 (by omega),key 6 (by omega),key 7 (by omega),key 8 (by omega),key 9 (by omega)⟩
theorem BlocksOwn.ge {w:World} {B0 B H:Nat} {v:Value} {xs:List BlockD} (h:BlocksOwn w B0 B H v xs):∀ g,v.ownBlock=some g→B≤g∧g<H:=fun g hg=>by
  obtain ⟨a,b,c,d,us,h1,h2,h3,h4⟩:=h; exact ⟨h2.ge g hg,h3 g hg⟩
def one4 (u:V4):Prop:=u.1.oneCell'=true∧u.2.1.oneCell'=true∧u.2.2.1.oneCell'=true∧u.2.2.2.oneCell'=true
theorem BlkV.one {w:World} {u:V4} {o:BlockD} (h:BlkV w u o):one4 u:=by
  obtain ⟨A1,c1,e1,_⟩:=h.2.1.shape
  obtain ⟨A2,c2,e2,_⟩:=h.2.2.1.shape
  obtain ⟨A3,c3,e3,_⟩:=h.2.2.2.1.shape
  obtain ⟨A4,c4,e4,_⟩:=h.2.2.2.2.shape
  exact ⟨by rw [e1]; rfl,by rw [e2]; rfl,by rw [e3]; rfl,by rw [e4]; rfl⟩
end Go.Proofs.Ytlkcidmmpeebeaa
