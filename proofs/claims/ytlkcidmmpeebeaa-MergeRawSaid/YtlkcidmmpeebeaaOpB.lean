/- Proved: a slice that came in as an argument reads as plain rows; the code that came in reads as plain data. -/
import Derived.Test.YtlkcidmmpeebeaaRows
import Derived.Test.YtlkcidmmpeebeaaOpA
import Derived.Test.YtlkcidmmpeebeaaPt
set_option linter.unusedVariables false
set_option linter.unusedSimpArgs false
namespace Go.Proofs.Ytlkcidmmpeebeaa
open Go.ChangeShapes Go.WideShapes Go.Deep Go.RowKit Go.PX Go.SX
theorem spot_none {w:World} {a:Addr} {v:Value} (h:w.cell? (a.add 0)=some v):∃ b off,a=⟨b,off,none⟩:=by
  obtain ⟨b,off,spot⟩:=a
  cases spot with
  | none=>exact ⟨b,off,rfl⟩
  | some s=>simp [Addr.add,World.cell?] at h; split at h <;> simp_all
theorem add_none (b off k:Nat):(⟨b,off,none⟩:Addr).add k=⟨b,off+k,none⟩:=by unfold Addr.add; split <;> simp_all
theorem list_of {α:Type} {R:Nat→α→Prop}:∀ n:Nat,(∀ i,i<n→∃ p,R i p)→∃ l:List α,l.length=n∧∀ i p,l[i]?=some p→R i p
  | 0,_=>⟨[],rfl,by simp⟩
  | n+1,h=>by
    obtain ⟨l,hl,hr⟩:=list_of n (fun i hi=>h i (by omega))
    obtain ⟨p,hp⟩:=h n (by omega)
    refine ⟨l++[p],by simp [hl],fun i q hq=>?_⟩
    rcases Nat.lt_or_ge i l.length with hi | hi
    · rw [List.getElem?_append_left hi] at hq; exact hr i q hq
    · rw [List.getElem?_append_right hi] at hq
      have e0:i-l.length=0:=by have:=(List.getElem?_eq_some_iff.1 hq).1; simp at this; omega
      rw [e0] at hq
      obtain rfl:p=q:=by simpa using hq
      obtain rfl:i=n:=by omega
      exact hp
section
variable {H:Type} {enc:TypeId × Value→H} {w:World}
abbrev Zw (w:World):Nat→Prop:=(·<w.heap.size)
theorem lt_of_cell {b off:Nat} {v:Value} (h:w.cell? ⟨b,off,none⟩=some v):b<w.heap.size:=by
  unfold World.cell? at h
  cases hb:w.heap[b]? with
  | none=>simp [hb] at h
  | some o=>exact (Array.getElem?_eq_some_iff.1 hb).1

theorem open_imm {P:Program} {α:Type} {sz n:Nat} {t e:TypeId} {v:Value} (f:α→List PV) (Q:α→Prop) (ht:P.underlying t=some (.slice e)) (hC:P.cellsOf e=sz) (hB:1≤P.bytesOf e) (hs:1≤sz)
    (hf:∀ x,(f x).length=sz∧ones (f x)=true)
    (he:∀ (n:Nat) (cs:List Value),Arg.Op enc P w n e cs→cs.length=sz→∃ x:α,Q x∧∀ (i:Nat) (u:Value) (y:PV),cs[i]?=some u→(f x)[i]?=some y→IR (Zw w) w u y)
    (h:Arg.Op enc P w n t [v]):∃ xs:List α,(∀ x∈xs,Q x)∧xs.length≤140737488351232∧IR (Zw w) w v (.imm sz (xs.map f)):=by
  rcases h.sl ht with hcs | ⟨a,len,cap,m,hcs,hl,hm,hb,hi⟩
  · obtain rfl:v=.slice none 0 0:=by simpa using hcs
    exact ⟨[],by simp,by simp,imm_to (A:=none) (cap:=0) f [] (by simp) (by simp) (by simp)⟩
  · obtain rfl:v=.slice (some a) len cap:=by simpa using hcs
    have hlen:len≤140737488351232:=Nat.le_trans (Nat.le_mul_of_pos_right _ hB) hb
    obtain ⟨xs,hx,hr⟩:=list_of (R:=fun i (x:α)=>Q x∧∃ (b off:Nat) (l:List Value),a=⟨b,off,none⟩∧b<w.heap.size∧l.length=sz∧(∀ (j:Nat) (u:Value),l[j]?=some u→w.cell? ⟨b,off+i*sz+j,none⟩=some u)∧∀ (j:Nat) (u:Value) (y:PV),l[j]?=some u→(f x)[j]?=some y→IR (Zw w) w u y) len (fun i him=>by
      obtain ⟨cs,hc,ho⟩:=hi i him
      rw [hC] at hc
      obtain ⟨_,hcl,hat⟩:=World.cells?_some hc
      obtain ⟨x,hq,hy⟩:=he m cs ho hcl
      obtain ⟨b,off,rfl⟩:∃ b off,a=⟨b,off,none⟩:=by
        obtain ⟨cs0,hc0,_⟩:=hi 0 (by omega)
        rw [hC] at hc0
        obtain ⟨_,hcl0,hat0⟩:=World.cells?_some hc0
        have:=hat0 0 (by omega)
        rw [List.getElem?_eq_getElem (by omega),Go.Deep.add_add] at this
        exact spot_none (by simpa using this)
      have hcell:∀ (j:Nat) (u:Value),cs[j]?=some u→w.cell? ⟨b,off+i*sz+j,none⟩=some u:=fun j u hu=>by
        have hj:j<cs.length:=(List.getElem?_eq_some_iff.1 hu).1
        have:=hat j (by omega)
        rw [hu,add_none,add_none] at this
        exact this
      exact ⟨x,hq,b,off,cs,rfl,lt_of_cell (hcell 0 _ (List.getElem?_eq_getElem (by omega))),hcl,hcell,hy⟩)
    subst hx
    refine ⟨xs,fun x hx=>?_,hlen,imm_to f xs ⟨hl,hlen⟩ ⟨by simpa [maxLen] using hm,by simp⟩ fun k x hk=>?_⟩
    · obtain ⟨k,hk⟩:=List.getElem?_of_mem hx
      exact (hr k x hk).1
    · obtain ⟨_,b,off,l,rfl,q⟩:=hr k x hk
      exact ⟨(hf x).1,(hf x).2,b,off,l,rfl,q⟩

/-- a cell that holds an int -/
theorem leaf_int {cs:List Value} {n:Nat} {t:TypeId} (k i:Nat) (hl:Arg.leaf Try.prog k t i=some 3) (h:Arg.Op enc Try.prog w n t cs):∃ x,I64 x∧cs[i]?=some (.int .i64 x):=by
  obtain ⟨m,v,hv,ho⟩:=Arg.Op.leaf k hl h
  obtain ⟨x,hx,hw⟩:=ho.int Try.underlying3
  obtain rfl:v=.int .i64 x:=by simpa using hx
  exact ⟨x,Go.bounds_i64 hw,hv⟩
theorem irs_nil {cs:List Value} {k:Nat} {w:World}:∀ (i:Nat) (u:Value) (y:PV),cs[k+i]?=some u→([]:List PV)[i]?=some y→IR (Zw w) w u y:=fun i u y _ h=>by simp at h
theorem irs_cons {cs:List Value} {k:Nat} {w:World} {u:Value} {y:PV} {l:List PV} (hu:cs[k]?=some u) (h:IR (Zw w) w u y) (hr:∀ (i:Nat) (u:Value) (y:PV),cs[k+1+i]?=some u→l[i]?=some y→IR (Zw w) w u y) :
    ∀ (i:Nat) (u:Value) (y':PV),cs[k+i]?=some u→(y::l)[i]?=some y'→IR (Zw w) w u y'
  | 0,u',y',h1,h2=>by
    simp only [Nat.add_zero,hu,Option.some.injEq] at h1
    simp only [List.getElem?_cons_zero,Option.some.injEq] at h2
    subst h1 h2; exact h
  | i+1,u',y',h1,h2=>hr i u' y' (by rw [← h1]; congr 1; omega) (by simpa using h2)
theorem irs_int {cs:List Value} {k:Nat} {w:World} {x:Int} {l:List PV} (hu:cs[k]?=some (.int .i64 x)) (hr:∀ (i:Nat) (u:Value) (y:PV),cs[k+1+i]?=some u→l[i]?=some y→IR (Zw w) w u y) :
    ∀ (i:Nat) (u:Value) (y':PV),cs[k+i]?=some u→(PV.sc (.int .i64 x)::l)[i]?=some y'→IR (Zw w) w u y':=irs_cons hu (.sc _ rfl) hr
theorem irs_fin {cs:List Value} {w:World} {l:List PV} (h:∀ (i:Nat) (u:Value) (y:PV),cs[0+i]?=some u→l[i]?=some y→IR (Zw w) w u y):∀ (i:Nat) (u:Value) (y:PV),cs[i]?=some u→l[i]?=some y→IR (Zw w) w u y:=fun i u y h1 h2=>h i u y (by rwa [Nat.zero_add]) h2

theorem open_ints {n:Nat} {v:Value} (h:Arg.Op enc Try.prog w n 35 [v]):∃ xs:List Int,(∀ x∈xs,I64 x)∧xs.length≤140737488351232∧IR (Zw w) w v (.imm 1 (xs.map encI)) :=
  open_imm encI I64 Try.underlying35 (by kernel_rfl) (of_decide_eq_true (by kernel_rfl)) (by decide) (fun x=>⟨rfl,rfl⟩) (fun n cs ho hc=>by
    obtain ⟨x,i,hx⟩:=leaf_int 1 0 (by kernel_rfl) ho
    exact ⟨x,i,irs_fin (irs_int hx irs_nil)⟩) h
theorem open_recs {n:Nat} {t e:TypeId} {v:Value} (ht:Try.prog.underlying t=some (.slice e)) (hC:Try.prog.cellsOf e=3) (hB:1≤Try.prog.bytesOf e) (l0:Arg.leaf Try.prog 4 e 0=some 3) (l1:Arg.leaf Try.prog 4 e 1=some 3) (l2:Arg.leaf Try.prog 4 e 2=some 3)
    (h:Arg.Op enc Try.prog w n t [v]):∃ xs:List (Int × Int × Int),(∀ x∈xs,RecI x)∧xs.length≤140737488351232∧IR (Zw w) w v (.imm 3 (xs.map encR)) :=
  open_imm encR RecI ht hC hB (by decide) (fun x=>⟨rfl,rfl⟩) (fun n cs ho hc=>by
    obtain ⟨x0,i0,h0⟩:=leaf_int 4 0 l0 ho
    obtain ⟨x1,i1,h1⟩:=leaf_int 4 1 l1 ho
    obtain ⟨x2,i2,h2⟩:=leaf_int 4 2 l2 ho
    exact ⟨(x0,x1,x2),⟨i0,i1,i2⟩,irs_fin (irs_int h0 (irs_int h1 (irs_int h2 irs_nil)))⟩) h
theorem open_ops {n:Nat} {v:Value} (h:Arg.Op enc Try.prog w n 55 [v]):∃ xs:List OpD,(∀ x∈xs,OpI x)∧xs.length≤140737488351232∧IR (Zw w) w v (.imm 11 (xs.map encO)) :=
  open_imm encO OpI Try.underlying55 (by kernel_rfl) (of_decide_eq_true (by kernel_rfl)) (by decide) (fun x=>⟨rfl,rfl⟩) (fun n cs ho hc=>by
    obtain ⟨x0,i0,h0⟩:=leaf_int 4 0 (by kernel_rfl) ho
    obtain ⟨x1,i1,h1⟩:=leaf_int 4 1 (by kernel_rfl) ho
    obtain ⟨x2,i2,h2⟩:=leaf_int 4 2 (by kernel_rfl) ho
    obtain ⟨x3,i3,h3⟩:=leaf_int 4 3 (by kernel_rfl) ho
    obtain ⟨x4,i4,h4⟩:=leaf_int 4 4 (by kernel_rfl) ho
    obtain ⟨x5,i5,h5⟩:=leaf_int 4 5 (by kernel_rfl) ho
    obtain ⟨x6,i6,h6⟩:=leaf_int 4 6 (by kernel_rfl) ho
    obtain ⟨x7,i7,h7⟩:=leaf_int 4 7 (by kernel_rfl) ho
    obtain ⟨x8,i8,h8⟩:=leaf_int 4 8 (by kernel_rfl) ho
    obtain ⟨x9,i9,h9⟩:=leaf_int 4 9 (by kernel_rfl) ho
    obtain ⟨x10,i10,h10⟩:=leaf_int 4 10 (by kernel_rfl) ho
    exact ⟨⟨x0,x1,x2,x3,x4,x5,x6,x7,x8,x9,x10⟩,⟨i0,i1,i2,i3,i4,i5,i6,i7,i8,i9,i10⟩,
      irs_fin (irs_int h0 (irs_int h1 (irs_int h2 (irs_int h3 (irs_int h4 (irs_int h5 (irs_int h6 (irs_int h7 (irs_int h8 (irs_int h9 (irs_int h10 irs_nil)))))))))))⟩) h
theorem open_blocks {n:Nat} {v:Value} (h:Arg.Op enc Try.prog w n 22 [v]):∃ xs:List BlockD,(∀ x∈xs,BlkI x)∧xs.length≤140737488351232∧IR (Zw w) w v (.imm 10 (xs.map encB)) :=
  open_imm encB BlkI Try.underlying22 (by kernel_rfl) (of_decide_eq_true (by kernel_rfl)) (by decide) (fun x=>⟨rfl,rfl⟩) (fun n cs ho hc=>by
    obtain ⟨x0,i0,h0⟩:=leaf_int 4 0 (by kernel_rfl) ho
    obtain ⟨m1,v1,h1,o1⟩:=Arg.Op.leaf (u:=55) (i:=1) 4 (by kernel_rfl) ho
    obtain ⟨x2,i2,h2⟩:=leaf_int 4 2 (by kernel_rfl) ho
    obtain ⟨x3,i3,h3⟩:=leaf_int 4 3 (by kernel_rfl) ho
    obtain ⟨x4,i4,h4⟩:=leaf_int 4 4 (by kernel_rfl) ho
    obtain ⟨m5,v5,h5,o5⟩:=Arg.Op.leaf (u:=35) (i:=5) 4 (by kernel_rfl) ho
    obtain ⟨x6,i6,h6⟩:=leaf_int 5 6 (by kernel_rfl) ho
    obtain ⟨m7,v7,h7,o7⟩:=Arg.Op.leaf (u:=35) (i:=7) 5 (by kernel_rfl) ho
    obtain ⟨x8,i8,h8⟩:=leaf_int 5 8 (by kernel_rfl) ho
    obtain ⟨m9,v9,h9,o9⟩:=Arg.Op.leaf (u:=35) (i:=9) 5 (by kernel_rfl) ho
    obtain ⟨l1,a1,b1,r1⟩:=open_ops o1
    obtain ⟨l5,a5,b5,r5⟩:=open_ints o5
    obtain ⟨l7,a7,b7,r7⟩:=open_ints o7
    obtain ⟨l9,a9,b9,r9⟩:=open_ints o9
    exact ⟨⟨x0,l1,⟨x2,x3,x4,l5,x6,l7,x8,l9⟩⟩,⟨⟨i0,i2,i3,i4,i6,i8⟩,a1,a5,a7,a9,b1⟩,
      irs_fin (irs_int h0 (irs_cons h1 r1 (irs_int h2 (irs_int h3 (irs_int h4 (irs_cons h5 r5 (irs_int h6 (irs_cons h7 r7 (irs_int h8 (irs_cons h9 r9 irs_nil))))))))))⟩) h
theorem open_code {n:Nat} {cs:List Value} (h:Arg.Op enc Try.prog w n 26 cs) (hc:cs.length=4) :
    ∃ c:CodeD,CodeI c∧c.blocks.length≤140737488351232∧∀ (σ:Nm),VR σ (Zw w) w (.agg cs.toArray) (codeP c):=by
  obtain ⟨x0,i0,h0⟩:=leaf_int 4 0 (by kernel_rfl) h
  obtain ⟨m1,v1,h1,o1⟩:=Arg.Op.leaf (u:=22) (i:=1) 4 (by kernel_rfl) h
  obtain ⟨m2,v2,h2,o2⟩:=Arg.Op.leaf (u:=23) (i:=2) 4 (by kernel_rfl) h
  obtain ⟨m3,v3,h3,o3⟩:=Arg.Op.leaf (u:=24) (i:=3) 4 (by kernel_rfl) h
  obtain ⟨l1,a1,b1,r1⟩:=open_blocks o1
  obtain ⟨l2,a2,b2,r2⟩:=open_recs Try.underlying23 (by kernel_rfl) (of_decide_eq_true (by kernel_rfl)) (by kernel_rfl) (by kernel_rfl) (by kernel_rfl) o2
  obtain ⟨l3,a3,b3,r3⟩:=open_recs Try.underlying24 (by kernel_rfl) (of_decide_eq_true (by kernel_rfl)) (by kernel_rfl) (by kernel_rfl) (by kernel_rfl) o3
  match cs,hc with
  | [u0,u1,u2,u3],_ =>
    simp at h0 h1 h2 h3
    subst h0 h1 h2 h3
    refine ⟨⟨x0,l1,l2,l3⟩,⟨i0,a1,a2,a3⟩,b1,fun σ=>.agg [_,_,_,_] _ rfl rfl fun i u y hu hy=>?_⟩
    match i,hu,hy with
    | 0,hu,hy=>simp at hu hy; subst hu hy; exact .sc _ rfl
    | 1,hu,hy=>simp at hu hy; subst hu hy; exact .imm _ _ _ r1
    | 2,hu,hy=>simp at hu hy; subst hu hy; exact .imm _ _ _ r2
    | 3,hu,hy=>simp at hu hy; subst hu hy; exact .imm _ _ _ r3
end
end Go.Proofs.Ytlkcidmmpeebeaa
