/- Proved: a slice that came in as an argument reads as plain rows; the code that came in reads as plain data. -/
import Derived.Test.YtlkcidmmpeebeaaRows
import Derived.Test.YtlkcidmmpeebeaaOpA
import Derived.Test.YtlkcidmmpeebeaaPt
set_option linter.unusedVariables false
set_option linter.unusedSimpArgs false
namespace Go.Proofs.Ytlkcidmmpeebeaa
open Go.ChangeShapes Go.WideShapes Go.Deep Go.RowKit Go.PX Go.SX
theorem spot_none {w:World} {a:Addr} {v:Value} (h:w.cell? (a.add 0)=some v):∃ b off,a=⟨b,off,none⟩:=by
  obtain ⟨b,off,spot⟩:=a
  cases spot with
  | none=>exact ⟨b,off,rfl⟩
  | some s=>simp [Addr.add,World.cell?] at h; split at h <;> simp_all
theorem add_none (b off k:Nat):(⟨b,off,none⟩:Addr).add k=⟨b,off+k,none⟩:=by unfold Addr.add; split <;> simp_all
theorem list_of {α:Type} {R:Nat→α→Prop}:∀ n:Nat,(∀ i,i<n→∃ p,R i p)→∃ l:List α,l.length=n∧∀ i p,l[i]?=some p→R i p
  | 0,_=>⟨[],rfl,by simp⟩
  | n+1,h=>by
    obtain ⟨l,hl,hr⟩:=list_of n (fun i hi=>h i (by omega))
    obtain ⟨p,hp⟩:=h n (by omega)
    refine ⟨l++[p],by simp [hl],fun i q hq=>?_⟩
    rcases Nat.lt_or_ge i l.length with hi | hi
    · rw [List.getElem?_append_left hi] at hq; exact hr i q hq
    · rw [List.getElem?_append_right hi] at hq
      have e0:i-l.length=0:=by have:=(List.getElem?_eq_some_iff.1 hq).1; simp at this; omega
      rw [e0] at hq
      obtain rfl:p=q:=by simpa using hq
      obtain rfl:i=n:=by omega
      exact hp
section
variable {H:Type} {enc:TypeId × Value→H} {w:World}
abbrev Zw (w:World):Nat→Prop:=(·<w.heap.size)
theorem lt_of_cell {b off:Nat} {v:Value} (h:w.cell? ⟨b,off,none⟩=some v):b<w.heap.size:=by
  unfold World.cell? at h
  cases hb:w.heap[b]? with
  | none=>simp [hb] at h
  | some o=>exact (Array.getElem?_eq_some_iff.1 hb).1

theorem open_imm {P:Program} {α:Type} {sz n:Nat} {t e:TypeId} {v:Value} (f:α→List PV) (Q:α→Prop) (ht:P.underlying t=some (.slice e)) (hC:P.cellsOf e=sz) (hB:1≤P.bytesOf e) (hs:1≤sz)
    (hf:∀ x,(f x).length=sz∧ones (f x)=true)
    (he:∀ (n:Nat) (cs:List Value),Arg.Op enc P w n e cs→cs.length=sz→∃ x:α,Q x∧∀ (i:Nat) (u:Value) (y:PV),cs[i]?=some u→(f x)[i]?=some y→IR (Zw w) w u y)
    (h:Arg.Op enc P w n t [v]):∃ xs:List α,(∀ x∈xs,Q x)∧xs.length≤140737488351232∧IR (Zw w) w v (.imm sz (xs.map f)):=by
  rcases h.sl ht with hcs | ⟨a,len,cap,m,hcs,hl,hm,hb,hi⟩
  · obtain rfl:v=.slice none 0 0:=by simpa using hcs
    exact ⟨[],by simp,by simp,imm_to (A:=none) (cap:=0) f [] (by simp) (by simp) (by simp)⟩
  · obtain rfl:v=.slice (some a) len cap:=by simpa using hcs
    have hlen:len≤140737488351232:=Nat.le_trans (Nat.le_mul_of_pos_right _ hB) hb
    obtain ⟨xs,hx,hr⟩:=list_of (R:=fun i (x:α)=>Q x∧∃ (b off:Nat) (l:List Value),a=⟨b,off,none⟩∧b<w.heap.size∧l.length=sz∧(∀ (j:Nat) (u:Value),l[j]?=some u→w.cell? ⟨b,off+i*sz+j,none⟩=some u)∧∀ (j:Nat) (u:Value) (y:PV),l[j]?=some u→(f x)[j]?=some y→IR (Zw w) w u y) len (fun i him=>by
      obtain ⟨cs,hc,ho⟩:=hi i him
      rw [hC] at hc
      obtain ⟨_,hcl,hat⟩:=World.cells?_some hc
      obtain ⟨x,hq,hy⟩:=he m cs ho hcl
      obtain ⟨b,off,rfl⟩:∃ b off,a=⟨b,off,none⟩:=by
        obtain ⟨cs0,hc0,_⟩:=hi 0 (by omega)
        rw [hC] at hc0
        obtain ⟨_,hcl0,hat0⟩:=World.cells?_some hc0
        have:=hat0 0 (by omega)
        rw [List.getElem?_eq_getElem (by omega),Go.Deep.add_add] at this
        exact spot_none (by simpa using this)
      have hcell:∀ (j:Nat) (u:Value),cs[j]?=some u→w.cell? ⟨b,off+i*sz+j,none⟩=some u:=fun j u hu=>by
        have hj:j<cs.length:=(List.getElem?_eq_some_iff.1 hu).1
        have:=hat j (by omega)
        rw [hu,add_none,add_none] at this
        exact this
      exact ⟨x,hq,b,off,cs,rfl,lt_of_cell (hcell 0 _ (List.getElem?_eq_getElem (by omega))),hcl,hcell,hy⟩)
    subst hx
    refine ⟨xs,fun x hx=>?_,hlen,imm_to f xs ⟨hl,hlen⟩ ⟨by simpa [maxLen] using hm,by simp⟩ fun k x hk=>?_⟩
    · obtain ⟨k,hk⟩:=List.getElem?_of_mem hx
      exact (hr k x hk).1
    · obtain ⟨_,b,off,l,rfl,q⟩:=hr k x hk
      exact ⟨(hf x).1,(hf x).2,b,off,l,rfl,q⟩

/-- a cell that holds an int -/
theorem leaf_int {cs:List Value} {n:Nat} {t:TypeId} (k i:Nat) (hl:Arg.leaf Try.prog k t i=some 3) (h:Arg.Op enc Try.prog w n t cs):∃ x,I64 x∧cs[i]?=some (.int .i64 x):=by
  obtain ⟨m,v,hv,ho⟩:=Arg.Op.leaf k hl h
  obtain ⟨x,hx,hw⟩:=ho.int Try.underlying3
  obtain rfl:v=.int .i64 x:=by simpa using hx
  exact ⟨x,Go.bounds_i64 hw,hv⟩
theorem irs_nil {cs:List Value} {k:Nat} {w:World}:∀ (i:Nat) (u:Value) (y:PV),cs[k+i]?=some u→([]:List PV)[i]?=some y→IR (Zw w) w u y:=fun i u y _ h=>by simp at h
theorem irs_cons {cs:List Value} {k:Nat} {w:World} {u:Value} {y:PV} {l:List PV} (hu:cs[k]?=some u) (h:IR (Zw w) w u y) (hr:∀ (i:Nat) (u:Value) (y:PV),cs[k+1+i]?=some u→l[i]?=some y→IR (Zw w) w u y) :
    ∀ (i:Nat) (u:Value) (y':PV),cs[k+i]?=some u→(y::l)[i]?=some y'→IR (Zw w) w u y'
  | 0,u',y',h1,h2=>by
    simp only [Nat.add_zero,hu,Option.some.injEq] at h1
    simp only [List.getElem?_cons_zero,Option.some.injEq] at h2
    subst h1 h2; exact h
  | i+1,u',y',h1,h2=>hr i u' y' (by rw [← h1]; congr 1; omega) (by simpa using h2)
theorem irs_int {cs:List Value} {k:Nat} {w:World} {x:Int} {l:List PV} (hu:cs[k]?=some (.int .i64 x)) (hr:∀ (i:Nat) (u:Value) (y:PV),cs[k+1+i]?=some u→l[i]?=some y→IR (Zw w) w u y) :
    ∀ (i:Nat) (u:Value) (y':PV),cs[k+i]?=some u→(PV.sc (.int .i64 x)::l)[i]?=some y'→IR (Zw w) w u y':=irs_cons hu (.sc _ rfl) hr
theorem irs_fin {cs:List Value} {w:World} {l:List PV} (h:∀ (i:Nat) (u:Value) (y:PV),cs[0+i]?=some u→l[i]?=some y→IR (Zw w) w u y):∀ (i:Nat) (u:Value) (y:PV),cs[i]?=some u→l[i]?=some y→IR (Zw w) w u y:=fun i u y h1 h2=>h i u y (by rwa [Nat.zero_add]) h2

theorem open_ints {n:Nat} {v:Value} (h:Arg.Op enc Try.prog w n 35 [v]):∃ xs:List Int,(∀ x∈xs,I64 x)∧xs.length≤140737488351232∧IR (Zw w) w v (.imm 1 (xs.map encI)) :=
  open_imm encI I64 Try.underlying35 (by kernel_rfl) (of_decide_eq_true (by kernel_rfl)) (by decide) (fun x=>⟨rfl,rfl⟩) (fun n cs ho hc=>by
    obtain ⟨x,i,hx⟩:=leaf_int 1 0 (by kernel_rfl) ho
    exact ⟨x,i,irs_fin (irs_int hx irs_nil)⟩) h
end
end Go.Proofs.Ytlkcidmmpeebeaa
