/- Proved: how often each block is led to,counted edge by edge. No program in sight. -/
import Derived.Test.YtlkcidmmpeebeaaEdgR
set_option linter.unusedVariables false
set_option linter.unusedSimpArgs false
namespace Go.Proofs.Ytlkcidmmpeebeaa
open Go.RowKit Go.PX
/-- one more at place e -/
def bumpM (l:List Int) (e:Int):List Int:=if 0≤e then l.set e.toNat (IntKind.i64.wrap ((l[e.toNat]?).getD 0+1)) else l
theorem bumpM_len (l:List Int) (e:Int):(bumpM l e).length=l.length:=by unfold bumpM; split <;> simp
theorem bumpM_yes {l:List Int} {e z:Int} (h:0≤e) (hz:l[e.toNat]?=some z):(l.map encI).set e.toNat [.sc (.int .i64 (IntKind.i64.wrap (z+1)))]=(bumpM l e).map encI:=by
  unfold bumpM; rw [if_pos h,hz,List.map_set]; rfl
theorem bumpM_get {l:List Int} {j:Nat} {z:Int} (e:Int) (h:l[j]?=some z):(bumpM l e)[j]?=some (stepE ((j:Nat):Int) z e):=by
  have hj:=(List.getElem?_eq_some_iff.1 h).1
  unfold bumpM stepE
  by_cases h0:0≤e
  · rw [if_pos h0]
    by_cases hb:e=((j:Nat):Int)
    · have e1:e.toNat=j:=by omega
      rw [e1,h,List.getElem?_set_self hj,if_pos (by simp [hb])]; rfl
    · rw [List.getElem?_set_ne (by omega),h,if_neg (by simpa using hb)]
  · rw [if_neg h0,h,if_neg (by simp; omega)]
/-- the counts after some edges -/
def cntE (bl:List BlockD) (pre:List (EdgT (edX bl) bl.length)):List Int:=pre.foldl (fun l p=>bumpM l (edX bl p.1)) (List.replicate bl.length 0)
theorem cntE_snoc (bl:List BlockD) (pre:List (EdgT (edX bl) bl.length)) (x:EdgT (edX bl) bl.length):cntE bl (pre++[x])=bumpM (cntE bl pre) (edX bl x.1):=by
  unfold cntE; rw [List.foldl_append]; rfl
theorem cntE_map (bl:List BlockD) (pre:List (EdgT (edX bl) bl.length)):cntE bl pre=(pre.map (·.1)).foldl (fun l p=>bumpM l (edX bl p)) (List.replicate bl.length 0):=by
  unfold cntE; rw [List.foldl_map]
theorem foldB_len (bl:List BlockD):∀ (l:List Nat) (m:List Int),(l.foldl (fun l p=>bumpM l (edX bl p)) m).length=m.length
  | [],m=>rfl
  | p::l,m=>by rw [List.foldl_cons,foldB_len bl l,bumpM_len]
theorem cntE_len (bl:List BlockD) (pre:List (EdgT (edX bl) bl.length)):(cntE bl pre).length=bl.length:=by
  rw [cntE_map,foldB_len,List.length_replicate]
/-- the first m places,all of them -/
def cntP (bl:List BlockD) (m:Nat):List Int:=(edgP (edX bl) m).foldl (fun l p=>bumpM l (edX bl p)) (List.replicate bl.length 0)
theorem cntP_succ (bl:List BlockD) (m:Nat):cntP bl (m+1)=bumpM (cntP bl m) (edX bl m):=by
  unfold cntP
  by_cases h:0≤edX bl m
  · rw [edgP_yes h,List.foldl_append]; rfl
  · rw [edgP_no h]; unfold bumpM; rw [if_neg h]
theorem cntP_get (c:CodeD) {j:Nat} (hj:j<c.blocks.length):∀ k,k≤c.blocks.length→(cntP c.blocks (2*k))[j]?=some (edgesK c ((j:Nat):Int) k)
  | 0,_=>by simp [cntP,edgP,edgesK,hj]
  | k+1,h=>by
    obtain ⟨y,hy⟩:=get_of_lt (show k<c.blocks.length by omega)
    have e0:edX c.blocks (2*k)=y.term.b0:=by unfold edX; rw [show 2*k / 2=k by omega,hy]; simp
    have e1:edX c.blocks (2*k+1)=y.term.b1:=by unfold edX; rw [show (2*k+1) / 2=k by omega,hy]; simp [show (2*k+1) % 2=1 by omega]
    rw [show 2*(k+1)=2*k+1+1 by omega,cntP_succ,cntP_succ,e0,e1,edgesK_succ hy]
    exact bumpM_get _ (bumpM_get _ (cntP_get c hj k (by omega)))
/-- where an edge lies -/
theorem edX_at {bl:List BlockD} (x:EdgT (edX bl) bl.length):∃ y,bl[x.1 / 2]?=some y∧edR bl x.1=encB y∧0≤edX bl x.1∧((x.1 % 2=0∧edX bl x.1=y.term.b0)∨(x.1 % 2=1∧edX bl x.1=y.term.b1)):=by
  obtain ⟨p,h1,h2⟩:=x
  obtain ⟨y,hy⟩:=get_of_lt (show p / 2<bl.length by omega)
  refine ⟨y,hy,by unfold edR; rw [hy]; rfl,h2,?_⟩
  show (p % 2=0∧edX bl p=_)∨(p % 2=1∧edX bl p=_)
  unfold edX
  rw [hy]
  rcases Nat.mod_two_eq_zero_or_one p with h | h
  · exact .inl ⟨h,by simp [h]⟩
  · exact .inr ⟨h,by simp [h]⟩
end Go.Proofs.Ytlkcidmmpeebeaa
