/- Proved: the iterator of merge.edges gives the edges that lead to a block,in order,to every loop body that keeps which they are. -/
import Derived.Test.YtlkcidmmpeebeaaPcP
import Derived.Test.YtlkcidmmpeebeaaMgP
import Derived.LoopIn
import Derived.WalkKit
import Derived.TacticsInMore
import Derived.Shelf.Abstract
import Derived.Shelf.RegionOpen
set_option linter.unusedVariables false
set_option linter.unusedSimpArgs false
namespace Go.Proofs.Ytlkcidmmpeebeaa
open Go.RowKit Go.Shelf
attribute [local go_sem] Oper.semAt_some

/-- the first m places of edges,those that lead to a block -/
def edgP (x:Nat→Int) (m:Nat):List Nat:=(List.range m).filter fun p=>decide (0≤x p)
theorem edgP_yes {x:Nat→Int} {m:Nat} (h:0≤x m):edgP x (m+1)=edgP x m++[m]:=by
  unfold edgP; rw [List.range_succ,List.filter_append]; simp [h]
theorem edgP_no {x:Nat→Int} {m:Nat} (h:¬ 0≤x m):edgP x (m+1)=edgP x m:=by
  unfold edgP; rw [List.range_succ,List.filter_append]; simp [h]
/-- the address of the edge at place p -/
def edgA (b off p:Nat):Value:=.pointer (some ⟨b,off+p / 2*10+6+p % 2*2,none⟩)
theorem edgP_mono (x:Nat→Int) (m:Nat):∀ d,edgP x m <+: edgP x (m+d)
  | 0=>List.prefix_refl _
  | d+1=>by
    refine (edgP_mono x m d).trans ?_
    by_cases h:0≤x (m+d)
    · rw [← Nat.add_assoc,edgP_yes h]; exact List.prefix_append _ _
    · rw [← Nat.add_assoc,edgP_no h]; exact List.prefix_refl _

set_option maxRecDepth 100000 in
set_option maxHeartbeats 2000000 in
theorem edg_in (n:Nat) (hn:1≤n) (l bx cap len b off M:Nat) (A:Option Addr) (hA:len=0∨A=some ⟨b,off,none⟩) (x:Nat→Int) (hlen:len≤140737488351232) (hM:2*len≤M) (Q:World→Prop)
    (hQ:∀ W,Q W→W.cell? ⟨bx,1,none⟩=some (.slice A len cap)∧∀ k q,k<len→q<2→∃ y:Int,W.cell? ⟨b,off+k*10+6+q*2,none⟩=some (.int .i64 y)∧(0≤y↔0≤x (2*k+q)))
    (J Jx:List Nat→World→Prop)
    (hY:∀ pre p W,p<2*len→0≤x p→J pre W→pre.length<M→YieldAt Fence.wide (n-1) Try.prog l #[edgA b off p] W fun e W'=>(e=.returned (.bool true)∧J (pre++[p]) W'∧(Q W→Q W'))∨(e=.returned (.bool false)∧Jx (pre++[p]) W'))
    (W:World) (hq:Q W) (h0:J [] W) :
    CallsIn Fence.wide n Try.prog 147 #[.func (.yield l) #[] #[],.pointer (some ⟨bx,0,none⟩)] W fun e W'=>(∃ v,e=.returned v)∧((∃ ys,ys=edgP x (2*len)∧J ys W')∨(∃ pre,pre <+: edgP x (2*len)∧Jx pre W')):=by
  have hc:=(hQ W hq).1
  refine callsIn_of_wp Try.func147 rfl trivial ?_ rfl
  simp only [Try.ntmps147,List.size_toArray,List.length_cons,List.length_nil,Nat.reduceAdd,Nat.reduceSub,Array.replicate_succ,Array.replicate_zero,List.push_toArray,List.append_toArray,List.nil_append,List.cons_append]
  gi_wp2
  gi_loopw [9] (fun i wr=>∃ r:Nat,r≤len∧i=.int .i64 (r:Int)∧J (edgP x (2*r)) wr∧Q wr)
    (fun i _=>len-(intOf i).toNat)
  case atStart=>exact ⟨0,Nat.zero_le _,rfl,by simpa [edgP] using h0,hq⟩
  case round =>
    obtain ⟨r,hr,rfl,hJs,hqs⟩:=hrel
    by_cases hlt:r<len
    · obtain ⟨hcx,hcs⟩:=hQ wr hqs
      obtain rfl:A=some ⟨b,off,none⟩:=by exact hA.resolve_left (fun h=>by omega)
      have hw1:IntKind.i64.wrap ((r:Int)+1)=(r:Int)+1:=IntWalk.i64_in _ (by omega)
      gi_wp2
      gi_loopw [18] (fun i wr=>∃ q:Nat,q≤2∧i=.int .i64 (q:Int)∧J (edgP x (2*r+q)) wr∧Q wr) (fun i _=>2-(intOf i).toNat)
      case atStart=>exact ⟨0,Nat.zero_le _,rfl,hJs,hqs⟩
      case round =>
        obtain ⟨q,hq2,rfl,hJq,hqq⟩:=hrel
        by_cases hlt2:q<2
        · obtain ⟨hcx2,hcs2⟩:=hQ _ hqq
          obtain ⟨y,hy,hsg⟩:=hcs2 r q hlt hlt2
          clear hcs2 hcx2 hcs hcx hc hQ
          have hpos:edgA b off (2*r+q)=.pointer (some ⟨b,off+r*10+2+4+q*2,none⟩):=by
            unfold edgA
            rw [show (2*r+q) / 2=r by omega,show (2*r+q) % 2=q by omega,show off+r*10+6+q*2=off+r*10+2+4+q*2 by omega]
          have hy2:wr.cell? ⟨b,off+r*10+2+4+q*2,none⟩=some (.int .i64 y):=by rw [show off+r*10+2+4+q*2=off+r*10+6+q*2 by omega]; exact hy
          have hw2:IntKind.i64.wrap ((q:Int)+1)=(q:Int)+1:=IntWalk.i64_in _ (by omega)
          by_cases hs:0≤x (2*r+q)
          · have hy0:=hsg.2 hs
            have hst:=edgP_yes hs
            have hlenM:(edgP x (2*r+q)).length<M:=by
              have:=List.length_filter_le (fun p=>decide (0≤x p)) (List.range (2*r+q))
              rw [List.length_range] at this
              unfold edgP; omega
            obtain ⟨fn,tmps,assign,body,hyy,hR⟩:=hY _ (2*r+q) wr (by omega) hs hJq hlenM
            rw [hpos] at hyy
            clear hsg hy hY
            gi_wp2
            refine hR.mono ?_
            rintro e W4 (⟨rfl,hJ4,hk4⟩ | ⟨rfl,hJx4⟩)
            · gi_wp2
              go_roundw
              case rel=>exact ⟨q+1,by omega,rfl,by rw [← Nat.add_assoc,hst]; exact hJ4,hk4 hqq⟩
              case measure=>simp [intOf]; omega
            · gi_wp2
              refine bodyPost_ret (results_none rfl _ _ _) rfl ?_
              refine ⟨⟨_,rfl⟩,.inr ⟨_,?_,hJx4⟩⟩
              rw [← hst]
              have:=edgP_mono x (2*r+q+1) (2*len-(2*r+q+1))
              rwa [show 2*r+q+1+(2*len-(2*r+q+1))=2*len by omega] at this
          · have hy0:¬ 0≤y:=fun h=>hs (hsg.1 h)
            have hst:=edgP_no hs
            clear hsg hy hY
            gi_wp2
            refine ⟨fun _ h=>(nomatch h),?_⟩
            gi_wp2
            go_roundw
            case rel=>exact ⟨q+1,by omega,rfl,by rw [← Nat.add_assoc,hst]; exact hJq,hqq⟩
            case measure=>simp [intOf]; omega
        · have hrl:q=2:=by omega
          subst hrl
          gi_wp2
          go_roundw
          case rel=>exact ⟨r+1,by omega,rfl,by rw [show 2*(r+1)=2*r+2 by omega]; exact hJq,hqq⟩
          case measure=>simp [intOf]; omega
    · have hrl:r=len:=by omega
      subst hrl
      gi_wp2
      go_end0
      exact ⟨⟨_,rfl⟩,.inl ⟨_,rfl,hJs⟩⟩
/-- the places of edges that lead to a block -/
abbrev EdgT (x:Nat→Int) (len:Nat):Type:={ p:Nat // p<2*len∧0≤x p }
theorem edg_stops (n:Nat) (hn:1≤n) (bx cap len b off M:Nat) (A:Option Addr) (hA:len=0∨A=some ⟨b,off,none⟩) (x:Nat→Int) (hlen:len≤140737488351232) (hM:2*len≤M) (Q:World→Prop)
    (hQ:∀ W,Q W→W.cell? ⟨bx,1,none⟩=some (.slice A len cap)∧∀ k q,k<len→q<2→∃ y:Int,W.cell? ⟨b,off+k*10+6+q*2,none⟩=some (.int .i64 y)∧(0≤y↔0≤x (2*k+q))) (w0:World) (h0:∀ W,Below w0.heap.size w0 W→Q W) :
    SeqStopsK (PX.FW none) n Try.prog 147 #[.pointer (some ⟨bx,0,none⟩)] (fun p:EdgT x len=>#[edgA b off p.1]) (fun W W'=>Q W→Q W') (fun xs=>xs.map (·.1)=edgP x (2*len)) (fun pre=>pre.map (·.1) <+: edgP x (2*len)) M w0:=by
  intro l J Jx W hW hJ hJx hY hJ0
  refine (edg_in n hn l bx cap len b off M A hA x hlen hM Q hQ (fun l W=>∃ l':List (EdgT x len),l'.map (·.1)=l∧J l' W) (fun l W=>∃ l':List (EdgT x len),l'.map (·.1)=l∧Jx l' W) ?_ W (h0 W hW) ⟨[],rfl,hJ0⟩).mono ?_
  · rintro pre p W1 hp hx ⟨l',rfl,hj⟩ hl
    obtain ⟨fn,tmps,assign,body,hy,hR⟩:=hY l' ⟨p,hp,hx⟩ W1 hj (by simpa using hl)
    refine ⟨fn,tmps,assign,body,hy,hR.mono ?_⟩
    rintro e W' (⟨rfl,h1,h2⟩ | ⟨rfl,h1⟩)
    · exact .inl ⟨rfl,⟨_,by simp,h1⟩,h2⟩
    · exact .inr ⟨rfl,⟨_,by simp,h1⟩⟩
  · rintro e W' ⟨hv,⟨ys,rfl,l',hl,hj⟩ | ⟨pre,hp,l',rfl,hj⟩⟩
    · exact ⟨hv,.inl ⟨l',hl,hj⟩⟩
    · exact ⟨hv,.inr ⟨l',hp,hj⟩⟩
end Go.Proofs.Ytlkcidmmpeebeaa
