/- Proved: clones and counts of unroll -/
import Derived.Test.YtlkcidmmpeebeaaUnD
import Derived.Test.YtlkcidmmpeebeaaPcH
set_option linter.unusedVariables false
set_option linter.unusedSimpArgs false
namespace Go.Proofs.Ytlkcidmmpeebeaa
open Go.RowKit Go.PX
set_option maxRecDepth 100000
theorem con_frz {P:Program} {f:FuncId} {args:List PX.PV} {lo top:Nat} {r r':PX.PV} {U:PX.Upd} {Hn:PX.Heap} {vs:List Nat} {ob:List PX.Ob} (h:PX.Con P f args [] lo top r U) (hH:PX.okU Hn U=Hn.map fun x=>(some x.2,some x.2)) (hl:PX.keysH Hn=U.map (·.1)) (hv:PX.vw vs Hn [r]=some ([r'],ob)) (hob:PX.AllOb ob) (hr:PX.idsIn [] r'=true) (hall:∀ id o,PX.hlook Hn id=some o→PX.ulook U id=some (some o)):PX.Con P f args [] lo top r' []:=by
 intro w σ Z vs' hHR hvs hfr
 refine (h w σ Z vs' hHR hvs hfr).mono fun e w' ⟨v,σ',Z',he,h1,h2⟩=>?_
 have hlk:=hall
 have hz:∀ b,Z' b→b<w'.heap.size:=fun b q=>by
  rcases h2.znew b q with q | q | ⟨id,o,c,_,q,_⟩
  ·exact Nat.lt_of_lt_of_le (hHR.zlt b q) h2.chg.size
  ·exact q.2
  ·cases q
 have hH2:PX.HR σ' Z' w' Hn:=⟨fun id o q=>h2.objs id o (hlk id o q),fun id id' o o' b c c' q q' k k'=>h2.inj id id' o o' b c c' (hlk id o q) (hlk id' o' q') k k',fun id o b c q k=>(h2.off id o b c (hlk id o q) k).1,hz⟩
 obtain ⟨_,Z1,r2,r3,r4,r5⟩:=PX.vw_sound hv hob hH2 (l:=[v]) (.cons h1 .nil)
 obtain ⟨u,l',e1,r4,_⟩:=r4.inv
 simp only [List.cons.injEq] at e1
 obtain ⟨rfl,_⟩:=e1
 refine ⟨v,σ,Z1,he,r4.restrict (S:=[]) (fun id q=>by simp at q) hr,PX.Ext.refl σ,fun id q _=>q,fun b q=>r2 b (h2.zmono b q),fun b q=>?_,h2.chg.mono fun b _ ⟨id,o,c,_,q,_⟩=>(by cases q),fun id o q=>(by simp [PX.ulook] at q),fun id o b c q=>(by simp [PX.ulook] at q),fun id id' o o' b c c' q=>(by simp [PX.ulook] at q)⟩
 rcases r3 b q with q | ⟨id,o,c,_,q2,q3⟩
 ·rcases h2.znew b q with q | q | ⟨id,o,c,_,q,_⟩
  ·exact .inl q
  ·exact .inr (.inl q)
  ·cases q
 ·obtain ⟨_,q4⟩:=h2.off id o b c (hlk id o q2) q3
  rcases q4 with q4 | ⟨_,_,_,_,q,_⟩
  ·exact .inr (.inl ⟨q4,(hH2.at_ id o q2).lt q3⟩)
  ·cases q
def bump (l:List Int) (e:Int):List Int:=if 0≤e then l.set e.toNat (IntKind.i64.wrap ((l[e.toNat]?).getD 0+1)) else l
def cntK (c:CodeD) (k:Nat):List Int:=(c.blocks.take k).foldl (fun l b=>bump (bump l b.term.b0) b.term.b1) (List.replicate c.blocks.length 0)
theorem cntK_succ {c:CodeD} {k:Nat} {y:BlockD} (hy:c.blocks[k]?=some y):cntK c (k+1)=bump (bump (cntK c k) y.term.b0) y.term.b1:=by
 unfold cntK; rw [List.take_add_one,hy,List.foldl_append]; rfl
theorem bump_len (l:List Int) (e:Int):(bump l e).length=l.length:=by unfold bump; split <;> simp
theorem cntK_len (c:CodeD):∀ k,k≤c.blocks.length→(cntK c k).length=c.blocks.length
 | 0,_=>by simp [cntK]
 | k+1,h=>by
  obtain ⟨y,hy⟩:=get_of_lt (show k<c.blocks.length by omega)
  rw [cntK_succ hy,bump_len,bump_len,cntK_len c k (by omega)]
theorem bump_no {l:List Int} {e:Int} (h:decide ((0:Int)≤e)=false):bump l e=l:=by unfold bump; rw [if_neg (of_decide_eq_false h)]
theorem bump_yes {l:List Int} {e z:Int} (h:decide ((0:Int)≤e)=true) (hz:l[e.toNat]?=some z):(l.map encI).set e.toNat [.sc (.I (IntKind.i64.wrap (z+1)))]=(bump l e).map encI:=by
 unfold bump; rw [if_pos (of_decide_eq_true h),hz,List.map_set]; rfl

set_option maxHeartbeats 400000 in
theorem con_f161 (k:Int):PX.Con Try.prog 161 [(.J k)] [] 1 100000 (.sc (.bool (R.defines k))) []:=by
 refine PX.con_intro [(.J k)] 9 Try.func161 rfl rfl (by kernel_rfl) (by kernel_rfl) ?_
 intro E a hE hS
 generalize E.w0=w at hS ⊢
 have mix:=mixed
 refine PX.G [] [] 1 [] [] [.au] [0] [] hS hE trivial fun a w hS=>?_
 refine PX.G [(.e 2 (.sc (.bool (decide (1≤k)&&decide (k≤15)))))] [] 1 [] [(2,decide (1≤k))] [.au,.au,.au,.au,.au,.pk,.au] [2] [] hS hE trivial fun a w hS=>?_
 refine wp_ret ?_
 try simp only [Exit.then,Exit.inBlock,Nat.reduceEqDiff,↓reduceIte]
 rw [show (.sc (.bool (R.defines k)))=((.sc (.bool (decide (1≤k)&&decide (k≤15)))):PX.PV) from by simp [R.defines]]
 exact PX.ret_s hS hE (by kernel_rfl) (by kernel_rfl) (by kernel_rfl) (.inl rfl)

theorem edges_in {c:CodeD} {b:BlockD} (h:BlkOk c b):(0≤b.term.b0→b.term.b0<(c.blocks.length:Int))∧(0≤b.term.b1→b.term.b1<(c.blocks.length:Int)):=by
 have ht:=h.term
 unfold R.term at ht
 simp only at ht
 have nn:∀ (blk:Int) (args:List Int),R.none_ blk args=true→0≤blk→blk<(c.blocks.length:Int):=fun blk args q q2=>by
  simp only [R.none_,Bool.and_eq_true,beq_iff_eq] at q; omega
 split at ht
 ·cases ht
 split at ht
 ·cases ht
 split at ht
 ·simp only [Bool.and_eq_true] at ht
  exact ⟨fun _=>(edge_ok ht.1).2.1,nn _ _ ht.2⟩
 split at ht
 ·simp only [Bool.and_eq_true] at ht
  exact ⟨fun _=>(edge_ok ht.1).2.1,fun _=>(edge_ok ht.2).2.1⟩
 split at ht
 ·simp only [Bool.and_eq_true,Bool.or_eq_true] at ht
  exact ⟨fun _=>(edge_ok ht.1).2.1,fun q=>ht.2.elim (fun k=>nn _ _ k q) (fun k=>(edge_ok k).2.1)⟩
 split at ht
 ·simp only [Bool.and_eq_true] at ht
  exact ⟨nn _ _ ht.1,nn _ _ ht.2⟩
 ·cases ht

set_option maxHeartbeats 1000000 in
theorem con_f99 (c:CodeD) (hok:∀ (k:Nat) (b:BlockD),c.blocks[k]?=some b→BlkOk c b) (hl:c.blocks.length≤400):PX.Con Try.prog 99 [(codeP c)] [] 1 100000 (.imm 1 ((cntK c c.blocks.length).map encI)) []:=by
 refine PX.con_intro [(codeP c)] 38 Try.func99 rfl rfl (by kernel_rfl) (by kernel_rfl) ?_
 intro E a hE hS
 generalize E.w0=w at hS ⊢
 have mix:=mixed
 refine PX.G [(.e 1 (.ptr 1 0))] [(1,.box 26 (codeL c))] 2 [] [] [.au,.au] [1] [1] hS hE trivial fun a w hS=>?_
 refine PX.G [(.e 3 (.own 2 1 c.blocks.length))] [(2,.row 3 1 true (List.replicate c.blocks.length [(.J 0)]))] 3 [.q ((.sc (.I (((c.blocks.map encB).length:Nat):Int)):PX.PV)=(.sc (.I (c.blocks.length:Int)))),.q ((c.blocks.length:Int)=(c.blocks.length:Nat)),.q ((c.blocks.length:Int)=(c.blocks.length:Nat)),.b (Nat.ble c.blocks.length 1000000000)] [] [.au,.au,.nm (.sc (.I (c.blocks.length:Int))),.mk c.blocks.length,.au] [1,3] [1,2] hS hE ⟨PX.nm_len (by simp),rfl,rfl,by rw [Nat.ble_eq]; omega,trivial⟩ fun a w hS=>?_
 refine wp_seq_k fun K1 hK1=>?_
 refine PX.G [(.e 13 (.imm 10 (c.blocks.map encB))),(.e 14 (.sc (.I (c.blocks.length:Int)))),(.e 15 (.J 0))] [] 3 [.q ((.sc (.I (((c.blocks.map encB).length:Nat):Int)):PX.PV)=(.sc (.I (c.blocks.length:Int))))] [] [.au,.au,.nm (.sc (.I (c.blocks.length:Int))),.au] [3,13,14,15] [2] hS hE ⟨PX.nm_len (by simp),trivial⟩ fun a w hS=>?_
 refine wp_block ?_
 rw [show (List.replicate c.blocks.length [(.J 0)])=(cntK c (0)).map encI from by simp [cntK,encI]] at hS
 refine wp_loop_ghost (fun m2 a' w'=>∃ k:Nat,m2=c.blocks.length-k∧k≤c.blocks.length∧True∧PX.Sat E 38 [(.e 3 (.own 2 1 c.blocks.length)),(.e 13 (.imm 10 (c.blocks.map encB))),(.e 14 (.sc (.I (c.blocks.length:Int)))),(.e 15 (.sc (.I (k:Int))))] [(2,.row 3 1 true ((cntK c (k)).map encI))] 3 a' w') (c.blocks.length-0) ⟨0,rfl,Nat.zero_le _,trivial,(PX.canon [] _ _ 3 hS hE (by kernel_rfl) (by kernel_rfl) (by kernel_rfl))⟩ ?_
 clear hS; rintro m2 a w ⟨k,hm2,hlek,hIk,hS⟩
 refine PX.G [(.e 16 (.sc (.bool (decide ((k:Int)<(c.blocks.length:Int))))))] [] 3 [] [] [.au] [3,13,14,15,16] [2] hS hE trivial fun a w hS=>?_
 refine wp_seq_k fun K3 hK3=>?_
 refine PX.cond_s (decide ((k:Int)<(c.blocks.length:Int))) hS (by kernel_rfl) (fun h4=>?_) (fun h4=>?_)
 ·skip
  refine wp_skip ?_
  refine hK3 _ _ ?_
  refine wp_seq_k fun K5 hK5=>?_
  refine wp_block ?_
  have hlty:k<c.blocks.length:=by simpa using h4
  obtain ⟨y,hy⟩:=get_of_lt hlty
  have oe:=edges_in (hok k y hy)
  refine PX.G [(.e 5 (.ptr 3 0))] [(3,.box 62 (encB y))] 4 [.q ((k:Int)=(k:Int)),.q ((c.blocks.map encB)[k]?=some (encB y))] [] [.ix k (encB y),.au,.au,.au] [3,5,13,14,15] [2,3] hS hE ⟨rfl,PX.map_get hy,trivial⟩ fun a w hS=>?_
  refine PX.G [(.e 21 (.agg [(.J y.term.b0),(.imm 1 (y.term.args0.map encI)),(.J y.term.b1),(.imm 1 (y.term.args1.map encI))])),(.e 22 (.J 0))] [] 4 [] [] [.au,.au,.au,.au] [3,13,14,15,21,22] [2] hS hE trivial fun a w hS=>?_
  refine wp_block ?_
  refine wp_loop_rounds 3 ?_
  rw [rounds_succ]
  refine PX.G [(.e 23 (.sc (.bool true)))] [] 4 [] [] [.au] [3,13,14,15,21,22,23] [2] hS hE trivial fun a w hS=>?_
  refine wp_seq_k fun K6 hK6=>?_
  refine PX.cond_s true hS (by kernel_rfl) (fun h7=>?_) (fun h7=>nomatch h7)
  refine wp_skip ?_
  refine hK6 _ _ ?_
  refine wp_seq_k fun K8 hK8=>?_
  refine wp_block ?_
  refine PX.G [(.e 7 (.ptr 4 0))] [(4,.box 57 [(.J y.term.b0),(.imm 1 (y.term.args0.map encI))])] 5 [.q (0=((0:Nat):Int))] [] [.ix 0 [],.au,.au] [3,7,13,14,15,21,22] [2,4] hS hE ⟨rfl,trivial⟩ fun a w hS=>?_
  refine PX.G [(.e 27 (.sc (.bool (decide (0≤y.term.b0)))))] [] 5 [] [] [.au,.au,.au] [3,7,13,14,15,21,22,27] [2,4] hS hE trivial fun a w hS=>?_
  refine PX.cond_s (decide (0≤y.term.b0)) hS (by kernel_rfl) (fun h9=>?_) (fun h9=>?_)
  ·skip
   have he:=of_decide_eq_true h9
   obtain ⟨z,hz⟩:=get_of_lt (show y.term.b0.toNat<((cntK c (k))).length by (try rw [bump_len]); rw [cntK_len c k (by omega)]; omega)
   refine PX.G0 [] [(2,.row 3 1 true (((cntK c (k)).map encI).set y.term.b0.toNat [(.sc (.I (IntKind.i64.wrap (z+1))))]))] 5 [.q (y.term.b0=(y.term.b0.toNat:Int)),.q (y.term.b0.toNat<c.blocks.length),.q (((cntK c (k)).map encI)[y.term.b0.toNat]?=some (encI z)),.q (y.term.b0=(y.term.b0.toNat:Int)),.q (y.term.b0.toNat<c.blocks.length),.q (((cntK c (k)).map encI)[y.term.b0.toNat]?=some (encI z))] [] [.au,.au,.au,.ix y.term.b0.toNat [],.lr (encI z),.au,.ix y.term.b0.toNat [],.lr (encI z)] [3,13,14,15,21,22] [2] hS hE ⟨by omega,by omega,PX.map_get hz,by omega,by omega,PX.map_get hz,trivial⟩ fun a w hS=>?_
   rw [show (((cntK c (k)).map encI).set y.term.b0.toNat [(.sc (.I (IntKind.i64.wrap (z+1))))])=(bump (cntK c (k)) y.term.b0).map encI from bump_yes h9 hz] at hS
   refine hK8 _ _ ?_
   refine PX.G0 [(.e 22 (.J 1))] [] 5 [] [] [.au,.au] [3,13,14,15,21,22] [2] hS hE trivial fun a w hS=>?_
   show Code.rounds _ _ _ 2 _ _
   rw [rounds_succ]
   refine PX.G [(.e 23 (.sc (.bool true)))] [] 5 [] [] [.au] [3,13,14,15,21,22,23] [2] hS hE trivial fun a w hS=>?_
   refine wp_seq_k fun K10 hK10=>?_
   refine PX.cond_s true hS (by kernel_rfl) (fun h11=>?_) (fun h11=>nomatch h11)
   refine wp_skip ?_
   refine hK10 _ _ ?_
   refine wp_seq_k fun K12 hK12=>?_
   refine wp_block ?_
   refine PX.G [(.e 7 (.ptr 5 0))] [(5,.box 57 [(.J y.term.b1),(.imm 1 (y.term.args1.map encI))])] 6 [.q (1=((1:Nat):Int))] [] [.ix 1 [],.au,.au] [3,7,13,14,15,21,22] [2,5] hS hE ⟨rfl,trivial⟩ fun a w hS=>?_
   refine PX.G [(.e 27 (.sc (.bool (decide (0≤y.term.b1)))))] [] 6 [] [] [.au,.au,.au] [3,7,13,14,15,21,22,27] [2,5] hS hE trivial fun a w hS=>?_
   refine PX.cond_s (decide (0≤y.term.b1)) hS (by kernel_rfl) (fun h13=>?_) (fun h13=>?_)
   ·skip
    have he:=of_decide_eq_true h13
    obtain ⟨z,hz⟩:=get_of_lt (show y.term.b1.toNat<((bump (cntK c (k)) y.term.b0)).length by (try rw [bump_len]); rw [cntK_len c k (by omega)]; omega)
    refine PX.G0 [] [(2,.row 3 1 true (((bump (cntK c (k)) y.term.b0).map encI).set y.term.b1.toNat [(.sc (.I (IntKind.i64.wrap (z+1))))]))] 6 [.q (y.term.b1=(y.term.b1.toNat:Int)),.q (y.term.b1.toNat<c.blocks.length),.q (((bump (cntK c (k)) y.term.b0).map encI)[y.term.b1.toNat]?=some (encI z)),.q (y.term.b1=(y.term.b1.toNat:Int)),.q (y.term.b1.toNat<c.blocks.length),.q (((bump (cntK c (k)) y.term.b0).map encI)[y.term.b1.toNat]?=some (encI z))] [] [.au,.au,.au,.ix y.term.b1.toNat [],.lr (encI z),.au,.ix y.term.b1.toNat [],.lr (encI z)] [3,13,14,15,21,22] [2] hS hE ⟨by omega,by omega,PX.map_get hz,by omega,by omega,PX.map_get hz,trivial⟩ fun a w hS=>?_
    rw [show (((bump (cntK c (k)) y.term.b0).map encI).set y.term.b1.toNat [(.sc (.I (IntKind.i64.wrap (z+1))))])=(bump (bump (cntK c (k)) y.term.b0) y.term.b1).map encI from bump_yes h13 hz] at hS
    refine hK12 _ _ ?_
    refine PX.G0 [(.e 22 (.J 2))] [] 6 [] [] [.au,.au] [3,13,14,15,21,22] [2] hS hE trivial fun a w hS=>?_
    show Code.rounds _ _ _ 1 _ _
    rw [rounds_succ]
    refine PX.G [(.e 23 (.sc (.bool false)))] [] 6 [] [] [.au] [3,13,14,15,21,22,23] [2] hS hE trivial fun a w hS=>?_
    refine wp_seq_k fun K14 hK14=>?_
    refine PX.cond_s false hS (by kernel_rfl) (fun h15=>nomatch h15) (fun h15=>?_)
    refine wp_exit ?_
    refine hK5 _ _ ?_
    refine PX.G0 [(.e 15 (.sc (.I ((k+1:Nat):Int))))] [] 6 [.q ((.sc (.I (IntKind.i64.wrap ((k:Int)+1))):PX.PV)=(.sc (.I ((k+1:Nat):Int))))] [] [.nm (.sc (.I ((k+1:Nat):Int))),.au] [3,13,14,15] [2] hS hE ⟨PX.nm_int (by rw [IntWalk.i64_in _ (by omega)]; omega),trivial⟩ fun a w hS=>?_
    have e1:(bump (bump (cntK c (k)) y.term.b0) y.term.b1)=cntK c (k+1):=by rw [cntK_succ hy]
    rw [e1] at hS
    exact ⟨c.blocks.length-(k+1),by omega,k+1,rfl,by omega,trivial,(PX.canon [] _ _ 3 hS hE (by kernel_rfl) (by kernel_rfl) (by kernel_rfl))⟩
   ·skip
    refine wp_skip ?_
    refine hK12 _ _ ?_
    refine PX.G0 [(.e 22 (.J 2))] [] 6 [] [] [.au,.au] [3,13,14,15,21,22] [2] hS hE trivial fun a w hS=>?_
    show Code.rounds _ _ _ 1 _ _
    rw [rounds_succ]
    refine PX.G [(.e 23 (.sc (.bool false)))] [] 6 [] [] [.au] [3,13,14,15,21,22,23] [2] hS hE trivial fun a w hS=>?_
    refine wp_seq_k fun K16 hK16=>?_
    refine PX.cond_s false hS (by kernel_rfl) (fun h17=>nomatch h17) (fun h17=>?_)
    refine wp_exit ?_
    refine hK5 _ _ ?_
    refine PX.G0 [(.e 15 (.sc (.I ((k+1:Nat):Int))))] [] 6 [.q ((.sc (.I (IntKind.i64.wrap ((k:Int)+1))):PX.PV)=(.sc (.I ((k+1:Nat):Int))))] [] [.nm (.sc (.I ((k+1:Nat):Int))),.au] [3,13,14,15] [2] hS hE ⟨PX.nm_int (by rw [IntWalk.i64_in _ (by omega)]; omega),trivial⟩ fun a w hS=>?_
    have e1:(bump (cntK c (k)) y.term.b0)=cntK c (k+1):=by rw [cntK_succ hy]; rw [bump_no h13]
    rw [e1] at hS
    exact ⟨c.blocks.length-(k+1),by omega,k+1,rfl,by omega,trivial,(PX.canon [] _ _ 3 hS hE (by kernel_rfl) (by kernel_rfl) (by kernel_rfl))⟩
  ·skip
   refine wp_skip ?_
   refine hK8 _ _ ?_
   refine PX.G0 [(.e 22 (.J 1))] [] 5 [] [] [.au,.au] [3,13,14,15,21,22] [2] hS hE trivial fun a w hS=>?_
   show Code.rounds _ _ _ 2 _ _
   rw [rounds_succ]
   refine PX.G [(.e 23 (.sc (.bool true)))] [] 5 [] [] [.au] [3,13,14,15,21,22,23] [2] hS hE trivial fun a w hS=>?_
   refine wp_seq_k fun K18 hK18=>?_
   refine PX.cond_s true hS (by kernel_rfl) (fun h19=>?_) (fun h19=>nomatch h19)
   refine wp_skip ?_
   refine hK18 _ _ ?_
   refine wp_seq_k fun K20 hK20=>?_
   refine wp_block ?_
   refine PX.G [(.e 7 (.ptr 5 0))] [(5,.box 57 [(.J y.term.b1),(.imm 1 (y.term.args1.map encI))])] 6 [.q (1=((1:Nat):Int))] [] [.ix 1 [],.au,.au] [3,7,13,14,15,21,22] [2,5] hS hE ⟨rfl,trivial⟩ fun a w hS=>?_
   refine PX.G [(.e 27 (.sc (.bool (decide (0≤y.term.b1)))))] [] 6 [] [] [.au,.au,.au] [3,7,13,14,15,21,22,27] [2,5] hS hE trivial fun a w hS=>?_
   refine PX.cond_s (decide (0≤y.term.b1)) hS (by kernel_rfl) (fun h21=>?_) (fun h21=>?_)
   ·skip
    have he:=of_decide_eq_true h21
    obtain ⟨z,hz⟩:=get_of_lt (show y.term.b1.toNat<((cntK c (k))).length by (try rw [bump_len]); rw [cntK_len c k (by omega)]; omega)
    refine PX.G0 [] [(2,.row 3 1 true (((cntK c (k)).map encI).set y.term.b1.toNat [(.sc (.I (IntKind.i64.wrap (z+1))))]))] 6 [.q (y.term.b1=(y.term.b1.toNat:Int)),.q (y.term.b1.toNat<c.blocks.length),.q (((cntK c (k)).map encI)[y.term.b1.toNat]?=some (encI z)),.q (y.term.b1=(y.term.b1.toNat:Int)),.q (y.term.b1.toNat<c.blocks.length),.q (((cntK c (k)).map encI)[y.term.b1.toNat]?=some (encI z))] [] [.au,.au,.au,.ix y.term.b1.toNat [],.lr (encI z),.au,.ix y.term.b1.toNat [],.lr (encI z)] [3,13,14,15,21,22] [2] hS hE ⟨by omega,by omega,PX.map_get hz,by omega,by omega,PX.map_get hz,trivial⟩ fun a w hS=>?_
    rw [show (((cntK c (k)).map encI).set y.term.b1.toNat [(.sc (.I (IntKind.i64.wrap (z+1))))])=(bump (cntK c (k)) y.term.b1).map encI from bump_yes h21 hz] at hS
    refine hK20 _ _ ?_
    refine PX.G0 [(.e 22 (.J 2))] [] 6 [] [] [.au,.au] [3,13,14,15,21,22] [2] hS hE trivial fun a w hS=>?_
    show Code.rounds _ _ _ 1 _ _
    rw [rounds_succ]
    refine PX.G [(.e 23 (.sc (.bool false)))] [] 6 [] [] [.au] [3,13,14,15,21,22,23] [2] hS hE trivial fun a w hS=>?_
    refine wp_seq_k fun K22 hK22=>?_
    refine PX.cond_s false hS (by kernel_rfl) (fun h23=>nomatch h23) (fun h23=>?_)
    refine wp_exit ?_
    refine hK5 _ _ ?_
    refine PX.G0 [(.e 15 (.sc (.I ((k+1:Nat):Int))))] [] 6 [.q ((.sc (.I (IntKind.i64.wrap ((k:Int)+1))):PX.PV)=(.sc (.I ((k+1:Nat):Int))))] [] [.nm (.sc (.I ((k+1:Nat):Int))),.au] [3,13,14,15] [2] hS hE ⟨PX.nm_int (by rw [IntWalk.i64_in _ (by omega)]; omega),trivial⟩ fun a w hS=>?_
    have e1:(bump (cntK c (k)) y.term.b1)=cntK c (k+1):=by rw [cntK_succ hy]; rw [bump_no h9]
    rw [e1] at hS
    exact ⟨c.blocks.length-(k+1),by omega,k+1,rfl,by omega,trivial,(PX.canon [] _ _ 3 hS hE (by kernel_rfl) (by kernel_rfl) (by kernel_rfl))⟩
   ·skip
    refine wp_skip ?_
    refine hK20 _ _ ?_
    refine PX.G0 [(.e 22 (.J 2))] [] 6 [] [] [.au,.au] [3,13,14,15,21,22] [2] hS hE trivial fun a w hS=>?_
    show Code.rounds _ _ _ 1 _ _
    rw [rounds_succ]
    refine PX.G [(.e 23 (.sc (.bool false)))] [] 6 [] [] [.au] [3,13,14,15,21,22,23] [2] hS hE trivial fun a w hS=>?_
    refine wp_seq_k fun K24 hK24=>?_
    refine PX.cond_s false hS (by kernel_rfl) (fun h25=>nomatch h25) (fun h25=>?_)
    refine wp_exit ?_
    refine hK5 _ _ ?_
    refine PX.G0 [(.e 15 (.sc (.I ((k+1:Nat):Int))))] [] 6 [.q ((.sc (.I (IntKind.i64.wrap ((k:Int)+1))):PX.PV)=(.sc (.I ((k+1:Nat):Int))))] [] [.nm (.sc (.I ((k+1:Nat):Int))),.au] [3,13,14,15] [2] hS hE ⟨PX.nm_int (by rw [IntWalk.i64_in _ (by omega)]; omega),trivial⟩ fun a w hS=>?_
    have e1:(cntK c (k))=cntK c (k+1):=by rw [cntK_succ hy]; rw [bump_no h9]; rw [bump_no h21]
    rw [e1] at hS
    exact ⟨c.blocks.length-(k+1),by omega,k+1,rfl,by omega,trivial,(PX.canon [] _ _ 3 hS hE (by kernel_rfl) (by kernel_rfl) (by kernel_rfl))⟩
 ·skip
  refine wp_exit ?_
  refine hK1 _ _ ?_
  refine PX.G [(.e 2 (.own 2 1 c.blocks.length))] [] 3 [] [] [.au,.au] [2] [2] hS hE trivial fun a w hS=>?_
  have hk:k=c.blocks.length:=by have:=le_of_dec h4; omega
  replace hS:=PX.fz 2 [(.e 2 (.imm 1 ((cntK c (k)).map encI)))] [] [2] [] [.b (PX.lenIs c.blocks.length ((cntK c (k)).map encI))] hS ⟨(by simp [PX.lenIs,cntK_len c k (by omega)]),trivial⟩
  refine wp_ret ?_
  try simp only [Exit.then,Exit.inBlock,Nat.reduceEqDiff,↓reduceIte]
  rw [show (.imm 1 ((cntK c c.blocks.length).map encI))=((.imm 1 ((cntK c (k)).map encI)):PX.PV) from by rw [hk]]
  exact PX.ret_s hS hE (by kernel_rfl) (by kernel_rfl) (by kernel_rfl) (.inl rfl)

set_option maxHeartbeats 1000000 in
theorem con_f98 (b:BlockD) (hb:BlkI b) (hl0:b.ops.length≤1000000) (hl1:b.term.args.length≤1000000) (hl2:b.term.args0.length≤1000000) (hl3:b.term.args1.length≤1000000):PX.Con Try.prog 98 [(.agg (encB b))] [] 1 100000 (.agg [(.J b.params),(.own 1 11 b.ops.length),(.J b.term.kind),(.J b.term.a),(.J b.term.n),(.own 2 1 b.term.args.length),(.J b.term.b0),(.own 3 1 b.term.args0.length),(.J b.term.b1),(.own 4 1 b.term.args1.length)]) [(1,some (.row 74 11 true (b.ops.map encO))),(2,some (.row 3 1 true (b.term.args.map encI))),(3,some (.row 3 1 true (b.term.args0.map encI))),(4,some (.row 3 1 true (b.term.args1.map encI)))]:=by
 refine PX.con_intro [(.agg (encB b))] 32 Try.func98 rfl rfl (by kernel_rfl) (by kernel_rfl) ?_
 intro E a hE hS
 generalize E.w0=w at hS ⊢
 have mix:=mixed
 refine PX.G [(.e 1 (.ptr 1 0)),(.e 2 (.ptr 2 0))] [(1,.box 62 (encB b)),(2,.box 62 [(.J 0),(.sc (.slice none 0 0)),(.J 0),(.J 0),(.J 0),(.sc (.slice none 0 0)),(.J 0),(.sc (.slice none 0 0)),(.J 0),(.sc (.slice none 0 0))])] 3 [] [] [.au,.au] [1,2] [1,2] hS hE trivial fun a w hS=>?_
 refine PX.G [(.e 3 (.ptr 3 0))] [(3,.box 60 [(.J b.term.kind),(.J b.term.a),(.J b.term.n),(.imm 1 (b.term.args.map encI)),(.J b.term.b0),(.imm 1 (b.term.args0.map encI)),(.J b.term.b1),(.imm 1 (b.term.args1.map encI))])] 4 [] [] [.au,.au,.au,.au] [1,2,3] [1,2,3] hS hE trivial fun a w hS=>?_
 refine PX.G [] [(3,.box 60 [(.J b.term.kind),(.J b.term.a),(.J b.term.n),(.own 4 1 b.term.args.length),(.J b.term.b0),(.imm 1 (b.term.args0.map encI)),(.J b.term.b1),(.imm 1 (b.term.args1.map encI))]),(4,.row 3 1 true (b.term.args.map encI))] 5 [.q (PX.Con Try.prog 49 [(.imm 1 (b.term.args.map encI))] [] 4 5 (.own 4 1 b.term.args.length) [(4,some (.row 3 1 true (b.term.args.map encI)))])] [] [.au,.au,.cl [] (.own 4 1 b.term.args.length) [(4,some (.row 3 1 true (b.term.args.map encI)))] 5,.au,.au] [1,2,3] [1,2,3,4] hS hE ⟨con_cloneI_o hb.2.2.1 hl1,trivial⟩ fun a w hS=>?_
 refine wp_seq_k fun K1 hK1=>?_
 refine PX.G [(.e 11 (.J 0))] [] 5 [] [] [.au] [1,2,3,11] [1,2,3,4] hS hE trivial fun a w hS=>?_
 refine wp_block ?_
 refine wp_loop_rounds 3 ?_
 rw [rounds_succ]
 refine PX.G [(.e 12 (.sc (.bool true)))] [] 5 [] [] [.au] [1,2,3,11,12] [1,2,3,4] hS hE trivial fun a w hS=>?_
 refine wp_seq_k fun K2 hK2=>?_
 refine PX.cond_s true hS (by kernel_rfl) (fun h3=>?_) (fun h3=>nomatch h3)
 refine wp_skip ?_
 refine hK2 _ _ ?_
 refine wp_seq_k fun K4 hK4=>?_
 refine wp_block ?_
 refine PX.G [(.e 4 (.J 0))] [] 5 [] [] [.au,.au] [1,2,3,4,11] [1,2,3,4] hS hE trivial fun a w hS=>?_
 refine PX.G0 [] [(3,.box 60 [(.J b.term.kind),(.J b.term.a),(.J b.term.n),(.own 4 1 b.term.args.length),(.J b.term.b0),(.own 5 1 b.term.args0.length),(.J b.term.b1),(.imm 1 (b.term.args1.map encI))]),(5,.row 3 1 true (b.term.args0.map encI))] 6 [.q (PX.Con Try.prog 49 [(.imm 1 (b.term.args0.map encI))] [] 5 6 (.own 5 1 b.term.args0.length) [(5,some (.row 3 1 true (b.term.args0.map encI)))])] [] [.au,.au,.au,.au,.au,.au,.cl [] (.own 5 1 b.term.args0.length) [(5,some (.row 3 1 true (b.term.args0.map encI)))] 6,.au,.au,.au,.au] [1,2,3,11] [1,2,3,4,5] hS hE ⟨con_cloneI_o hb.2.2.2.1 hl2,trivial⟩ fun a w hS=>?_
 refine hK4 _ _ ?_
 refine PX.G0 [(.e 11 (.J 1))] [] 6 [] [] [.au,.au] [1,2,3,11] [1,2,3,4,5] hS hE trivial fun a w hS=>?_
 show Code.rounds _ _ _ 2 _ _
 rw [rounds_succ]
 refine PX.G [(.e 12 (.sc (.bool true)))] [] 6 [] [] [.au] [1,2,3,11,12] [1,2,3,4,5] hS hE trivial fun a w hS=>?_
 refine wp_seq_k fun K5 hK5=>?_
 refine PX.cond_s true hS (by kernel_rfl) (fun h6=>?_) (fun h6=>nomatch h6)
 refine wp_skip ?_
 refine hK5 _ _ ?_
 refine wp_seq_k fun K7 hK7=>?_
 refine wp_block ?_
 refine PX.G [(.e 4 (.J 1))] [] 6 [] [] [.au,.au] [1,2,3,4,11] [1,2,3,4,5] hS hE trivial fun a w hS=>?_
 refine PX.G0 [] [(3,.box 60 [(.J b.term.kind),(.J b.term.a),(.J b.term.n),(.own 4 1 b.term.args.length),(.J b.term.b0),(.own 5 1 b.term.args0.length),(.J b.term.b1),(.own 6 1 b.term.args1.length)]),(6,.row 3 1 true (b.term.args1.map encI))] 7 [.q (PX.Con Try.prog 49 [(.imm 1 (b.term.args1.map encI))] [] 6 7 (.own 6 1 b.term.args1.length) [(6,some (.row 3 1 true (b.term.args1.map encI)))])] [] [.au,.au,.au,.au,.au,.au,.cl [] (.own 6 1 b.term.args1.length) [(6,some (.row 3 1 true (b.term.args1.map encI)))] 7,.au,.au,.au,.au] [1,2,3,11] [1,2,3,4,5,6] hS hE ⟨con_cloneI_o hb.2.2.2.2.1 hl3,trivial⟩ fun a w hS=>?_
 refine hK7 _ _ ?_
 refine PX.G0 [(.e 11 (.J 2))] [] 7 [] [] [.au,.au] [1,2,3,11] [1,2,3,4,5,6] hS hE trivial fun a w hS=>?_
 show Code.rounds _ _ _ 1 _ _
 rw [rounds_succ]
 refine PX.G [(.e 12 (.sc (.bool false)))] [] 7 [] [] [.au] [1,2,3,11,12] [1,2,3,4,5,6] hS hE trivial fun a w hS=>?_
 refine wp_seq_k fun K8 hK8=>?_
 refine PX.cond_s false hS (by kernel_rfl) (fun h9=>nomatch h9) (fun h9=>?_)
 refine wp_exit ?_
 refine hK1 _ _ ?_
 refine PX.D [] [(2,.box 62 [(.J b.params),(.own 7 11 b.ops.length),(.J b.term.kind),(.J b.term.a),(.J b.term.n),(.own 4 1 b.term.args.length),(.J b.term.b0),(.own 5 1 b.term.args0.length),(.J b.term.b1),(.own 6 1 b.term.args1.length)]),(7,.row 74 11 true (b.ops.map encO))] 8 [.q (PX.Con Try.prog 51 [(.imm 11 (b.ops.map encO))] [] 7 8 (.own 7 11 b.ops.length) [(7,some (.row 74 11 true (b.ops.map encO)))])] [] [.au,.au,.au,.au,.cl [] (.own 7 11 b.ops.length) [(7,some (.row 74 11 true (b.ops.map encO)))] 8,.au,.au,.au] [2] [2,4,5,6,7] hS mixed hE ⟨con_cloneP_o hb.2.1 hl0,trivial⟩ fun a w hS=>?_
 replace hS:=(PX.canon [(1,7),(2,4),(3,5),(4,6),(5,2)] [(.e 2 (.ptr 5 0))] [(1,.row 74 11 true (b.ops.map encO)),(2,.row 3 1 true (b.term.args.map encI)),(3,.row 3 1 true (b.term.args0.map encI)),(4,.row 3 1 true (b.term.args1.map encI)),(5,.box 62 [(.J b.params),(.own 1 11 b.ops.length),(.J b.term.kind),(.J b.term.a),(.J b.term.n),(.own 2 1 b.term.args.length),(.J b.term.b0),(.own 3 1 b.term.args0.length),(.J b.term.b1),(.own 4 1 b.term.args1.length)])] 6 hS hE (by kernel_rfl) (by kernel_rfl) (by kernel_rfl))
 refine wp_ret ?_
 try simp only [Exit.then,Exit.inBlock,Nat.reduceEqDiff,↓reduceIte]
 exact PX.ret_s hS hE (by kernel_rfl) (by kernel_rfl) (by kernel_rfl) (.inl rfl)

theorem con_f98i (b:BlockD) (hb:BlkI b) (hl0:b.ops.length≤1000000) (hl1:b.term.args.length≤1000000) (hl2:b.term.args0.length≤1000000) (hl3:b.term.args1.length≤1000000) {lo top:Nat}:PX.Con Try.prog 98 [.agg (encB b)] [] lo top (.agg (encB b)) []:=by
 refine PX.con_any (lo:=1) (top:=100000) (con_frz (Hn:=[(1,.row 74 11 true (b.ops.map encO)),(2,.row 3 1 true (b.term.args.map encI)),(3,.row 3 1 true (b.term.args0.map encI)),(4,.row 3 1 true (b.term.args1.map encI))]) (vs:=[1,2,3,4]) (con_f98 b hb hl0 hl1 hl2 hl3) rfl rfl rfl ⟨by simp [PX.lenIs],by simp [PX.lenIs],by simp [PX.lenIs],by simp [PX.lenIs],trivial⟩ rfl ?_)
 intro id o h
 simp only [PX.hlook] at h
 simp only [PX.ulook]
 cases h1:Nat.beq 1 id with
 | true=>rw [h1] at h; simpa using h
 | false =>
  rw [h1] at h; simp only [cond_false] at h ⊢
  cases h2:Nat.beq 2 id with
  | true=>rw [h2] at h; simpa using h
  | false =>
   rw [h2] at h; simp only [cond_false] at h ⊢
   cases h3:Nat.beq 3 id with
   | true=>rw [h3] at h; simpa using h
   | false =>
    rw [h3] at h; simp only [cond_false] at h ⊢
    cases h4:Nat.beq 4 id with
    | true=>rw [h4] at h; simpa using h
    | false=>rw [h4] at h; cases h

set_option maxHeartbeats 1000000 in
theorem con_f64 (c:CodeD) (hi:CodeI c) (hfit:Fit c):PX.Con Try.prog 64 [(codeP c)] [] 1 100000 (.agg [(.J c.params),(.own 1 10 c.blocks.length),(.imm 3 (c.contexts.map encR)),(.imm 3 (c.objects.map encR))]) [(1,some (.row 62 10 true (c.blocks.map encB)))]:=by
 refine PX.con_intro [(codeP c)] 31 Try.func64 rfl rfl (by kernel_rfl) (by kernel_rfl) ?_
 intro E a hE hS
 generalize E.w0=w at hS ⊢
 have mix:=mixed
 refine PX.G [(.e 1 (.ptr 1 0)),(.e 2 (.ptr 2 0))] [(1,.box 26 (codeL c)),(2,.box 26 [(.J 0),(.sc (.slice none 0 0)),(.sc (.slice none 0 0)),(.sc (.slice none 0 0))])] 3 [] [] [.au,.au] [1,2] [1,2] hS hE trivial fun a w hS=>?_
 refine PX.D [(.e 3 (.ptr 3 0))] [(3,.box 26 [(.J c.params),(.sc (.slice none 0 0)),(.imm 3 (c.contexts.map encR)),(.imm 3 (c.objects.map encR))])] 4 [.q (PX.Con Try.prog 47 [(.imm 3 (c.contexts.map encR))] [] 3 3 (.imm 3 (c.contexts.map encR)) []),.q (PX.Con Try.prog 48 [(.imm 3 (c.objects.map encR))] [] 3 3 (.imm 3 (c.objects.map encR)) [])] [] [.au,.au,.au,.au,.cl [] (.imm 3 (c.contexts.map encR)) [] 3,.au,.au,.cl [] (.imm 3 (c.objects.map encR)) [] 3,.au,.au,.au] [1,2,3] [1,2,3] hS mixed hE ⟨con_cloneC hi.2.2.1 (by have:=hfit.ctx; omega),con_cloneO hi.2.2.2 (by have:=hfit.obj; omega),trivial⟩ fun a w hS=>?_
 refine wp_seq_k fun K1 hK1=>?_
 refine PX.G [(.e 16 (.imm 10 (c.blocks.map encB))),(.e 17 (.sc (.I (c.blocks.length:Int)))),(.e 18 (.J 0))] [] 4 [.q ((.sc (.I (((c.blocks.map encB).length:Nat):Int)):PX.PV)=(.sc (.I (c.blocks.length:Int))))] [] [.au,.au,.nm (.sc (.I (c.blocks.length:Int))),.au] [2,3,16,17,18] [2,3] hS hE ⟨PX.nm_len (by simp),trivial⟩ fun a w hS=>?_
 refine wp_block ?_
 replace hS:=PX.recell (id:=3) (j:=1) (.own 4 10 0) (PX.newrow 62 10 hS (hE.le (by decide))) rfl rfl rfl (PX.nil_own 4 10)
 refine wp_loop_ghost (fun m2 a' w'=>∃ k:Nat,m2=c.blocks.length-k∧k≤c.blocks.length∧True∧PX.Sat E 31 [(.e 2 (.ptr 2 0)),(.e 3 (.ptr 3 0)),(.e 16 (.imm 10 (c.blocks.map encB))),(.e 17 (.sc (.I (c.blocks.length:Int)))),(.e 18 (.sc (.I (k:Int))))] [(2,.box 26 [(.J 0),(.sc (.slice none 0 0)),(.sc (.slice none 0 0)),(.sc (.slice none 0 0))]),(3,.box 26 [(.J c.params),(.own 4 10 k),(.imm 3 (c.contexts.map encR)),(.imm 3 (c.objects.map encR))]),(4,.row 62 10 true ((c.blocks.take (k)).map encB))] 5 a' w') (c.blocks.length-0) ⟨0,rfl,Nat.zero_le _,trivial,(PX.canon [] _ _ 5 hS hE (by kernel_rfl) (by kernel_rfl) (by kernel_rfl))⟩ ?_
 clear hS; rintro m2 a w ⟨k,hm2,hlek,hIk,hS⟩
 refine PX.G [(.e 19 (.sc (.bool (decide ((k:Int)<(c.blocks.length:Int))))))] [] 5 [] [] [.au] [2,3,16,17,18,19] [2,3,4] hS hE trivial fun a w hS=>?_
 refine wp_seq_k fun K3 hK3=>?_
 refine PX.cond_s (decide ((k:Int)<(c.blocks.length:Int))) hS (by kernel_rfl) (fun h4=>?_) (fun h4=>?_)
 ·skip
  refine wp_skip ?_
  refine hK3 _ _ ?_
  refine wp_seq_k fun K5 hK5=>?_
  refine wp_block ?_
  have hlty:k<c.blocks.length:=by simpa using h4
  obtain ⟨y,hy⟩:=get_of_lt hlty
  have fy:=hfit.ops y (List.mem_of_getElem? hy); have ty:=hfit.term y (List.mem_of_getElem? hy); have fb:=hfit.blocks
  refine PX.G [(.e 5 (.ptr 5 0))] [(5,.box 62 (encB y))] 6 [.q ((k:Int)=(k:Int)),.q ((c.blocks.map encB)[k]?=some (encB y))] [] [.ix k (encB y),.au,.au,.au] [2,3,5,16,17,18] [2,3,4,5] hS hE ⟨rfl,PX.map_get hy,trivial⟩ fun a w hS=>?_
  refine PX.D0 [] [(3,.box 26 [(.J c.params),(.own 7 10 (((c.blocks.take (k)).map encB:List (List PX.PV)).length+1)),(.imm 3 (c.contexts.map encR)),(.imm 3 (c.objects.map encR))]),(7,.row 62 10 true ((c.blocks.take (k)).map encB++[(encB y)]))] 8 [.q (PX.Con Try.prog 98 [(.agg (encB y))] [] 6 6 (.agg (encB y)) []),.b (lenIs k ((c.blocks.take (k)).map encB)),.b (lenIs 1 ([(encB y)])),.b (Nat.ble (((c.blocks.take (k)).map encB:List (List PX.PV)).length+1) 1000000000)] [] [.au,.au,.au,.cl [] (.agg (encB y)) [] 6,.au,.au,.au,.au] [2,3,16,17,18] [2,3,7] hS mixed hE ⟨con_f98i y (hi.2.1 y (List.mem_of_getElem? hy)) (by omega) (by omega) (by omega) (by omega),by simp [PX.lenIs]; omega,rfl,by simp; omega,trivial⟩ fun a w hS=>?_
  refine hK5 _ _ ?_
  refine PX.G0 [(.e 18 (.sc (.I ((k+1:Nat):Int))))] [] 8 [.q ((.sc (.I (IntKind.i64.wrap ((k:Int)+1))):PX.PV)=(.sc (.I ((k+1:Nat):Int))))] [] [.nm (.sc (.I ((k+1:Nat):Int))),.au] [2,3,16,17,18] [2,3,7] hS hE ⟨PX.nm_int (by rw [IntWalk.i64_in _ (by omega)]; omega),trivial⟩ fun a w hS=>?_
  have e2:((c.blocks.take (k)).map encB:List (List PX.PV)).length+1=k+1:=by simp; omega
  have e1:((c.blocks.take (k)).map encB++[(encB y)])=(c.blocks.take (k+1)).map encB:=by rw [List.take_add_one,hy]; simp [encB]
  rw [e2,e1] at hS
  exact ⟨c.blocks.length-(k+1),by omega,k+1,rfl,by omega,trivial,(PX.canon [(4,7)] _ _ 5 hS hE (by kernel_rfl) (by kernel_rfl) (by kernel_rfl))⟩
 ·skip
  refine wp_exit ?_
  refine hK1 _ _ ?_
  refine PX.G [] [(2,.box 26 [(.J c.params),(.own 4 10 k),(.imm 3 (c.contexts.map encR)),(.imm 3 (c.objects.map encR))])] 5 [] [] [.au,.au] [2] [2,4] hS hE trivial fun a w hS=>?_
  have hk:k=c.blocks.length:=by have:=le_of_dec h4; omega
  rw [hk,show c.blocks.take (c.blocks.length)=c.blocks from List.take_length] at hS
  replace hS:=(PX.canon [(1,4)] [(.e 2 (.ptr 2 0))] [(1,.row 62 10 true (c.blocks.map encB)),(2,.box 26 [(.J c.params),(.own 1 10 c.blocks.length),(.imm 3 (c.contexts.map encR)),(.imm 3 (c.objects.map encR))])] 3 hS hE (by kernel_rfl) (by kernel_rfl) (by kernel_rfl))
  refine wp_ret ?_
  try simp only [Exit.then,Exit.inBlock,Nat.reduceEqDiff,↓reduceIte]
  exact PX.ret_s hS hE (by kernel_rfl) (by kernel_rfl) (by kernel_rfl) (.inl rfl)
end Go.Proofs.Ytlkcidmmpeebeaa
