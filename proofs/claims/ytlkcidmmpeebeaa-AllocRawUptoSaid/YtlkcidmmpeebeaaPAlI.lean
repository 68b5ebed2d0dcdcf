/- Proved: alloc.markUses -/
import Derived.Test.YtlkcidmmpeebeaaAlM
set_option linter.unusedVariables false
set_option linter.unusedSimpArgs false
namespace Go.Proofs.Ytlkcidmmpeebeaa
open Go.RowKit Go.PX
set_option maxRecDepth 100000
theorem g_get {l:List Int} {k:Nat} (h:k<l.length):l[k]?=some (PX.g l k):=by
 obtain ⟨y,hy⟩:=get_of_lt h
 rw [hy,show PX.g l k=y from by unfold PX.g; rw [hy] <;> rfl]
theorem mark_len (df:List Int) (k:Nat):∀ (xs:List (Int × Int × Int)) (l:List Int),(xs.foldl (mark1 df k) l).length=l.length
 | [],l=>rfl
 | x::xs,l=>by rw [List.foldl_cons,mark_len,mark1_len]

theorem markK_src (df:List Int) (ops:List OpD) (l:List Int):∀ k,∀ p∈(markK df ops l k).1,∃ o∈ops,o.kind=21∧p=((o.ctx,o.var,o.piece),(o.sk,o.sv,o.sa))
 | 0,p,hp=>by cases hp
 | k+1,p,hp=>by
  by_cases hk:k<ops.length
  ·obtain ⟨y,hy⟩:=get_of_lt hk
   have ih:=markK_src df ops l k
   unfold markK at hp ih
   rw [fold_take _ _ hy] at hp
   generalize (ops.take k).zipIdx.foldl (markStep df) ([],l)=s at hp ih
   unfold markStep at hp
   split at hp
   ·rename_i h21
    have hm:=List.mem_of_getElem? hy
    simp only [setS] at hp
    split at hp
    ·obtain ⟨q,hq,rfl⟩:=List.mem_map.1 hp
     split
     ·exact ⟨y,hm,h21,rfl⟩
     ·exact ih q hq
    ·rcases List.mem_append.1 hp with hp | hp
     ·exact ih p hp
     ·simp only [List.mem_singleton] at hp; subst hp
      exact ⟨y,hm,h21,rfl⟩
   ·split at hp
    ·exact ih p hp
    ·exact ih p hp
  ·have ih:=markK_src df ops l k
   unfold markK at hp ih
   rw [List.take_of_length_le (by omega)] at hp
   rw [List.take_of_length_le (by omega)] at ih
   exact ih p hp

set_option maxHeartbeats 2000000 in
theorem con_f144 (cn:Nat) (b:BlockD) (ho:AOk cn b) (hint:∀ o∈b.ops,I3 (o.ctx,o.var,o.piece)) (df l:List Int) (hdf:df.length=cn) (hl:l.length=cn):PX.Con Try.prog 144 [(.agg (encB b)),(.own 3 1 cn),(.fn 140 [] [(.ptr 1 0)])] [(1,.box 35 [(.own 2 1 cn)]),(2,.row 3 1 true (l.map encI)),(3,.row 3 1 true (df.map encI))] 4 100000 (.tup []) [(1,some (.box 35 [(.own 2 1 cn)])),(2,some (.row 3 1 true ((markK df b.ops l b.ops.length).2.map encI))),(3,some (.row 3 1 true (df.map encI)))]:=by
 refine PX.con_intro [(.agg (encB b)),(.own 3 1 cn),(.fn 140 [] [(.ptr 1 0)])] 61 Try.func144 rfl rfl (by kernel_rfl) (by kernel_rfl) ?_
 intro E a hE hS
 generalize E.w0=w at hS ⊢
 have mix:=mixed
 have hops:=ho.ops
 refine PX.G [(.e 3 (.ptr 4 0))] [(4,.box 62 (encB b))] 5 [] [] [.au] [1,2,3] [1,2,3,4] hS hE trivial fun a w hS=>?_
 refine PX.G [(.e 6 (.map 5))] [(5,.rmap (#[]) 0)] 6 [] [] [.mm,.au] [1,2,3,6] [1,2,3,4,5] hS hE trivial fun a w hS=>?_
 refine PX.G [(.e 13 (.imm 11 (b.ops.map encO))),(.e 14 (.sc (.I (b.ops.length:Int)))),(.e 15 (.J 0))] [] 6 [.q ((.sc (.I (((b.ops.map encO).length:Nat):Int)):PX.PV)=(.sc (.I (b.ops.length:Int))))] [] [.au,.au,.nm (.sc (.I (b.ops.length:Int))),.au] [1,2,6,13,14,15] [1,2,3,5] hS hE ⟨PX.nm_len (by simp),trivial⟩ fun a w hS=>?_
 refine wp_block ?_
 replace hS:=PX.rerow (id:=2) ((markK df b.ops l (0)).2.map encI) hS rfl (rfl)
 refine wp_loop_ghost (fun m1 a' w'=>∃ k:Nat,∃ (es:Array MapEntry) (cl:Nat),m1=b.ops.length-k∧k≤b.ops.length∧MOk es cl (markK df b.ops l (k)).1∧PX.Sat E 61 [(.e 1 (.own 3 1 cn)),(.e 2 (.fn 140 [] [(.ptr 1 0)])),(.e 6 (.map 5)),(.e 13 (.imm 11 (b.ops.map encO))),(.e 14 (.sc (.I (b.ops.length:Int)))),(.e 15 (.sc (.I (k:Int))))] [(1,.box 35 [(.own 2 1 cn)]),(2,.row 3 1 true ((markK df b.ops l (k)).2.map encI)),(3,.row 3 1 true (df.map encI)),(5,.rmap es cl)] 6 a' w') (b.ops.length-0) ⟨0,#[],0,rfl,Nat.zero_le _,mok_nil,(PX.cn [] _ _ 6 hS hE)⟩ ?_
 clear hS; rintro m1 a w ⟨k,es,cl,hm1,hlek,hIk,hS⟩
 refine PX.G [(.e 16 (.sc (.bool (decide ((k:Int)<(b.ops.length:Int))))))] [] 6 [] [] [.au] [1,2,6,13,14,15,16] [1,2,3,5] hS hE trivial fun a w hS=>?_
 refine wp_seq_k fun K2 hK2=>?_
 refine PX.cond_s (decide ((k:Int)<(b.ops.length:Int))) hS (by kernel_rfl) (fun h3=>?_) (fun h3=>?_)
 ·skip
  refine wp_skip ?_
  refine hK2 _ _ ?_
  refine wp_seq_k fun K4 hK4=>?_
  refine wp_block ?_
  have hlty:k<b.ops.length:=by simpa using h3
  obtain ⟨y,hy⟩:=get_of_lt hlty
  refine PX.G [(.e 7 (.sc (.I (k:Int)))),(.e 8 (.ptr 6 0))] [(6,.box 74 (encO y))] 7 [.q ((k:Int)=(k:Int)),.q ((b.ops.map encO)[k]?=some (encO y))] [] [.au,.ix k (encO y),.au,.au,.au,.au] [1,2,6,7,8,13,14,15] [1,2,3,5,6] hS hE ⟨rfl,PX.map_get hy,trivial⟩ fun a w hS=>?_
  refine PX.G [(.e 21 (.J y.kind))] [] 7 [] [] [.au,.au] [1,2,6,7,8,13,14,15,21] [1,2,3,5,6] hS hE trivial fun a w hS=>?_
  refine wp_block ?_
  refine PX.G [(.e 22 (.sc (.bool (y.kind==21))))] [] 7 [] [] [.au,.au] [1,2,6,7,8,13,14,15,21,22] [1,2,3,5,6] hS hE trivial fun a w hS=>?_
  refine PX.cond_s (y.kind==21) hS (by kernel_rfl) (fun h5=>?_) (fun h5=>?_)
  ·skip
   obtain ⟨es1,cl1,hmu,hok1⟩:=mok_upd (k:=(y.ctx,y.var,y.piece)) hIk (hint y (List.mem_of_getElem? hy)) (y.sk,y.sv,y.sa)
   refine PX.G0 [] [(5,.rmap es1 cl1)] 7 [.q (PX.MapUpd Try.prog 207 es cl (.agg #[(.I y.ctx),(.I y.var),(.I y.piece)]) (.agg #[(.I y.sk),(.I y.sv),(.I y.sa)]) es1 cl1)] [] [.au,.au,.au,.au,.au,.au,.au,.au,.au,.au,.mu es1 cl1] [1,2,6,13,14,15] [1,2,3,5] hS hE ⟨hmu,trivial⟩ fun a w hS=>?_
   refine hK4 _ _ ?_
   refine PX.G0 [(.e 15 (.sc (.I ((k+1:Nat):Int))))] [] 7 [.q ((.sc (.I (IntKind.i64.wrap ((k:Int)+1))):PX.PV)=(.sc (.I ((k+1:Nat):Int))))] [] [.nm (.sc (.I ((k+1:Nat):Int))),.au] [1,2,6,13,14,15] [1,2,3,5] hS hE ⟨PX.nm_int (by rw [IntWalk.i64_in _ (by omega)]; omega),trivial⟩ fun a w hS=>?_
   have hsucc:(markK df b.ops l (k+1))=markStep df (markK df b.ops l (k)) (y,k):=by unfold markK; rw [fold_take _ _ hy]
   have hstp:(markK df b.ops l (k+1))=(setS (markK df b.ops l (k)).1 (y.ctx,y.var,y.piece) (y.sk,y.sv,y.sa),(markK df b.ops l (k)).2):=by rw [hsucc]; unfold markStep; rw [if_pos (show y.kind=21 by simpa using h5)]
   replace hS:=PX.rerow (id:=2) ((markK df b.ops l (k+1)).2.map encI) hS rfl (by rw [hstp])
   exact ⟨b.ops.length-(k+1),by omega,k+1,es1,cl1,rfl,by omega,(by rw [hstp]; exact hok1),(PX.cn [] _ _ 6 hS hE)⟩
  ·skip
   refine wp_seq_k fun K6 hK6=>?_
   refine PX.G [(.e 34 (.sc (.bool (y.kind==19))))] [] 7 [] [] [.au,.au] [1,2,6,7,13,14,15,21,34] [1,2,3,5] hS hE trivial fun a w hS=>?_
   refine PX.cond_s (y.kind==19) hS (by kernel_rfl) (fun h7=>?_) (fun h7=>?_)
   ·skip
    refine wp_skip ?_
    refine hK6 _ _ ?_
    refine PX.cond_s (y.kind==19) hS (by kernel_rfl) (fun h8=>?_) (fun h8=>nomatch (h7.symm.trans h8))
    have hsrcs:∀ p∈(markK df b.ops l (k)).1,p.2.1=2→0≤p.2.2.1∧p.2.2.1<(cn:Int):=fun p hp q=>by
     obtain ⟨o,ho1,ho2,rfl⟩:=markK_src df b.ops l k p hp
     exact ho.src o ho1 ho2 q
    refine PX.G [(.e 38 (.ptr 7 0))] [(7,.rit 5 cl (#[]) cl)] 8 [] [] [.au,.rg] [1,2,6,7,13,14,15,38] [1,2,3,5,7] hS hE trivial fun a w hS=>?_
    refine wp_block ?_
    refine wp_loop_ghost (fun m9 a' w'=>∃ (seen:Array Nat) (acc:List Int) (dn:List (Int × Int × Int)),m9=(leftOf es seen).size∧acc=dn.foldl (mark1 df k) (markK df b.ops l (k)).2∧(dn++leftV es seen).Perm ((markK df b.ops l (k)).1.map (·.2))∧PX.Sat E 61 [(.e 1 (.own 3 1 cn)),(.e 2 (.fn 140 [] [(.ptr 1 0)])),(.e 6 (.map 5)),(.e 7 (.sc (.I (k:Int)))),(.e 13 (.imm 11 (b.ops.map encO))),(.e 14 (.sc (.I (b.ops.length:Int)))),(.e 15 (.sc (.I (k:Int)))),(.e 38 (.ptr 7 0))] [(1,.box 35 [(.own 2 1 cn)]),(2,.row 3 1 true (acc.map encI)),(3,.row 3 1 true (df.map encI)),(5,.rmap es cl),(7,.rit 5 cl seen cl)] 8 a' w') (leftOf es #[]).size ⟨#[],(markK df b.ops l (k)).2,[],rfl,rfl,by rw [hIk.vals]; exact List.Perm.refl _,(PX.cn [] _ _ 8 hS hE)⟩ ?_
    clear hS; rintro m9 a w ⟨seen,acc,dn,hmm9,hacc,hperm,hS⟩
    have hal:acc.length=cn:=by rw [hacc,mark_len,markK_len]; exact hl
    refine wp_seq_k fun K10 hK10=>?_
    refine PX.next_s hS rfl rfl rfl rfl rfl rfl rfl rfl (by kernel_rfl) (by kernel_rfl) (by kernel_rfl:PX.hlook _ 7=some (.rit 5 cl seen cl)) (by kernel_rfl:PX.hlook _ 5=some (.rmap es cl)) hIk.born (Nat.le_refl _) (by rw [hE.etop]; decide) (fun h0 a w hS=>?_) (fun e he a w hS=>?_)
    ·refine hK10 _ _ ?_
     replace hS:PX.Sat E 61 [(.e 40 (.sc (.bool false))),(.e 1 (.own 3 1 cn)),(.e 2 (.fn 140 [] [(.ptr 1 0)])),(.e 6 (.map 5)),(.e 7 (.sc (.I (k:Int)))),(.e 13 (.imm 11 (b.ops.map encO))),(.e 14 (.sc (.I (b.ops.length:Int)))),(.e 15 (.sc (.I (k:Int)))),(.e 38 (.ptr 7 0))] [(1,.box 35 [(.own 2 1 cn)]),(2,.row 3 1 true (acc.map encI)),(3,.row 3 1 true (df.map encI)),(5,.rmap es cl),(7,.rit 5 cl seen cl)] 8 a w:=hS
     have hdone:acc=((markK df b.ops l (k)).1.map (·.2)).foldl (mark1 df k) (markK df b.ops l (k)).2:=by rw [hacc]; refine mark_perm df k ?_ _; have hz:leftV es seen=[]:=(by unfold leftV; rw [show (leftOf es seen).toList=[] from (by rw [← List.length_eq_zero_iff]; simpa using h0)]; rfl); rw [hz,List.append_nil] at hperm; exact hperm
     refine wp_seq_k fun K11 hK11=>?_
     refine PX.cond_s false hS (by kernel_rfl) (fun h12=>nomatch h12) (fun h12=>?_)
     refine wp_exit ?_
     refine hK4 _ _ ?_
     refine PX.G0 [(.e 15 (.sc (.I ((k+1:Nat):Int))))] [] 8 [.q ((.sc (.I (IntKind.i64.wrap ((k:Int)+1))):PX.PV)=(.sc (.I ((k+1:Nat):Int))))] [] [.nm (.sc (.I ((k+1:Nat):Int))),.au] [1,2,6,13,14,15] [1,2,3,5] hS hE ⟨PX.nm_int (by rw [IntWalk.i64_in _ (by omega)]; omega),trivial⟩ fun a w hS=>?_
     have hsucc:(markK df b.ops l (k+1))=markStep df (markK df b.ops l (k)) (y,k):=by unfold markK; rw [fold_take _ _ hy]
     have hstp:(markK df b.ops l (k+1))=((markK df b.ops l (k)).1,((markK df b.ops l (k)).1.map (·.2)).foldl (mark1 df k) (markK df b.ops l (k)).2):=by rw [hsucc]; unfold markStep; rw [if_neg (show ¬ y.kind=21 by simpa using h5),if_pos (show y.kind=19∨y.kind=20 by have:=h7; simp at this; omega)]
     replace hS:=PX.rerow (id:=2) ((markK df b.ops l (k+1)).2.map encI) hS rfl (by rw [hstp,hdone])
     exact ⟨b.ops.length-(k+1),by omega,k+1,es,cl,rfl,by omega,(by rw [hstp]; exact hIk),(PX.cn [] _ _ 6 hS hE)⟩
    ·refine hK10 _ _ ?_
     replace hS:PX.Sat E 61 [(.e 40 (.sc (.bool true))),(.e 1 (.own 3 1 cn)),(.e 2 (.fn 140 [] [(.ptr 1 0)])),(.e 6 (.map 5)),(.e 7 (.sc (.I (k:Int)))),(.e 13 (.imm 11 (b.ops.map encO))),(.e 14 (.sc (.I (b.ops.length:Int)))),(.e 15 (.sc (.I (k:Int)))),(.e 38 (.ptr 7 0))] [(7,.rit 5 cl (seen.push e.born) cl),(1,.box 35 [(.own 2 1 cn)]),(2,.row 3 1 true (acc.map encI)),(3,.row 3 1 true (df.map encI)),(5,.rmap es cl)] 8 a w:=hS
     have hst:=hIk.step he
     obtain ⟨pe,hpm,hek,hev,hen⟩:=hst.2.2
     have hsrc:pe.2.1=2→0≤pe.2.2.1∧pe.2.2.1<(cn:Int):=fun q=>hsrcs pe hpm q
     refine wp_seq_k fun K13 hK13=>?_
     refine PX.cond_s true hS (by kernel_rfl) (fun h14=>?_) (fun h14=>nomatch h14)
     refine wp_skip ?_
     refine hK13 _ _ ?_
     refine wp_block ?_
     refine PX.G [(.e 10 (.ptr 8 0))] [(8,.box 72 [(.J pe.2.1),(.J pe.2.2.1),(.J pe.2.2.2)])] 9 [.q (PX.EntryIs es (seen.push e.born) cl cl (.agg [(.J pe.1.1),(.J pe.1.2.1),(.J pe.1.2.2)]) (.agg [(.J pe.2.1),(.J pe.2.2.1),(.J pe.2.2.2)]))] [] [.en (.agg [(.J pe.1.1),(.J pe.1.2.1),(.J pe.1.2.2)]) (.agg [(.J pe.2.1),(.J pe.2.2.1),(.J pe.2.2.2)]),.au,.au,.au] [1,2,6,7,10,13,14,15,38] [1,2,3,5,7,8] hS hE ⟨hen,trivial⟩ fun a w hS=>?_
     refine PX.G [(.e 54 (.sc (.bool ((pe.2.1==2)&&decide ((PX.g df pe.2.2.1.toNat)<(k:Int))))))] [] 9 [.q (SX.pv [(3,(pe.2.1==2))] [(3,true)]=true→PX.AllOb [.q (pe.2.2.1=(pe.2.2.1.toNat:Int)),.q (pe.2.2.1.toNat<cn)]),.q (SX.pv [(3,(pe.2.1==2))] [(3,true)]=true→PX.AllOb [.q ((df.map encI)[pe.2.2.1.toNat]?=some (encI (PX.g df pe.2.2.1.toNat)))])] [(3,(pe.2.1==2))] [.au,.au,.au,.au,.au,.au,.au,.ix pe.2.2.1.toNat [],.lr (encI (PX.g df pe.2.2.1.toNat)),.au,.au,.pk] [1,2,6,7,10,13,14,15,38,54] [1,2,3,5,7,8] hS hE ⟨fun hg=>⟨by have:=hsrc (by simpa [SX.pv,SX.kv] using hg); omega,by have:=hsrc (by simpa [SX.pv,SX.kv] using hg); omega,trivial⟩,fun hg=>⟨PX.map_get (g_get (by have:=hsrc (by simpa [SX.pv,SX.kv] using hg); omega)),trivial⟩,trivial⟩ fun a w hS=>?_
     refine PX.cond_s ((pe.2.1==2)&&decide ((PX.g df pe.2.2.1.toNat)<(k:Int))) hS (by kernel_rfl) (fun h15=>?_) (fun h15=>?_)
     ·skip
      have h2k:pe.2.1=2∧PX.g df pe.2.2.1.toNat<(k:Int):=by simpa using h15
      have h2k:=h2k.1
      refine PX.G0 [] [(2,.row 3 1 true ((useD acc pe.2.2.1 (k:Int)).map encI))] 9 [.q (PX.Con Try.prog 140 [(.J pe.2.2.1),(.sc (.I (k:Int))),(.ptr 1 0)] [(1,.box 35 [(.own 2 1 cn)]),(2,.row 3 1 true (acc.map encI))] 9 9 (.tup []) [(1,some (.box 35 [(.own 2 1 cn)])),(2,some (.row 3 1 true ((useD acc pe.2.2.1 (k:Int)).map encI)))])] [] [.au,.au,.au,.au,.cl [1,2] (.tup []) [(1,some (.box 35 [(.own 2 1 cn)])),(2,some (.row 3 1 true ((useD acc pe.2.2.1 (k:Int)).map encI)))] 9] [1,2,6,7,13,14,15,38] [1,2,3,5,7] hS hE ⟨PX.con_as [(1,1),(2,2)] [(1,1),(2,2)] (con_f140 acc cn hal pe.2.2.1 (k:Int) (hsrc h2k)) (by kernel_rfl) (by kernel_rfl) (by kernel_rfl) (by kernel_rfl) (by kernel_rfl) (by kernel_rfl),trivial⟩ fun a w hS=>?_
      have hnew:mark1 df k acc pe.2=(useD acc pe.2.2.1 (k:Int)):=by unfold mark1; rw [if_pos]; obtain ⟨q1,q2⟩:=Bool.and_eq_true_iff.1 h15; exact ⟨eq_of_beq q1,of_decide_eq_true q2⟩
      exact ⟨(leftOf es (seen.push e.born)).size,by rw [hmm9]; exact hst.2.1,seen.push e.born,(useD acc pe.2.2.1 (k:Int)),dn++[pe.2],rfl,by rw [List.foldl_append,← hacc]; exact hnew.symm,(by rw [List.append_assoc]; refine (List.Perm.append_left dn ?_).trans hperm; have hq:=hst.1; rw [hev,decV_key] at hq; exact hq.symm),(PX.cn [] _ _ 8 hS hE)⟩
     ·skip
      refine wp_skip ?_
      have hnew:mark1 df k acc pe.2=acc:=by unfold mark1; rw [if_neg]; rintro ⟨q1,q2⟩; rw [show (pe.2.1==2)=true from (by rw [q1]; rfl),decide_eq_true (show PX.g df pe.2.2.1.toNat<(k:Int) from q2)] at h15; cases h15
      replace hS:=PX.sl [1,2,6,7,13,14,15,38] hS
      exact ⟨(leftOf es (seen.push e.born)).size,by rw [hmm9]; exact hst.2.1,seen.push e.born,acc,dn++[pe.2],rfl,by rw [List.foldl_append,← hacc]; exact hnew.symm,(by rw [List.append_assoc]; refine (List.Perm.append_left dn ?_).trans hperm; have hq:=hst.1; rw [hev,decV_key] at hq; exact hq.symm),(PX.cn [] _ _ 8 hS hE)⟩
   ·skip
    refine PX.G0 [(.e 34 (.sc (.bool (y.kind==20))))] [] 7 [] [] [.au,.au] [1,2,6,7,13,14,15,34] [1,2,3,5] hS hE trivial fun a w hS=>?_
    refine hK6 _ _ ?_
    refine PX.cond_s (y.kind==20) hS (by kernel_rfl) (fun h16=>?_) (fun h16=>?_)
    ·skip
     have hsrcs:∀ p∈(markK df b.ops l (k)).1,p.2.1=2→0≤p.2.2.1∧p.2.2.1<(cn:Int):=fun p hp q=>by
      obtain ⟨o,ho1,ho2,rfl⟩:=markK_src df b.ops l k p hp
      exact ho.src o ho1 ho2 q
     refine PX.G [(.e 38 (.ptr 7 0))] [(7,.rit 5 cl (#[]) cl)] 8 [] [] [.au,.rg] [1,2,6,7,13,14,15,38] [1,2,3,5,7] hS hE trivial fun a w hS=>?_
     refine wp_block ?_
     refine wp_loop_ghost (fun m17 a' w'=>∃ (seen:Array Nat) (acc:List Int) (dn:List (Int × Int × Int)),m17=(leftOf es seen).size∧acc=dn.foldl (mark1 df k) (markK df b.ops l (k)).2∧(dn++leftV es seen).Perm ((markK df b.ops l (k)).1.map (·.2))∧PX.Sat E 61 [(.e 1 (.own 3 1 cn)),(.e 2 (.fn 140 [] [(.ptr 1 0)])),(.e 6 (.map 5)),(.e 7 (.sc (.I (k:Int)))),(.e 13 (.imm 11 (b.ops.map encO))),(.e 14 (.sc (.I (b.ops.length:Int)))),(.e 15 (.sc (.I (k:Int)))),(.e 38 (.ptr 7 0))] [(1,.box 35 [(.own 2 1 cn)]),(2,.row 3 1 true (acc.map encI)),(3,.row 3 1 true (df.map encI)),(5,.rmap es cl),(7,.rit 5 cl seen cl)] 8 a' w') (leftOf es #[]).size ⟨#[],(markK df b.ops l (k)).2,[],rfl,rfl,by rw [hIk.vals]; exact List.Perm.refl _,(PX.cn [] _ _ 8 hS hE)⟩ ?_
     clear hS; rintro m17 a w ⟨seen,acc,dn,hmm17,hacc,hperm,hS⟩
     have hal:acc.length=cn:=by rw [hacc,mark_len,markK_len]; exact hl
     refine wp_seq_k fun K18 hK18=>?_
     refine PX.next_s hS rfl rfl rfl rfl rfl rfl rfl rfl (by kernel_rfl) (by kernel_rfl) (by kernel_rfl:PX.hlook _ 7=some (.rit 5 cl seen cl)) (by kernel_rfl:PX.hlook _ 5=some (.rmap es cl)) hIk.born (Nat.le_refl _) (by rw [hE.etop]; decide) (fun h0 a w hS=>?_) (fun e he a w hS=>?_)
     ·refine hK18 _ _ ?_
      replace hS:PX.Sat E 61 [(.e 40 (.sc (.bool false))),(.e 1 (.own 3 1 cn)),(.e 2 (.fn 140 [] [(.ptr 1 0)])),(.e 6 (.map 5)),(.e 7 (.sc (.I (k:Int)))),(.e 13 (.imm 11 (b.ops.map encO))),(.e 14 (.sc (.I (b.ops.length:Int)))),(.e 15 (.sc (.I (k:Int)))),(.e 38 (.ptr 7 0))] [(1,.box 35 [(.own 2 1 cn)]),(2,.row 3 1 true (acc.map encI)),(3,.row 3 1 true (df.map encI)),(5,.rmap es cl),(7,.rit 5 cl seen cl)] 8 a w:=hS
      have hdone:acc=((markK df b.ops l (k)).1.map (·.2)).foldl (mark1 df k) (markK df b.ops l (k)).2:=by rw [hacc]; refine mark_perm df k ?_ _; have hz:leftV es seen=[]:=(by unfold leftV; rw [show (leftOf es seen).toList=[] from (by rw [← List.length_eq_zero_iff]; simpa using h0)]; rfl); rw [hz,List.append_nil] at hperm; exact hperm
      refine wp_seq_k fun K19 hK19=>?_
      refine PX.cond_s false hS (by kernel_rfl) (fun h20=>nomatch h20) (fun h20=>?_)
      refine wp_exit ?_
      refine hK4 _ _ ?_
      refine PX.G0 [(.e 15 (.sc (.I ((k+1:Nat):Int))))] [] 8 [.q ((.sc (.I (IntKind.i64.wrap ((k:Int)+1))):PX.PV)=(.sc (.I ((k+1:Nat):Int))))] [] [.nm (.sc (.I ((k+1:Nat):Int))),.au] [1,2,6,13,14,15] [1,2,3,5] hS hE ⟨PX.nm_int (by rw [IntWalk.i64_in _ (by omega)]; omega),trivial⟩ fun a w hS=>?_
      have hsucc:(markK df b.ops l (k+1))=markStep df (markK df b.ops l (k)) (y,k):=by unfold markK; rw [fold_take _ _ hy]
      have hstp:(markK df b.ops l (k+1))=((markK df b.ops l (k)).1,((markK df b.ops l (k)).1.map (·.2)).foldl (mark1 df k) (markK df b.ops l (k)).2):=by rw [hsucc]; unfold markStep; rw [if_neg (show ¬ y.kind=21 by simpa using h5),if_pos (show y.kind=19∨y.kind=20 by have:=h16; simp at this; omega)]
      replace hS:=PX.rerow (id:=2) ((markK df b.ops l (k+1)).2.map encI) hS rfl (by rw [hstp,hdone])
      exact ⟨b.ops.length-(k+1),by omega,k+1,es,cl,rfl,by omega,(by rw [hstp]; exact hIk),(PX.cn [] _ _ 6 hS hE)⟩
     ·refine hK18 _ _ ?_
      replace hS:PX.Sat E 61 [(.e 40 (.sc (.bool true))),(.e 1 (.own 3 1 cn)),(.e 2 (.fn 140 [] [(.ptr 1 0)])),(.e 6 (.map 5)),(.e 7 (.sc (.I (k:Int)))),(.e 13 (.imm 11 (b.ops.map encO))),(.e 14 (.sc (.I (b.ops.length:Int)))),(.e 15 (.sc (.I (k:Int)))),(.e 38 (.ptr 7 0))] [(7,.rit 5 cl (seen.push e.born) cl),(1,.box 35 [(.own 2 1 cn)]),(2,.row 3 1 true (acc.map encI)),(3,.row 3 1 true (df.map encI)),(5,.rmap es cl)] 8 a w:=hS
      have hst:=hIk.step he
      obtain ⟨pe,hpm,hek,hev,hen⟩:=hst.2.2
      have hsrc:pe.2.1=2→0≤pe.2.2.1∧pe.2.2.1<(cn:Int):=fun q=>hsrcs pe hpm q
      refine wp_seq_k fun K21 hK21=>?_
      refine PX.cond_s true hS (by kernel_rfl) (fun h22=>?_) (fun h22=>nomatch h22)
      refine wp_skip ?_
      refine hK21 _ _ ?_
      refine wp_block ?_
      refine PX.G [(.e 10 (.ptr 8 0))] [(8,.box 72 [(.J pe.2.1),(.J pe.2.2.1),(.J pe.2.2.2)])] 9 [.q (PX.EntryIs es (seen.push e.born) cl cl (.agg [(.J pe.1.1),(.J pe.1.2.1),(.J pe.1.2.2)]) (.agg [(.J pe.2.1),(.J pe.2.2.1),(.J pe.2.2.2)]))] [] [.en (.agg [(.J pe.1.1),(.J pe.1.2.1),(.J pe.1.2.2)]) (.agg [(.J pe.2.1),(.J pe.2.2.1),(.J pe.2.2.2)]),.au,.au,.au] [1,2,6,7,10,13,14,15,38] [1,2,3,5,7,8] hS hE ⟨hen,trivial⟩ fun a w hS=>?_
      refine PX.G [(.e 54 (.sc (.bool ((pe.2.1==2)&&decide ((PX.g df pe.2.2.1.toNat)<(k:Int))))))] [] 9 [.q (SX.pv [(3,(pe.2.1==2))] [(3,true)]=true→PX.AllOb [.q (pe.2.2.1=(pe.2.2.1.toNat:Int)),.q (pe.2.2.1.toNat<cn)]),.q (SX.pv [(3,(pe.2.1==2))] [(3,true)]=true→PX.AllOb [.q ((df.map encI)[pe.2.2.1.toNat]?=some (encI (PX.g df pe.2.2.1.toNat)))])] [(3,(pe.2.1==2))] [.au,.au,.au,.au,.au,.au,.au,.ix pe.2.2.1.toNat [],.lr (encI (PX.g df pe.2.2.1.toNat)),.au,.au,.pk] [1,2,6,7,10,13,14,15,38,54] [1,2,3,5,7,8] hS hE ⟨fun hg=>⟨by have:=hsrc (by simpa [SX.pv,SX.kv] using hg); omega,by have:=hsrc (by simpa [SX.pv,SX.kv] using hg); omega,trivial⟩,fun hg=>⟨PX.map_get (g_get (by have:=hsrc (by simpa [SX.pv,SX.kv] using hg); omega)),trivial⟩,trivial⟩ fun a w hS=>?_
      refine PX.cond_s ((pe.2.1==2)&&decide ((PX.g df pe.2.2.1.toNat)<(k:Int))) hS (by kernel_rfl) (fun h23=>?_) (fun h23=>?_)
      ·skip
       have h2k:pe.2.1=2∧PX.g df pe.2.2.1.toNat<(k:Int):=by simpa using h23
       have h2k:=h2k.1
       refine PX.G0 [] [(2,.row 3 1 true ((useD acc pe.2.2.1 (k:Int)).map encI))] 9 [.q (PX.Con Try.prog 140 [(.J pe.2.2.1),(.sc (.I (k:Int))),(.ptr 1 0)] [(1,.box 35 [(.own 2 1 cn)]),(2,.row 3 1 true (acc.map encI))] 9 9 (.tup []) [(1,some (.box 35 [(.own 2 1 cn)])),(2,some (.row 3 1 true ((useD acc pe.2.2.1 (k:Int)).map encI)))])] [] [.au,.au,.au,.au,.cl [1,2] (.tup []) [(1,some (.box 35 [(.own 2 1 cn)])),(2,some (.row 3 1 true ((useD acc pe.2.2.1 (k:Int)).map encI)))] 9] [1,2,6,7,13,14,15,38] [1,2,3,5,7] hS hE ⟨PX.con_as [(1,1),(2,2)] [(1,1),(2,2)] (con_f140 acc cn hal pe.2.2.1 (k:Int) (hsrc h2k)) (by kernel_rfl) (by kernel_rfl) (by kernel_rfl) (by kernel_rfl) (by kernel_rfl) (by kernel_rfl),trivial⟩ fun a w hS=>?_
       have hnew:mark1 df k acc pe.2=(useD acc pe.2.2.1 (k:Int)):=by unfold mark1; rw [if_pos]; obtain ⟨q1,q2⟩:=Bool.and_eq_true_iff.1 h23; exact ⟨eq_of_beq q1,of_decide_eq_true q2⟩
       exact ⟨(leftOf es (seen.push e.born)).size,by rw [hmm17]; exact hst.2.1,seen.push e.born,(useD acc pe.2.2.1 (k:Int)),dn++[pe.2],rfl,by rw [List.foldl_append,← hacc]; exact hnew.symm,(by rw [List.append_assoc]; refine (List.Perm.append_left dn ?_).trans hperm; have hq:=hst.1; rw [hev,decV_key] at hq; exact hq.symm),(PX.cn [] _ _ 8 hS hE)⟩
      ·skip
       refine wp_skip ?_
       have hnew:mark1 df k acc pe.2=acc:=by unfold mark1; rw [if_neg]; rintro ⟨q1,q2⟩; rw [show (pe.2.1==2)=true from (by rw [q1]; rfl),decide_eq_true (show PX.g df pe.2.2.1.toNat<(k:Int) from q2)] at h23; cases h23
       replace hS:=PX.sl [1,2,6,7,13,14,15,38] hS
       exact ⟨(leftOf es (seen.push e.born)).size,by rw [hmm17]; exact hst.2.1,seen.push e.born,acc,dn++[pe.2],rfl,by rw [List.foldl_append,← hacc]; exact hnew.symm,(by rw [List.append_assoc]; refine (List.Perm.append_left dn ?_).trans hperm; have hq:=hst.1; rw [hev,decV_key] at hq; exact hq.symm),(PX.cn [] _ _ 8 hS hE)⟩
    ·skip
     refine wp_skip ?_
     refine hK4 _ _ ?_
     refine PX.G0 [(.e 15 (.sc (.I ((k+1:Nat):Int))))] [] 7 [.q ((.sc (.I (IntKind.i64.wrap ((k:Int)+1))):PX.PV)=(.sc (.I ((k+1:Nat):Int))))] [] [.nm (.sc (.I ((k+1:Nat):Int))),.au] [1,2,6,13,14,15] [1,2,3,5] hS hE ⟨PX.nm_int (by rw [IntWalk.i64_in _ (by omega)]; omega),trivial⟩ fun a w hS=>?_
     have hsucc:(markK df b.ops l (k+1))=markStep df (markK df b.ops l (k)) (y,k):=by unfold markK; rw [fold_take _ _ hy]
     have hstp:(markK df b.ops l (k+1))=(markK df b.ops l (k)):=by rw [hsucc]; unfold markStep; rw [if_neg (show ¬ y.kind=21 by simpa using h5),if_neg (show ¬ (y.kind=19∨y.kind=20) by have h1:=h7; have h2:=h16; simp at h1 h2; omega)]
     replace hS:=PX.rerow (id:=2) ((markK df b.ops l (k+1)).2.map encI) hS rfl (by rw [hstp])
     exact ⟨b.ops.length-(k+1),by omega,k+1,es,cl,rfl,by omega,(by rw [hstp]; exact hIk),(PX.cn [] _ _ 6 hS hE)⟩
 ·skip
  refine wp_exit ?_
  have hk0:k=b.ops.length:=by have:=le_of_dec h3; omega
  rw [hk0] at hS
  exact PX.rt hS hE (.inr rfl)

theorem m144 {cn:Nat} {b:BlockD} (ho:AOk cn b) (hint:∀ o∈b.ops,I3 (o.ctx,o.var,o.piece)):M144 cn b:=fun df l hdf hl=>con_f144 cn b ho hint df l hdf hl
end Go.Proofs.Ytlkcidmmpeebeaa
