/- Proved: the document's Allocate -/
import Derived.Test.YtlkcidmmpeebeaaAlG
import Derived.Test.YtlkcidmmpeebeaaPAlH
import Derived.Test.YtlkcidmmpeebeaaPAlI
set_option linter.unusedVariables false
set_option linter.unusedSimpArgs false
namespace Go.Proofs.Ytlkcidmmpeebeaa
open Go.RowKit Go.PX
set_option maxRecDepth 100000
theorem parA_ge {c:CodeD} {b:BlockD} (hb:b∈c.blocks):b.params-8≤parA c c.blocks.length:=by
 unfold parA
 rw [List.take_length]
 have h:∀ (l:List BlockD) (n:Int),n≤l.foldl (fun n b=>mxI n (b.params-8)) n∧∀ b∈l,b.params-8≤l.foldl (fun n b=>mxI n (b.params-8)) n:=by
  intro l; induction l with
  | nil=>intro n; exact ⟨Int.le_refl _,fun b h=>by cases h⟩
  | cons x l ih =>
   intro n
   have i:=ih (mxI n (x.params-8))
   have m:=mxI_ge n (x.params-8)
   rw [List.foldl_cons]
   refine ⟨by omega,fun b hb=>?_⟩
   rcases List.mem_cons.1 hb with rfl | hb
   ·omega
   ·exact i.2 b hb
 exact (h _ 0).2 b hb
theorem con_f73c {lo top:Nat} {c:CodeD} {t:Int} (hf:Fit c) (hchk:R.check c t=0) {b:BlockD} {k:Nat} (hy:c.blocks[k]?=some b) (keep:Bool) {first:Int} (hfirst:0≤first∧first≤1000000) (hfp:b.params-8≤first) :
  PX.Con Try.prog 73 [.agg (encB b),.sc (.bool keep),.sc (.I first)] [] lo top (.tup [.imm 3 ((blkPl keep first (cnD b) b).1.map encR),.sc (.I (((blkPl keep first (cnD b) b).2:Nat):Int))]) []:=by
 obtain ⟨ho,hpar,hcn,hp0,hp1,ho6,ha0,ha1⟩:=aok_of hf hchk hy
 have hok:=blk_ok hchk hy
 have hcv:=cnt_val hok
 have hd:∀ v∈dsts b.ops,v∈R.values b:=fun v hv=>by rw [values_eq2]; exact List.mem_append_right _ hv
 have hu:=opsFrom_uses (known:=R.upto b.params) hok.ops (fun v hv=>by rw [values_eq2]; exact List.mem_append_left _ hv) hd
 have hsrc:∀ o∈b.ops,o.kind=21→o.sk=2→o.sv∈R.values b:=fun o h1 h2 h3=>(hu o h1).2.2 h2 h3
 rw [← blk_eq hok hsrc keep hfirst.1 hfp]
 have hfa:=hf.term b (List.mem_of_getElem? hy)
 refine PX.con_any (con_f73 b keep first (cnD b) (by rw [top_cnt hok,hcn]) (by unfold cnD; omega) ⟨hp0,hp1⟩ ho6 ⟨by omega,by omega,by omega⟩ ho.dst (fun k y hyk v hv=>?_) (fun v hv=>ho.term v ((ends_eq hok v).2 hv)) hpar hfirst hfp)
 have hym:=List.mem_of_getElem? hyk
 rcases (usesR_mem v).1 hv with q | ⟨_,_,q⟩
 ·unfold usesAB uA uB at q
  rcases List.mem_append.1 q with q | q
  ·split at q
   ·rename_i h1; simp only [List.mem_singleton] at q; subst q; exact ho.ua y hym h1
   ·cases q
  ·split at q
   ·rename_i h1; simp only [List.mem_singleton] at q; subst q; exact ho.ub y hym h1
   ·cases q
 ·obtain ⟨o,h1,rfl⟩:=List.mem_map.1 q
  obtain ⟨h2,h3⟩:=List.mem_filter.1 h1
  simp only [Bool.and_eq_true,beq_iff_eq] at h3
  obtain ⟨q1,q2⟩:=curD_sub _ o h2
  exact ho.src o (List.mem_of_mem_take q1) q2 h3.1

set_option maxHeartbeats 2000000 in
theorem con_f33 (keep:Bool) (c:CodeD) (hi:CodeI c):PX.Con Try.prog 33 [(codeP c),(.sc (.bool keep))] [] 1 100000 (layP (layD keep c)) []:=by
 refine PX.con_intro [(codeP c),(.sc (.bool keep))] 96 Try.func33 rfl rfl (by kernel_rfl) (by kernel_rfl) ?_
 intro E a hE hS
 generalize E.w0=w at hS ⊢
 have mix:=mixed
 refine PX.G [(.e 2 (.ptr 1 0)),(.e 4 (.ptr 2 0))] [(1,.box 26 (codeL c)),(2,.box 68 [(.sc (.slice none 0 0)),(.J 0),(.J 0),(.sc (.slice none 0 0)),(.J 0)])] 3 [] [] [.au,.au] [1,2,4] [1,2] hS hE trivial fun a w hS=>?_
 refine PX.G [(.e 5 (.ptr 3 0))] [(3,.box 68 [(.sc (.slice none 0 0)),(.J 0),(.J 0),(.sc (.slice none 0 0)),(.J 0)])] 4 [] [] [.au] [1,2,4,5] [1,2,3] hS hE trivial fun a w hS=>?_
 refine wp_seq_k fun K1 hK1=>?_
 refine PX.G [(.e 18 (.sc (.bool ((R.check c (totW c.blocks)) != 0))))] [] 4 [.q (PX.Con Try.prog 18 [(codeP c)] [] 4 4 (.sc (.I (R.check c (totW c.blocks)))) [])] [] [.au,.cl [] (.sc (.I (R.check c (totW c.blocks)))) [] 4,.au] [1,2,4,5,18] [1,2,3] hS hE ⟨con_rcheck hi,trivial⟩ fun a w hS=>?_
 refine PX.cond_s ((R.check c (totW c.blocks)) != 0) hS (by kernel_rfl) (fun h2=>?_) (fun h2=>?_)
 ·skip
  refine PX.G [] [(2,.box 68 [(.sc (.slice none 0 0)),(.J 0),(.J 0),(.sc (.slice none 0 0)),(.J 0)])] 4 [] [] [.au,.au] [4] [2] hS hE trivial fun a w hS=>?_
  replace hS:=PX.recell (id:=2) (j:=0) (.imm 1 []) hS rfl rfl rfl (PX.nil_imm 1)
  replace hS:=PX.recell (id:=2) (j:=3) (.imm 1 []) hS rfl rfl rfl (PX.nil_imm 1)
  refine wp_ret ?_
  rw [show (layP (layD keep c))=((.agg [(.imm 1 ([])),(.J 0),(.J 0),(.imm 1 ([])),(.J 0)]):PX.PV) from by unfold layD; rw [if_neg (show ¬ R.check c (totW c.blocks)=0 by simpa using h2)] <;> rfl]
  exact PX.rt hS hE (.inl rfl)
 ·skip
  refine wp_skip ?_
  refine hK1 _ _ ?_
  have hchk:R.check c (totW c.blocks)=0:=by simpa using h2
  have hfit:=fit_of hi hchk
  have hb400:=hfit.blocks; have hobj:=hfit.obj
  refine PX.G [(.e 6 (.J 0))] [] 4 [] [] [.au] [1,2,4,5,6] [1,2,3] hS hE trivial fun a w hS=>?_
  replace hS:=PX.recell (id:=3) (j:=0) (.own 4 1 0) (PX.newrow 76 1 hS (hE.le (by decide))) rfl rfl rfl (PX.nil_own 4 1)
  replace hS:=PX.recell (id:=3) (j:=3) (.own 5 1 0) (PX.newrow 3 1 hS (hE.le (by decide))) rfl rfl rfl (PX.nil_own 5 1)
  refine wp_seq_k fun K3 hK3=>?_
  refine PX.G [(.e 21 (.imm 10 (c.blocks.map encB))),(.e 22 (.sc (.I (c.blocks.length:Int)))),(.e 23 (.J 0))] [] 6 [.q ((.sc (.I (((c.blocks.map encB).length:Nat):Int)):PX.PV)=(.sc (.I (c.blocks.length:Int))))] [] [.au,.au,.nm (.sc (.I (c.blocks.length:Int))),.au] [1,2,4,5,6,21,22,23] [1,2,3,4,5] hS hE ⟨PX.nm_len (by simp),trivial⟩ fun a w hS=>?_
  refine wp_block ?_
  replace hS:=PX.recell (id:=3) (j:=2) (.sc (.I (savA c (0)))) hS rfl rfl rfl (fun _ _ _ _ h=>(show (.sc (.I 0):PX.PV)=.sc (.I (savA c (0))) from rfl) ▸ h)
  replace hS:=PX.sl [1,2,4,5,6,21,22,23] (PX.reslot (t:=6) (.sc (.I (parA c (0)))) hS rfl (fun _ _ _ _ h=>(show (.sc (.I 0):PX.PV)=.sc (.I (parA c (0))) from rfl) ▸ h))
  refine wp_loop_ghost (fun m4 a' w'=>∃ k:Nat,m4=c.blocks.length-k∧k≤c.blocks.length∧True∧PX.Sat E 96 [(.e 1 (.sc (.bool keep))),(.e 2 (.ptr 1 0)),(.e 4 (.ptr 2 0)),(.e 5 (.ptr 3 0)),(.e 6 (.sc (.I (parA c (k))))),(.e 21 (.imm 10 (c.blocks.map encB))),(.e 22 (.sc (.I (c.blocks.length:Int)))),(.e 23 (.sc (.I (k:Int))))] [(1,.box 26 (codeL c)),(2,.box 68 [(.sc (.slice none 0 0)),(.J 0),(.J 0),(.sc (.slice none 0 0)),(.J 0)]),(3,.box 68 [(.own 4 1 0),(.J 0),(.sc (.I (savA c (k)))),(.own 5 1 0),(.J 0)]),(4,.row 76 1 true ([])),(5,.row 3 1 true ([]))] 6 a' w') (c.blocks.length-0) ⟨0,rfl,Nat.zero_le _,trivial,(PX.cn [] _ _ 6 hS hE)⟩ ?_
  clear hS; rintro m4 a w ⟨k,hm4,hlek,hIk,hS⟩
  refine PX.G [(.e 24 (.sc (.bool (decide ((k:Int)<(c.blocks.length:Int))))))] [] 6 [] [] [.au] [1,2,4,5,6,21,22,23,24] [1,2,3,4,5] hS hE trivial fun a w hS=>?_
  refine wp_seq_k fun K5 hK5=>?_
  refine PX.cond_s (decide ((k:Int)<(c.blocks.length:Int))) hS (by kernel_rfl) (fun h6=>?_) (fun h6=>?_)
  ·skip
   refine wp_skip ?_
   refine hK5 _ _ ?_
   refine wp_seq_k fun K7 hK7=>?_
   refine wp_block ?_
   have hlty:k<c.blocks.length:=by simpa using h6
   obtain ⟨y,hy⟩:=get_of_lt hlty
   obtain ⟨hok,hpar,hcn,hp0,hp1,ho6,ha0,ha1⟩:=aok_of hfit hchk hy
   refine PX.G [(.e 8 (.ptr 6 0))] [(6,.box 62 (encB y))] 7 [.q ((k:Int)=(k:Int)),.q ((c.blocks.map encB)[k]?=some (encB y))] [] [.ix k (encB y),.au,.au,.au] [1,2,4,5,6,8,21,22,23] [1,2,3,4,5,6] hS hE ⟨rfl,PX.map_get hy,trivial⟩ fun a w hS=>?_
   refine PX.G [(.e 6 (.sc (.I (if (y.params-8) > (parA c (k)) then (y.params-8) else (parA c (k))))))] [] 7 [.q ((.sc (.I (IntKind.i64.wrap (y.params-8))):PX.PV)=(.sc (.I (y.params-8))))] [] [.au,.au,.au,.nm (.sc (.I (y.params-8))),.au,.au] [1,2,4,5,6,8,21,22,23] [1,2,3,4,5,6] hS hE ⟨PX.nm_int (by rw [IntWalk.i64_in _ (by omega)]),trivial⟩ fun a w hS=>?_
   refine PX.D0 [] [(3,.box 68 [(.own 4 1 0),(.J 0),(.sc (.I (if (((savedD y.term).length:Nat):Int) > (savA c (k)) then (((savedD y.term).length:Nat):Int) else (savA c (k))))),(.own 5 1 0),(.J 0)])] 7 [.q (PX.Con Try.prog 30 [(.agg (encB y))] [] 7 7 (.imm 1 ((savedD y.term).map encI)) []),.q ((.sc (.I ((((savedD y.term).map encI).length:Nat):Int)):PX.PV)=(.sc (.I (((savedD y.term).length:Nat):Int))))] [] [.au,.au,.au,.cl [] (.imm 1 ((savedD y.term).map encI)) [] 7,.nm (.sc (.I (((savedD y.term).length:Nat):Int))),.au,.au,.au] [1,2,4,5,6,21,22,23] [1,2,3,4,5] hS mixed hE ⟨PX.con_any (con_f30 y (by omega)),PX.nm_len (by simp),trivial⟩ fun a w hS=>?_
   refine hK7 _ _ ?_
   refine PX.G0 [(.e 23 (.sc (.I ((k+1:Nat):Int))))] [] 7 [.q ((.sc (.I (IntKind.i64.wrap ((k:Int)+1))):PX.PV)=(.sc (.I ((k+1:Nat):Int))))] [] [.nm (.sc (.I ((k+1:Nat):Int))),.au] [1,2,4,5,6,21,22,23] [1,2,3,4,5] hS hE ⟨PX.nm_int (by rw [IntWalk.i64_in _ (by omega)]; omega),trivial⟩ fun a w hS=>?_
   replace hS:=PX.recell (id:=3) (j:=2) (.sc (.I (savA c (k+1)))) hS rfl rfl rfl (fun _ _ _ _ h=>(show ((.sc (.I (if (((savedD y.term).length:Nat):Int) > (savA c (k)) then (((savedD y.term).length:Nat):Int) else (savA c (k))))):PX.PV)=(.sc (.I (savA c (k+1)))) from by unfold savA; rw [fold_succ _ _ hy]; rfl) ▸ h)
   replace hS:=PX.sl [1,2,4,5,6,21,22,23] (PX.reslot (t:=6) (.sc (.I (parA c (k+1)))) hS rfl (fun _ _ _ _ h=>(show ((.sc (.I (if (y.params-8) > (parA c (k)) then (y.params-8) else (parA c (k))))):PX.PV)=(.sc (.I (parA c (k+1)))) from by unfold parA; rw [fold_succ _ _ hy]; rfl) ▸ h))
   exact ⟨c.blocks.length-(k+1),by omega,k+1,rfl,by omega,trivial,(PX.cn [] _ _ 6 hS hE)⟩
  ·skip
   refine wp_exit ?_
   refine hK3 _ _ ?_
   have hk0:k=c.blocks.length:=by have:=le_of_dec h6; omega
   rw [hk0] at hS
   have hpa:=parA_bd hchk
   refine PX.G [(.e 9 (.J 0))] [] 6 [] [] [.au] [1,2,4,5,6,9] [1,2,3,4,5] hS hE trivial fun a w hS=>?_
   refine wp_seq_k fun K8 hK8=>?_
   refine PX.G [(.e 41 (.imm 10 (c.blocks.map encB))),(.e 42 (.sc (.I (c.blocks.length:Int)))),(.e 43 (.J 0))] [] 6 [.q ((.sc (.I (((c.blocks.map encB).length:Nat):Int)):PX.PV)=(.sc (.I (c.blocks.length:Int))))] [] [.au,.au,.nm (.sc (.I (c.blocks.length:Int))),.au] [1,2,4,5,6,9,41,42,43] [1,2,3,4,5] hS hE ⟨PX.nm_len (by simp),trivial⟩ fun a w hS=>?_
   refine wp_block ?_
   replace hS:=PX.sl [1,2,4,5,6,9,41,42,43] (PX.reslot (t:=9) (.sc (.I (spA keep c (0)))) hS rfl (fun _ _ _ _ h=>(show (.sc (.I 0):PX.PV)=.sc (.I (spA keep c (0))) from rfl) ▸ h))
   refine wp_loop_ghost (fun m9 a' w'=>∃ q:Nat,m9=c.blocks.length-q∧q≤c.blocks.length∧True∧PX.Sat E 96 [(.e 1 (.sc (.bool keep))),(.e 2 (.ptr 1 0)),(.e 4 (.ptr 2 0)),(.e 5 (.ptr 3 0)),(.e 6 (.sc (.I (parA c c.blocks.length)))),(.e 9 (.sc (.I (spA keep c (q))))),(.e 41 (.imm 10 (c.blocks.map encB))),(.e 42 (.sc (.I (c.blocks.length:Int)))),(.e 43 (.sc (.I (q:Int))))] [(1,.box 26 (codeL c)),(2,.box 68 [(.sc (.slice none 0 0)),(.J 0),(.J 0),(.sc (.slice none 0 0)),(.J 0)]),(3,.box 68 [(.own 4 1 ((plA keep c (q)).length)),(.J 0),(.sc (.I (savA c (c.blocks.length)))),(.own 5 1 0),(.J 0)]),(4,.row 76 1 true ((plA keep c (q)).map encPl)),(5,.row 3 1 true ([]))] 6 a' w') (c.blocks.length-0) ⟨0,rfl,Nat.zero_le _,trivial,(PX.cn [] _ _ 6 hS hE)⟩ ?_
   clear hS; rintro m9 a w ⟨q,hm9,hleq,hIq,hS⟩
   refine PX.G [(.e 44 (.sc (.bool (decide ((q:Int)<(c.blocks.length:Int))))))] [] 6 [] [] [.au] [1,2,4,5,6,9,41,42,43,44] [1,2,3,4,5] hS hE trivial fun a w hS=>?_
   refine wp_seq_k fun K10 hK10=>?_
   refine PX.cond_s (decide ((q:Int)<(c.blocks.length:Int))) hS (by kernel_rfl) (fun h11=>?_) (fun h11=>?_)
   ·skip
    refine wp_skip ?_
    refine hK10 _ _ ?_
    refine wp_seq_k fun K12 hK12=>?_
    refine wp_block ?_
    have hlty:q<c.blocks.length:=by simpa using h11
    obtain ⟨y,hy⟩:=get_of_lt hlty
    obtain ⟨hok,hpar,hcn,hp0,hp1,ho6,ha0,ha1⟩:=aok_of hfit hchk hy
    refine PX.G [(.e 11 (.ptr 6 0))] [(6,.box 62 (encB y))] 7 [.q ((q:Int)=(q:Int)),.q ((c.blocks.map encB)[q]?=some (encB y))] [] [.ix q (encB y),.au,.au,.au] [1,2,4,5,6,9,11,41,42,43] [1,2,3,4,5,6] hS hE ⟨rfl,PX.map_get hy,trivial⟩ fun a w hS=>?_
    refine PX.G [(.e 12 (.imm 3 ((blkPl keep (parA c c.blocks.length) (cnD y) y).1.map encR))),(.e 13 (.sc (.I (((blkPl keep (parA c c.blocks.length) (cnD y) y).2:Nat):Int))))] [] 7 [.q (PX.Con Try.prog 73 [(.agg (encB y)),(.sc (.bool keep)),(.sc (.I (parA c c.blocks.length)))] [] 7 7 (.tup [(.imm 3 ((blkPl keep (parA c c.blocks.length) (cnD y) y).1.map encR)),(.sc (.I (((blkPl keep (parA c c.blocks.length) (cnD y) y).2:Nat):Int)))]) [])] [] [.au,.au,.au,.cl [] (.tup [(.imm 3 ((blkPl keep (parA c c.blocks.length) (cnD y) y).1.map encR)),(.sc (.I (((blkPl keep (parA c c.blocks.length) (cnD y) y).2:Nat):Int)))]) [] 7,.au,.au,.au,.au,.au] [1,2,4,5,6,9,12,13,41,42,43] [1,2,3,4,5] hS hE ⟨con_f73c hfit hchk hy keep hpa (parA_ge (List.mem_of_getElem? hy)),trivial⟩ fun a w hS=>?_
    refine PX.G [] [(3,.box 68 [(.own 8 1 (((plA keep c (q)).map encPl:List (List PX.PV)).length+1)),(.J 0),(.sc (.I (savA c (c.blocks.length)))),(.own 5 1 0),(.J 0)]),(8,.row 76 1 true ((plA keep c (q)).map encPl++[[(.imm 3 ((blkPl keep (parA c c.blocks.length) (cnD y) y).1.map encR))]]))] 9 [.b (lenIs ((plA keep c (q)).length) ((plA keep c (q)).map encPl)),.b (lenIs 1 ([[(.imm 3 ((blkPl keep (parA c c.blocks.length) (cnD y) y).1.map encR))]])),.b (Nat.ble (((plA keep c (q)).map encPl:List (List PX.PV)).length+1) 1000000000)] [] [.au,.au,.au,.au,.au,.au,.au] [1,2,4,5,6,9,13,41,42,43] [1,2,3,5,8] hS hE ⟨by simp [PX.lenIs],rfl,by rw [Nat.ble_eq]; unfold plA; simp; omega,trivial⟩ fun a w hS=>?_
    refine PX.G0 [(.e 9 (.sc (.I (if (((blkPl keep (parA c c.blocks.length) (cnD y) y).2:Nat):Int) > (spA keep c (q)) then (((blkPl keep (parA c c.blocks.length) (cnD y) y).2:Nat):Int) else (spA keep c (q))))))] [] 9 [] [] [.au,.au,.au,.au] [1,2,4,5,6,9,41,42,43] [1,2,3,5,8] hS hE trivial fun a w hS=>?_
    refine hK12 _ _ ?_
    refine PX.G0 [(.e 43 (.sc (.I ((q+1:Nat):Int))))] [] 9 [.q ((.sc (.I (IntKind.i64.wrap ((q:Int)+1))):PX.PV)=(.sc (.I ((q+1:Nat):Int))))] [] [.nm (.sc (.I ((q+1:Nat):Int))),.au] [1,2,4,5,6,9,41,42,43] [1,2,3,5,8] hS hE ⟨PX.nm_int (by rw [IntWalk.i64_in _ (by omega)]; omega),trivial⟩ fun a w hS=>?_
    replace hS:=PX.recell (id:=3) (j:=0) (.own 8 1 ((plA keep c (q+1)).length)) hS rfl rfl rfl (fun _ _ _ _ h=>(show (.own 8 1 (((plA keep c (q)).map encPl:List (List PX.PV)).length+1):PX.PV)=.own 8 1 (plA keep c (q+1)).length from by unfold plA; rw [List.take_add_one,hy]; simp) ▸ h)
    replace hS:=PX.rerow (id:=8) ((plA keep c (q+1)).map encPl) hS rfl (by unfold plA; rw [List.take_add_one,hy]; simp [encPl])
    replace hS:=PX.sl [1,2,4,5,6,9,41,42,43] (PX.reslot (t:=9) (.sc (.I (spA keep c (q+1)))) hS rfl (fun _ _ _ _ h=>(show ((.sc (.I (if (((blkPl keep (parA c c.blocks.length) (cnD y) y).2:Nat):Int) > (spA keep c (q)) then (((blkPl keep (parA c c.blocks.length) (cnD y) y).2:Nat):Int) else (spA keep c (q))))):PX.PV)=(.sc (.I (spA keep c (q+1)))) from by unfold spA; rw [fold_succ _ _ hy]; rfl) ▸ h))
    exact ⟨c.blocks.length-(q+1),by omega,q+1,rfl,by omega,trivial,(PX.cn [(4,8)] _ _ 6 hS hE)⟩
   ·skip
    refine wp_exit ?_
    refine hK8 _ _ ?_
    have hq0:q=c.blocks.length:=by have:=le_of_dec h11; omega
    rw [hq0] at hS
    refine PX.G [] [(3,.box 68 [(.own 4 1 ((plA keep c (c.blocks.length)).length)),(.sc (.I (IntKind.i64.wrap ((parA c c.blocks.length)+(spA keep c (c.blocks.length)))))),(.sc (.I (savA c (c.blocks.length)))),(.own 5 1 0),(.J 0)])] 6 [] [] [.au,.au,.au,.au,.au] [2,4,5] [1,2,3,4,5] hS hE trivial fun a w hS=>?_
    refine PX.G [] [(3,.box 68 [(.own 4 1 ((plA keep c (c.blocks.length)).length)),(.sc (.I (IntKind.i64.wrap ((parA c c.blocks.length)+(spA keep c (c.blocks.length)))))),(.sc (.I (savA c (c.blocks.length)))),(.own 5 1 0),(.sc (.I (IntKind.i64.wrap ((IntKind.i64.wrap ((parA c c.blocks.length)+(spA keep c (c.blocks.length))))+(savA c (c.blocks.length))))))])] 6 [] [] [.au,.au,.au,.au,.au,.au,.au] [2,4,5] [1,2,3,4,5] hS hE trivial fun a w hS=>?_
    refine wp_seq_k fun K13 hK13=>?_
    refine PX.G [(.e 75 (.imm 3 (c.objects.map encR))),(.e 76 (.sc (.I (c.objects.length:Int)))),(.e 77 (.J 0))] [] 6 [.q ((.sc (.I (((c.objects.map encR).length:Nat):Int)):PX.PV)=(.sc (.I (c.objects.length:Int))))] [] [.au,.au,.nm (.sc (.I (c.objects.length:Int))),.au] [4,5,75,76,77] [2,3,4,5] hS hE ⟨PX.nm_len (by simp),trivial⟩ fun a w hS=>?_
    refine wp_block ?_
    refine wp_loop_ghost (fun m14 a' w'=>∃ m:Nat,m14=c.objects.length-m∧m≤c.objects.length∧True∧PX.Sat E 96 [(.e 4 (.ptr 2 0)),(.e 5 (.ptr 3 0)),(.e 75 (.imm 3 (c.objects.map encR))),(.e 76 (.sc (.I (c.objects.length:Int)))),(.e 77 (.sc (.I (m:Int))))] [(2,.box 68 [(.sc (.slice none 0 0)),(.J 0),(.J 0),(.sc (.slice none 0 0)),(.J 0)]),(3,.box 68 [(.own 4 1 ((plA keep c (c.blocks.length)).length)),(.sc (.I (IntKind.i64.wrap ((parA c c.blocks.length)+(spA keep c (c.blocks.length)))))),(.sc (.I (savA c (c.blocks.length)))),(.own 5 1 ((objA c (szA keep c) (m)).1.length)),(.sc (.I ((objA c (szA keep c) (m)).2)))]),(4,.row 76 1 true ((plA keep c (c.blocks.length)).map encPl)),(5,.row 3 1 true ((objA c (szA keep c) (m)).1.map encI))] 6 a' w') (c.objects.length-0) ⟨0,rfl,Nat.zero_le _,trivial,(PX.cn [] _ _ 6 hS hE)⟩ ?_
    clear hS; rintro m14 a w ⟨m,hm14,hlem,hIm,hS⟩
    refine PX.G [(.e 78 (.sc (.bool (decide ((m:Int)<(c.objects.length:Int))))))] [] 6 [] [] [.au] [4,5,75,76,77,78] [2,3,4,5] hS hE trivial fun a w hS=>?_
    refine wp_seq_k fun K15 hK15=>?_
    refine PX.cond_s (decide ((m:Int)<(c.objects.length:Int))) hS (by kernel_rfl) (fun h16=>?_) (fun h16=>?_)
    ·skip
     refine wp_skip ?_
     refine hK15 _ _ ?_
     refine wp_seq_k fun K17 hK17=>?_
     refine wp_block ?_
     have hltz:m<c.objects.length:=by simpa using h16
     obtain ⟨z,hz⟩:=get_of_lt hltz
     refine PX.G [(.e 15 (.ptr 6 0))] [(6,.box 102 [(.J z.1),(.J z.2.1),(.J z.2.2)])] 7 [.q ((m:Int)=(m:Int)),.q ((c.objects.map encR)[m]?=some (encR z))] [] [.ix m (encR z),.au,.au,.au] [4,5,15,75,76,77] [2,3,4,5,6] hS hE ⟨rfl,PX.map_get hz,trivial⟩ fun a w hS=>?_
     refine PX.G [] [(3,.box 68 [(.own 4 1 ((plA keep c (c.blocks.length)).length)),(.sc (.I (IntKind.i64.wrap ((parA c c.blocks.length)+(spA keep c (c.blocks.length)))))),(.sc (.I (savA c (c.blocks.length)))),(.own 8 1 (((objA c (szA keep c) (m)).1.map encI:List (List PX.PV)).length+1)),(.sc (.I ((objA c (szA keep c) (m)).2)))]),(8,.row 3 1 true ((objA c (szA keep c) (m)).1.map encI++[[(.sc (.I ((objA c (szA keep c) (m)).2)))]]))] 9 [.b (lenIs ((objA c (szA keep c) (m)).1.length) ((objA c (szA keep c) (m)).1.map encI)),.b (lenIs 1 ([[(.sc (.I ((objA c (szA keep c) (m)).2)))]])),.b (Nat.ble (((objA c (szA keep c) (m)).1.map encI:List (List PX.PV)).length+1) 1000000000)] [] [.au,.au,.au,.au,.au,.au,.au,.au] [4,5,15,75,76,77] [2,3,4,6,8] hS hE ⟨by simp [PX.lenIs],rfl,by rw [Nat.ble_eq]; simp; rw [objA_len c _ m (by omega)]; omega,trivial⟩ fun a w hS=>?_
     refine PX.G0 [] [(3,.box 68 [(.own 4 1 ((plA keep c (c.blocks.length)).length)),(.sc (.I (IntKind.i64.wrap ((parA c c.blocks.length)+(spA keep c (c.blocks.length)))))),(.sc (.I (savA c (c.blocks.length)))),(.own 8 1 (((objA c (szA keep c) (m)).1.map encI:List (List PX.PV)).length+1)),(.sc (.I (IntKind.i64.wrap (((objA c (szA keep c) (m)).2)+z.2.2))))])] 9 [] [] [.au,.au,.au,.au,.au,.au,.au] [4,5,75,76,77] [2,3,4,8] hS hE trivial fun a w hS=>?_
     refine hK17 _ _ ?_
     refine PX.G0 [(.e 77 (.sc (.I ((m+1:Nat):Int))))] [] 9 [.q ((.sc (.I (IntKind.i64.wrap ((m:Int)+1))):PX.PV)=(.sc (.I ((m+1:Nat):Int))))] [] [.nm (.sc (.I ((m+1:Nat):Int))),.au] [4,5,75,76,77] [2,3,4,8] hS hE ⟨PX.nm_int (by rw [IntWalk.i64_in _ (by omega)]; omega),trivial⟩ fun a w hS=>?_
     replace hS:=PX.recell (id:=3) (j:=3) (.own 8 1 ((objA c (szA keep c) (m+1)).1.length)) hS rfl rfl rfl (fun _ _ _ _ h=>(show (.own 8 1 (((objA c (szA keep c) (m)).1.map encI:List (List PX.PV)).length+1):PX.PV)=.own 8 1 (objA c (szA keep c) (m+1)).1.length from by unfold objA; rw [fold_succ _ _ hz]; unfold objStep; simp) ▸ h)
     replace hS:=PX.rerow (id:=8) ((objA c (szA keep c) (m+1)).1.map encI) hS rfl (by unfold objA; rw [fold_succ _ _ hz]; unfold objStep; simp [encI])
     replace hS:=PX.recell (id:=3) (j:=4) (.sc (.I ((objA c (szA keep c) (m+1)).2))) hS rfl rfl rfl (fun _ _ _ _ h=>(show ((.sc (.I (IntKind.i64.wrap (((objA c (szA keep c) (m)).2)+z.2.2)))):PX.PV)=(.sc (.I ((objA c (szA keep c) (m+1)).2))) from by unfold objA; rw [fold_succ _ _ hz]; unfold objStep; rfl) ▸ h)
     exact ⟨c.objects.length-(m+1),by omega,m+1,rfl,by omega,trivial,(PX.cn [(5,8)] _ _ 6 hS hE)⟩
    ·skip
     refine wp_exit ?_
     refine hK13 _ _ ?_
     refine PX.G [] [(2,.box 68 [(.own 4 1 ((plA keep c (c.blocks.length)).length)),(.sc (.I (IntKind.i64.wrap ((parA c c.blocks.length)+(spA keep c (c.blocks.length)))))),(.sc (.I (savA c (c.blocks.length)))),(.own 5 1 ((objA c (szA keep c) (m)).1.length)),(.sc (.I ((objA c (szA keep c) (m)).2)))])] 6 [] [] [.au,.au] [4] [2,4,5] hS hE trivial fun a w hS=>?_
     have hm0:m=c.objects.length:=by have:=le_of_dec h16; omega
     replace hS:=PX.sl [4] hS
     replace hS:=PX.fz 4 [] [(2,.box 68 [(.imm 1 ((plA keep c (c.blocks.length)).map encPl)),(.sc (.I (IntKind.i64.wrap ((parA c c.blocks.length)+(spA keep c (c.blocks.length)))))),(.sc (.I (savA c (c.blocks.length)))),(.own 5 1 ((objA c (szA keep c) (m)).1.length)),(.sc (.I ((objA c (szA keep c) (m)).2)))])] [4] [2,5] [.b (PX.lenIs ((plA keep c (c.blocks.length)).length) ((plA keep c (c.blocks.length)).map encPl))] hS ⟨(by simp [PX.lenIs]),trivial⟩
     replace hS:=PX.fz 5 [] [(2,.box 68 [(.imm 1 ((plA keep c (c.blocks.length)).map encPl)),(.sc (.I (IntKind.i64.wrap ((parA c c.blocks.length)+(spA keep c (c.blocks.length)))))),(.sc (.I (savA c (c.blocks.length)))),(.imm 1 ((objA c (szA keep c) (m)).1.map encI)),(.sc (.I ((objA c (szA keep c) (m)).2)))])] [4] [2] [.b (PX.lenIs ((objA c (szA keep c) (m)).1.length) ((objA c (szA keep c) (m)).1.map encI))] hS ⟨(by simp [PX.lenIs]),trivial⟩
     refine wp_ret ?_
     rw [show (layP (layD keep c))=((.agg [(.imm 1 ((plA keep c (c.blocks.length)).map encPl)),(.sc (.I (IntKind.i64.wrap ((parA c c.blocks.length)+(spA keep c (c.blocks.length)))))),(.sc (.I (savA c (c.blocks.length)))),(.imm 1 ((objA c (szA keep c) (m)).1.map encI)),(.sc (.I ((objA c (szA keep c) (m)).2)))]):PX.PV) from by unfold layD; rw [if_pos hchk,hm0] <;> rfl]
     exact PX.rt hS hE (.inl rfl)

set_option maxHeartbeats 400000 in
theorem con_f28s (xs:List Int) (hl:xs.length≤300000000):PX.Con Try.prog 28 [(.imm 1 (xs.map encI)),(.imm 1 (xs.map encI))] [] 1 100000 (.sc (.bool true)) []:=by
 refine PX.con_intro [(.imm 1 (xs.map encI)),(.imm 1 (xs.map encI))] 26 Try.func28 rfl rfl (by kernel_rfl) (by kernel_rfl) ?_
 intro E a hE hS
 generalize E.w0=w at hS ⊢
 have mix:=mixed
 refine PX.G [] [] 1 [] [] [.au] [0,1] [] hS hE trivial fun a w hS=>?_
 refine wp_seq_k fun K1 hK1=>?_
 refine PX.G [(.e 10 (.sc (.bool ((xs.length:Int) != (xs.length:Int)))))] [] 1 [.q ((.sc (.I (((xs.map encI).length:Nat):Int)):PX.PV)=(.sc (.I (xs.length:Int)))),.q ((.sc (.I (((xs.map encI).length:Nat):Int)):PX.PV)=(.sc (.I (xs.length:Int))))] [] [.au,.nm (.sc (.I (xs.length:Int))),.au,.nm (.sc (.I (xs.length:Int))),.au] [0,1,10] [] hS hE ⟨PX.nm_len (by simp),PX.nm_len (by simp),trivial⟩ fun a w hS=>?_
 refine PX.cond_s ((xs.length:Int) != (xs.length:Int)) hS (by kernel_rfl) (fun h2=>?_) (fun h2=>?_)
 ·skip
  exact absurd h2 (by simp)
 ·skip
  refine wp_skip ?_
  refine hK1 _ _ ?_
  refine wp_seq_k fun K3 hK3=>?_
  refine PX.G [(.e 5 (.J 0))] [] 1 [] [] [.au] [0,1,5] [] hS hE trivial fun a w hS=>?_
  refine wp_block ?_
  refine wp_loop_ghost (fun m4 a' w'=>∃ k:Nat,m4=xs.length-k∧k≤xs.length∧True∧PX.Sat E 26 [(.e 0 (.imm 1 (xs.map encI))),(.e 1 (.imm 1 (xs.map encI))),(.e 5 (.sc (.I (k:Int))))] [] 1 a' w') (xs.length-0) ⟨0,rfl,Nat.zero_le _,trivial,(PX.cn [] _ _ 1 hS hE)⟩ ?_
  clear hS; rintro m4 a w ⟨k,hm4,hlek,hIk,hS⟩
  refine wp_seq_k fun K5 hK5=>?_
  refine PX.G [(.e 14 (.sc (.bool (decide ((k:Int)<(xs.length:Int))))))] [] 1 [.q ((.sc (.I (((xs.map encI).length:Nat):Int)):PX.PV)=(.sc (.I (xs.length:Int))))] [] [.au,.au,.nm (.sc (.I (xs.length:Int))),.au] [0,1,5,14] [] hS hE ⟨PX.nm_len (by simp),trivial⟩ fun a w hS=>?_
  refine PX.cond_s (decide ((k:Int)<(xs.length:Int))) hS (by kernel_rfl) (fun h6=>?_) (fun h6=>?_)
  ·skip
   refine wp_skip ?_
   refine hK5 _ _ ?_
   refine wp_seq_k fun K7 hK7=>?_
   refine wp_block ?_
   have hlty:k<xs.length:=by simpa using h6
   obtain ⟨y,hy⟩:=get_of_lt hlty
   refine PX.D [(.e 25 (.sc (.bool (y != y))))] [] 1 [.q ((k:Int)=(k:Int)),.q ((xs.map encI)[k]?=some (encI y)),.q ((k:Int)=(k:Int)),.q ((xs.map encI)[k]?=some (encI y))] [] [.au,.au,.ix k (encI y),.au,.au,.au,.ix k (encI y),.au,.au] [0,1,5,25] [] hS mixed hE ⟨rfl,PX.map_get hy,rfl,PX.map_get hy,trivial⟩ fun a w hS=>?_
   refine PX.cond_s (y != y) hS (by kernel_rfl) (fun h8=>?_) (fun h8=>?_)
   ·skip
    exact absurd h8 (by simp)
   ·skip
    refine wp_skip ?_
    refine hK7 _ _ ?_
    refine PX.G0 [(.e 5 (.sc (.I ((k+1:Nat):Int))))] [] 1 [.q ((.sc (.I (IntKind.i64.wrap ((k:Int)+1))):PX.PV)=(.sc (.I ((k+1:Nat):Int))))] [] [.au,.nm (.sc (.I ((k+1:Nat):Int))),.au] [0,1,5] [] hS hE ⟨PX.nm_int (by rw [IntWalk.i64_in _ (by omega)]; omega),trivial⟩ fun a w hS=>?_
    exact ⟨xs.length-(k+1),by omega,k+1,rfl,by omega,trivial,(PX.cn [] _ _ 1 hS hE)⟩
  ·skip
   refine wp_exit ?_
   refine hK3 _ _ ?_
   refine PX.G [(.e 4 (.sc (.bool true)))] [] 1 [] [] [.au] [4] [] hS hE trivial fun a w hS=>?_
   refine wp_ret ?_
   exact PX.rt hS hE (.inl rfl)

set_option maxHeartbeats 1000000 in
theorem con_f31 (l:LayD) (hob:l.objects.length≤1000000) (hlp:l.places.length≤1000000) (hpl:∀ y∈l.places,y.length≤1000000):PX.Con Try.prog 31 [(.agg [(.imm 1 (l.places.map encPl)),(.J l.slots),(.J l.saves),(.imm 1 (l.objects.map encI)),(.J l.size)]),(.agg [(.imm 1 (l.places.map encPl)),(.J l.slots),(.J l.saves),(.imm 1 (l.objects.map encI)),(.J l.size)])] [] 1 100000 (.sc (.bool true)) []:=by
 refine PX.con_intro [(.agg [(.imm 1 (l.places.map encPl)),(.J l.slots),(.J l.saves),(.imm 1 (l.objects.map encI)),(.J l.size)]),(.agg [(.imm 1 (l.places.map encPl)),(.J l.slots),(.J l.saves),(.imm 1 (l.objects.map encI)),(.J l.size)])] 61 Try.func31 rfl rfl (by kernel_rfl) (by kernel_rfl) ?_
 intro E a hE hS
 generalize E.w0=w at hS ⊢
 have mix:=mixed
 refine PX.G [(.e 2 (.ptr 1 0)),(.e 3 (.ptr 2 0))] [(1,.box 68 [(.imm 1 (l.places.map encPl)),(.J l.slots),(.J l.saves),(.imm 1 (l.objects.map encI)),(.J l.size)]),(2,.box 68 [(.imm 1 (l.places.map encPl)),(.J l.slots),(.J l.saves),(.imm 1 (l.objects.map encI)),(.J l.size)])] 3 [] [] [.au,.au,.au] [2,3] [1,2] hS hE trivial fun a w hS=>?_
 refine wp_seq_k fun K1 hK1=>?_
 refine PX.G [(.e 41 (.sc (.bool (((((l.slots != l.slots)||(l.saves != l.saves))||(l.size != l.size))||false)||((l.places.length:Int) != (l.places.length:Int))))))] [] 3 [.q (SX.pv [(5,(l.slots != l.slots)),(12,((l.slots != l.slots)||(l.saves != l.saves))),(19,(((l.slots != l.slots)||(l.saves != l.saves))||(l.size != l.size))),(27,((((l.slots != l.slots)||(l.saves != l.saves))||(l.size != l.size))||false))] [(19,false)]=true→PX.AllOb [.q (PX.Con Try.prog 28 [(.imm 1 (l.objects.map encI)),(.imm 1 (l.objects.map encI))] [] 3 3 (.sc (.bool true)) [])]),.q (SX.pv [(5,(l.slots != l.slots)),(12,((l.slots != l.slots)||(l.saves != l.saves))),(19,(((l.slots != l.slots)||(l.saves != l.saves))||(l.size != l.size))),(27,((((l.slots != l.slots)||(l.saves != l.saves))||(l.size != l.size))||false))] [(27,false)]=true→PX.AllOb [.q ((.sc (.I (((l.places.map encPl).length:Nat):Int)):PX.PV)=(.sc (.I (l.places.length:Int))))]),.q (SX.pv [(5,(l.slots != l.slots)),(12,((l.slots != l.slots)||(l.saves != l.saves))),(19,(((l.slots != l.slots)||(l.saves != l.saves))||(l.size != l.size))),(27,((((l.slots != l.slots)||(l.saves != l.saves))||(l.size != l.size))||false))] [(27,false)]=true→PX.AllOb [.q ((.sc (.I (((l.places.map encPl).length:Nat):Int)):PX.PV)=(.sc (.I (l.places.length:Int))))])] [(5,(l.slots != l.slots)),(12,((l.slots != l.slots)||(l.saves != l.saves))),(19,(((l.slots != l.slots)||(l.saves != l.saves))||(l.size != l.size))),(27,((((l.slots != l.slots)||(l.saves != l.saves))||(l.size != l.size))||false))] [.au,.au,.au,.au,.au,.au,.au,.au,.au,.au,.au,.pk,.au,.au,.au,.au,.au,.au,.pk,.au,.au,.au,.au,.au,.cl [] (.sc (.bool true)) [] 3,.au,.pk,.au,.au,.au,.nm (.sc (.I (l.places.length:Int))),.au,.au,.nm (.sc (.I (l.places.length:Int))),.au,.pk] [2,3,41] [1,2] hS hE ⟨fun hg=>⟨PX.con_any (con_f28s l.objects (by omega)),trivial⟩,fun hg=>⟨PX.nm_len (by simp),trivial⟩,fun hg=>⟨PX.nm_len (by simp),trivial⟩,trivial⟩ fun a w hS=>?_
 refine PX.cond_s (((((l.slots != l.slots)||(l.saves != l.saves))||(l.size != l.size))||false)||((l.places.length:Int) != (l.places.length:Int))) hS (by kernel_rfl) (fun h2=>?_) (fun h2=>?_)
 ·skip
  exact absurd h2 (by simp)
 ·skip
  refine wp_skip ?_
  refine hK1 _ _ ?_
  refine wp_seq_k fun K3 hK3=>?_
  refine PX.G [(.e 5 (.J 0))] [] 3 [] [] [.au] [2,3,5] [1,2] hS hE trivial fun a w hS=>?_
  refine wp_block ?_
  refine wp_loop_ghost (fun m4 a' w'=>∃ k:Nat,m4=l.places.length-k∧k≤l.places.length∧True∧PX.Sat E 61 [(.e 2 (.ptr 1 0)),(.e 3 (.ptr 2 0)),(.e 5 (.sc (.I (k:Int))))] [(1,.box 68 [(.imm 1 (l.places.map encPl)),(.J l.slots),(.J l.saves),(.imm 1 (l.objects.map encI)),(.J l.size)]),(2,.box 68 [(.imm 1 (l.places.map encPl)),(.J l.slots),(.J l.saves),(.imm 1 (l.objects.map encI)),(.J l.size)])] 3 a' w') (l.places.length-0) ⟨0,rfl,Nat.zero_le _,trivial,(PX.cn [] _ _ 3 hS hE)⟩ ?_
  clear hS; rintro m4 a w ⟨k,hm4,hlek,hIk,hS⟩
  refine wp_seq_k fun K5 hK5=>?_
  refine PX.G [(.e 46 (.sc (.bool (decide ((k:Int)<(l.places.length:Int))))))] [] 3 [.q ((.sc (.I (((l.places.map encPl).length:Nat):Int)):PX.PV)=(.sc (.I (l.places.length:Int))))] [] [.au,.au,.au,.nm (.sc (.I (l.places.length:Int))),.au] [2,3,5,46] [1,2] hS hE ⟨PX.nm_len (by simp),trivial⟩ fun a w hS=>?_
  refine PX.cond_s (decide ((k:Int)<(l.places.length:Int))) hS (by kernel_rfl) (fun h6=>?_) (fun h6=>?_)
  ·skip
   refine wp_skip ?_
   refine hK5 _ _ ?_
   refine wp_seq_k fun K7 hK7=>?_
   refine wp_block ?_
   have hlty:k<l.places.length:=by simpa using h6
   obtain ⟨y,hy⟩:=get_of_lt hlty
   refine PX.D [(.e 60 (.sc (.bool false)))] [] 3 [.q ((k:Int)=(k:Int)),.q ((l.places.map encPl)[k]?=some (encPl y)),.q ((k:Int)=(k:Int)),.q ((l.places.map encPl)[k]?=some (encPl y)),.q (PX.Con Try.prog 70 [(.imm 3 (y.map encR)),(.imm 3 (y.map encR))] [] 3 3 (.sc (.bool true)) [])] [] [.au,.au,.au,.ix k (encPl y),.au,.au,.au,.au,.ix k (encPl y),.au,.cl [] (.sc (.bool true)) [] 3,.au] [2,3,5,60] [1,2] hS mixed hE ⟨rfl,PX.map_get hy,rfl,PX.map_get hy,PX.con_any (con_f70 y (hpl y (List.mem_of_getElem? hy))),trivial⟩ fun a w hS=>?_
   refine PX.cond_s false hS (by kernel_rfl) (fun h8=>nomatch h8) (fun h8=>?_)
   refine wp_skip ?_
   refine hK7 _ _ ?_
   refine PX.G0 [(.e 5 (.sc (.I ((k+1:Nat):Int))))] [] 3 [.q ((.sc (.I (IntKind.i64.wrap ((k:Int)+1))):PX.PV)=(.sc (.I ((k+1:Nat):Int))))] [] [.au,.nm (.sc (.I ((k+1:Nat):Int))),.au] [2,3,5] [1,2] hS hE ⟨PX.nm_int (by rw [IntWalk.i64_in _ (by omega)]; omega),trivial⟩ fun a w hS=>?_
   exact ⟨l.places.length-(k+1),by omega,k+1,rfl,by omega,trivial,(PX.cn [] _ _ 3 hS hE)⟩
  ·skip
   refine wp_exit ?_
   refine hK3 _ _ ?_
   refine PX.G [(.e 4 (.sc (.bool true)))] [] 3 [] [] [.au] [4] [] hS hE trivial fun a w hS=>?_
   refine wp_ret ?_
   exact PX.rt hS hE (.inl rfl)
end Go.Proofs.Ytlkcidmmpeebeaa
