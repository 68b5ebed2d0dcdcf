/- Proved: alloc.Allocate -/
import Derived.Test.YtlkcidmmpeebeaaPcM
set_option linter.unusedVariables false
set_option linter.unusedSimpArgs false
namespace Go.Proofs.Ytlkcidmmpeebeaa
open Go.RowKit Go.PX
set_option maxRecDepth 100000
def parA (c:CodeD) (k:Nat):Int:=(c.blocks.take k).foldl (fun n b=>mxI n (b.params-8)) 0
def savA (c:CodeD) (k:Nat):Int:=(c.blocks.take k).foldl (fun n b=>mxI n (((savedD b.term).length:Nat):Int)) 0
def plA (keep:Bool) (c:CodeD) (k:Nat):List (List PlaceD):=(c.blocks.take k).map fun b=>(blkPl keep (parA c c.blocks.length) (cnD b) b).1
def spA (keep:Bool) (c:CodeD) (k:Nat):Int:=(c.blocks.take k).foldl (fun n b=>mxI n (((blkPl keep (parA c c.blocks.length) (cnD b) b).2:Nat):Int)) 0
def objStep (s:List Int × Int) (o:Int × Int × Int):List Int × Int:=(s.1++[s.2],IntKind.i64.wrap (s.2+o.2.2))
def objA (c:CodeD) (x:Int) (k:Nat):List Int × Int:=(c.objects.take k).foldl objStep ([],x)
structure LayD where
 places:List (List PlaceD)
 slots:Int
 saves:Int
 objects:List Int
 size:Int
def encPl (l:List PlaceD):List PX.PV:=[.imm 3 (l.map encR)]
def layP (l:LayD):PX.PV:=.agg [.imm 1 (l.places.map encPl),.sc (.I l.slots),.sc (.I l.saves),.imm 1 (l.objects.map encI),.sc (.I l.size)]
def slA (keep:Bool) (c:CodeD):Int:=IntKind.i64.wrap (parA c c.blocks.length+spA keep c c.blocks.length)
def szA (keep:Bool) (c:CodeD):Int:=IntKind.i64.wrap (slA keep c+savA c c.blocks.length)
def layD (keep:Bool) (c:CodeD):LayD :=
 if R.check c (totW c.blocks)=0 then ⟨plA keep c c.blocks.length,slA keep c,savA c c.blocks.length,(objA c (szA keep c) c.objects.length).1,(objA c (szA keep c) c.objects.length).2⟩ else ⟨[],0,0,[],0⟩
theorem fold_succ {α β:Type} (f:β→α→β) (x:β) {l:List α} {k:Nat} {y:α} (hy:l[k]?=some y):(l.take (k+1)).foldl f x=f ((l.take k).foldl f x) y:=by
 rw [List.take_add_one,hy]; simp [List.foldl_append]
theorem mxI_fold {α:Type} (f:α→Int) (m:Int):∀ (l:List α) (n:Int),0≤n→n≤m→(∀ x∈l,f x≤m)→0≤l.foldl (fun n x=>mxI n (f x)) n∧l.foldl (fun n x=>mxI n (f x)) n≤m
 | [],n,h1,h2,_=>⟨h1,h2⟩
 | x::l,n,h1,h2,h=>by
  have hx:=h x (by simp)
  refine mxI_fold f m l (mxI n (f x)) ?_ ?_ (fun v hv=>h v (by simp [hv])) <;> unfold mxI <;> split <;> omega
theorem parA_bd {c:CodeD} {t:Int} (h:R.check c t=0):0≤parA c c.blocks.length∧parA c c.blocks.length≤1000000:=by
 unfold parA
 rw [List.take_length]
 refine mxI_fold (fun b:BlockD=>b.params-8) 1000000 _ 0 (by omega) (by omega) fun b hb=>?_
 obtain ⟨k,hk⟩:=List.getElem?_of_mem hb
 have:=(blk_ok h hk).params
 show b.params-8≤1000000
 omega
theorem objA_len (c:CodeD) (x:Int):∀ k,k≤c.objects.length→(objA c x k).1.length=k
 | 0,_=>rfl
 | k+1,h=>by
  obtain ⟨y,hy⟩:=get_of_lt (show k<c.objects.length by omega)
  have ih:=objA_len c x k (by omega)
  unfold objA at ih ⊢
  rw [fold_succ _ _ hy]
  show ((List.foldl objStep ([],x) (c.objects.take k)).1++[_]).length=k+1
  rw [List.length_append,ih]; rfl

set_option maxHeartbeats 2000000 in
theorem con_f32 (keep:Bool) (c:CodeD) (hi:CodeI c) (hM:keep=true→R.check c (totW c.blocks)=0→∀ b∈c.blocks,M144 (cnD b) b):PX.Con Try.prog 32 [(codeP c),(.sc (.bool keep))] [] 1 100000 (layP (layD keep c)) []:=by
 refine PX.con_intro [(codeP c),(.sc (.bool keep))] 96 Try.func32 rfl rfl (by kernel_rfl) (by kernel_rfl) ?_
 intro E a hE hS
 generalize E.w0=w at hS ⊢
 have mix:=mixed
 refine PX.G [(.e 2 (.ptr 1 0)),(.e 4 (.ptr 2 0))] [(1,.box 26 (codeL c)),(2,.box 68 [(.sc (.slice none 0 0)),(.J 0),(.J 0),(.sc (.slice none 0 0)),(.J 0)])] 3 [] [] [.au,.au] [1,2,4] [1,2] hS hE trivial fun a w hS=>?_
 refine wp_seq_k fun K1 hK1=>?_
 refine PX.G [(.e 18 (.sc (.bool ((P.check c (totW c.blocks)) != 0))))] [] 3 [.q (PX.Con Try.prog 46 [(codeP c)] [] 3 3 (.sc (.I (P.check c (totW c.blocks)))) [])] [] [.au,.cl [] (.sc (.I (P.check c (totW c.blocks)))) [] 3,.au] [1,2,4,18] [1,2] hS hE ⟨con_check hi,trivial⟩ fun a w hS=>?_
 refine PX.cond_s ((P.check c (totW c.blocks)) != 0) hS (by kernel_rfl) (fun h2=>?_) (fun h2=>?_)
 ·skip
  refine PX.G [] [(2,.box 68 [(.sc (.slice none 0 0)),(.J 0),(.J 0),(.sc (.slice none 0 0)),(.J 0)])] 3 [] [] [.au,.au] [4] [2] hS hE trivial fun a w hS=>?_
  replace hS:=PX.recell (id:=2) (j:=0) (.imm 1 []) hS rfl rfl rfl (PX.nil_imm 1)
  replace hS:=PX.recell (id:=2) (j:=3) (.imm 1 []) hS rfl rfl rfl (PX.nil_imm 1)
  refine wp_ret ?_
  rw [show (layP (layD keep c))=((.agg [(.imm 1 ([])),(.J 0),(.J 0),(.imm 1 ([])),(.J 0)]):PX.PV) from by unfold layD; rw [if_neg (show ¬ R.check c (totW c.blocks)=0 by rw [check_eq]; simpa using h2)] <;> rfl]
  exact PX.rt hS hE (.inl rfl)
 ·skip
  refine wp_skip ?_
  refine hK1 _ _ ?_
  refine PX.G [(.e 5 (.ptr 3 0))] [(3,.box 68 [(.sc (.slice none 0 0)),(.J 0),(.J 0),(.sc (.slice none 0 0)),(.J 0)])] 4 [] [] [.au] [1,2,4,5] [1,2,3] hS hE trivial fun a w hS=>?_
  replace hS:=PX.recell (id:=3) (j:=0) (.own 4 1 0) (PX.newrow 76 1 hS (hE.le (by decide))) rfl rfl rfl (PX.nil_own 4 1)
  replace hS:=PX.recell (id:=3) (j:=3) (.own 5 1 0) (PX.newrow 3 1 hS (hE.le (by decide))) rfl rfl rfl (PX.nil_own 5 1)
  refine PX.G [(.e 6 (.J 0)),(.e 7 (.J 0))] [] 6 [] [] [.au,.au] [1,2,4,5,6,7] [1,2,3,4,5] hS hE trivial fun a w hS=>?_
  refine wp_seq_k fun K3 hK3=>?_
  have hchk:R.check c (totW c.blocks)=0:=by rw [check_eq]; simpa using h2
  have hfit:=fit_of hi hchk
  have hb400:=hfit.blocks; have hobj:=hfit.obj
  refine PX.G [(.e 21 (.imm 10 (c.blocks.map encB))),(.e 22 (.sc (.I (c.blocks.length:Int)))),(.e 23 (.J 0))] [] 6 [.q ((.sc (.I (((c.blocks.map encB).length:Nat):Int)):PX.PV)=(.sc (.I (c.blocks.length:Int))))] [] [.au,.au,.nm (.sc (.I (c.blocks.length:Int))),.au] [1,2,4,5,6,7,21,22,23] [1,2,3,4,5] hS hE ⟨PX.nm_len (by simp),trivial⟩ fun a w hS=>?_
  refine wp_block ?_
  replace hS:=PX.recell (id:=3) (j:=2) (.sc (.I (savA c (0)))) hS rfl rfl rfl (fun _ _ _ _ h=>(show (.sc (.I 0):PX.PV)=.sc (.I (savA c (0))) from rfl) ▸ h)
  replace hS:=PX.sl [1,2,4,5,6,7,21,22,23] (PX.reslot (t:=6) (.sc (.I (parA c (0)))) hS rfl (fun _ _ _ _ h=>(show (.sc (.I 0):PX.PV)=.sc (.I (parA c (0))) from rfl) ▸ h))
  refine wp_loop_ghost (fun m4 a' w'=>∃ k:Nat,m4=c.blocks.length-k∧k≤c.blocks.length∧True∧PX.Sat E 96 [(.e 1 (.sc (.bool keep))),(.e 2 (.ptr 1 0)),(.e 4 (.ptr 2 0)),(.e 5 (.ptr 3 0)),(.e 6 (.sc (.I (parA c (k))))),(.e 7 (.J 0)),(.e 21 (.imm 10 (c.blocks.map encB))),(.e 22 (.sc (.I (c.blocks.length:Int)))),(.e 23 (.sc (.I (k:Int))))] [(1,.box 26 (codeL c)),(2,.box 68 [(.sc (.slice none 0 0)),(.J 0),(.J 0),(.sc (.slice none 0 0)),(.J 0)]),(3,.box 68 [(.own 4 1 0),(.J 0),(.sc (.I (savA c (k)))),(.own 5 1 0),(.J 0)]),(4,.row 76 1 true ([])),(5,.row 3 1 true ([]))] 6 a' w') (c.blocks.length-0) ⟨0,rfl,Nat.zero_le _,trivial,(PX.cn [] _ _ 6 hS hE)⟩ ?_
  clear hS; rintro m4 a w ⟨k,hm4,hlek,hIk,hS⟩
  refine PX.G [(.e 24 (.sc (.bool (decide ((k:Int)<(c.blocks.length:Int))))))] [] 6 [] [] [.au] [1,2,4,5,6,7,21,22,23,24] [1,2,3,4,5] hS hE trivial fun a w hS=>?_
  refine wp_seq_k fun K5 hK5=>?_
  refine PX.cond_s (decide ((k:Int)<(c.blocks.length:Int))) hS (by kernel_rfl) (fun h6=>?_) (fun h6=>?_)
  ·skip
   refine wp_skip ?_
   refine hK5 _ _ ?_
   refine wp_seq_k fun K7 hK7=>?_
   refine wp_block ?_
   have hlty:k<c.blocks.length:=by simpa using h6
   obtain ⟨y,hy⟩:=get_of_lt hlty
   obtain ⟨hok,hpar,hcn,hp0,hp1,ho6,ha0,ha1⟩:=aok_of hfit hchk hy
   refine PX.G [(.e 9 (.ptr 6 0))] [(6,.box 62 (encB y))] 7 [.q ((k:Int)=(k:Int)),.q ((c.blocks.map encB)[k]?=some (encB y))] [] [.ix k (encB y),.au,.au,.au] [1,2,4,5,6,7,9,21,22,23] [1,2,3,4,5,6] hS hE ⟨rfl,PX.map_get hy,trivial⟩ fun a w hS=>?_
   refine PX.G [(.e 6 (.sc (.I (if (y.params-8) > (parA c (k)) then (y.params-8) else (parA c (k))))))] [] 7 [.q ((.sc (.I (IntKind.i64.wrap (y.params-8))):PX.PV)=(.sc (.I (y.params-8))))] [] [.au,.au,.au,.nm (.sc (.I (y.params-8))),.au,.au] [1,2,4,5,6,7,9,21,22,23] [1,2,3,4,5,6] hS hE ⟨PX.nm_int (by rw [IntWalk.i64_in _ (by omega)]),trivial⟩ fun a w hS=>?_
   refine PX.D0 [] [(3,.box 68 [(.own 4 1 0),(.J 0),(.sc (.I (if (((savedD y.term).length:Nat):Int) > (savA c (k)) then (((savedD y.term).length:Nat):Int) else (savA c (k))))),(.own 5 1 0),(.J 0)])] 7 [.q (PX.Con Try.prog 29 [(.agg (encB y))] [] 7 7 (.imm 1 ((savedD y.term).map encI)) []),.q ((.sc (.I ((((savedD y.term).map encI).length:Nat):Int)):PX.PV)=(.sc (.I (((savedD y.term).length:Nat):Int))))] [] [.au,.au,.au,.cl [] (.imm 1 ((savedD y.term).map encI)) [] 7,.nm (.sc (.I (((savedD y.term).length:Nat):Int))),.au,.au,.au] [1,2,4,5,6,7,21,22,23] [1,2,3,4,5] hS mixed hE ⟨PX.con_any (con_f29 y (by omega)),PX.nm_len (by simp),trivial⟩ fun a w hS=>?_
   refine hK7 _ _ ?_
   refine PX.G0 [(.e 23 (.sc (.I ((k+1:Nat):Int))))] [] 7 [.q ((.sc (.I (IntKind.i64.wrap ((k:Int)+1))):PX.PV)=(.sc (.I ((k+1:Nat):Int))))] [] [.nm (.sc (.I ((k+1:Nat):Int))),.au] [1,2,4,5,6,7,21,22,23] [1,2,3,4,5] hS hE ⟨PX.nm_int (by rw [IntWalk.i64_in _ (by omega)]; omega),trivial⟩ fun a w hS=>?_
   replace hS:=PX.recell (id:=3) (j:=2) (.sc (.I (savA c (k+1)))) hS rfl rfl rfl (fun _ _ _ _ h=>(show ((.sc (.I (if (((savedD y.term).length:Nat):Int) > (savA c (k)) then (((savedD y.term).length:Nat):Int) else (savA c (k))))):PX.PV)=(.sc (.I (savA c (k+1)))) from by unfold savA; rw [fold_succ _ _ hy]; rfl) ▸ h)
   replace hS:=PX.sl [1,2,4,5,6,7,21,22,23] (PX.reslot (t:=6) (.sc (.I (parA c (k+1)))) hS rfl (fun _ _ _ _ h=>(show ((.sc (.I (if (y.params-8) > (parA c (k)) then (y.params-8) else (parA c (k))))):PX.PV)=(.sc (.I (parA c (k+1)))) from by unfold parA; rw [fold_succ _ _ hy]; rfl) ▸ h))
   exact ⟨c.blocks.length-(k+1),by omega,k+1,rfl,by omega,trivial,(PX.cn [] _ _ 6 hS hE)⟩
  ·skip
   refine wp_exit ?_
   refine hK3 _ _ ?_
   refine wp_seq_k fun K8 hK8=>?_
   have hk0:k=c.blocks.length:=by have:=le_of_dec h6; omega
   rw [hk0] at hS
   have hpa:=parA_bd hchk
   refine PX.G [(.e 41 (.imm 10 (c.blocks.map encB))),(.e 42 (.sc (.I (c.blocks.length:Int)))),(.e 43 (.J 0))] [] 6 [.q ((.sc (.I (((c.blocks.map encB).length:Nat):Int)):PX.PV)=(.sc (.I (c.blocks.length:Int))))] [] [.au,.au,.nm (.sc (.I (c.blocks.length:Int))),.au] [1,2,4,5,6,7,41,42,43] [1,2,3,4,5] hS hE ⟨PX.nm_len (by simp),trivial⟩ fun a w hS=>?_
   refine wp_block ?_
   refine wp_loop_ghost (fun m9 a' w'=>∃ q:Nat,m9=c.blocks.length-q∧q≤c.blocks.length∧True∧PX.Sat E 96 [(.e 1 (.sc (.bool keep))),(.e 2 (.ptr 1 0)),(.e 4 (.ptr 2 0)),(.e 5 (.ptr 3 0)),(.e 6 (.sc (.I (parA c c.blocks.length)))),(.e 7 (.sc (.I (spA keep c (q))))),(.e 41 (.imm 10 (c.blocks.map encB))),(.e 42 (.sc (.I (c.blocks.length:Int)))),(.e 43 (.sc (.I (q:Int))))] [(1,.box 26 (codeL c)),(2,.box 68 [(.sc (.slice none 0 0)),(.J 0),(.J 0),(.sc (.slice none 0 0)),(.J 0)]),(3,.box 68 [(.own 4 1 ((plA keep c (q)).length)),(.J 0),(.sc (.I (savA c (c.blocks.length)))),(.own 5 1 0),(.J 0)]),(4,.row 76 1 true ((plA keep c (q)).map encPl)),(5,.row 3 1 true ([]))] 6 a' w') (c.blocks.length-0) ⟨0,rfl,Nat.zero_le _,trivial,(PX.cn [] _ _ 6 hS hE)⟩ ?_
   clear hS; rintro m9 a w ⟨q,hm9,hleq,hIq,hS⟩
   refine PX.G [(.e 44 (.sc (.bool (decide ((q:Int)<(c.blocks.length:Int))))))] [] 6 [] [] [.au] [1,2,4,5,6,7,41,42,43,44] [1,2,3,4,5] hS hE trivial fun a w hS=>?_
   refine wp_seq_k fun K10 hK10=>?_
   refine PX.cond_s (decide ((q:Int)<(c.blocks.length:Int))) hS (by kernel_rfl) (fun h11=>?_) (fun h11=>?_)
   ·skip
    refine wp_skip ?_
    refine hK10 _ _ ?_
    refine wp_seq_k fun K12 hK12=>?_
    refine wp_block ?_
    have hlty:q<c.blocks.length:=by simpa using h11
    obtain ⟨y,hy⟩:=get_of_lt hlty
    obtain ⟨hok,hpar,hcn,hp0,hp1,ho6,ha0,ha1⟩:=aok_of hfit hchk hy
    refine PX.G [(.e 11 (.ptr 6 0))] [(6,.box 62 (encB y))] 7 [.q ((q:Int)=(q:Int)),.q ((c.blocks.map encB)[q]?=some (encB y))] [] [.ix q (encB y),.au,.au,.au] [1,2,4,5,6,7,11,41,42,43] [1,2,3,4,5,6] hS hE ⟨rfl,PX.map_get hy,trivial⟩ fun a w hS=>?_
    refine PX.G [(.e 12 (.imm 3 ((blkPl keep (parA c c.blocks.length) (cnD y) y).1.map encR))),(.e 13 (.sc (.I (((blkPl keep (parA c c.blocks.length) (cnD y) y).2:Nat):Int))))] [] 7 [.q (PX.Con Try.prog 72 [(.agg (encB y)),(.sc (.I (parA c c.blocks.length))),(.sc (.bool keep))] [] 7 7 (.tup [(.imm 3 ((blkPl keep (parA c c.blocks.length) (cnD y) y).1.map encR)),(.sc (.I (((blkPl keep (parA c c.blocks.length) (cnD y) y).2:Nat):Int)))]) [])] [] [.au,.au,.au,.cl [] (.tup [(.imm 3 ((blkPl keep (parA c c.blocks.length) (cnD y) y).1.map encR)),(.sc (.I (((blkPl keep (parA c c.blocks.length) (cnD y) y).2:Nat):Int)))]) [] 7,.au,.au,.au,.au,.au] [1,2,4,5,6,7,12,13,41,42,43] [1,2,3,4,5] hS hE ⟨PX.con_any (con_f72 keep (cnD y) (parA c c.blocks.length) y hok hpar hcn hpa (fun hk=>hM hk hchk y (List.mem_of_getElem? hy))),trivial⟩ fun a w hS=>?_
    refine PX.G [] [(3,.box 68 [(.own 8 1 (((plA keep c (q)).map encPl:List (List PX.PV)).length+1)),(.J 0),(.sc (.I (savA c (c.blocks.length)))),(.own 5 1 0),(.J 0)]),(8,.row 76 1 true ((plA keep c (q)).map encPl++[[(.imm 3 ((blkPl keep (parA c c.blocks.length) (cnD y) y).1.map encR))]]))] 9 [.b (lenIs ((plA keep c (q)).length) ((plA keep c (q)).map encPl)),.b (lenIs 1 ([[(.imm 3 ((blkPl keep (parA c c.blocks.length) (cnD y) y).1.map encR))]])),.b (Nat.ble (((plA keep c (q)).map encPl:List (List PX.PV)).length+1) 1000000000)] [] [.au,.au,.au,.au,.au,.au,.au] [1,2,4,5,6,7,13,41,42,43] [1,2,3,5,8] hS hE ⟨by simp [PX.lenIs],rfl,by rw [Nat.ble_eq]; unfold plA; simp; omega,trivial⟩ fun a w hS=>?_
    refine PX.G0 [(.e 7 (.sc (.I (if (((blkPl keep (parA c c.blocks.length) (cnD y) y).2:Nat):Int) > (spA keep c (q)) then (((blkPl keep (parA c c.blocks.length) (cnD y) y).2:Nat):Int) else (spA keep c (q))))))] [] 9 [] [] [.au,.au,.au,.au] [1,2,4,5,6,7,41,42,43] [1,2,3,5,8] hS hE trivial fun a w hS=>?_
    refine hK12 _ _ ?_
    refine PX.G0 [(.e 43 (.sc (.I ((q+1:Nat):Int))))] [] 9 [.q ((.sc (.I (IntKind.i64.wrap ((q:Int)+1))):PX.PV)=(.sc (.I ((q+1:Nat):Int))))] [] [.nm (.sc (.I ((q+1:Nat):Int))),.au] [1,2,4,5,6,7,41,42,43] [1,2,3,5,8] hS hE ⟨PX.nm_int (by rw [IntWalk.i64_in _ (by omega)]; omega),trivial⟩ fun a w hS=>?_
    replace hS:=PX.recell (id:=3) (j:=0) (.own 8 1 ((plA keep c (q+1)).length)) hS rfl rfl rfl (fun _ _ _ _ h=>(show (.own 8 1 (((plA keep c (q)).map encPl:List (List PX.PV)).length+1):PX.PV)=.own 8 1 (plA keep c (q+1)).length from by unfold plA; rw [List.take_add_one,hy]; simp) ▸ h)
    replace hS:=PX.rerow (id:=8) ((plA keep c (q+1)).map encPl) hS rfl (by unfold plA; rw [List.take_add_one,hy]; simp [encPl])
    replace hS:=PX.sl [1,2,4,5,6,7,41,42,43] (PX.reslot (t:=7) (.sc (.I (spA keep c (q+1)))) hS rfl (fun _ _ _ _ h=>(show ((.sc (.I (if (((blkPl keep (parA c c.blocks.length) (cnD y) y).2:Nat):Int) > (spA keep c (q)) then (((blkPl keep (parA c c.blocks.length) (cnD y) y).2:Nat):Int) else (spA keep c (q))))):PX.PV)=(.sc (.I (spA keep c (q+1)))) from by unfold spA; rw [fold_succ _ _ hy]; rfl) ▸ h))
    exact ⟨c.blocks.length-(q+1),by omega,q+1,rfl,by omega,trivial,(PX.cn [(4,8)] _ _ 6 hS hE)⟩
   ·skip
    refine wp_exit ?_
    refine hK8 _ _ ?_
    have hq0:q=c.blocks.length:=by have:=le_of_dec h11; omega
    rw [hq0] at hS
    refine PX.G [] [(3,.box 68 [(.own 4 1 ((plA keep c (c.blocks.length)).length)),(.sc (.I (IntKind.i64.wrap ((parA c c.blocks.length)+(spA keep c (c.blocks.length)))))),(.sc (.I (savA c (c.blocks.length)))),(.own 5 1 0),(.J 0)])] 6 [] [] [.au,.au,.au,.au,.au] [2,4,5] [1,2,3,4,5] hS hE trivial fun a w hS=>?_
    refine PX.G [] [(3,.box 68 [(.own 4 1 ((plA keep c (c.blocks.length)).length)),(.sc (.I (IntKind.i64.wrap ((parA c c.blocks.length)+(spA keep c (c.blocks.length)))))),(.sc (.I (savA c (c.blocks.length)))),(.own 5 1 0),(.sc (.I (IntKind.i64.wrap ((IntKind.i64.wrap ((parA c c.blocks.length)+(spA keep c (c.blocks.length))))+(savA c (c.blocks.length))))))])] 6 [] [] [.au,.au,.au,.au,.au,.au,.au] [2,4,5] [1,2,3,4,5] hS hE trivial fun a w hS=>?_
    refine wp_seq_k fun K13 hK13=>?_
    refine PX.G [(.e 75 (.imm 3 (c.objects.map encR))),(.e 76 (.sc (.I (c.objects.length:Int)))),(.e 77 (.J 0))] [] 6 [.q ((.sc (.I (((c.objects.map encR).length:Nat):Int)):PX.PV)=(.sc (.I (c.objects.length:Int))))] [] [.au,.au,.nm (.sc (.I (c.objects.length:Int))),.au] [4,5,75,76,77] [2,3,4,5] hS hE ⟨PX.nm_len (by simp),trivial⟩ fun a w hS=>?_
    refine wp_block ?_
    refine wp_loop_ghost (fun m14 a' w'=>∃ m:Nat,m14=c.objects.length-m∧m≤c.objects.length∧True∧PX.Sat E 96 [(.e 4 (.ptr 2 0)),(.e 5 (.ptr 3 0)),(.e 75 (.imm 3 (c.objects.map encR))),(.e 76 (.sc (.I (c.objects.length:Int)))),(.e 77 (.sc (.I (m:Int))))] [(2,.box 68 [(.sc (.slice none 0 0)),(.J 0),(.J 0),(.sc (.slice none 0 0)),(.J 0)]),(3,.box 68 [(.own 4 1 ((plA keep c (c.blocks.length)).length)),(.sc (.I (IntKind.i64.wrap ((parA c c.blocks.length)+(spA keep c (c.blocks.length)))))),(.sc (.I (savA c (c.blocks.length)))),(.own 5 1 ((objA c (szA keep c) (m)).1.length)),(.sc (.I ((objA c (szA keep c) (m)).2)))]),(4,.row 76 1 true ((plA keep c (c.blocks.length)).map encPl)),(5,.row 3 1 true ((objA c (szA keep c) (m)).1.map encI))] 6 a' w') (c.objects.length-0) ⟨0,rfl,Nat.zero_le _,trivial,(PX.cn [] _ _ 6 hS hE)⟩ ?_
    clear hS; rintro m14 a w ⟨m,hm14,hlem,hIm,hS⟩
    refine PX.G [(.e 78 (.sc (.bool (decide ((m:Int)<(c.objects.length:Int))))))] [] 6 [] [] [.au] [4,5,75,76,77,78] [2,3,4,5] hS hE trivial fun a w hS=>?_
    refine wp_seq_k fun K15 hK15=>?_
    refine PX.cond_s (decide ((m:Int)<(c.objects.length:Int))) hS (by kernel_rfl) (fun h16=>?_) (fun h16=>?_)
    ·skip
     refine wp_skip ?_
     refine hK15 _ _ ?_
     refine wp_seq_k fun K17 hK17=>?_
     refine wp_block ?_
     have hltz:m<c.objects.length:=by simpa using h16
     obtain ⟨z,hz⟩:=get_of_lt hltz
     refine PX.G [(.e 15 (.ptr 6 0))] [(6,.box 102 [(.J z.1),(.J z.2.1),(.J z.2.2)])] 7 [.q ((m:Int)=(m:Int)),.q ((c.objects.map encR)[m]?=some (encR z))] [] [.ix m (encR z),.au,.au,.au] [4,5,15,75,76,77] [2,3,4,5,6] hS hE ⟨rfl,PX.map_get hz,trivial⟩ fun a w hS=>?_
     refine PX.G [] [(3,.box 68 [(.own 4 1 ((plA keep c (c.blocks.length)).length)),(.sc (.I (IntKind.i64.wrap ((parA c c.blocks.length)+(spA keep c (c.blocks.length)))))),(.sc (.I (savA c (c.blocks.length)))),(.own 8 1 (((objA c (szA keep c) (m)).1.map encI:List (List PX.PV)).length+1)),(.sc (.I ((objA c (szA keep c) (m)).2)))]),(8,.row 3 1 true ((objA c (szA keep c) (m)).1.map encI++[[(.sc (.I ((objA c (szA keep c) (m)).2)))]]))] 9 [.b (lenIs ((objA c (szA keep c) (m)).1.length) ((objA c (szA keep c) (m)).1.map encI)),.b (lenIs 1 ([[(.sc (.I ((objA c (szA keep c) (m)).2)))]])),.b (Nat.ble (((objA c (szA keep c) (m)).1.map encI:List (List PX.PV)).length+1) 1000000000)] [] [.au,.au,.au,.au,.au,.au,.au,.au] [4,5,15,75,76,77] [2,3,4,6,8] hS hE ⟨by simp [PX.lenIs],rfl,by rw [Nat.ble_eq]; simp; rw [objA_len c _ m (by omega)]; omega,trivial⟩ fun a w hS=>?_
     refine PX.G0 [] [(3,.box 68 [(.own 4 1 ((plA keep c (c.blocks.length)).length)),(.sc (.I (IntKind.i64.wrap ((parA c c.blocks.length)+(spA keep c (c.blocks.length)))))),(.sc (.I (savA c (c.blocks.length)))),(.own 8 1 (((objA c (szA keep c) (m)).1.map encI:List (List PX.PV)).length+1)),(.sc (.I (IntKind.i64.wrap (((objA c (szA keep c) (m)).2)+z.2.2))))])] 9 [] [] [.au,.au,.au,.au,.au,.au,.au] [4,5,75,76,77] [2,3,4,8] hS hE trivial fun a w hS=>?_
     refine hK17 _ _ ?_
     refine PX.G0 [(.e 77 (.sc (.I ((m+1:Nat):Int))))] [] 9 [.q ((.sc (.I (IntKind.i64.wrap ((m:Int)+1))):PX.PV)=(.sc (.I ((m+1:Nat):Int))))] [] [.nm (.sc (.I ((m+1:Nat):Int))),.au] [4,5,75,76,77] [2,3,4,8] hS hE ⟨PX.nm_int (by rw [IntWalk.i64_in _ (by omega)]; omega),trivial⟩ fun a w hS=>?_
     replace hS:=PX.recell (id:=3) (j:=3) (.own 8 1 ((objA c (szA keep c) (m+1)).1.length)) hS rfl rfl rfl (fun _ _ _ _ h=>(show (.own 8 1 (((objA c (szA keep c) (m)).1.map encI:List (List PX.PV)).length+1):PX.PV)=.own 8 1 (objA c (szA keep c) (m+1)).1.length from by unfold objA; rw [fold_succ _ _ hz]; unfold objStep; simp) ▸ h)
     replace hS:=PX.rerow (id:=8) ((objA c (szA keep c) (m+1)).1.map encI) hS rfl (by unfold objA; rw [fold_succ _ _ hz]; unfold objStep; simp [encI])
     replace hS:=PX.recell (id:=3) (j:=4) (.sc (.I ((objA c (szA keep c) (m+1)).2))) hS rfl rfl rfl (fun _ _ _ _ h=>(show ((.sc (.I (IntKind.i64.wrap (((objA c (szA keep c) (m)).2)+z.2.2)))):PX.PV)=(.sc (.I ((objA c (szA keep c) (m+1)).2))) from by unfold objA; rw [fold_succ _ _ hz]; unfold objStep; rfl) ▸ h)
     exact ⟨c.objects.length-(m+1),by omega,m+1,rfl,by omega,trivial,(PX.cn [(5,8)] _ _ 6 hS hE)⟩
    ·skip
     refine wp_exit ?_
     refine hK13 _ _ ?_
     refine PX.G [] [(2,.box 68 [(.own 4 1 ((plA keep c (c.blocks.length)).length)),(.sc (.I (IntKind.i64.wrap ((parA c c.blocks.length)+(spA keep c (c.blocks.length)))))),(.sc (.I (savA c (c.blocks.length)))),(.own 5 1 ((objA c (szA keep c) (m)).1.length)),(.sc (.I ((objA c (szA keep c) (m)).2)))])] 6 [] [] [.au,.au] [4] [2,4,5] hS hE trivial fun a w hS=>?_
     have hm0:m=c.objects.length:=by have:=le_of_dec h16; omega
     replace hS:=PX.sl [4] hS
     replace hS:=PX.fz 4 [] [(2,.box 68 [(.imm 1 ((plA keep c (c.blocks.length)).map encPl)),(.sc (.I (IntKind.i64.wrap ((parA c c.blocks.length)+(spA keep c (c.blocks.length)))))),(.sc (.I (savA c (c.blocks.length)))),(.own 5 1 ((objA c (szA keep c) (m)).1.length)),(.sc (.I ((objA c (szA keep c) (m)).2)))])] [4] [2,5] [.b (PX.lenIs ((plA keep c (c.blocks.length)).length) ((plA keep c (c.blocks.length)).map encPl))] hS ⟨(by simp [PX.lenIs]),trivial⟩
     replace hS:=PX.fz 5 [] [(2,.box 68 [(.imm 1 ((plA keep c (c.blocks.length)).map encPl)),(.sc (.I (IntKind.i64.wrap ((parA c c.blocks.length)+(spA keep c (c.blocks.length)))))),(.sc (.I (savA c (c.blocks.length)))),(.imm 1 ((objA c (szA keep c) (m)).1.map encI)),(.sc (.I ((objA c (szA keep c) (m)).2)))])] [4] [2] [.b (PX.lenIs ((objA c (szA keep c) (m)).1.length) ((objA c (szA keep c) (m)).1.map encI))] hS ⟨(by simp [PX.lenIs]),trivial⟩
     refine wp_ret ?_
     rw [show (layP (layD keep c))=((.agg [(.imm 1 ((plA keep c (c.blocks.length)).map encPl)),(.sc (.I (IntKind.i64.wrap ((parA c c.blocks.length)+(spA keep c (c.blocks.length)))))),(.sc (.I (savA c (c.blocks.length)))),(.imm 1 ((objA c (szA keep c) (m)).1.map encI)),(.sc (.I ((objA c (szA keep c) (m)).2)))]):PX.PV) from by unfold layD; rw [if_pos hchk,hm0] <;> rfl]
     exact PX.rt hS hE (.inl rfl)
end Go.Proofs.Ytlkcidmmpeebeaa
