/- Proved: merge.copied on plain data -/
import Derived.Test.YtlkcidmmpeebeaaMgW
import Derived.Test.YtlkcidmmpeebeaaCkD
import Derived.Test.YtlkcidmmpeebeaaMgP
set_option linter.unusedVariables false
set_option linter.unusedSimpArgs false
namespace Go.Proofs.Ytlkcidmmpeebeaa
open Go.RowKit Go.PX
set_option maxRecDepth 100000
theorem eq_nil22 (i:Nat) (a:Addr) (n c:Nat):PX.BinIs Try.prog .eql 22 (.tmp i) (.const (.slice none 0 0)) (.slice (some a) n c) (.slice none 0 0) (.bool false):=by
 intro w
 simp [go_sem,eqGuard,Try.underlying22]
 exact Lib.run_eql_slice_nil w 22 62 (some a) n c 0 0 Try.underlying22
theorem pures_set {X:List (List PV)} {k:Nat} {r:List PV} (hX:∀ q∈X,pures q=true) (hr:pures r=true):pures (X.set k r).flatten=true:=pures_flat fun q hq=>by
 rcases List.mem_or_eq_of_mem_set hq with h | rfl
 ·exact hX q h
 ·exact hr
theorem step_rows {ys:List VB} {bl:List BlockD} {j:Nat} {y:BlockD} (hyl:ys.length=j) (hy:bl[j]?=some y) (z:VB):(ys.map encV++(bl.drop j).map encB).set j (encV z)=(ys++[z]).map encV++(bl.drop (j+1)).map encB:=by
 have hj:=(List.getElem?_eq_some_iff.1 hy).1
 rw [List.set_append_right _ _ (by simp [hyl]),List.length_map,hyl,Nat.sub_self,List.drop_eq_getElem_cons hj,List.map_cons,List.set_cons_zero]
 simp
theorem row_at {ys:List VB} {bl:List BlockD} {j:Nat} {y:BlockD} (hyl:ys.length=j) (hy:bl[j]?=some y):(ys.map encV++(bl.drop j).map encB)[j]?=some (encB y):=by
 rw [List.getElem?_append_right (by simp [hyl]),List.length_map,hyl,Nat.sub_self,List.getElem?_map,List.getElem?_drop,Nat.add_zero,hy]; rfl
theorem row_len {ys:List VB} {bl:List BlockD} {j:Nat} (hyl:ys.length=j) (hj:j<bl.length):j<(ys.map encV++(bl.drop j).map encB).length:=by simp; omega
theorem row_pu (ys:List VB) (bl:List BlockD):∀ q∈ys.map encV++bl.map encB,pures q=true:=fun q hq=>by
 rcases List.mem_append.1 hq with h | h
 ·obtain ⟨z,_,rfl⟩:=List.mem_map.1 h; rfl
 ·obtain ⟨z,_,rfl⟩:=List.mem_map.1 h; rfl

set_option maxHeartbeats 400000 in
theorem con_110s (bl:List BlockD) (ad:Addr) (n cp:Nat) (hl:bl.length≤1000000):PX.Con Try.prog 110 [(.sc ((.slice (some ad) n cp)))] [(1,.ty (.slice (some ad) n cp) (.imm 10 (bl.map encB)))] 2 100000 (.own 3 10 bl.length) [(1,none),(3,some (.row 62 10 true (bl.map encB)))]:=by
 refine PX.con_intro [(.sc ((.slice (some ad) n cp)))] 8 Try.func110 rfl rfl (by kernel_rfl) (by kernel_rfl) ?_
 intro E a hE hS
 generalize E.w0=w at hS ⊢
 have mix:=mixed
 refine PX.G [] [] 2 [] [] [.au] [0] [1] hS hE trivial fun a w hS=>?_
 refine wp_seq_k fun K1 hK1=>?_
 refine PX.G [(.e 4 (.sc (.bool false)))] [] 2 [.q (PX.BinIs Try.prog .eql 22 (.tmp 3) (.const (.slice none 0 0)) (.slice (some ad) n cp) (.slice none 0 0) (.bool false))] [] [.au,.bs (.bool false)] [0,4] [1] hS hE ⟨eq_nil22 _ ad n cp,trivial⟩ fun a w hS=>?_
 refine PX.cond_s false hS (by kernel_rfl) (fun h2=>nomatch h2) (fun h2=>?_)
 refine wp_skip ?_
 refine hK1 _ _ ?_
 replace hS:=PX.sl [0,4] (PX.reslot_g (t:=0) (g:=1) hS rfl rfl)
 refine PX.G [(.e 2 (.own 3 10 (0+(bl.map encB).length)))] [(3,.row 62 10 true (bl.map encB))] 4 [.b (lenIs 0 ([])),.b true,.b (Nat.ble (0+(bl.map encB).length) 1000000000)] [] [.au,.au,.au,.au] [0,2] [1,3] hS hE ⟨rfl,rfl,by simp; omega,trivial⟩ fun a w hS=>?_
 refine wp_ret ?_
 rw [show (.own 3 10 bl.length)=((.own 3 10 (0+(bl.map encB).length)):PX.PV) from by congr 1; simp]
 exact PX.rt hS hE (.inl rfl)

theorem con_110 (bl:List BlockD) (hne:bl≠[]) (hl:bl.length≤1000000):PX.Con Try.prog 110 [.imm 10 (bl.map encB)] [] 1 2 (.own 1 10 bl.length) [(1,some (.row 62 10 true (bl.map encB)))]:=by
 intro w σ Z vs hH hv hfr
 obtain ⟨v,l,rfl,h1,h2⟩:=hv.inv
 obtain rfl:=h2.inv0
 have h1':IR Z w v (.imm 10 (bl.map encB)):=by cases h1 with | imm _ _ _ h=>exact h
 obtain ⟨a,n,cp,rfl⟩:∃ a n cp,v=.slice (some a) n cp:=by
  cases h1' with
  | imm A cap sz rows U q1 q2 q3 q4 =>
   obtain ⟨y,hy⟩:∃ y,bl[0]?=some y:=by
    cases bl with
    | nil=>exact absurd rfl hne
    | cons y l=>exact ⟨y,rfl⟩
   obtain ⟨_,_,b,off,e,_⟩:=q3 0 (encB y) (PX.map_get hy)
   subst e
   exact ⟨_,_,_,rfl⟩
 refine (con_110s bl a n cp hl w (fun _=>none) Z [.slice (some a) n cp] ⟨fun id o h=>?_,fun id id' o o' b c c' _ _ h=>(by cases h),fun id o b c _ h=>(by cases h),hH.zlt⟩ (.cons (.sc _ rfl) .nil) (fun _ _ _=>rfl)).mono ?_
 ·simp only [hlook] at h
  cases hb:Nat.beq 1 id with
  | false=>rw [hb] at h; cases h
  | true =>
   rw [hb] at h; simp only [cond_true,Option.some.injEq] at h; subst h
   exact ⟨rfl,rfl,h1'.vr⟩
 rintro e w' ⟨v',σ',Z',rfl,hv',he⟩
 have hs1:σ 1=none:=hfr 1 (Nat.le_refl _) (by omega)
 obtain ⟨τ,hτ⟩:∃ τ:Nm,τ=fun id=>if id=1 then σ' 3 else σ id:=⟨_,rfl⟩
 have t1:τ 1=σ' 3:=by rw [hτ]; simp
 have t2:∀ id,id≠1→τ id=σ id:=fun id h=>by rw [hτ]; simp [h]
 have ul:∀ id o,ulook [(1,some (PO.row 62 10 true (bl.map encB)))] id=some (some o)→id=1∧o=.row 62 10 true (bl.map encB):=fun id o h=>by
  simp only [ulook] at h
  cases hb:Nat.beq 1 id with
  | true=>rw [hb] at h; simp at h; exact ⟨(Nat.eq_of_beq_eq_true hb).symm,h.symm⟩
  | false=>rw [hb] at h; cases h
 refine ⟨v',τ,Z',rfl,?_,fun id x hx=>?_,fun id h0 h=>?_,he.zmono,fun b hb=>?_,he.chg.mono fun b _ ⟨_,_,_,_,_,h⟩=>(by cases h),fun id o h=>?_,fun id o b c h h'=>?_,fun id id' o o' b c c' h h' _ _=>by rw [(ul id o h).1,(ul id' o' h').1]⟩
 ·generalize bl.length=m at hv'
  cases hv' with
  | own _ _ _ b c hb=>exact .own 1 10 _ b c (t1.trans hb)
  | own0=>exact .own0 1 10
 ·rw [t2 id (by rintro rfl; rw [hs1] at hx; cases hx)]; exact hx
 ·by_cases e:id=1
  ·subst e
   rcases h with h | h
   ·simp [ulook] at h
   ·exact absurd rfl h
  ·rw [t2 id e]; exact h0
 ·rcases he.znew b hb with q | q | ⟨_,_,_,_,_,h⟩
  ·exact .inl q
  ·exact .inr (.inl q)
  ·cases h
 ·obtain ⟨rfl,rfl⟩:=ul id o h
  obtain ⟨h1,h2,h3⟩:=he.objs 3 _ rfl
  refine ⟨h1,⟨h2.1,fun q=>by rw [t1]; exact h2.2 q⟩,fun b c hb=>?_⟩
  rw [t1] at hb
  obtain ⟨C,q1,q2,q3,q4,q5⟩:=h3 b c hb
  exact ⟨C,q1,q2,q3,q4,(q5.2 rfl).vrs,fun _=>q5.2 rfl⟩
 ·obtain ⟨rfl,rfl⟩:=ul id o h
  rw [t1] at h'
  obtain ⟨q1,q2⟩:=he.off 3 _ b c rfl h'
  refine ⟨q1,?_⟩
  rcases q2 with q2 | ⟨_,_,_,_,_,h⟩
  ·exact .inl q2
  ·cases h

/-- with nothing handed in,what is told of the end is free -/
theorem EnvOk.any {E:PX.Env} {U:Upd} {lo top:Nat} (h:PX.EnvOk E [] U lo top) (U':Upd):PX.EnvOk E [] U' lo top:=⟨h.elo,h.etop,by
 rw [h.wr]; funext b; refine propext ⟨fun ⟨_,_,_,_,h,_⟩=>(by cases h),fun ⟨_,_,_,_,h,_⟩=>(by cases h)⟩,h.hfr,h.es0⟩

set_option maxHeartbeats 4000000 in
theorem con_f74 (c:CodeD) (hi:CodeI c) (hne:c.blocks≠[]) (hlen:c.blocks.length≤400) (hcx:c.contexts.length≤1000) (hox:c.objects.length≤1000) (hbl:∀ y∈c.blocks,y.ops.length≤6000∧y.term.args.length≤999∧y.term.args0.length≤999∧y.term.args1.length≤999):∀ (w:World) (σ:Nm) (Z:Nat→Prop) (vs:List Value),HR σ Z w []→VRs σ Z w vs [codeP c]→(∀ id,1≤id→id<100000→σ id=none)→Calls Try.prog 74 vs.toArray w (fun e w'=>∃ ys v σ' Z',e=.returned v∧VR σ' Z' w' v (.agg [.sc (.I c.params),.own 3 10 ys.length,.imm 3 (c.contexts.map encR),.imm 3 (c.objects.map encR)])∧Eff σ Z w [] [(3,some (.row 62 10 true (ys.map encV)))] σ' Z' w'∧Deep w' ys c.blocks∧∀ b,DB ys b→w.heap.size≤b∧¬ Z' b∧∀ q,σ' 3≠some (b,q)):=by
 intro w0 σ0 Z0 vs hH hv hfr
 refine PX.intro_raw (lo:=1) (top:=100000) (U:=[(3,some (.row 62 10 true []))]) [(codeP c)] 68 Try.func74 rfl rfl (by kernel_rfl) (by kernel_rfl) hH hv hfr _ ?_
 intro E a hEd hE hr0
 have hEw:E.w0=w0:=by rw [hEd]
 have hEs:E.σ0=σ0:=by rw [hEd]
 have hEZ:E.Z0=Z0:=by rw [hEd]
 have hS:PX.Sat E 68 (PX.initT 0 [(codeP c)]) [] 1 a w0:=⟨σ0,Z0,hr0⟩
 clear hr0
 have mix:=mixed
 refine PX.G [(.e 1 (.ptr 1 0)),(.e 2 (.ptr 2 0))] [(1,.box 26 (codeL c)),(2,.box 26 [(.J 0),(.sc (.slice none 0 0)),(.sc (.slice none 0 0)),(.sc (.slice none 0 0))])] 3 [] [] [.au,.au] [1,2] [1,2] hS hE trivial fun a w hS=>?_
 refine PX.G [] [(1,.box 26 (codeL c))] 3 [.q (PX.Con Try.prog 47 [(.imm 3 (c.contexts.map encR))] [] 3 3 (.imm 3 (c.contexts.map encR)) [])] [] [.au,.au,.cl [] (.imm 3 (c.contexts.map encR)) [] 3,.au,.au] [1,2] [1,2] hS hE ⟨con_cloneC hi.2.2.1 (by omega),trivial⟩ fun a w hS=>?_
 refine PX.G [] [(1,.box 26 (codeL c))] 3 [.q (PX.Con Try.prog 48 [(.imm 3 (c.objects.map encR))] [] 3 3 (.imm 3 (c.objects.map encR)) [])] [] [.au,.au,.cl [] (.imm 3 (c.objects.map encR)) [] 3,.au,.au] [1,2] [1,2] hS hE ⟨con_cloneO hi.2.2.2 (by omega),trivial⟩ fun a w hS=>?_
 refine PX.G [] [(1,.box 26 [(.J c.params),(.own 3 10 c.blocks.length),(.imm 3 (c.contexts.map encR)),(.imm 3 (c.objects.map encR))]),(3,.row 62 10 true (c.blocks.map encB))] 4 [.q (PX.Con Try.prog 110 [(.imm 10 (c.blocks.map encB))] [] 3 4 (.own 3 10 c.blocks.length) [(3,some (.row 62 10 true (c.blocks.map encB)))])] [] [.au,.au,.cl [] (.own 3 10 c.blocks.length) [(3,some (.row 62 10 true (c.blocks.map encB)))] 4,.au,.au] [1,2] [1,2,3] hS hE ⟨PX.con_as [(3,1)] [(1,3)] (con_110 c.blocks hne (by omega)) (by kernel_rfl) (by kernel_rfl) (by kernel_rfl) (by kernel_rfl) (by kernel_rfl) (by kernel_rfl),trivial⟩ fun a w hS=>?_
 refine wp_seq_k fun K1 hK1=>?_
 refine PX.G [(.e 20 (.sc (.I (c.blocks.length:Int)))),(.e 21 (.J 0))] [] 4 [] [] [.au,.au,.au,.au] [1,2,20,21] [1,2,3] hS hE trivial fun a w hS=>?_
 refine wp_block ?_
 replace hS:=PX.rerow (id:=3) ((([]:List VB).map encV++(c.blocks.drop (0)).map encB)) hS rfl (by simp)
 replace hS:=(PX.cn [] [(.e 1 (.ptr 1 0)),(.e 2 (.ptr 2 0)),(.e 20 (.sc (.I (c.blocks.length:Int)))),(.e 21 (.sc (.I ((0:Nat):Int))))] [(1,.box 26 [(.J c.params),(.own 3 10 c.blocks.length),(.imm 3 (c.contexts.map encR)),(.imm 3 (c.objects.map encR))]),(2,.box 26 [(.J 0),(.sc (.slice none 0 0)),(.sc (.slice none 0 0)),(.sc (.slice none 0 0))]),(3,.row 62 10 true (([]:List VB).map encV++(c.blocks.drop (0)).map encB))] 4 hS hE)
 obtain ⟨σ1,Z1,hr1⟩:=hS
 refine wp_loop_ghost (fun m a' w'=>∃ (j:Nat) (ys:List VB) (σ:Nm) (Z:Nat→Prop),m=c.blocks.length-j∧j≤c.blocks.length∧PX.Rel E 68 [] [(.e 1 (.ptr 1 0)),(.e 2 (.ptr 2 0)),(.e 20 (.sc (.I (c.blocks.length:Int)))),(.e 21 (.sc (.I (j:Int))))] [(1,.box 26 [(.J c.params),(.own 3 10 c.blocks.length),(.imm 3 (c.contexts.map encR)),(.imm 3 (c.objects.map encR))]),(2,.box 26 [(.J 0),(.sc (.slice none 0 0)),(.sc (.slice none 0 0)),(.sc (.slice none 0 0))]),(3,.row 62 10 true (ys.map encV++(c.blocks.drop (j)).map encB))] 4 σ Z a' w'∧DS E [(1,.box 26 [(.J c.params),(.own 3 10 c.blocks.length),(.imm 3 (c.contexts.map encR)),(.imm 3 (c.objects.map encR))]),(2,.box 26 [(.J 0),(.sc (.slice none 0 0)),(.sc (.slice none 0 0)),(.sc (.slice none 0 0))]),(3,.row 62 10 true (ys.map encV++(c.blocks.drop (j)).map encB))] σ Z w' ys (c.blocks.take j)) (c.blocks.length-0) ⟨0,[],σ1,Z1,rfl,Nat.zero_le _,hr1,DS.nil⟩ ?_
 clear hr1; rintro m a w ⟨j,ys,σ1,Z1,hm,hlej,hr1,hds⟩
 have hE0:=hE
 have hyl:ys.length=j:=by rw [hds.deep.len,List.length_take]; omega
 obtain ⟨E3,hE3⟩:∃ E3,E3=E.nest [(1,.box 26 [(.J c.params),(.own 3 10 c.blocks.length),(.imm 3 (c.contexts.map encR)),(.imm 3 (c.objects.map encR))]),(2,.box 26 [(.J 0),(.sc (.slice none 0 0)),(.sc (.slice none 0 0)),(.sc (.slice none 0 0))]),(3,.row 62 10 true (ys.map encV++(c.blocks.drop (j)).map encB))] 4 σ1 Z1 w:=⟨_,rfl⟩
 have hS:PX.Sat E3 68 [(.e 1 (.ptr 1 0)),(.e 2 (.ptr 2 0)),(.e 20 (.sc (.I (c.blocks.length:Int)))),(.e 21 (.sc (.I (j:Int))))] [(1,.box 26 [(.sc (.I c.params)),(.own 3 10 c.blocks.length),(.imm 3 (c.contexts.map encR)),(.imm 3 (c.objects.map encR))]),(2,.box 26 [(.sc (.I 0)),(.sc (.slice none 0 0)),(.sc (.slice none 0 0)),(.sc (.slice none 0 0))]),(3,.row 62 10 true (ys.map encV++(c.blocks.drop (j)).map encB))] 4 a w:=hE3 ▸ ⟨σ1,Z1,hr1.nest⟩
 have hE:PX.EnvOk E3 [(1,.box 26 [(.sc (.I c.params)),(.own 3 10 c.blocks.length),(.imm 3 (c.contexts.map encR)),(.imm 3 (c.objects.map encR))]),(2,.box 26 [(.sc (.I 0)),(.sc (.slice none 0 0)),(.sc (.slice none 0 0)),(.sc (.slice none 0 0))]),(3,.row 62 10 true (ys.map encV++(c.blocks.drop (j)).map encB))] (PX.allU [(1,.box 26 [(.sc (.I c.params)),(.own 3 10 c.blocks.length),(.imm 3 (c.contexts.map encR)),(.imm 3 (c.objects.map encR))]),(2,.box 26 [(.sc (.I 0)),(.sc (.slice none 0 0)),(.sc (.slice none 0 0)),(.sc (.slice none 0 0))]),(3,.row 62 10 true (ys.map encV++(c.blocks.drop (j)).map encB))]) 4 100000:=hE3 ▸ hr1.nestOk hE0.etop
 refine PX.G [(.e 22 (.sc (.bool (decide ((j:Int)<(c.blocks.length:Int))))))] [] 4 [] [] [.au] [1,2,20,21,22] [1,2,3] hS hE trivial fun a w hS=>?_
 refine wp_seq_k fun K2 hK2=>?_
 refine PX.cond_s (decide ((j:Int)<(c.blocks.length:Int))) hS (by kernel_rfl) (fun h3=>?_) (fun h3=>?_)
 ·skip
  refine wp_skip ?_
  refine hK2 _ _ ?_
  refine wp_seq_k fun K4 hK4=>?_
  refine wp_block ?_
  refine PX.G [(.e 3 (.sc (.I (j:Int))))] [] 4 [] [] [.au,.au] [1,2,3,20,21] [1,2,3] hS hE trivial fun a w hS=>?_
  have hlty:j<c.blocks.length:=by simpa using h3
  obtain ⟨y,hy⟩:=get_of_lt hlty
  have hyI:=hi.2.1 y (List.mem_of_getElem? hy)
  obtain ⟨hb1,hb2,hb3,hb4⟩:=hbl y (List.mem_of_getElem? hy)
  have hXl:=row_len (bl:=c.blocks) hyl hlty
  have hXp:=row_pu ys (c.blocks.drop j)
  refine PX.G [(.e 4 (.rptr 3 10 j 0))] [] 4 [.q ((j:Int)=(j:Int)),.q (j<c.blocks.length)] [] [.au,.au,.au,.ix j [],.au] [1,2,4,20,21] [1,2,3] hS hE ⟨rfl,hlty,trivial⟩ fun a w hS=>?_
  refine PX.G [] [(3,.row 62 10 false ((ys.map encV++(c.blocks.drop (j)).map encB).set j [(.J y.params),(.own 4 11 y.ops.length),(.J y.term.kind),(.J y.term.a),(.J y.term.n),(.imm 1 (y.term.args.map encI)),(.J y.term.b0),(.imm 1 (y.term.args0.map encI)),(.J y.term.b1),(.imm 1 (y.term.args1.map encI))])),(4,.row 74 11 true (y.ops.map encO))] 5 [.q ((ys.map encV++(c.blocks.drop (j)).map encB)[j]?=some (encB y)),.q (PX.Con Try.prog 51 [(.imm 11 (y.ops.map encO))] [] 4 5 (.own 4 11 y.ops.length) [(4,some (.row 74 11 true (y.ops.map encO)))]),.q ((ys.map encV++(c.blocks.drop (j)).map encB)[j]?=some (encB y))] [] [.au,.au,.au,.au,.lr (encB y),.cl [] (.own 4 11 y.ops.length) [(4,some (.row 74 11 true (y.ops.map encO)))] 5,.au,.au,.lr (encB y)] [1,2,4,20,21] [1,2,3,4] hS hE ⟨row_at hyl hy,con_cloneP_o hyI.2.1 (by omega),row_at hyl hy,trivial⟩ fun a w hS=>?_
  obtain ⟨v1,hvv1,hS⟩:=hS.rawN (B:=3) (k:=j) (i:=1) (hE.le (by decide)) rfl (set_get (by simpa using hXl)) rfl (fun u=>by simp only [List.set_set]; exact pures_set hXp rfl)
  replace hS:=PX.rerow (id:=3) (((ys.map encV++(c.blocks.drop (j)).map encB).set j [(.J y.params),(.sc (v1)),(.J y.term.kind),(.J y.term.a),(.J y.term.n),(.imm 1 (y.term.args.map encI)),(.J y.term.b0),(.imm 1 (y.term.args0.map encI)),(.J y.term.b1),(.imm 1 (y.term.args1.map encI))])) hS rfl (by simp only [List.set_set]; rfl)
  refine PX.G [] [(3,.row 62 10 false (((ys.map encV++(c.blocks.drop (j)).map encB).set j [(.J y.params),(.sc (v1)),(.J y.term.kind),(.J y.term.a),(.J y.term.n),(.imm 1 (y.term.args.map encI)),(.J y.term.b0),(.imm 1 (y.term.args0.map encI)),(.J y.term.b1),(.imm 1 (y.term.args1.map encI))]).set j [(.J y.params),(.sc (v1)),(.J y.term.kind),(.J y.term.a),(.J y.term.n),(.own 6 1 y.term.args.length),(.J y.term.b0),(.imm 1 (y.term.args0.map encI)),(.J y.term.b1),(.imm 1 (y.term.args1.map encI))])),(6,.row 3 1 true (y.term.args.map encI))] 7 [.q (((ys.map encV++(c.blocks.drop (j)).map encB).set j [(.J y.params),(.sc (v1)),(.J y.term.kind),(.J y.term.a),(.J y.term.n),(.imm 1 (y.term.args.map encI)),(.J y.term.b0),(.imm 1 (y.term.args0.map encI)),(.J y.term.b1),(.imm 1 (y.term.args1.map encI))])[j]?=some ([(.J y.params),(.sc (v1)),(.J y.term.kind),(.J y.term.a),(.J y.term.n),(.imm 1 (y.term.args.map encI)),(.J y.term.b0),(.imm 1 (y.term.args0.map encI)),(.J y.term.b1),(.imm 1 (y.term.args1.map encI))])),.q (PX.Con Try.prog 49 [(.imm 1 (y.term.args.map encI))] [] 6 7 (.own 6 1 y.term.args.length) [(6,some (.row 3 1 true (y.term.args.map encI)))]),.q (((ys.map encV++(c.blocks.drop (j)).map encB).set j [(.J y.params),(.sc (v1)),(.J y.term.kind),(.J y.term.a),(.J y.term.n),(.imm 1 (y.term.args.map encI)),(.J y.term.b0),(.imm 1 (y.term.args0.map encI)),(.J y.term.b1),(.imm 1 (y.term.args1.map encI))])[j]?=some ([(.J y.params),(.sc (v1)),(.J y.term.kind),(.J y.term.a),(.J y.term.n),(.imm 1 (y.term.args.map encI)),(.J y.term.b0),(.imm 1 (y.term.args0.map encI)),(.J y.term.b1),(.imm 1 (y.term.args1.map encI))]))] [] [.au,.au,.au,.au,.au,.lr ([(.J y.params),(.sc (v1)),(.J y.term.kind),(.J y.term.a),(.J y.term.n),(.imm 1 (y.term.args.map encI)),(.J y.term.b0),(.imm 1 (y.term.args0.map encI)),(.J y.term.b1),(.imm 1 (y.term.args1.map encI))]),.cl [] (.own 6 1 y.term.args.length) [(6,some (.row 3 1 true (y.term.args.map encI)))] 7,.au,.au,.au,.lr ([(.J y.params),(.sc (v1)),(.J y.term.kind),(.J y.term.a),(.J y.term.n),(.imm 1 (y.term.args.map encI)),(.J y.term.b0),(.imm 1 (y.term.args0.map encI)),(.J y.term.b1),(.imm 1 (y.term.args1.map encI))])] [1,2,4,20,21] [1,2,3,4,5,6] hS hE ⟨set_get hXl,con_cloneI_o hyI.2.2.1 (by omega),set_get hXl,trivial⟩ fun a w hS=>?_
  obtain ⟨v2,hvv2,hS⟩:=hS.rawN (B:=3) (k:=j) (i:=5) (hE.le (by decide)) rfl (set_get (by simpa using hXl)) rfl (fun u=>by simp only [List.set_set]; exact pures_set hXp rfl)
  replace hS:=PX.rerow (id:=3) (((ys.map encV++(c.blocks.drop (j)).map encB).set j [(.J y.params),(.sc (v1)),(.J y.term.kind),(.J y.term.a),(.J y.term.n),(.sc (v2)),(.J y.term.b0),(.imm 1 (y.term.args0.map encI)),(.J y.term.b1),(.imm 1 (y.term.args1.map encI))])) hS rfl (by simp only [List.set_set]; rfl)
  refine PX.G [(.e 46 (.J 0))] [] 8 [] [] [.au] [1,2,4,20,21,46] [1,2,3,4,5,6,7] hS hE trivial fun a w hS=>?_
  refine wp_block ?_
  refine wp_loop_rounds 3 ?_
  rw [rounds_succ]
  refine PX.G [(.e 47 (.sc (.bool true)))] [] 8 [] [] [.au] [1,2,4,20,21,46,47] [1,2,3,4,5,6,7] hS hE trivial fun a w hS=>?_
  refine wp_seq_k fun K5 hK5=>?_
  refine PX.cond_s true hS (by kernel_rfl) (fun h6=>?_) (fun h6=>nomatch h6)
  refine wp_skip ?_
  refine hK5 _ _ ?_
  refine wp_seq_k fun K7 hK7=>?_
  refine wp_block ?_
  refine PX.G [(.e 5 (.J 0))] [] 8 [] [] [.au,.au] [1,2,4,5,20,21,46] [1,2,3,4,5,6,7] hS hE trivial fun a w hS=>?_
  refine PX.D0 [] [(3,.row 62 10 false (((ys.map encV++(c.blocks.drop (j)).map encB).set j [(.J y.params),(.sc (v1)),(.J y.term.kind),(.J y.term.a),(.J y.term.n),(.sc (v2)),(.J y.term.b0),(.imm 1 (y.term.args0.map encI)),(.J y.term.b1),(.imm 1 (y.term.args1.map encI))]).set j [(.J y.params),(.sc (v1)),(.J y.term.kind),(.J y.term.a),(.J y.term.n),(.sc (v2)),(.J y.term.b0),(.own 8 1 y.term.args0.length),(.J y.term.b1),(.imm 1 (y.term.args1.map encI))])),(8,.row 3 1 true (y.term.args0.map encI))] 9 [.q (((ys.map encV++(c.blocks.drop (j)).map encB).set j [(.J y.params),(.sc (v1)),(.J y.term.kind),(.J y.term.a),(.J y.term.n),(.sc (v2)),(.J y.term.b0),(.imm 1 (y.term.args0.map encI)),(.J y.term.b1),(.imm 1 (y.term.args1.map encI))])[j]?=some ([(.J y.params),(.sc (v1)),(.J y.term.kind),(.J y.term.a),(.J y.term.n),(.sc (v2)),(.J y.term.b0),(.imm 1 (y.term.args0.map encI)),(.J y.term.b1),(.imm 1 (y.term.args1.map encI))])),.q (PX.Con Try.prog 49 [(.imm 1 (y.term.args0.map encI))] [] 8 9 (.own 8 1 y.term.args0.length) [(8,some (.row 3 1 true (y.term.args0.map encI)))]),.q (((ys.map encV++(c.blocks.drop (j)).map encB).set j [(.J y.params),(.sc (v1)),(.J y.term.kind),(.J y.term.a),(.J y.term.n),(.sc (v2)),(.J y.term.b0),(.imm 1 (y.term.args0.map encI)),(.J y.term.b1),(.imm 1 (y.term.args1.map encI))])[j]?=some ([(.J y.params),(.sc (v1)),(.J y.term.kind),(.J y.term.a),(.J y.term.n),(.sc (v2)),(.J y.term.b0),(.imm 1 (y.term.args0.map encI)),(.J y.term.b1),(.imm 1 (y.term.args1.map encI))]))] [] [.au,.au,.au,.au,.au,.au,.au,.au,.au,.lr ([(.J y.params),(.sc (v1)),(.J y.term.kind),(.J y.term.a),(.J y.term.n),(.sc (v2)),(.J y.term.b0),(.imm 1 (y.term.args0.map encI)),(.J y.term.b1),(.imm 1 (y.term.args1.map encI))]),.cl [] (.own 8 1 y.term.args0.length) [(8,some (.row 3 1 true (y.term.args0.map encI)))] 9,.au,.au,.au,.au,.au,.lr ([(.J y.params),(.sc (v1)),(.J y.term.kind),(.J y.term.a),(.J y.term.n),(.sc (v2)),(.J y.term.b0),(.imm 1 (y.term.args0.map encI)),(.J y.term.b1),(.imm 1 (y.term.args1.map encI))])] [1,2,4,20,21,46] [1,2,3,4,5,6,7,8] hS mixed hE ⟨set_get hXl,con_cloneI_o hyI.2.2.2.1 (by omega),set_get hXl,trivial⟩ fun a w hS=>?_
  obtain ⟨v3,hvv3,hS⟩:=hS.rawN (B:=3) (k:=j) (i:=7) (hE.le (by decide)) rfl (set_get (by simpa using hXl)) rfl (fun u=>by simp only [List.set_set]; exact pures_set hXp rfl)
  replace hS:=PX.rerow (id:=3) (((ys.map encV++(c.blocks.drop (j)).map encB).set j [(.J y.params),(.sc (v1)),(.J y.term.kind),(.J y.term.a),(.J y.term.n),(.sc (v2)),(.J y.term.b0),(.sc (v3)),(.J y.term.b1),(.imm 1 (y.term.args1.map encI))])) hS rfl (by simp only [List.set_set]; rfl)
  refine hK7 _ _ ?_
  refine PX.G0 [(.e 46 (.J 1))] [] 10 [] [] [.au,.au] [1,2,4,20,21,46] [1,2,3,4,5,6,7,8,9] hS hE trivial fun a w hS=>?_
  show Code.rounds _ _ _ 2 _ _
  rw [rounds_succ]
  refine PX.G [(.e 47 (.sc (.bool true)))] [] 10 [] [] [.au] [1,2,4,20,21,46,47] [1,2,3,4,5,6,7,8,9] hS hE trivial fun a w hS=>?_
  refine wp_seq_k fun K8 hK8=>?_
  refine PX.cond_s true hS (by kernel_rfl) (fun h9=>?_) (fun h9=>nomatch h9)
  refine wp_skip ?_
  refine hK8 _ _ ?_
  refine wp_seq_k fun K10 hK10=>?_
  refine wp_block ?_
  refine PX.G [(.e 5 (.J 1))] [] 10 [] [] [.au,.au] [1,2,4,5,20,21,46] [1,2,3,4,5,6,7,8,9] hS hE trivial fun a w hS=>?_
  refine PX.D0 [] [(3,.row 62 10 false (((ys.map encV++(c.blocks.drop (j)).map encB).set j [(.J y.params),(.sc (v1)),(.J y.term.kind),(.J y.term.a),(.J y.term.n),(.sc (v2)),(.J y.term.b0),(.sc (v3)),(.J y.term.b1),(.imm 1 (y.term.args1.map encI))]).set j [(.J y.params),(.sc (v1)),(.J y.term.kind),(.J y.term.a),(.J y.term.n),(.sc (v2)),(.J y.term.b0),(.sc (v3)),(.J y.term.b1),(.own 10 1 y.term.args1.length)])),(10,.row 3 1 true (y.term.args1.map encI))] 11 [.q (((ys.map encV++(c.blocks.drop (j)).map encB).set j [(.J y.params),(.sc (v1)),(.J y.term.kind),(.J y.term.a),(.J y.term.n),(.sc (v2)),(.J y.term.b0),(.sc (v3)),(.J y.term.b1),(.imm 1 (y.term.args1.map encI))])[j]?=some ([(.J y.params),(.sc (v1)),(.J y.term.kind),(.J y.term.a),(.J y.term.n),(.sc (v2)),(.J y.term.b0),(.sc (v3)),(.J y.term.b1),(.imm 1 (y.term.args1.map encI))])),.q (PX.Con Try.prog 49 [(.imm 1 (y.term.args1.map encI))] [] 10 11 (.own 10 1 y.term.args1.length) [(10,some (.row 3 1 true (y.term.args1.map encI)))]),.q (((ys.map encV++(c.blocks.drop (j)).map encB).set j [(.J y.params),(.sc (v1)),(.J y.term.kind),(.J y.term.a),(.J y.term.n),(.sc (v2)),(.J y.term.b0),(.sc (v3)),(.J y.term.b1),(.imm 1 (y.term.args1.map encI))])[j]?=some ([(.J y.params),(.sc (v1)),(.J y.term.kind),(.J y.term.a),(.J y.term.n),(.sc (v2)),(.J y.term.b0),(.sc (v3)),(.J y.term.b1),(.imm 1 (y.term.args1.map encI))]))] [] [.au,.au,.au,.au,.au,.au,.au,.au,.au,.lr ([(.J y.params),(.sc (v1)),(.J y.term.kind),(.J y.term.a),(.J y.term.n),(.sc (v2)),(.J y.term.b0),(.sc (v3)),(.J y.term.b1),(.imm 1 (y.term.args1.map encI))]),.cl [] (.own 10 1 y.term.args1.length) [(10,some (.row 3 1 true (y.term.args1.map encI)))] 11,.au,.au,.au,.au,.au,.lr ([(.J y.params),(.sc (v1)),(.J y.term.kind),(.J y.term.a),(.J y.term.n),(.sc (v2)),(.J y.term.b0),(.sc (v3)),(.J y.term.b1),(.imm 1 (y.term.args1.map encI))])] [1,2,4,20,21,46] [1,2,3,4,5,6,7,8,9,10] hS mixed hE ⟨set_get hXl,con_cloneI_o hyI.2.2.2.2.1 (by omega),set_get hXl,trivial⟩ fun a w hS=>?_
  obtain ⟨v4,hvv4,hS⟩:=hS.rawN (B:=3) (k:=j) (i:=9) (hE.le (by decide)) rfl (set_get (by simpa using hXl)) rfl (fun u=>by simp only [List.set_set]; exact pures_set hXp rfl)
  replace hS:=PX.rerow (id:=3) (((ys.map encV++(c.blocks.drop (j)).map encB).set j [(.J y.params),(.sc (v1)),(.J y.term.kind),(.J y.term.a),(.J y.term.n),(.sc (v2)),(.J y.term.b0),(.sc (v3)),(.J y.term.b1),(.sc (v4))])) hS rfl (by simp only [List.set_set]; rfl)
  refine hK10 _ _ ?_
  refine PX.G0 [(.e 46 (.J 2))] [] 12 [] [] [.au,.au] [1,2,4,20,21,46] [1,2,3,4,5,6,7,8,9,10,11] hS hE trivial fun a w hS=>?_
  show Code.rounds _ _ _ 1 _ _
  rw [rounds_succ]
  refine PX.G [(.e 47 (.sc (.bool false)))] [] 12 [] [] [.au] [1,2,4,20,21,46,47] [1,2,3,4,5,6,7,8,9,10,11] hS hE trivial fun a w hS=>?_
  refine wp_seq_k fun K11 hK11=>?_
  refine PX.cond_s false hS (by kernel_rfl) (fun h12=>nomatch h12) (fun h12=>?_)
  refine wp_exit ?_
  refine hK4 _ _ ?_
  refine PX.G0 [(.e 21 (.sc (.I ((j+1:Nat):Int))))] [] 12 [.q ((.sc (.I (IntKind.i64.wrap ((j:Int)+1))):PX.PV)=(.sc (.I ((j+1:Nat):Int))))] [] [.nm (.sc (.I ((j+1:Nat):Int))),.au] [1,2,20,21] [1,2,3,4,5,6,7,8,9,10,11] hS hE ⟨PX.nm_int (by rw [IntWalk.i64_in _ (by omega)]; omega),trivial⟩ fun a w hS=>?_
  replace hS:=PX.rerow (id:=3) (((ys++[(mkV y v1 v2 v3 v4)]).map encV++(c.blocks.drop (j+1)).map encB)) hS rfl (step_rows hyl hy (mkV y v1 v2 v3 v4))
  replace hS:=(PX.cn [] [(.e 1 (.ptr 1 0)),(.e 2 (.ptr 2 0)),(.e 20 (.sc (.I (c.blocks.length:Int)))),(.e 21 (.sc (.I ((j+1:Nat):Int))))] [(1,.box 26 [(.J c.params),(.own 3 10 c.blocks.length),(.imm 3 (c.contexts.map encR)),(.imm 3 (c.objects.map encR))]),(2,.box 26 [(.J 0),(.sc (.slice none 0 0)),(.sc (.slice none 0 0)),(.sc (.slice none 0 0))]),(3,.row 62 10 true ((ys++[(mkV y v1 v2 v3 v4)]).map encV++(c.blocks.drop (j+1)).map encB)),(4,.row 74 11 true (y.ops.map encO)),(5,.ty v1 (.own 4 11 y.ops.length)),(6,.row 3 1 true (y.term.args.map encI)),(7,.ty v2 (.own 6 1 y.term.args.length)),(8,.row 3 1 true (y.term.args0.map encI)),(9,.ty v3 (.own 8 1 y.term.args0.length)),(10,.row 3 1 true (y.term.args1.map encI)),(11,.ty v4 (.own 10 1 y.term.args1.length))] 12 hS hE)
  obtain ⟨σ9,Z9,k⟩:=hS
  rw [hE3] at k
  have k2:=hr1.unnest k
  have hd2:=ds_snoc hr1 hds k (fun i o h=>key_sub (by kernel_rfl) h) (y:=y) (fun | 0=>v1 | 1=>v2 | 2=>v3 | _=>v4) (fun | 0=>4 | 1=>6 | 2=>8 | _=>10) (fun | 0=>5 | 1=>7 | 2=>9 | _=>11) (fun | 0=>y.ops.length | 1=>y.term.args.length | 2=>y.term.args0.length | _=>y.term.args1.length) (fun j hj=>match j,hj with | 0,_=>(by simp [fldR]) | 1,_=>(by simp [fldR]) | 2,_=>(by simp [fldR]) | 3,_=>(by simp [fldR])) (fun j hj=>match j,hj with | 0,_=>⟨rfl,rfl,rfl⟩ | 1,_=>⟨rfl,rfl,rfl⟩ | 2,_=>⟨rfl,rfl,rfl⟩ | 3,_=>⟨rfl,rfl,rfl⟩) (fun j j' hj hj'=>by
   match j,hj,j',hj' with
   | 0,_,0,_ | 1,_,1,_ | 2,_,2,_ | 3,_,3,_=>exact fun _=>rfl
   | 0,_,1,_ | 0,_,2,_ | 0,_,3,_ | 1,_,0,_ | 1,_,2,_ | 1,_,3,_ | 2,_,0,_ | 2,_,1,_ | 2,_,3,_ | 3,_,0,_ | 3,_,1,_ | 3,_,2,_=>exact fun h=>absurd h (by decide)) (H':=[(1,.box 26 [(.J c.params),(.own 3 10 c.blocks.length),(.imm 3 (c.contexts.map encR)),(.imm 3 (c.objects.map encR))]),(2,.box 26 [(.J 0),(.sc (.slice none 0 0)),(.sc (.slice none 0 0)),(.sc (.slice none 0 0))]),(3,.row 62 10 true ((ys++[(mkV y v1 v2 v3 v4)]).map encV++(c.blocks.drop (j+1)).map encB))]) (fun i o h=>⟨key_sub (by kernel_rfl) h,fun j hj=>by
    have hk:=PX.hlook_key h
    simp only [PX.keysH,List.mem_cons,List.not_mem_nil,or_false] at hk
    match j,hj with
    | 0,_ | 1,_ | 2,_ | 3,_=>simp only []; omega⟩)
  refine ⟨c.blocks.length-(j+1),by omega,j+1,ys++[(mkV y v1 v2 v3 v4)],_,Z9,rfl,by omega,k2.cut [1,2,3] 4 [(1,.box 26 [(.sc (.I c.params)),(.own 3 10 c.blocks.length),(.imm 3 (c.contexts.map encR)),(.imm 3 (c.objects.map encR))]),(2,.box 26 [(.sc (.I 0)),(.sc (.slice none 0 0)),(.sc (.slice none 0 0)),(.sc (.slice none 0 0))]),(3,.row 62 10 true ((ys++[(mkV y v1 v2 v3 v4)]).map encV++(c.blocks.drop (j+1)).map encB))] (by rw [hE0.elo]; decide) (fun id h1 h2=>hE0.es0 id (hE0.elo ▸ h1) (hE0.etop ▸ h2)) (by decide) (by kernel_rfl) (fun id o h=>?_),?_⟩
  ·have hin:=hlook_in h
   simp only [List.mem_cons,Prod.mk.injEq,List.not_mem_nil,or_false] at hin
   rcases hin with ⟨rfl,rfl⟩ | ⟨rfl,rfl⟩ | ⟨rfl,rfl⟩ <;> exact ⟨rfl,rfl,rfl⟩
  ·rw [List.take_add_one,hy]
   exact hd2.cut _ _
 ·skip
  refine wp_exit ?_
  refine hK1 _ _ ?_
  refine PX.G [] [(2,.box 26 [(.J c.params),(.own 3 10 c.blocks.length),(.imm 3 (c.contexts.map encR)),(.imm 3 (c.objects.map encR))])] 4 [] [] [.au,.au] [2] [1,2,3] hS hE trivial fun a w hS=>?_
  refine wp_ret ?_
  have hjn:c.blocks.length≤j:=le_of_dec h3
  rw [List.drop_of_length_le hjn,List.map_nil,List.append_nil] at hS
  rw [List.take_of_length_le hjn] at hds
  obtain ⟨σ9,Z9,k⟩:=hS
  rw [hE3] at k
  have k2:=hr1.unnest k
  have hd2:=hds.step k
  refine PX.ret_rel (r:=.agg [.sc (.I c.params),.own 3 10 c.blocks.length,.imm 3 (c.contexts.map encR),.imm 3 (c.objects.map encR)]) (U:=[(3,some (.row 62 10 true (ys.map encV)))]) k2 (EnvOk.any hE0 _) (by kernel_rfl) (by kernel_rfl) (by kernel_rfl) (.inl rfl) fun v σ8 h1 h2 h3=>⟨ys,v,σ8,Z9,rfl,by rw [hd2.deep.len]; exact h2,by rw [hEs,hEZ,hEw] at h3; exact h3,hd2.deep,fun b hb=>?_⟩
  obtain ⟨q1,q2,q3⟩:=hd2.sep b hb
  exact ⟨by rw [← hEw]; exact q1,q2,fun q e=>q3 3 _ q rfl (by rw [← h1 3 _ rfl]; exact e)⟩
end Go.Proofs.Ytlkcidmmpeebeaa

/- Proved: merge.Merge on plain data -/
namespace Go.Proofs.Ytlkcidmmpeebeaa
open Go.RowKit Go.PX
set_option maxRecDepth 100000
theorem nz_of {c:CodeD} (hi:CodeI c) (h:R.check c (totW c.blocks)=0):NZ c:=fun k y hy=>by
 exact term_nz (blk_ok h hy).term
theorem ne_of_check {c:CodeD} (h:R.check c (totW c.blocks)=0):c.blocks≠[]:=by
 intro e
 unfold R.check at h
 split at h
 ·cases h
 split at h
 ·cases h
 ·rename_i _ q
  simp [R.heads,e] at q
theorem sum_pair {l:List BlockD} {i j:Nat} {y x:BlockD} (h:sumO l≤6000) (hne:i≠j) (hy:l[i]?=some y) (hx:l[j]?=some x):y.ops.length+x.ops.length≤6000:=by
 have h1:=sumO_erase hy
 have h2:x∈l.eraseIdx i:=by
  rcases Nat.lt_or_ge j i with q | q
  ·exact List.mem_of_getElem? (i:=j) (by rw [List.getElem?_eraseIdx,if_pos q]; exact hx)
  ·exact List.mem_of_getElem? (i:=j-1) (by rw [List.getElem?_eraseIdx,if_neg (by omega),show j-1+1=j by omega]; exact hx)
 have h3:=sumO_mem h2
 omega
theorem toV_vr {σ:PX.Nm} {Z:Nat→Prop} {w:World} {v:Value} {x:PX.PV} (h:ofV v=some x):VR σ Z w v x:=ofV_spec h
theorem rel_mem {E:PX.Env} {N:Nat} {R:List PX.Ent} {H:PX.Heap} {nx:Nat} {σ:PX.Nm} {Z:Nat→Prop} {a:Act} {w:World} (h:PX.RS σ Z w N [] R a) (hm:PX.Mem E H nx σ Z w):PX.Rel E N [] R H nx σ Z a w:=⟨h,hm.hr,hm.fr,hm.lo,hm.ext,hm.dom,hm.own,hm.chg,hm.zold,hm.z0⟩

set_option maxHeartbeats 4000000 in
theorem con_f36 (c:CodeD) (hi:CodeI c):PX.Con Try.prog 36 [(codeP c)] [] 1 100000 (if P.check c (totW c.blocks)=0 then codeP (mergeN c.blocks.length c) else codeP c) []:=by
 refine PX.con_intro [(codeP c)] 26 Try.func36 rfl rfl (by kernel_rfl) (by kernel_rfl) ?_
 intro E a hE hS
 generalize E.w0=w at hS ⊢
 have mix:=mixed
 refine PX.G [(.e 1 (.ptr 1 0)),(.e 2 (.ptr 2 0))] [(1,.box 26 (codeL c)),(2,.box 26 [(.J 0),(.sc (.slice none 0 0)),(.sc (.slice none 0 0)),(.sc (.slice none 0 0))])] 3 [] [] [.au,.au] [1,2] [1,2] hS hE trivial fun a w hS=>?_
 refine wp_seq_k fun K1 hK1=>?_
 refine PX.G [(.e 8 (.sc (.bool ((P.check c (totW c.blocks)) != 0))))] [] 3 [.q (PX.Con Try.prog 46 [(codeP c)] [] 3 3 (.sc (.I (P.check c (totW c.blocks)))) [])] [] [.au,.cl [] (.sc (.I (P.check c (totW c.blocks)))) [] 3,.au] [1,2,8] [1,2] hS hE ⟨con_check hi,trivial⟩ fun a w hS=>?_
 refine PX.cond_s ((P.check c (totW c.blocks)) != 0) hS (by kernel_rfl) (fun h2=>?_) (fun h2=>?_)
 ·skip
  refine PX.G [] [(2,.box 26 (codeL c))] 3 [] [] [.au,.au] [2] [2] hS hE trivial fun a w hS=>?_
  refine wp_ret ?_
  rw [show (if P.check c (totW c.blocks)=0 then codeP (mergeN c.blocks.length c) else codeP c)=((codeP c):PX.PV) from by rw [if_neg (by simpa using h2)] <;> rfl]
  exact PX.rt hS hE (.inl rfl)
 ·skip
  refine wp_skip ?_
  refine hK1 _ _ ?_
  have hchk:P.check c (totW c.blocks)=0:=by simpa using h2
  rw [if_pos hchk]
  have hR0:R.check c (totW c.blocks)=0:=by rw [check_eq]; exact hchk
  have hM:=mok_of hi hR0
  have hfit:=fit_of hi hR0
  have hN:=nz_of hi hR0
  have hne:=ne_of_check hR0
  clear mix
  refine wp_seq_k fun K3 hK3=>?_
  obtain ⟨σ,Z,hr⟩:=hS
  refine wp_region_lit ?_
  refine seq_sound (acc:=⟨⟨10,[],codeP c⟩::[(.e 1 (.ptr 1 0)),(.e 2 (.ptr 2 0)),(.e 8 (.sc (.bool ((P.check c (totW c.blocks)) != 0))))],[(1,.box 26 (codeL c)),(2,.box 26 [(.J 0),(.sc (.slice none 0 0)),(.sc (.slice none 0 0)),(.sc (.slice none 0 0))])],3,[],[]⟩) [_] [.au] (by kernel_rfl) (show 3≤E.top from hE.le (by decide)) trivial trivial hr fun a w σ Z hr=>?_
  obtain ⟨v,hv1,hv2⟩:=(hr.rs.at_ 10 _ rfl).1 rfl
  refine wpl_call [v] rfl rfl (by kernel_rfl) (by simp [Act.eval,hv1]) (con_f74 c hi hne hM.len (by have:=hfit.ctx; omega) (by have:=hfit.obj; omega) (fun y hy=>by have h1:=hfit.ops y hy; have h2:=hfit.term y hy; omega) w (fun _=>none) Z [v] { at_:=fun id o h=>(nomatch h),inj:=fun _ _ _ _ _ _ _ h=>(nomatch h),off:=fun _ _ _ _ h=>(nomatch h),zlt:=hr.hr.zlt } (.cons (hv2.restrict (S:=[]) (fun id h=>(nomatch h)) rfl) .nil) (fun _ _ _=>rfl)) ?_
  rintro e w ⟨ys,v1,σ1,Z1,rfl,hv3,he,hdeep,hsep⟩
  refine ⟨v1,rfl,?_⟩
  obtain ⟨τ,hr,hds⟩:=enter_copied (t:=11) hr (hE.le (by decide)) hv3 rfl he hdeep hsep rfl
  refine step_ds [_,_] [.au,.au] (R':=⟨3,[],.ptr 4 0⟩::⟨11,[],.agg [.sc (.I c.params),.own 3 10 ys.length,.imm 3 (c.contexts.map encR),.imm 3 (c.objects.map encR)]⟩::⟨10,[],codeP c⟩::[(.e 1 (.ptr 1 0)),(.e 2 (.ptr 2 0)),(.e 8 (.sc (.bool ((P.check c (totW c.blocks)) != 0))))]) (H':=[(4,.box 26 [.sc (.I c.params),.own 3 10 ys.length,.imm 3 (c.contexts.map encR),.imm 3 (c.objects.map encR)]),(3,.row 62 10 true (ys.map encV)),(1,.box 26 (codeL c)),(2,.box 26 [(.J 0),(.sc (.slice none 0 0)),(.sc (.slice none 0 0)),(.sc (.slice none 0 0))])]) (nx':=5) (obs:=[]) (eqs:=[]) (by kernel_rfl) trivial trivial (hE.le (by decide)) (hr _ rfl) hds fun a w σ Z hr hds=>?_
  show K3 a w
  refine hK3 _ _ ?_
  obtain ⟨σ,hr,hds⟩:=canon_ds [(1,4),(2,3),(3,2)] [⟨2,[],.ptr 3 0⟩,⟨3,[],.ptr 1 0⟩] (hpM c ys [(3,.box 26 [.sc (.I 0),.sc (.slice none 0 0),.sc (.slice none 0 0),.sc (.slice none 0 0)])]) 4 (rel_slots hr [2,3] rfl) hds hE (by kernel_rfl) (by kernel_rfl) (by kernel_rfl)
  clear hv1 hv2 hv3 he hdeep hsep
  refine wp_seq_k fun K0 hK0=>?_
  refine wp_seq_k fun K4 hK4=>?_
  refine wp_region_lit ?_
  refine step_ds [_] [.au] (R':=⟨13,[],.agg [.sc (.I c.params),.own 2 10 ys.length,.imm 3 (c.contexts.map encR),.imm 3 (c.objects.map encR)]⟩::[⟨2,[],.ptr 3 0⟩,⟨3,[],.ptr 1 0⟩]) (H':=hpM c ys [(3,.box 26 [.sc (.I 0),.sc (.slice none 0 0),.sc (.slice none 0 0),.sc (.slice none 0 0)])]) (nx':=4) (obs:=[]) (eqs:=[]) (by kernel_rfl) trivial trivial (hE.le (by decide)) hr hds fun a w σ Z hr hds=>?_
  obtain ⟨v,hv1,hv2⟩:=(hr.rs.at_ 13 _ rfl).1 rfl
  refine wpl_call [v] rfl rfl (by kernel_rfl) (by simp [Act.eval,hv1]) (joinable_call hr.hr hds.deep hM hv2) ?_
  rintro e w ⟨rfl,hc⟩
  refine ⟨_,rfl,?_⟩
  refine step_ds [_,_,_,_,_] [.au,.au,.au,.au,.au] (R:=⟨14,[],.tup [.sc (.I (((oneI c).getD 0:Nat):Int)),.sc (.bool (oneI c).isSome)]⟩::⟨13,[],.agg [.sc (.I c.params),.own 2 10 ys.length,.imm 3 (c.contexts.map encR),.imm 3 (c.objects.map encR)]⟩::[⟨2,[],.ptr 3 0⟩,⟨3,[],.ptr 1 0⟩]) (R':=⟨5,[],.sc (.bool (oneI c).isSome)⟩::⟨4,[],.sc (.I (((oneI c).getD 0:Nat):Int))⟩::⟨16,[],.sc (.bool (oneI c).isSome)⟩::⟨15,[],.sc (.I (((oneI c).getD 0:Nat):Int))⟩::⟨12,[],.tup [.sc (.I (((oneI c).getD 0:Nat):Int)),.sc (.bool (oneI c).isSome)]⟩::⟨14,[],.tup [.sc (.I (((oneI c).getD 0:Nat):Int)),.sc (.bool (oneI c).isSome)]⟩::⟨13,[],.agg [.sc (.I c.params),.own 2 10 ys.length,.imm 3 (c.contexts.map encR),.imm 3 (c.objects.map encR)]⟩::[⟨2,[],.ptr 3 0⟩,⟨3,[],.ptr 1 0⟩]) (H':=hpM c ys [(3,.box 26 [.sc (.I 0),.sc (.slice none 0 0),.sc (.slice none 0 0),.sc (.slice none 0 0)])]) (nx':=4) (obs:=[]) (eqs:=[]) (by kernel_rfl) trivial trivial (hE.le (by decide)) (rel_put (t:=14) (rel_grow hr hc) rfl rfl (toV_vr rfl)) (ds_grow hds hc) fun a w σ Z hr hds=>?_
  replace hr:=rel_slots hr [2,3,4,5] rfl
  clear hv1 hv2 hc
  show K4 a w
  refine hK4 _ _ ?_
  refine wp_block ?_
  refine wp_loop_ghost (fun m a w=>∃ (d:CodeD) (ys:List VB) (σ:PX.Nm) (Z:Nat→Prop),m=d.blocks.length∧PX.Rel E 26 [] [⟨2,[],.ptr 3 0⟩,⟨3,[],.ptr 1 0⟩,⟨4,[],.sc (.I (((oneI d).getD 0:Nat):Int))⟩,⟨5,[],.sc (.bool (oneI d).isSome)⟩] (hpM d ys [(3,.box 26 [.sc (.I 0),.sc (.slice none 0 0),.sc (.slice none 0 0),.sc (.slice none 0 0)])]) 4 σ Z a w∧DS E (hpM d ys [(3,.box 26 [.sc (.I 0),.sc (.slice none 0 0),.sc (.slice none 0 0),.sc (.slice none 0 0)])]) σ Z w ys d.blocks∧MOk d∧NZ d∧mergeN d.blocks.length d=mergeN c.blocks.length c) c.blocks.length ⟨c,ys,σ,Z,rfl,hr,hds,hM,hN,rfl⟩ ?_
  clear hr hds hM hN
  rintro m a w ⟨d,ys,σ,Z,rfl,hr,hds,hM,hN,hmg⟩
  refine wp_seq_k fun K5 hK5=>?_
  refine wp_seq_k fun K6 hK6=>?_
  refine wp_region_lit ?_
  refine step_ds [_] [.au] (R':=⟨17,[],.sc (.bool (oneI d).isSome)⟩::[⟨2,[],.ptr 3 0⟩,⟨3,[],.ptr 1 0⟩,⟨4,[],.sc (.I (((oneI d).getD 0:Nat):Int))⟩,⟨5,[],.sc (.bool (oneI d).isSome)⟩]) (H':=hpM d ys [(3,.box 26 [.sc (.I 0),.sc (.slice none 0 0),.sc (.slice none 0 0),.sc (.slice none 0 0)])]) (nx':=4) (obs:=[]) (eqs:=[]) (by kernel_rfl) trivial trivial (hE.le (by decide)) hr hds fun a w σ Z hr hds=>?_
  show K6 a w
  refine hK6 _ _ ?_
  refine PX.cond_s (oneI d).isSome ⟨σ,Z,hr⟩ (by kernel_rfl) (fun hb=>?_) (fun hb=>?_)
  ·skip
   refine wp_skip ?_
   refine hK5 _ _ ?_
   refine wp_seq_k fun K7 hK7=>?_
   refine wp_block ?_
   refine wp_region_lit ?_
   obtain ⟨ip,it,y,x,hoi,hy,hx,hb0,hne2,hpx,hone⟩:=step_some hM hb
   refine step_ds [_] [.au] (R':=⟨23,[],.sc (.I (((oneI d).getD 0:Nat):Int))⟩::⟨17,[],.sc (.bool (oneI d).isSome)⟩::[⟨2,[],.ptr 3 0⟩,⟨3,[],.ptr 1 0⟩,⟨4,[],.sc (.I (((oneI d).getD 0:Nat):Int))⟩,⟨5,[],.sc (.bool (oneI d).isSome)⟩]) (H':=hpM d ys [(3,.box 26 [.sc (.I 0),.sc (.slice none 0 0),.sc (.slice none 0 0),.sc (.slice none 0 0)])]) (nx':=4) (obs:=[]) (eqs:=[]) (by kernel_rfl) trivial trivial (hE.le (by decide)) hr hds fun a w σ Z hr hds=>?_
   obtain ⟨v3,h31,h32⟩:=(hr.rs.at_ 3 _ rfl).1 rfl
   obtain ⟨v4,h41,h42⟩:=(hr.rs.at_ 23 _ rfl).1 rfl
   have e4:=(toV_spec h42 rfl).symm
   subst e4
   cases h32 with
   | ptr _ _ b1 k1 hb1 =>
    have hxn:1≤it:=by have:=(hN ip y hy).1; omega
    have hsum:=sum_pair hM.sum hne2 hy hx
    refine wpl_call [.pointer (some ⟨b1,0,none⟩),.I (ip:Int)] rfl rfl (by kernel_rfl) (by simp [Act.eval,h31,h41,hoi]) (join_step hr.mem (by decide) hds hb1 hne2 hxn hy hx hb0 (hM.blk it x hx) (hM.blk ip y hy) hpx hsum (mtop (hM.blk ip y hy)) hM.len (fun k z hz=>by have h1:=hM.edge k z hz; have h2:=hM.len; omega)) ?_
    rintro e w1 ⟨ys1,Z1,v5,M,rfl,rfl,hz,hcg,hdj,hm,hds1⟩
    refine ⟨_,rfl,?_⟩
    replace hr:=fun (o:Oper) (ho:o.dst=some 24)=>rel_put (t:=24) (x:=.tup []) (rel_mem ((rel_slots hr [2,3] rfl).rs.mono (Ext.refl _) hz hcg hdj) hm) ho rfl (toV_vr (v:=.tuple #[]) rfl)
    have hds:=hds1
    have hM0:=hM
    have hM:=mok_one hM0 hone
    have hN:=nz_one hM0 hN hone
    have hln:=one_len (jok_of hM0) hone
    have hmg2:mergeN (jnB d ip it y x).blocks.length (jnB d ip it y x)=mergeN c.blocks.length c:=by rw [← hmg,← hln,mergeN]; simp only [hone]
    clear hds1 hM0 hone hsum hoi hy hx hb0 hpx
    generalize hdd:jnB d ip it y x=d1 at *
    generalize d.blocks.length=dl at *
    show K7 _ w1
    refine hK7 _ _ ?_
    refine wp_region_lit ?_
    refine step_ds [_] [.au] (R':=⟨19,[],.agg [.sc (.I d1.params),.own 2 10 ys1.length,.imm 3 (d1.contexts.map encR),.imm 3 (d1.objects.map encR)]⟩::(⟨24,[],.tup []⟩::[⟨2,[],.ptr 3 0⟩,⟨3,[],.ptr 1 0⟩])) (H':=hpM d1 ys1 [(3,.box 26 [.sc (.I 0),.sc (.slice none 0 0),.sc (.slice none 0 0),.sc (.slice none 0 0)])]) (nx':=4) (obs:=[]) (eqs:=[]) (by kernel_rfl) trivial trivial (hE.le (by decide)) (hr _ rfl) hds fun a w σ Z hr hds=>?_
    obtain ⟨v,hv1,hv2⟩:=(hr.rs.at_ 19 _ rfl).1 rfl
    refine wpl_call [v] rfl rfl (by kernel_rfl) (by simp [Act.eval,hv1]) (joinable_call hr.hr hds.deep hM hv2) ?_
    rintro e w ⟨rfl,hc⟩
    refine ⟨_,rfl,?_⟩
    refine step_ds [_,_,_,_,_] [.au,.au,.au,.au,.au] (R:=⟨20,[],.tup [.sc (.I (((oneI d1).getD 0:Nat):Int)),.sc (.bool (oneI d1).isSome)]⟩::⟨19,[],.agg [.sc (.I d1.params),.own 2 10 ys1.length,.imm 3 (d1.contexts.map encR),.imm 3 (d1.objects.map encR)]⟩::(⟨24,[],.tup []⟩::[⟨2,[],.ptr 3 0⟩,⟨3,[],.ptr 1 0⟩])) (R':=⟨5,[],.sc (.bool (oneI d1).isSome)⟩::⟨4,[],.sc (.I (((oneI d1).getD 0:Nat):Int))⟩::⟨22,[],.sc (.bool (oneI d1).isSome)⟩::⟨21,[],.sc (.I (((oneI d1).getD 0:Nat):Int))⟩::⟨18,[],.tup [.sc (.I (((oneI d1).getD 0:Nat):Int)),.sc (.bool (oneI d1).isSome)]⟩::⟨20,[],.tup [.sc (.I (((oneI d1).getD 0:Nat):Int)),.sc (.bool (oneI d1).isSome)]⟩::⟨19,[],.agg [.sc (.I d1.params),.own 2 10 ys1.length,.imm 3 (d1.contexts.map encR),.imm 3 (d1.objects.map encR)]⟩::(⟨24,[],.tup []⟩::[⟨2,[],.ptr 3 0⟩,⟨3,[],.ptr 1 0⟩])) (H':=hpM d1 ys1 [(3,.box 26 [.sc (.I 0),.sc (.slice none 0 0),.sc (.slice none 0 0),.sc (.slice none 0 0)])]) (nx':=4) (obs:=[]) (eqs:=[]) (by kernel_rfl) trivial trivial (hE.le (by decide)) (rel_put (t:=20) (rel_grow hr hc) rfl rfl (toV_vr rfl)) (ds_grow hds hc) fun a w σ Z hr hds=>?_
    replace hr:=rel_slots hr [2,3,4,5] rfl
    clear hv1 hv2 hc
    exact ⟨_,by omega,d1,ys1,σ,Z,rfl,hr,hds,hM,hN,hmg2⟩
  ·skip
   have hend:mergeN c.blocks.length c=d:=by rw [← hmg]; exact merge_stop (by rw [step_none hM hb]; rfl)
   rw [hend] at hK0 hK3
   clear hmg
   refine wp_exit ?_
   show K0 a w
   refine hK0 _ _ ?_
   refine wp_seq_k fun K8 hK8=>?_
   refine wp_region_lit ?_
   refine step_ds [_,_] [.au,.au] (R':=⟨25,[],.agg [.sc (.I d.params),.own 2 10 ys.length,.imm 3 (d.contexts.map encR),.imm 3 (d.objects.map encR)]⟩::⟨17,[],.sc (.bool (oneI d).isSome)⟩::[⟨2,[],.ptr 3 0⟩,⟨3,[],.ptr 1 0⟩,⟨4,[],.sc (.I (((oneI d).getD 0:Nat):Int))⟩,⟨5,[],.sc (.bool (oneI d).isSome)⟩]) (H':=[(3,.box 26 [.sc (.I d.params),.own 2 10 ys.length,.imm 3 (d.contexts.map encR),.imm 3 (d.objects.map encR)]),(1,.box 26 [.sc (.I d.params),.own 2 10 ys.length,.imm 3 (d.contexts.map encR),.imm 3 (d.objects.map encR)]),(2,.row 62 10 true (ys.map encV))]) (nx':=4) (obs:=[]) (eqs:=[]) (by kernel_rfl) trivial trivial (hE.le (by decide)) hr hds fun a w σ Z hr hds=>?_
   show K8 a w
   refine hK8 _ _ ?_
   have hr1:PX.Rel E 26 [] _ (hpM d ys [(3,.box 26 [.sc (.I d.params),.own 2 10 ys.length,.imm 3 (d.contexts.map encR),.imm 3 (d.objects.map encR)])]) 4 σ Z a w:=hr.restr [1,2,3]
   have hds1:DS E (hpM d ys [(3,.box 26 [.sc (.I d.params),.own 2 10 ys.length,.imm 3 (d.contexts.map encR),.imm 3 (d.objects.map encR)])]) σ Z w ys d.blocks:=hds.fewer fun i o h=>key_sub (by kernel_rfl) h
   refine wp_ret ?_
   exact PX.ret_rel (r:=.agg [.sc (.I d.params),.own 2 10 ys.length,.imm 3 (d.contexts.map encR),.imm 3 (d.objects.map encR)]) (U:=[(2,some (.row 62 10 true (ys.map encV)))]) hr1 (EnvOk.any hE _) (by kernel_rfl) (by kernel_rfl) (by kernel_rfl) (.inl rfl) fun v σ8 h1 h2 h3=>leave_deep hr1 hds1 hM h1 h2 h3
end Go.Proofs.Ytlkcidmmpeebeaa

/- Proved: joined code is code of 64-bit numbers; what a law over merge.Merge needs. No program in sight. -/
namespace Go.Proofs.Ytlkcidmmpeebeaa
open Go.RowKit Go.PX
theorem val_rng {b:BlockD} (h:MBlk b) {v:Int} (hv:v∈R.values b):I64 v:=by
  have hp:=h.params
  rw [values_eq2,List.mem_append] at hv
  rcases hv with hv | hv
  · unfold R.upto at hv
    obtain ⟨i,hi,rfl⟩:=List.mem_map.1 hv
    have:=List.mem_range.1 hi
    exact ⟨by omega,by omega⟩
  · have:=h.dst.1 v hv
    exact ⟨by omega,by omega⟩
theorem blkI_join {y x:BlockD} (iy:BlkI y) (ix:BlkI x) (hJ:MBlk (joinD y x)) (hl:y.ops.length+x.ops.length≤6000):BlkI (joinD y x):=by
  obtain ⟨⟨y1,_⟩,y2,_⟩:=iy
  obtain ⟨⟨_,x2,x3,x4,x5,x6⟩,xo,_,_,_,_⟩:=ix
  have hr:∀ {v:Int},v∈R.values (joinD y x)→I64 v:=fun h=>val_rng hJ h
  refine ⟨⟨y1,x2,?_,x4,x5,x6⟩,fun o ho=>?_,fun v hv=>hr (hJ.tl.1 v hv),fun v hv=>hr (hJ.tl.2.1 v hv),fun v hv=>hr (hJ.tl.2.2 v hv),?_⟩
  · by_cases q:(x.term.kind==2||x.term.kind==4||x.term.kind==5)=true
    · exact hr (hJ.ta q)
    · show I64 (if _ then _ else _)
      rw [if_neg q]; exact x3
  · rcases List.mem_append.1 ho with h | h
    · exact y2 o h
    · obtain ⟨u,hu,rfl⟩:=List.mem_map.1 h
      obtain ⟨u1,u2,u3,u4,u5,u6,u7,u8,u9,u10,u11⟩:=xo u hu
      obtain ⟨q1,q2,q3⟩:=hJ.ops _ ho
      refine ⟨u1,?_,?_,?_,u5,u6,u7,u8,u9,?_,u11⟩
      · by_cases q:R.defines u.kind=true
        · have:(renO_ (nmJ y x) u).dst∈dsts (joinD y x).ops:=by
            unfold dsts
            exact List.mem_map.2 ⟨_,List.mem_filter.2 ⟨ho,q⟩,rfl⟩
          have:=hJ.dst.1 _ this
          have hp:=hJ.params
          exact ⟨by omega,by omega⟩
        · show I64 (if _ then _ else _)
          rw [if_neg q]; exact u2
      · by_cases q:R.usesA u.kind=true
        · exact hr (q1 q)
        · show I64 (if _ then _ else _)
          rw [if_neg q]; exact u3
      · by_cases q:R.usesB u.kind=true
        · exact hr (q2 q)
        · show I64 (if _ then _ else _)
          rw [if_neg q]; exact u4
      · by_cases q:u.sk=2
        · exact hr (q3 q).2
        · show I64 (if _ then _ else _)
          rw [if_neg (by simpa using q)]; exact u10
  · show (y.ops++x.ops.map _).length≤_
    simp; omega
theorem codeI_one {c d:CodeD} (hi:CodeI c) (hM:MOk c) (h:oneD c=some d):CodeI d:=by
  obtain ⟨k,y,x,hy,hx,hk1,hne,hcnt,hok,rfl⟩:=one_inv h
  obtain ⟨hj0,_,hp⟩:=hM.jump k y hy hk1
  have hl:=hM.len
  refine ⟨hi.1,fun b hb=>?_,hi.2.2⟩
  obtain ⟨i,hb⟩:=List.getElem?_of_mem hb
  obtain ⟨i0,z,hz,rfl,_⟩:=rem_get hb
  have hS:BlkI z∧z.term.b0<400∧z.term.b1<400:=by
    rcases List.mem_or_eq_of_mem_set (List.mem_of_getElem? hz) with h | rfl
    · obtain ⟨j,hj⟩:=List.getElem?_of_mem h
      have:=hM.edge j z hj
      exact ⟨hi.2.1 z h,by omega,by omega⟩
    · have:=hM.edge _ x hx
      have e0:(joinD y x).term.b0=x.term.b0:=rfl
      have e1:(joinD y x).term.b1=x.term.b1:=rfl
      rw [e0,e1]
      exact ⟨blkI_join (hi.2.1 y (List.mem_of_getElem? hy)) (hi.2.1 x (List.mem_of_getElem? hx)) (mblk_join (hM.blk _ y hy) (hM.blk _ x hx) (hp x hx) hok) (sum_pair hM.sum (by omega) hy hx),by omega,by omega⟩
  obtain ⟨⟨⟨h1,h2,h3,h4,h5,h6⟩,h7⟩,b0,b1⟩:=hS
  have hdec:∀ v:Int,I64 v→v<400→I64 (decE y.term.b0 v):=fun v q0 q1=>by
    by_cases q:y.term.b0<v
    · rw [decE_hi q hj0 (by omega)]; exact ⟨by omega,by omega⟩
    · rw [decE_lo q]; exact q0
  exact ⟨⟨h1,h2,h3,h4,hdec _ h5 b0,hdec _ h6 b1⟩,h7⟩
theorem codeI_mergeN:∀ (n:Nat) {c:CodeD},CodeI c→MOk c→CodeI (mergeN n c)
  | 0,c,hi,_=>hi
  | n+1,c,hi,hM=>by
    rw [mergeN]
    cases h:oneD c with
    | none=>exact hi
    | some d=>exact codeI_mergeN n (codeI_one hi hM h) (mok_one hM h)
def mgD (c:CodeD):CodeD:=if P.check c (totW c.blocks)=0 then mergeN c.blocks.length c else c
theorem codeI_mg {c:CodeD} (hi:CodeI c):CodeI (mgD c):=by
  unfold mgD
  split
  · rename_i h; exact codeI_mergeN _ hi (mok_of hi (by rw [check_eq]; exact h))
  · exact hi
theorem con_mg {lo top:Nat} {c:CodeD} (hi:CodeI c):PX.Con Try.prog 36 [codeP c] [] lo top (codeP (mgD c)) []:=by
  have h:=con_f36 c hi
  have e:(if P.check c (totW c.blocks)=0 then codeP (mergeN c.blocks.length c) else codeP c)=codeP (mgD c):=by unfold mgD; split <;> rfl
  rw [e] at h; exact PX.con_any h
end Go.Proofs.Ytlkcidmmpeebeaa

/- Proved: known of debuggerlaw09 -/
namespace Go.Proofs.Ytlkcidmmpeebeaa
open Go.RowKit Go.PX
set_option maxRecDepth 100000
def retD (p v:Int) (ops:List OpD):BlockD:={ params:=p,ops:=ops,term:={ kind:=4,a:=v,n:=0,args:=[],b0:=-1,args0:=[],b1:=-1,args1:=[] } }
theorem blkI_of (b:BlockD) (h:(decide (-9223372036854775808≤b.params)&&decide (b.params≤9223372036854775807)&&decide (-9223372036854775808≤b.term.kind)&&decide (b.term.kind≤9223372036854775807)&&decide (-9223372036854775808≤b.term.a)&&decide (b.term.a≤9223372036854775807)&&decide (-9223372036854775808≤b.term.n)&&decide (b.term.n≤9223372036854775807)&&decide (-9223372036854775808≤b.term.b0)&&decide (b.term.b0≤9223372036854775807)&&decide (-9223372036854775808≤b.term.b1)&&decide (b.term.b1≤9223372036854775807)&&(b.ops.all fun o=>[o.kind,o.dst,o.a,o.b,o.n,o.ctx,o.var,o.piece,o.sk,o.sv,o.sa].all fun x=>decide (-9223372036854775808≤x)&&decide (x≤9223372036854775807))&&(b.term.args.all fun x=>decide (-9223372036854775808≤x)&&decide (x≤9223372036854775807))&&(b.term.args0.all fun x=>decide (-9223372036854775808≤x)&&decide (x≤9223372036854775807))&&(b.term.args1.all fun x=>decide (-9223372036854775808≤x)&&decide (x≤9223372036854775807))&&decide (b.ops.length≤140737488351232))=true):BlkI b:=by
 simp only [Bool.and_eq_true,decide_eq_true_eq,List.all_eq_true] at h
 obtain ⟨⟨⟨⟨⟨⟨⟨⟨⟨⟨⟨⟨⟨⟨⟨⟨h1,h2⟩,h3⟩,h4⟩,h5⟩,h6⟩,h7⟩,h8⟩,h9⟩,h10⟩,h11⟩,h12⟩,h13⟩,h14⟩,h15⟩,h16⟩,h17⟩:=h
 refine ⟨⟨⟨h1,h2⟩,⟨h3,h4⟩,⟨h5,h6⟩,⟨h7,h8⟩,⟨h9,h10⟩,⟨h11,h12⟩⟩,fun o ho=>?_,fun x hx=>h14 x hx,fun x hx=>h15 x hx,fun x hx=>h16 x hx,h17⟩
 have q:=h13 o ho
 exact ⟨q o.kind (by simp),q o.dst (by simp),q o.a (by simp),q o.b (by simp),q o.n (by simp),q o.ctx (by simp),q o.var (by simp),q o.piece (by simp),q o.sk (by simp),q o.sv (by simp),q o.sa (by simp)⟩

set_option maxHeartbeats 400000 in
theorem con_ret9 (p v:Int) (ops:List OpD) (hl:ops.length≤1000000):PX.Con Try.prog 39 [(.J p),(.J v),(.imm 11 (ops.map encO))] [] 1 100000 (.agg (encB (retD p v ops))) []:=by
 refine PX.con_intro [(.J p),(.J v),(.imm 11 (ops.map encO))] 17 Try.func39 rfl rfl (by kernel_rfl) (by kernel_rfl) ?_
 intro E a hE hS
 generalize E.w0=w at hS ⊢
 have mix:=mixed
 refine PX.G [(.e 6 (.ptr 1 0))] [(1,.box 62 [(.J 0),(.sc (.slice none 0 0)),(.J 0),(.J 0),(.J 0),(.sc (.slice none 0 0)),(.J 0),(.sc (.slice none 0 0)),(.J 0),(.sc (.slice none 0 0))])] 2 [] [] [.au] [0,1,2,6] [1] hS hE trivial fun a w hS=>?_
 refine PX.G [] [(1,.box 62 [(.J p),(.own 3 11 (0+(ops.map encO).length)),(.J 4),(.J v),(.J 0),(.sc (.slice none 0 0)),(.sc (.I (-1))),(.sc (.slice none 0 0)),(.sc (.I (-1))),(.sc (.slice none 0 0))]),(3,.row 74 11 true (ops.map encO))] 4 [.b (lenIs 0 ([])),.b true,.b (Nat.ble (0+(ops.map encO).length) 1000000000)] [] [.au,.au,.au,.au,.au,.au,.au,.au,.au,.au,.au] [6] [1,3] hS hE ⟨rfl,rfl,by simp; omega,trivial⟩ fun a w hS=>?_
 replace hS:=PX.recell (id:=1) (j:=5) (.imm 1 []) hS rfl rfl rfl (PX.nil_imm 1)
 replace hS:=PX.recell (id:=1) (j:=7) (.imm 1 []) hS rfl rfl rfl (PX.nil_imm 1)
 replace hS:=PX.recell (id:=1) (j:=9) (.imm 1 []) hS rfl rfl rfl (PX.nil_imm 1)
 replace hS:=PX.fz 3 [] [(1,.box 62 [(.J p),(.imm 11 (ops.map encO)),(.J 4),(.J v),(.J 0),(.imm 1 ([])),(.sc (.I (-1))),(.imm 1 ([])),(.sc (.I (-1))),(.imm 1 ([]))])] [6] [1] [.b (PX.lenIs (0+(ops.map encO).length) (ops.map encO))] hS ⟨(by simp [PX.lenIs]),trivial⟩
 refine wp_ret ?_
 exact PX.rt hS hE (.inl rfl)

set_option maxHeartbeats 400000 in
theorem con_mk9 (p:Int) (rows:List (List PX.PV)) (hl:rows.length≤1000000):PX.Con Try.prog 38 [(.J p),(.imm 10 rows)] [] 1 100000 (.agg [.sc (.I p),.imm 10 rows,.imm 3 [[.sc (.I (-1)),.sc (.I (-1)),.sc (.I 0)]],.imm 3 []]) []:=by
 refine PX.con_intro [(.J p),(.imm 10 rows)] 12 Try.func38 rfl rfl (by kernel_rfl) (by kernel_rfl) ?_
 intro E a hE hS
 generalize E.w0=w at hS ⊢
 have mix:=mixed
 refine PX.G [(.e 4 (.ptr 1 0))] [(1,.box 26 [(.J 0),(.sc (.slice none 0 0)),(.sc (.slice none 0 0)),(.sc (.slice none 0 0))])] 2 [] [] [.au] [0,1,4] [1] hS hE trivial fun a w hS=>?_
 refine PX.G [] [(1,.box 26 [(.J p),(.own 3 10 (0+rows.length)),(.own 4 3 1),(.sc (.slice none 0 0))]),(3,.row 62 10 true rows),(4,.row 99 3 true ([[(.sc (.I (-1))),(.sc (.I (-1))),(.J 0)]]))] 5 [.b (lenIs 0 ([])),.b true,.b (Nat.ble (0+rows.length) 1000000000)] [] [.au,.au,.au,.au,.au,.au,.au,.au] [4] [1,3,4] hS hE ⟨rfl,rfl,by simp; omega,trivial⟩ fun a w hS=>?_
 replace hS:=PX.recell (id:=1) (j:=3) (.imm 3 []) hS rfl rfl rfl (PX.nil_imm 3)
 replace hS:=PX.fz 3 [] [(1,.box 26 [(.J p),(.imm 10 rows),(.own 4 3 1),(.imm 3 ([]))])] [4] [1,4] [.b (PX.lenIs (0+rows.length) rows)] hS ⟨(by simp [PX.lenIs]),trivial⟩
 replace hS:=PX.fz 4 [] [(1,.box 26 [(.J p),(.imm 10 rows),(.imm 3 ([[(.sc (.I (-1))),(.sc (.I (-1))),(.J 0)]])),(.imm 3 ([]))])] [4] [1] [.b (PX.lenIs 1 ([[(.sc (.I (-1))),(.sc (.I (-1))),(.J 0)]]))] hS ⟨(by simp [PX.lenIs]),trivial⟩
 refine wp_ret ?_
 exact PX.rt hS hE (.inl rfl)

def kAdd:OpD:=⟨3,1,0,0,0,0,0,0,0,0,0⟩
def kMul1:OpD:=⟨5,1,0,0,0,0,0,0,0,0,0⟩
def kMul2:OpD:=⟨5,2,1,1,0,0,0,0,0,0,0⟩
def kA9:BlockD:={ params:=1,ops:=[kAdd],term:={ kind:=1,a:=0,n:=0,args:=[],b0:=1,args0:=[1],b1:=-1,args1:=[] } }
def kB9:BlockD:=retD 1 2 [kAdd,kMul2]
def kC9:CodeD:={ params:=1,blocks:=[kA9,retD 1 1 [kMul1]],contexts:=[(-1,-1,0)],objects:=[] }
def kS9:CodeD:={ params:=1,blocks:=[kB9],contexts:=[(-1,-1,0)],objects:=[] }
theorem mg_K:mgD kC9=kS9:=by kernel_rfl
theorem codeI_K9:CodeI kC9:=⟨⟨by decide,by decide⟩,fun b hb=>by
 simp only [kC9,List.mem_cons,List.not_mem_nil,or_false] at hb
 rcases hb with rfl | rfl <;> exact blkI_of _ (by decide),fun o ho=>by simp [kC9] at ho; subst ho; exact ⟨⟨by decide,by decide⟩,⟨by decide,by decide⟩,by decide,by decide⟩,fun o ho=>by simp [kC9] at ho⟩
theorem con_mgK {lo top:Nat}:PX.Con Try.prog 36 [codeP kC9] [] lo top (codeP kS9) []:=by rw [← mg_K]; exact con_mg codeI_K9

set_option maxHeartbeats 1000000 in
theorem known9_con  : PX.Con Try.prog 35 [] [] 1 100000 (.sc (.bool true)) []:=by
 refine PX.con_intro [] 52 Try.func35 rfl rfl (by kernel_rfl) (by kernel_rfl) ?_
 intro E a hE hS
 generalize E.w0=w at hS ⊢
 have mix:=mixed
 refine PX.G [] [] 1 [] [] [.au] [] [] hS hE trivial fun a w hS=>?_
 refine PX.G [(.e 1 (.ptr 2 0))] [(1,.row 74 11 true ([[(.J 3),(.J 1),(.J 0),(.J 0),(.J 0),(.J 0),(.J 0),(.J 0),(.J 0),(.J 0),(.J 0)]])),(2,.box 62 [(.J 1),(.own 1 11 1),(.J 0),(.J 0),(.J 0),(.sc (.slice none 0 0)),(.J 0),(.sc (.slice none 0 0)),(.J 0),(.sc (.slice none 0 0))])] 3 [] [] [.au,.au,.au,.au,.au] [1] [1,2] hS hE trivial fun a w hS=>?_
 refine PX.G [] [(2,.box 62 [(.J 1),(.own 1 11 1),(.J 1),(.J 0),(.J 0),(.sc (.slice none 0 0)),(.J 1),(.own 3 1 1),(.sc (.I (-1))),(.sc (.slice none 0 0))]),(3,.row 3 1 true ([[(.J 1)]]))] 4 [] [] [.au,.au,.au,.au,.au,.au,.au] [1] [1,2,3] hS hE trivial fun a w hS=>?_
 replace hS:=PX.recell (id:=2) (j:=5) (.imm 1 []) hS rfl rfl rfl (PX.nil_imm 1)
 replace hS:=PX.recell (id:=2) (j:=9) (.imm 1 []) hS rfl rfl rfl (PX.nil_imm 1)
 replace hS:=PX.fz 1 [] [(2,.box 62 [(.J 1),(.imm 11 ([[(.J 3),(.J 1),(.J 0),(.J 0),(.J 0),(.J 0),(.J 0),(.J 0),(.J 0),(.J 0),(.J 0)]])),(.J 1),(.J 0),(.J 0),(.imm 1 ([])),(.J 1),(.own 3 1 1),(.sc (.I (-1))),(.imm 1 ([]))])] [1] [2,3] [.b (PX.lenIs 1 ([[(.J 3),(.J 1),(.J 0),(.J 0),(.J 0),(.J 0),(.J 0),(.J 0),(.J 0),(.J 0),(.J 0)]]))] hS ⟨(by simp [PX.lenIs]),trivial⟩
 replace hS:=PX.fz 3 [] [(2,.box 62 [(.J 1),(.imm 11 ([[(.J 3),(.J 1),(.J 0),(.J 0),(.J 0),(.J 0),(.J 0),(.J 0),(.J 0),(.J 0),(.J 0)]])),(.J 1),(.J 0),(.J 0),(.imm 1 ([])),(.J 1),(.imm 1 ([[(.J 1)]])),(.sc (.I (-1))),(.imm 1 ([]))])] [1] [2] [.b (PX.lenIs 1 ([[(.J 1)]]))] hS ⟨(by simp [PX.lenIs]),trivial⟩
 refine PX.D [(.e 2 (.ptr 6 0))] [(6,.box 26 (codeL kS9))] 7 [.q (PX.Con Try.prog 39 [(.J 1),(.J 1),(.imm 11 ([[(.J 5),(.J 1),(.J 0),(.J 0),(.J 0),(.J 0),(.J 0),(.J 0),(.J 0),(.J 0),(.J 0)]]))] [] 5 5 (.agg [(.J 1),(.imm 11 ([⟨5,1,0,0,0,0,0,0,0,0,0⟩].map encO)),(.J 4),(.J 1),(.J 0),(.imm 1 ([])),(.sc (.I (-1))),(.imm 1 ([])),(.sc (.I (-1))),(.imm 1 ([]))]) []),.b (PX.lenIs 1 ([[(.J 5),(.J 1),(.J 0),(.J 0),(.J 0),(.J 0),(.J 0),(.J 0),(.J 0),(.J 0),(.J 0)]])),.q (PX.Con Try.prog 38 [(.J 1),(.imm 10 ([[(.J 1),(.imm 11 ([[(.J 3),(.J 1),(.J 0),(.J 0),(.J 0),(.J 0),(.J 0),(.J 0),(.J 0),(.J 0),(.J 0)]])),(.J 1),(.J 0),(.J 0),(.imm 1 ([])),(.J 1),(.imm 1 ([[(.J 1)]])),(.sc (.I (-1))),(.imm 1 ([]))],[(.J 1),(.imm 11 ([⟨5,1,0,0,0,0,0,0,0,0,0⟩].map encO)),(.J 4),(.J 1),(.J 0),(.imm 1 ([])),(.sc (.I (-1))),(.imm 1 ([])),(.sc (.I (-1))),(.imm 1 ([]))]]))] [] 6 6 (.agg [(.J 1),(.imm 10 [[(.J 1),(.imm 11 ([[(.J 3),(.J 1),(.J 0),(.J 0),(.J 0),(.J 0),(.J 0),(.J 0),(.J 0),(.J 0),(.J 0)]])),(.J 1),(.J 0),(.J 0),(.imm 1 ([])),(.J 1),(.imm 1 ([[(.J 1)]])),(.sc (.I (-1))),(.imm 1 ([]))],[(.J 1),(.imm 11 ([⟨5,1,0,0,0,0,0,0,0,0,0⟩].map encO)),(.J 4),(.J 1),(.J 0),(.imm 1 ([])),(.sc (.I (-1))),(.imm 1 ([])),(.sc (.I (-1))),(.imm 1 ([]))]]),(.imm 3 [[.sc (.I (-1)),.sc (.I (-1)),.sc (.I 0)]]),(.imm 3 [])]) []),.b (PX.lenIs 2 ([[(.J 1),(.imm 11 ([[(.J 3),(.J 1),(.J 0),(.J 0),(.J 0),(.J 0),(.J 0),(.J 0),(.J 0),(.J 0),(.J 0)]])),(.J 1),(.J 0),(.J 0),(.imm 1 ([])),(.J 1),(.imm 1 ([[(.J 1)]])),(.sc (.I (-1))),(.imm 1 ([]))],[(.J 1),(.imm 11 ([⟨5,1,0,0,0,0,0,0,0,0,0⟩].map encO)),(.J 4),(.J 1),(.J 0),(.imm 1 ([])),(.sc (.I (-1))),(.imm 1 ([])),(.sc (.I (-1))),(.imm 1 ([]))]])),.q (PX.Con Try.prog 36 [(.agg [(.J 1),(.imm 10 [[(.J 1),(.imm 11 ([[(.J 3),(.J 1),(.J 0),(.J 0),(.J 0),(.J 0),(.J 0),(.J 0),(.J 0),(.J 0),(.J 0)]])),(.J 1),(.J 0),(.J 0),(.imm 1 ([])),(.J 1),(.imm 1 ([[(.J 1)]])),(.sc (.I (-1))),(.imm 1 ([]))],[(.J 1),(.imm 11 ([⟨5,1,0,0,0,0,0,0,0,0,0⟩].map encO)),(.J 4),(.J 1),(.J 0),(.imm 1 ([])),(.sc (.I (-1))),(.imm 1 ([])),(.sc (.I (-1))),(.imm 1 ([]))]]),(.imm 3 [[.sc (.I (-1)),.sc (.I (-1)),.sc (.I 0)]]),(.imm 3 [])])] [] 6 6 (codeP kS9) [])] [] [.au,.au,.au,.cv [4] (.agg [(.J 1),(.imm 11 ([⟨5,1,0,0,0,0,0,0,0,0,0⟩].map encO)),(.J 4),(.J 1),(.J 0),(.imm 1 ([])),(.sc (.I (-1))),(.imm 1 ([])),(.sc (.I (-1))),(.imm 1 ([]))]) 5,.au,.cv [5] (.agg [(.J 1),(.imm 10 [[(.J 1),(.imm 11 ([[(.J 3),(.J 1),(.J 0),(.J 0),(.J 0),(.J 0),(.J 0),(.J 0),(.J 0),(.J 0),(.J 0)]])),(.J 1),(.J 0),(.J 0),(.imm 1 ([])),(.J 1),(.imm 1 ([[(.J 1)]])),(.sc (.I (-1))),(.imm 1 ([]))],[(.J 1),(.imm 11 ([⟨5,1,0,0,0,0,0,0,0,0,0⟩].map encO)),(.J 4),(.J 1),(.J 0),(.imm 1 ([])),(.sc (.I (-1))),(.imm 1 ([])),(.sc (.I (-1))),(.imm 1 ([]))]]),(.imm 3 [[.sc (.I (-1)),.sc (.I (-1)),.sc (.I 0)]]),(.imm 3 [])]) 6,.cl [] (codeP kS9) [] 6,.au,.au] [2] [6] hS mixed hE ⟨PX.con_any (con_ret9 1 1 [⟨5,1,0,0,0,0,0,0,0,0,0⟩] (by decide)),rfl,PX.con_any (con_mk9 1 [[(.J 1),(.imm 11 ([[(.J 3),(.J 1),(.J 0),(.J 0),(.J 0),(.J 0),(.J 0),(.J 0),(.J 0),(.J 0),(.J 0)]])),(.J 1),(.J 0),(.J 0),(.imm 1 ([])),(.J 1),(.imm 1 ([[(.J 1)]])),(.sc (.I (-1))),(.imm 1 ([]))],[(.J 1),(.imm 11 ([⟨5,1,0,0,0,0,0,0,0,0,0⟩].map encO)),(.J 4),(.J 1),(.J 0),(.imm 1 ([])),(.sc (.I (-1))),(.imm 1 ([])),(.sc (.I (-1))),(.imm 1 ([]))]] (by decide)),rfl,con_mgK,trivial⟩ fun a w hS=>?_
 refine PX.G [(.e 0 (.sc (.bool (((((kS9.blocks.length:Int)==1)&&((kB9.ops.length:Int)==2))&&true)&&(kB9.term.a==2)))))] [] 7 [.q ((.sc (.I (((kS9.blocks.map encB).length:Nat):Int)):PX.PV)=(.sc (.I (kS9.blocks.length:Int)))),.q (SX.pv [(4,((kS9.blocks.length:Int)==1)),(13,(((kS9.blocks.length:Int)==1)&&((kB9.ops.length:Int)==2))),(24,((((kS9.blocks.length:Int)==1)&&((kB9.ops.length:Int)==2))&&true))] [(4,true)]=true→PX.AllOb [.q (0=((0:Nat):Int)),.q ((kS9.blocks.map encB)[0]?=some (encB kB9))]),.q (SX.pv [(4,((kS9.blocks.length:Int)==1)),(13,(((kS9.blocks.length:Int)==1)&&((kB9.ops.length:Int)==2))),(24,((((kS9.blocks.length:Int)==1)&&((kB9.ops.length:Int)==2))&&true))] [(4,true)]=true→PX.AllOb [.q ((.sc (.I (((kB9.ops.map encO).length:Nat):Int)):PX.PV)=(.sc (.I (kB9.ops.length:Int))))]),.q (SX.pv [(4,((kS9.blocks.length:Int)==1)),(13,(((kS9.blocks.length:Int)==1)&&((kB9.ops.length:Int)==2))),(24,((((kS9.blocks.length:Int)==1)&&((kB9.ops.length:Int)==2))&&true))] [(13,true)]=true→PX.AllOb [.q (0=((0:Nat):Int)),.q ((kS9.blocks.map encB)[0]?=some (encB kB9))]),.q (SX.pv [(4,((kS9.blocks.length:Int)==1)),(13,(((kS9.blocks.length:Int)==1)&&((kB9.ops.length:Int)==2))),(24,((((kS9.blocks.length:Int)==1)&&((kB9.ops.length:Int)==2))&&true))] [(13,true)]=true→PX.AllOb [.q (1=((1:Nat):Int)),.q ((kB9.ops.map encO)[1]?=some (encO kMul2))]),.q (SX.pv [(4,((kS9.blocks.length:Int)==1)),(13,(((kS9.blocks.length:Int)==1)&&((kB9.ops.length:Int)==2))),(24,((((kS9.blocks.length:Int)==1)&&((kB9.ops.length:Int)==2))&&true))] [(24,true)]=true→PX.AllOb [.q (0=((0:Nat):Int)),.q ((kS9.blocks.map encB)[0]?=some (encB kB9))])] [(4,((kS9.blocks.length:Int)==1)),(13,(((kS9.blocks.length:Int)==1)&&((kB9.ops.length:Int)==2))),(24,((((kS9.blocks.length:Int)==1)&&((kB9.ops.length:Int)==2))&&true))] [.au,.au,.nm (.sc (.I (kS9.blocks.length:Int))),.au,.au,.au,.au,.ix 0 (encB kB9),.au,.au,.nm (.sc (.I (kB9.ops.length:Int))),.au,.pk,.au,.au,.au,.ix 0 (encB kB9),.au,.au,.ix 1 (encO kMul2),.au,.au,.au,.pk,.au,.au,.au,.ix 0 (encB kB9),.au,.au,.au,.au,.pk,.au] [0] [] hS hE ⟨PX.nm_len (by simp),fun hg=>⟨rfl,rfl,trivial⟩,fun hg=>⟨PX.nm_len (by simp),trivial⟩,fun hg=>⟨rfl,rfl,trivial⟩,fun hg=>⟨rfl,rfl,trivial⟩,fun hg=>⟨rfl,rfl,trivial⟩,trivial⟩ fun a w hS=>?_
 refine wp_ret ?_
 rw [show (.sc (.bool true))=((.sc (.bool (((((kS9.blocks.length:Int)==1)&&((kB9.ops.length:Int)==2))&&true)&&(kB9.term.a==2)))):PX.PV) from by kernel_rfl]
 exact PX.rt hS hE (.inl rfl)

theorem con_known9 {lo top:Nat}:PX.Con Try.prog 35 [] [] lo top (.sc (.bool true)) []:=PX.con_any known9_con
end Go.Proofs.Ytlkcidmmpeebeaa
